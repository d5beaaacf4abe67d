/- The rate of a line. Written by gen_y9.py. -/
import Derived.Test.YtibiddakakgakaaGreatQbY5Y8
set_option linter.unusedVariables false
set_option linter.unusedSimpArgs false
set_option maxRecDepth 4000
attribute [local go_sem ↓] Go.wp_at_zero Go.wp_at_succ
set_option maxHeartbeats 16000000
namespace Go.Proofs.YtibiddakakgakaaGreat
section
open Go Go.RowKit
theorem gC {w w2:World} {Q:Nat->Prop} {b o:Nat} {vs:List Value} (h:At w Q ⟨b,o,none⟩ vs) (hf:Fr Q w w2):w2.rangeAt b o vs:=(h.fr hf).range
theorem Jc (D M k:Nat) (b:XBk) (bl gl tl:List Value) (Ae Ar:Option Addr) (ce cr:Nat) (ent p code date:Int) (w:World) (hk:BkC w (λq=>q<w.heap.size/\q≠D/\q≠M) bl b gl Ae ce Ar cr tl) (hd:kD w D M k bl b ent p) (eU:cE b) (ci:okB b) (ep:dZ b ent) (iA:eN b p) (sQ:(cT b.g.calendar.year b.g.calendar.month b.g.calendar.periods date).2=0) (lS:am code) (yW:k<maxLen):
 Calls Tryz.prog 55 #[.pointer (some ⟨D,0,none⟩),code,date] w (λe w'=>e=.returned (.tuple #[.int .i64 (dM b ent code date p).1,.int .i64 (dM b ent code date p).2.1,.int .i64 (dM b ent code date p).2.2])/\∃k',k'<=k+1/\kD w' D M k' bl b ent p/\Fr (λq=>q<w.heap.size/\q≠M) w w'):=by
 have J8:=λ(h:(gz (cZ b ent) code (bA b.g p)).2≠0)=>Ej (b:=b) (ent:=ent) (date:=date) h
 have rS:=λ(h:(gz (cZ b ent) code (bA b.g p)).2=0)=>(show ∃a,aK b.g.chart (gz (cZ b ent) code (bA b.g p)).1=some a/\dM b ent code date p=((gz (cZ b ent) code (bA b.g p)).1,kP b (cZ b ent).currency a.basis date p)from(AA eU ep (code:=code) (date:=date) (p:=p) h).acc)
 have TP:=λ(w2:World) (hb:Below w.heap.size w w2)=>hd.below hb
 have IM:=H_ TP;have Vx:=H_ (λ(w2:World) (basis:Int) (hb:Below w.heap.size w w2) (dA:am basis)=>ZD D M k b bl gl tl Ae Ar ce cr ent p basis date w2 ((hk.fr ((Fr.ofBelow hb).mono (λq (h:q<w.heap.size/\q≠D/\q≠M)=>h.1))).mono (λq h=>⟨Nat.lt_of_lt_of_le h.1 hb.size,h.2⟩)) (hd.below hb) eU ci ep iA sQ dA yW);obtain⟨vj,tu,hMD⟩:=hd.lt;obtain⟨f,Fq,_⟩:=hd;obtain⟨Ac,cc,Iy,Ds,_,jm,h4,_,_,_,ee,vD⟩:=hk.g.view;obtain⟨q,hq,rfl,zT⟩:=me ep;have CK:cZ b (q:Int)=b.g.entities[q]:=zT;obtain⟨be,oe,es,dj,oQ,bL,aS⟩:=aj.get vD q hq;subst dj;have yG:=ci.1.2.2.2 _ (List.getElem_mem hq);obtain⟨cu,hcu⟩:∃c,(cZ b (q:Int)).currency=c:=⟨_,rfl⟩;rw[hcu]at rS;rw[CK]at J8 rS;obtain⟨x,hx⟩:=x_ (b.g.entities[q]);rw[hx]at bL yG J8 rS;have yM:=H_ (λ(w2:World) (hb:Below w.heap.size w w2)=>Zk x es code (bA b.g p) w2 (aN.mono (aN.fr bL ((Fr.ofBelow hb).mono (λq (h:q<w.heap.size/\q≠D/\q≠M)=>h.1))) (λq h=>Nat.lt_of_lt_of_le h.1 hb.size)) yG lS (nX eU.1 iA));have Kj:=H_ (λ(w2:World) (hb:Below w.heap.size w w2)=>gC aS ((Fr.ofBelow hb).mono (λq (h:q<w.heap.size/\q≠D/\q≠M)=>h.1)));have Db:=H_ (show(Tryz.prog.info? 74).map (·.size)=some es.length by
  obtain⟨_,_,_,_,e,_⟩:=bL.lit;rw[e];exact cD)
 have tW:=H_ (λ(w2:World) (hb:Below w.heap.size w w2) (m:Int) (hm:am m)=>mL b.g.chart Ac cc m w2 (az (ee.mono (λh=>ar.mono h (λq h=>h.1)) (λq h=>h.1)) hb) hm ci.1.1);have Ou:=H_ (λ(a:ah) (m:Int) (h:aK b.g.chart m=some a)=>(show pG a/\a.code=m from⟨ee.accB a (cJ h).1,(cJ h).2⟩));have zD:=hk.len;have K20:=H_ ((jl zD (q:Int) p (bA b.g p) (.map (some M)) (cZ b (q:Int)).currency (decide ((cZ b (q:Int)).currency≠b.g.currency)) (i:=20) (by omega)).trans ((hk.at_g (i:=20) (by omega)).trans jm));have K4:=H_ ((jl zD (q:Int) p (bA b.g p) (.map (some M)) (cZ b (q:Int)).currency (decide ((cZ b (q:Int)).currency≠b.g.currency)) (i:=4) (by omega)).trans ((hk.at_g (i:=4) (by omega)).trans h4));have KT:=H_ (mc zD (q:Int) p (bA b.g p) (.map (some M)) (cZ b (q:Int)).currency (decide ((cZ b (q:Int)).currency≠b.g.currency)));have Dw:=H_ (show w.heap[D]? =some (.cells (ew bl (q:Int) p (bA b.g p) (.map (some M)) (cZ b (q:Int)).currency (decide ((cZ b (q:Int)).currency≠b.g.currency))).toArray 103 (0,0))from Fq);have qi:=Dw.o;generalize (ew bl (q:Int) p (bA b.g p) (.map (some M)) (cZ b (q:Int)).currency (decide ((cZ b (q:Int)).currency≠b.g.currency))).toArray=DL at*;have K27:=H_ KT.o.1;have K29:=H_ KT.o.2.2.1;generalize m5:bA b.g p=la at*;have Nd:=H_ ((ab Dw.o 20).trans K20.o);have D27:=H_ ((ab Dw.o 27).trans K27.o);have D29:=H_ ((ab Dw.o 29).trans K29.o);obtain⟨m,hm⟩:=x_ (gz x code la);rw[hm]at yM J8 rS;obtain⟨L,hL⟩:=x_ (dM b (q:Int) code date p);rw[hL]at J8 |-;have F6:=H_ (show m.2=0->∃a,aK b.g.chart m.1=some a/\L=(m.1,kP b (cZ b (q:Int)).currency a.basis date p) by
  intro h;obtain⟨a,h1,h2⟩:=rS h;exact⟨a,h1,by rw[<-hL,hcu];exact h2⟩)
 have Ka:=H_ J8;obtain⟨m1,m2⟩:=m;obtain⟨l1,l2,l3⟩:=L;simp only at F6 Ka yM |-;obtain⟨ne,bT⟩:∃n,b.g.entities.length=n:=⟨_,rfl⟩;rw[bT]at Nd hq;have IR:(q:Int)< (ne:Int):=by omega
 obtain⟨na,Ix⟩:∃n,b.g.chart.length=n:=⟨_,rfl⟩;rw[Ix]at tW K4;have IL:=H_ vj;have YH:=H_ tu;have RV:=H_ hMD;clear J8 rS TP Fq qi ee vD bL aS oQ yG hx hm hL bT Ix zT CK zD vj tu hMD lS yW sQ iA ep ci eU hk m5 K20 K27 K29 KT;go_enter Tryz.func55,Tryz.ntmps55;go_upto_region 1 with fail;refine bp (Ks w [.val (.pointer (some ⟨D,0,none⟩)),.val (.pointer (some ⟨D,0,none⟩)),.val (.pointer (some ⟨D,0,none⟩)),.val (.pointer (some ⟨D,0,none⟩)),.val (.pointer (some ⟨D,20,none⟩)),.val (.slice (some ⟨be,oe,none⟩) ne Ds),.val (.pointer (some ⟨D,0,none⟩)),.val (.pointer (some ⟨D,0,none⟩)),.val (.pointer (some ⟨D,27,none⟩)),(q:Int),.val (.pointer (some ⟨be,oe+q*5,none⟩)),.val (.agg es.toArray),code,.val (.pointer (some ⟨D,0,none⟩)),.val (.pointer (some ⟨D,0,none⟩)),.val (.pointer (some ⟨D,29,none⟩)),la,.val (.tuple #[m1,m2]),.val (.tuple #[m1,m2]),m1,m2,m1,m2])
  (λw'=>Below w.heap.size w w') K_ K_ K_ (Below.refl _ _).drew ?_ ?_
 ·refine⟨b_ (q_ 0),b_ (p_ 0 12),b_ (p_ 1 13),b_ (p_ 2 14),b_ (p_ 3 15),e_ (p_ 4 16) λ_ h=>l_ h IL.o Nd.o,b_ (q_ 0),b_ (p_ 6 18),b_ (p_ 7 19),e_ (p_ 8 20) λ_ h=>l_ h IL.o D27.o,c_ (p_ 5 17) (p_ 9 21),?_,b_ (q_ 1),b_ (q_ 0),b_ (p_ 13 25),b_ (p_ 14 26),e_ (p_ 15 27) λ_ h=>l_ h IL.o D29.o,?_,b_ (p_ 17 29),b_ (p_ 18 11),b_ (p_ 18 11),b_ (p_ 19 30),b_ (p_ 20 31),trivial⟩
  ·refine O1_ (p_ 10 22) λA0 w2 K e0 hS hK=>?_;have aJ:w2.rangeAt be (oe+q*5) es:=Kj.o _ hS;have aI:=Db.o;refine wp_load_mid 74 (.tmp 22) rfl _ _ (v_ e0) _ _ aJ Tryz.underlying74 rfl aI ?_;exact kq hK hS rfl
  ·refine O3_ (p_ 11 23) (p_ 12 24) (p_ 16 28) λA0 w2 K e0 e1 e2 hS hK=>?_;go_simp
   go_at_call 93
   refine(yM.o _ hS).mono ?_;rintro e w3 ⟨rfl,h3⟩;exact hK.out _ _ (hS.trans (h3.mono hS.size)) (Ks.of rfl rfl) (Ks.keep h3)
 ·intro _ A0 w2 hI hall;have hS:=hI.world;have c9:=hI.ch hall [12,13,14,15,16,17,18,19,20,21,22,23,24,25,26,27,28,29,11,30,31,6,8];obtain⟨x0,x1,x2,x3,x4,x5,x6,x7,x8,x9,dN,ef,fh,gU,j4,jH,jZ,kv,lR,kh,rB,vz,vr,hA,hV⟩:=c9;obtain rfl:vz=.int .i64 m1:=hV 21 _ _ rfl _ rfl;obtain rfl:vr=.int .i64 m2:=hV 22 _ _ rfl _ rfl;clear hV hI hall;simp only[ba,List.foldl,List.setIfInBounds_toArray,List.set_cons_zero,List.set_cons_succ]at hA;rw[hA];clear hA;have HS:=H_ hS;clear hS IR;generalize w2=w4 at*;by_cases jA:m2=0
  case neg=>
   have hl:=Ka.o jA;have hmb:(m2 !=0)=true:=by simpa using jA
   obtain⟨rfl,rfl,rfl⟩:l1=0/\l2=0/\l3=15:=by simpa using hl
   clear hl jA;go_wp2_with fail;go_ret3;exact⟨rfl,k,by omega,IM.o _ HS.o,(Fr.ofBelow HS.o).mono (λq h=>h.1)⟩
  case pos=>
  subst jA;obtain⟨a,MQ,hl⟩:=F6.o rfl;have ni:=Ou.o a m1 MQ;have vt:=H_ ni.1.2.2.1;have ny:=H_ (tW.o w4 HS.o m1 (by rw[<-ni.2];exact ni.1.1));unfold cF at ny;rw[MQ]at ny;have HL:=H_ hl;clear hl ni MQ;obtain⟨a1,a2,a3,a4⟩:=a;simp only[gH,Option.getD_some,bn,Option.isSome_some]at ny vt HL;have HD4:=H_ ((HS.o.block _ IL.o).trans Dw.o);have c4:=(ab HD4.o 4).trans K4.o;have Cz:=H_ (λ(w6:World) (hb:Below w.heap.size w w6)=>Vx.o w6 a3 hb vt.o);clear Vx;generalize kP b (cZ b (q:Int)).currency a3 date p=R at*;obtain⟨r1,r2⟩:=R;obtain⟨rfl,rfl,rfl⟩:l1=m1/\l2=r1/\l3=r2:=by simpa using HL.o
  clear HL Ka F6 Ou;go_wp2_with fail;refine ny.o.mono ?_;rintro e w5 ⟨rfl,cP⟩;go_upto_region 5 with(show wpList _ _ _ (Oper.mk none (Op.store _ (Operand.tmp 9) _) _ _ _ _::_) _ _;refine aO rfl 78 (.tmp 9) (.tmp 43) rfl rfl w5 #[(),(),(),()] 78 #[a1,a2,a3,a4] rfl rfl rfl gy rfl (by simp[Value.oneCell']) ?_;intro w6 H6 dK my)
  have em:=H_ (HS.o.trans ((cP.trans (dK.mono cP.size)).mono HS.o.size));have c2:=ab H6 2;go_wp2_with fail;refine(Cz.o w6 em.o).mono ?_;rintro e w7 ⟨rfl,k',Fi,hd7,hf7⟩;have FI:=H_ (((Fr.ofBelow em.o).mono (λq (h:q<w.heap.size/\q≠M)=>h.1)).trans (hf7.mono (λq (h:q<w.heap.size/\q≠M)=>⟨Nat.lt_of_lt_of_le h.1 em.o.size,h.2⟩)));have Mo:=H_ Fi;have HD7:=H_ hd7;clear Fi hd7 hf7;go_wp2_with fail;go_ret3;exact⟨rfl,k',Mo.o,HD7.o,FI.o⟩
theorem pU {b:XBk} {ent code date p:Int} (h:(dM b ent code date p).2.2=0):(aK b.g.chart (dM b ent code date p).1).isSome=true:=by
 unfold dM at h |-;simp only at h |-;split at h
 ·exact absurd h (by decide)
 ·rename_i h1;rw[if_neg h1];split at h
  ·exact absurd h (by decide)
  ·rename_i a ha;rw[ha];rfl
theorem Jb (D M k:Nat) (b:XBk) (bl gl tl:List Value) (Ae Ar:Option Addr) (ce cr:Nat) (ent p:Int) (w:World) (hk:BkC w (λq=>q<w.heap.size/\q≠D/\q≠M) bl b gl Ae ce Ar cr tl) (C2:kD w D M k bl b ent p) (eU:cE b) (ci:okB b) (ep:dZ b ent) (iA:eN b p) (x:ak) (xs:List Value) (j:Nat) (hx:ax w (λq=>q<w.heap.size/\q≠D/\q≠M) xs x) (rQ:x.entity=ent) (hj:j<x.lines.length) (sQ:(cT b.g.calendar.year b.g.calendar.month b.g.calendar.periods x.date).2=0) (lX:am p) (yW:k<maxLen):
 Calls Tryz.prog 47 #[.pointer (some ⟨D,0,none⟩),.agg xs.toArray,(j:Int)] w (λe w'=>e=.returned (.tuple #[.agg (lq (jr b x j p).1).toArray,.int .i64 (jr b x j p).2])/\∃k',k'<=k+1/\kD w' D M k' bl b ent p/\Fr (λq=>q<w.heap.size/\q≠M) w w'):=by
 obtain⟨Al,cl,YJ,oY,lP⟩:=hx.lit;have le:=lP.cap;obtain⟨b0,o0,ys,hAl,el,Xj,aS⟩:=aj.get lP j hj;subst hAl;obtain⟨rfl,Sk⟩:=Xj.lit;have hln:x.lines.getD j {}=x.lines[j]:=by rw[List.getD_eq_getElem?_getD,List.getElem?_eq_getElem hj];rfl
 obtain⟨I,hI⟩:=x_ (jr b x j p);have vu:=hI;unfold jr at vu;simp only[hln]at vu;have lQ:=λ(w2:World) (hb:Below w.heap.size w w2)=>Jc D M k b bl gl tl Ae Ar ce cr ent p x.lines[j].account x.date w2 ((hk.fr ((Fr.ofBelow hb).mono (λq (h:q<w.heap.size/\q≠D/\q≠M)=>h.1))).mono (λq h=>⟨Nat.lt_of_lt_of_le h.1 hb.size,h.2⟩)) (C2.below hb) eU ci ep iA sQ Sk.1 yW
 have JQ:=λ(w2:World) (hf:Fr (λq=>q<w.heap.size/\q≠D/\q≠M) w w2) (h:(dM b ent x.lines[j].account x.date p).2.2=0)=>OR b.g gl (dM b ent x.lines[j].account x.date p).1 x.date p w2 ((aL.fr hk.g hf).mono (λq h=>Nat.lt_of_lt_of_le h.1 hf.size)) ci.1 eU.1 iA lX (pU h)
 rw[rQ]at vu;obtain⟨L,hL⟩:=x_ (dM b ent x.lines[j].account x.date p);rw[hL]at vu JQ;simp only[hL]at lQ;rw[hI];obtain⟨l1,l2,l3⟩:=L;simp only at vu JQ lQ;obtain⟨sh,hsh⟩:∃s,lK b.g l1 x.date p=s:=⟨_,rfl⟩;rw[hsh]at JQ vu;have hy:=aS.range;obtain⟨y1,y2,y3,On⟩:∃y1 y2 y3,x.lines[j]=⟨y1,y2,y3⟩:=⟨_,_,_,rfl⟩;rw[On]at vu lQ hy;obtain⟨c1,c2,jY⟩:∃c1 c2,cN y2 l2=(c1,c2):=⟨_,_,rfl⟩;have Fl:=H_ (λ(w2:World)=>show Calls Tryz.prog 81 #[y2,l2] w2 (ap w2 (.tuple #[c1,c2])) by
  have h:=He y2 l2 w2
  rwa[jY]at h)
 simp only[jY]at vu;have HY:=H_ (λ(w2:World) (hb:Below w.heap.size w w2)=>show w2.rangeAt b0 (o0+j*3) [y1,y2,y3]from by
  have h:=gC aS ((Fr.ofBelow hb).mono (λq (h:q<w.heap.size/\q≠D/\q≠M)=>h.1))
  rwa[On]at h)
 have zD:=hk.len;obtain⟨vj,tu,hMD⟩:=C2.lt;have IL:=H_ vj;have YH:=H_ tu;have RV:=H_ hMD;have XF:=H_ (λ(w2:World) (h:w2.heap[D]? =some (.cells (ew bl ent p (bA b.g p) (.map (some M)) (cZ b ent).currency (decide ((cZ b ent).currency≠b.g.currency))).toArray 103 (0,0)))=>nQ h (λi hi=>by rw[jl zD _ _ _ _ _ _ (by omega)];exact hk.at_g hi) hk.g.len);have K28:=H_ (mc zD ent p (bA b.g p) (.map (some M)) (cZ b ent).currency (decide ((cZ b ent).currency≠b.g.currency))).2.1;have R2:=H_ (λ(w2:World) (k2:Nat) (h:kD w2 D M k2 bl b ent p)=>show w2.heap[D]? =some (.cells (ew bl ent p (bA b.g p) (.map (some M)) (cZ b ent).currency (decide ((cZ b ent).currency≠b.g.currency))).toArray 103 (0,0)) by obtain⟨f,h1,_⟩:=h;exact h1);have CW:=H_ (show(Tryz.prog.info? 29).map (·.size)=some gl.length by rw[ay];exact congrArg some hk.g.len.symm);generalize (ew bl ent p (bA b.g p) (.map (some M)) (cZ b ent).currency (decide ((cZ b ent).currency≠b.g.currency))).toArray=DL at*;obtain⟨xi,xe,xd,xk,xo,xt,ls⟩:=x;simp only at YJ oY le vu lQ JQ rQ hj |-;subst rQ;obtain⟨nl,bj⟩:∃n,ls.length=n:=⟨_,rfl⟩;rw[bj]at YJ hj le;subst YJ;have Om:=H_ lQ;have Oq:=H_ JQ;have HI:=H_ vu;have HJ:=H_ hj;have IR:(j:Int)< (nl:Int):=by omega
 unfold maxLen at le;clear hk C2 sQ oY lP Sk Xj aS hln hI JQ hsh On ep hL lQ vu hx bj hj eU ci iA lX yW zD el jY hy vj tu hMD;go_enter Tryz.func47,Tryz.ntmps47;go_upto_region 1 with fail;obtain⟨W1,cS,H1,bC,dr,ewx⟩:=B_ w (.cells #[xi,xe,xd,xk,xo,xt,.slice (some ⟨b0,o0,none⟩) nl cl] 51);rw[cS];clear ewx;have yN:=H_ (show W1.heap.size=w.heap.size+1 by rw[<-cS];simp);clear cS;obtain⟨W2,fR,H2,dz,jK,ewx⟩:=B_ W1 (.cells #[(),(),(),(),(),(),()] 42);rw[fR];clear ewx;clear fR;have RJ:=H_ (bC.trans (dz.mono bC.size));have Bn:=H_ (show w.heap.size<=w.heap.size+1 from Nat.le_succ _);have HSI:=H_ (show w.heap.size+1<W2.heap.size by rw[<-yN.o];exact jK);have Z9:=H_ dr;have Nj:=(dz.block _ dr).trans H1;have YN:=H_ Nj;have qN:=H_ (show W2.heap[w.heap.size+1]? =some (.cells #[(),(),(),(),(),(),()] 42 (0,0)) by rw[<-yN.o];exact H2);have HYR:=H_ (HY.o W2 RJ.o);have x6:=ab Nj 6;clear Nj H1 H2 bC dz dr jK;go_upto_region 2 with(first|(refine w_ 18 60 17 b0 (o0+j*3) [y1,y2,y3] HYR.o cK Tryz.underlying60 ?_)|(show wpList _ _ _ (Oper.mk none (Op.store _ (Operand.tmp 8) _) _ _ _ _::_) _ _;refine aO rfl 60 (.tmp 8) (.tmp 18) rfl rfl W2 #[(),(),()] 60 #[y1,y2,y3] rfl rfl rfl cK rfl (by simp[Value.oneCell']) ?_;intro W3 H3 eA rE))
 clear x6 IR;have Fz:=t_ RJ eA;have zA:=H_ ((eA.block _ (by have:=HSI.o;omega)).trans YN.o);have l7:=H_ ((eA.block _ HSI.o).trans qN.o);have Bc:=H_ H3;have LTL:=H_ (ag H3);have y0:=ab H3 0;have x2:=ab zA.o 2;clear H3 eA rE;go_wp2_with fail;refine(Om.o W3 Fz.o).mono ?_;rintro e w5 ⟨rfl,k5,Sc,hd5,Du⟩;have Q7:=H_ Sc;have HD5:=H_ hd5;have rW:=H_ ((Du.block w.heap.size ⟨ag zA.o,by have:=YH.o;omega⟩).trans zA.o);have vv:=H_ ((Du.block (w.heap.size+1) ⟨ag l7.o,by have:=YH.o;have:=Bn.o;omega⟩).trans l7.o);have R8:=H_ ((Du.block W2.heap.size ⟨LTL.o,by have:=YH.o;have:=RJ.o.size;omega⟩).trans Bc.o);have HF5:=H_ (show Fr (λq=>q<w.heap.size/\q≠M) w w5 from((Fr.ofBelow Fz.o).mono (λq (h:q<w.heap.size/\q≠M)=>h.1)).trans (Du.mono (λq (h:q<w.heap.size/\q≠M)=>⟨Nat.lt_of_lt_of_le h.1 Fz.o.size,h.2⟩)));clear Sc hd5 Du y0 x2;by_cases za:l3=0
 case neg=>
  have hf:=H_ (show I=(({}:bW),l3) by rw[<-HI.o,if_pos za]);have ad3:(l3 !=0)=true:=by simpa using za
  clear za;go_wp2_with (show wpList _ _ _ (Oper.mk none (Op.store _ (Operand.tmp 6) _) _ _ _ _::_) _ _;go_loud (refine wpList_store_row rfl 42 (.tmp 6) (.tmp 31) rfl (w.heap.size+1) #[(),(),(),(),(),(),()] rfl rfl 42 #[(),(),(),(),(),(),()] vv.o aP rfl (by simp[Value.oneCell']) ?_));refine bodyPost_ret (v:=.tuple #[.agg #[(),(),(),(),(),(),()],l3]) (aA rfl _ _ (w.heap.size+1) 42 #[(),(),(),(),(),(),()] (0,0) _ rfl (aB vv.o _) Tryz.underlying42 rfl aP _ rfl) rfl ?_;exact⟨hf.o.symm▸rfl,k5,Q7.o,HD5.o.fr (cC _ _ _) (by have:=IL.o;have:=Bn.o;omega) (by have:=YH.o;have:=Bn.o;omega),HF5.o.trans ((cC _ _ _).mono (λq (h:q<w.heap.size/\q≠M)=>by have:=Bn.o;have:=h.1;omega))⟩
 case pos=>
 subst za;have HPL:=H_ (λ(w2:World) (hf:Fr (λq=>q<w.heap.size/\q≠D/\q≠M) w w2)=>Oq.o w2 hf rfl);clear Oq;have y1c:=ab R8.o 1;go_wp2_with fail;refine(Fl.o w5).mono ?_;rintro e w6 ⟨rfl,dd⟩;have T6:=H_ (HD5.o.below dd);have pz:=k_ dd vv;have yK:=k_ dd rW;have Mq:=k_ dd R8;have TJ:=H_ (HF5.o.trans ((Fr.ofBelow dd).mono (λq (h:q<w.heap.size/\q≠M)=>Nat.lt_of_lt_of_le h.1 HF5.o.size)));clear dd y1c;by_cases gn:c2=0
 case neg=>
  have hf:=H_ (show I=(({}:bW),2) by rw[<-HI.o,if_neg (by simp),if_pos gn]);have adk:(c2 !=0)=true:=by simpa using gn
  clear gn;go_wp2_with (show wpList _ _ _ (Oper.mk none (Op.store _ (Operand.tmp 6) _) _ _ _ _::_) _ _;go_loud (refine wpList_store_row rfl 42 (.tmp 6) (.tmp 42) rfl (w.heap.size+1) #[(),(),(),(),(),(),()] rfl rfl 42 #[(),(),(),(),(),(),()] pz.o aP rfl (by simp[Value.oneCell']) ?_));refine bodyPost_ret (v:=.tuple #[.agg #[(),(),(),(),(),(),()],(2:Int)]) (aA rfl _ _ (w.heap.size+1) 42 #[(),(),(),(),(),(),()] (0,0) _ rfl (aB pz.o _) Tryz.underlying42 rfl aP _ rfl) rfl ?_;exact⟨hf.o.symm▸rfl,k5,Q7.o,T6.o.fr (cC _ _ _) (by have:=IL.o;have:=Bn.o;omega) (by have:=YH.o;have:=Bn.o;omega),TJ.o.trans ((cC _ _ _).mono (λq (h:q<w.heap.size/\q≠M)=>by have:=Bn.o;have:=h.1;omega))⟩
 case pos=>
 subst gn;have JR:=H_ (R2.o w6 k5 T6.o);have aax:=H_ (ag JR.o);have aag:=H_ (ag yK.o);have D28:=H_ ((ab JR.o 28).trans K28.o);have XD6:=H_ (ab yK.o 2);have HPL:=H_ (λ(w2:World) (hb:Below w6.heap.size w6 w2)=>HPL.o w2 ((TJ.o.mono (λq (h:q<w.heap.size/\q≠D/\q≠M)=>⟨h.1,h.2.2⟩)).trans ((Fr.ofBelow hb).mono (λq (h:q<w.heap.size/\q≠D/\q≠M)=>Nat.lt_of_lt_of_le h.1 TJ.o.size))));go_upto_region 8 with fail;refine bp (Ks w6 [.val (.pointer (some ⟨D,0,none⟩)),.val (.pointer (some ⟨D,0,none⟩)),.val (.pointer (some ⟨D,0,none⟩)),.val (.pointer (some ⟨D,0,none⟩)),.val (.agg gl.toArray),l1,.val (.pointer (some ⟨w.heap.size,2,none⟩)),xd,.val (.pointer (some ⟨D,0,none⟩)),.val (.pointer (some ⟨D,0,none⟩)),.val (.pointer (some ⟨D,28,none⟩)),p,.val (.tuple #[sh,()]),.val (.tuple #[sh,()]),sh,(),sh,()])
  (λw'=>Below w6.heap.size w6 w') K_ K_ K_ (Below.refl _ _).drew ?_ ?_
 ·refine⟨b_ (q_ 0),b_ (p_ 0 44),b_ (p_ 1 45),b_ (p_ 2 46),?_,b_ (q_ 9),b_ (q_ 4),e_ (p_ 6 50) λ_ h=>l_ h aag.o XD6.o,b_ (q_ 0),b_ (p_ 8 52),b_ (p_ 9 53),e_ (p_ 10 54) λ_ h=>l_ h aax.o D28.o,?_,b_ (p_ 12 56),b_ (p_ 13 43),b_ (p_ 13 43),b_ (p_ 14 57),b_ (p_ 15 58),trivial⟩
  ·refine O1_ (p_ 3 47) λA0 w2 K e0 hS hK=>?_;have aJ:w2.rangeAt D 0 gl:=XF.o _ ((hS.block _ aax.o).trans JR.o);have aI:=CW.o;refine wp_load_mid 29 (.tmp 47) rfl _ _ (v_ e0) _ _ aJ Tryz.underlying29 rfl aI ?_;exact kq hK hS rfl
  ·refine O4_ (p_ 4 48) (p_ 5 49) (p_ 7 51) (p_ 11 55) λA0 w2 K e0 e1 e2 e3 hS hK=>?_;go_simp
   go_at_call 82
   refine(HPL.o _ hS).mono ?_;rintro e w3 ⟨rfl,h3⟩;exact hK.out _ _ (hS.trans (h3.mono hS.size)) (Ks.of rfl rfl) (Ks.keep h3)
 ·intro _ A0 w2 hI hall;have hS:=hI.world;have c9:=hI.ch hall [44,45,46,47,48,49,50,51,52,53,54,55,56,43,57,58,13,11];obtain⟨x0,x1,x2,x3,x4,x5,x6,x7,x8,x9,dN,ef,fh,gU,j4,jH,jZ,kv,hA,hV⟩:=c9;obtain rfl:jZ=.int .i64 sh:=hV 16 _ _ rfl _ rfl;obtain rfl:kv=.int .i64 0:=hV 17 _ _ rfl _ rfl;clear hV hI hall;simp only[ba,List.foldl,List.setIfInBounds_toArray,List.set_cons_zero,List.set_cons_succ]at hA;rw[hA];clear hA;have fC:=hS;have hf:=H_ (show I=(⟨⟨xi,(j:Int)⟩,xe,sh,y3,xd,c1⟩,0) by rw[<-HI.o,if_neg (by simp),if_neg (by simp)]);have HD7:=H_ (T6.o.below fC);have nw:=k_ fC pz;have hE7:=(fC.block _ (ag yK.o)).trans yK.o;have hL7:=(fC.block _ (ag Mq.o)).trans Mq.o;have Kt:=H_ (TJ.o.trans ((Fr.ofBelow fC).mono (λq (h:q<w.heap.size/\q≠M)=>Nat.lt_of_lt_of_le h.1 TJ.o.size)));have e00:=ab hE7 0;have e01:=ab hE7 1;have e02:=ab hE7 2;have l02:=ab hL7 2;clear fC hE7 hL7 hS;go_wp2_with (show wpList _ _ _ (Oper.mk none (Op.store _ (Operand.tmp 6) _) _ _ _ _::_) _ _;go_loud (refine wpList_store_row rfl 42 (.tmp 6) (.tmp 74) rfl (w.heap.size+1) #[xi,(j:Int),xe,sh,y3,xd,c1] rfl rfl 42 #[(),(),(),(),(),(),()] nw.o aP rfl (by simp[Value.oneCell']) ?_));refine bodyPost_ret (v:=.tuple #[.agg #[xi,(j:Int),xe,sh,y3,xd,c1],()]) (aA rfl _ _ (w.heap.size+1) 42 #[xi,(j:Int),xe,sh,y3,xd,c1] (0,0) _ rfl (aB nw.o _) Tryz.underlying42 rfl aP _ rfl) rfl ?_;exact⟨hf.o.symm▸rfl,k5,Q7.o,HD7.o.fr (cC _ _ _) (by have:=IL.o;have:=Bn.o;omega) (by have:=YH.o;have:=Bn.o;omega),Kt.o.trans ((cC _ _ _).mono (λq (h:q<w.heap.size/\q≠M)=>by have:=Bn.o;have:=h.1;omega))⟩
theorem Cc {b:XBk} {ent p:Int} {Cs:Bool} (h:jU b ent p Cs=0):cE b/\(Cs=true\/dZ b ent)/\eN b p:=by
 unfold jU at h;by_cases h1:cE b
 ·rw[if_pos h1]at h;by_cases h2:(Cs=true\/dZ b ent)/\eN b p
  ·exact⟨h1,h2⟩
  ·rw[if_neg h2]at h;exact absurd h (by decide)
 ·rw[if_neg h1]at h;exact absurd h (by decide)
theorem TB (b:XBk) (bl gl tl:List Value) (Ae Ar:Option Addr) (ce cr:Nat) (ent code date p:Int) (w:World) (hk:BkC w (·<w.heap.size) bl b gl Ae ce Ar cr tl) (ci:okB b) (lS:am code) (Mv:am date):
 Calls Tryz.prog 24 #[.agg bl.toArray,ent,code,date,p] w (ap w (.tuple #[.int .i64 (rr b ent code date p).1,.int .i64 (rr b ent code date p).2])):=by
 obtain⟨R,hR⟩:=x_ (rr b ent code date p);rw[hR];unfold rr at hR;rw[<-xL]at hR;have HR:=H_ hR;have HK:=H_ hk;have kY:=H_ (show bl.toArray.size=27 by have:=hk.len;simpa using this);have FF:=H_ (λ(w2:World) (hb:Below w.heap.size w w2)=>Hl b bl gl tl Ae Ar ce cr ent p false w2 (hk.keep hb) ci);have sW:=H_ ci;have Sh:=H_ lS;have R2:=H_ Mv;obtain⟨h0,h1,h2,h3,_⟩:=hk.g.cellsA;have xn:=λ(i:Nat) (hi:i<21)=>(show bl.toArray[i]? =gl.toArray[i]? by rw[List.getElem?_toArray,List.getElem?_toArray];exact hk.at_g hi)
 have jG:=H_ ((xn 1 (by omega)).trans h1);have jv:=H_ ((xn 2 (by omega)).trans h2);have kB:=H_ ((xn 3 (by omega)).trans h3);clear hk ci lS Mv hR h0 h1 h2 h3 xn;obtain⟨OE,rO⟩:∃c,jU b ent p false=c:=⟨_,rfl⟩;have C6:=H_ rO;unfold nN at FF;rw[rO]at HR FF;clear rO;obtain⟨r1,r2⟩:=R;simp only;go_enter Tryz.func24,Tryz.ntmps24;go_upto_region 1 with fail;obtain⟨W1,cS,H1,bC,dr,ewx⟩:=B_ w (.cells bl.toArray 36);rw[cS];clear ewx;clear cS;have fB:=H_ H1;clear H1;go_wp2_with (refine W_ 19 36 5 (w.heap.size) fB.o (by rw[bF];exact congrArg some kY.o.symm) Tryz.underlying36 ?_);refine(FF.o W1 bC).mono ?_;rintro e w2 (⟨bT,rfl,aH⟩|⟨h0,D,rfl,F7,aH,pC⟩)
 ·have MZ:(OE !=0)=true:=by simpa using bT
  have hf:=H_ (show r1=0/\r2=OE by have h:=HR.o;rw[if_neg bT]at h;exact⟨(Prod.mk.inj h).1.symm,(Prod.mk.inj h).2.symm⟩);have aF:=bC.trans (aH.mono bC.size);clear bT;go_wp2_with fail;go_ret2;exact⟨by rw[hf.o.1,hf.o.2];first|done|rfl,aF⟩
 ·subst h0;obtain⟨eU,iu,iA⟩:=Cc C6.o;have ep:dZ b ent:=iu.resolve_left (by decide);unfold rY at pC;rw[if_neg (by decide)]at pC;obtain⟨M,FU,MR⟩:=pC;have jI:=H_ eU;have hr:=HR.o;rw[if_pos rfl]at hr;obtain⟨cp,Si⟩:∃c,(cT b.g.calendar.year b.g.calendar.month b.g.calendar.periods date).2=c:=⟨_,rfl⟩;have rD:=H_ (λ(w2:World)=>show Calls Tryz.prog 54 #[.agg #[b.g.calendar.year,b.g.calendar.month,b.g.calendar.periods],date] w2 (ap w2 (.tuple #[(iC b.g date),cp])) by
   have h:=xP b.g.calendar.year b.g.calendar.month b.g.calendar.periods date w2 (fy eU.1) R2.o
   rwa[Si]at h)
  rw[Si]at hr;have HR2:=H_ hr;have Rn:=H_ Si;have aF:=bC.trans (aH.mono bC.size);have ae2:=H_ MR.lt;have HDK:=H_ MR;have yQ:=H_ (show w.heap.size<=D/\w.heap.size<=M from⟨Nat.le_trans bC.size F7,Nat.le_trans bC.size FU⟩);have dn:=k_ aH fB;have lT:=H_ (dg dn.o jG.o jv.o kB.o);have HPK:=H_ iA;have agD:=H_ ep;clear hr Si MR F7 FU eU iu iA ep HR;go_wp2_with (refine w_ 31 23 30 w.heap.size (1) _ lT.o bV Tryz.underlying23 ?_);refine(rD.o _).mono ?_;rintro e w3 ⟨rfl,aZ⟩;have aR:=aF.trans (aZ.mono aF.size);by_cases sM:cp=0
  case neg=>
   have lS:(cp !=0)=true:=by simpa using sM
   have hf:=H_ (show r1=0/\r2=2 by have h:=HR2.o;rw[if_neg sM]at h;exact⟨(Prod.mk.inj h).1.symm,(Prod.mk.inj h).2.symm⟩);clear sM;go_wp2_with fail;go_ret2;exact⟨by rw[hf.o.1,hf.o.2];first|done|rfl,aR⟩
  case pos=>
  subst sM;have hf:=H_ (show r1=(dM b ent code date p).2.1/\r2=(dM b ent code date p).2.2 by have h:=HR2.o;rw[if_pos rfl]at h;exact⟨(Prod.mk.inj h).1.symm,(Prod.mk.inj h).2.symm⟩);have Z3:=H_ (Jc D M 0 b bl gl tl Ae Ar ce cr ent p code date w3 ((HK.o.fr (Fr.ofBelow aR)).mono (λq (h:q<w.heap.size)=>⟨Nat.lt_of_lt_of_le h aR.size,by have:=yQ.o.1;omega,by have:=yQ.o.2;omega⟩)) (HDK.o.below aZ) jI.o sW.o agD.o HPK.o Rn.o Sh.o (by unfold maxLen;omega));go_wp2_with fail;refine Z3.o.mono ?_;rintro e w4 ⟨rfl,k',_,_,T8⟩;have bD:=aR.trans ((T8.mono (λq (h:q<w.heap.size)=>⟨Nat.lt_of_lt_of_le h aR.size,by have:=yQ.o.2;omega⟩)).below);clear T8;go_wp2_with fail;go_ret2;exact⟨by rw[hf.o.1,hf.o.2];first|done|rfl,bD⟩
theorem SW (p1 p2 p3 p4 p5:Int) (p6:ByteArray) (Al:Option Addr) (n7 Kb:Nat) (g:Nat) (code:Int) (w:World) (hc:w.cell? ⟨g,0,none⟩=some (.int .i64 code)) (hg:g<w.heap.size):Calls Tryz.prog 45 #[.agg #[p1,p2,p3,p4,p5,p6,.slice Al n7 Kb],.pointer (some ⟨g,0,none⟩)] w (ap w (.bool (p1==code))):=by
 obtain⟨q,hq⟩:=x_ ((p1==code));rw[hq];have HC:=H_ hc;have HG:=H_ hg;clear hc hg;go_enter Tryz.func45,Tryz.ntmps45;go_upto_region 1 with fail;obtain⟨W1,cS,H1,bC,dr,ewx⟩:=B_ w (.cells #[p1,p2,p3,p4,p5,p6,.slice Al n7 Kb] 51);rw[cS];clear ewx;clear cS;have c0:=ab H1 0;have cI:=(bC.cell (p:=⟨g,0,none⟩) HG.o).trans HC.o;clear H1;go_wp2_with fail;go_ret;exact⟨rfl,bC⟩
theorem SV (l:List ak) (A:Option Addr) (c g:Nat) (code:Int) (w:World) (hl:aj ax 7 w (·<w.heap.size) [.slice A l.length c] l) (hgc:w.cell? ⟨g,0,none⟩=some (.int .i64 code)) (hg:g<w.heap.size):Calls Tryz.prog 44 #[.slice A l.length c,.func (.func 45) #[] #[.pointer (some ⟨g,0,none⟩)]] w (ap w (.int .i64 (iB (λa=>a.id==code) l))):=by
 obtain⟨r,hr⟩:=x_ (iB (λa=>a.id==code) l);rw[hr];have HR:=H_ hr;have gr:=hl.cap;unfold maxLen at gr;obtain⟨n,bj⟩:=x_ (l.length);have HL:=H_ hl;have HN:=H_ bj;have FP:=H_ hgc;have HG:=H_ hg;rw[bj]at gr |-;clear hl bj hr hgc hg;go_enter Tryz.func44,Tryz.ntmps44;go_wp2_with fail
 go_loopw [8] (λi wr=>∃k:Nat,k<=n/\i=.int .i64 (k:Int)/\Below w.heap.size w wr/\∀j (hj:j<l.length),j<k->(l[j].id==code)=false) (λi _=>n- (intOf i).toNat)
 case atStart=>exact⟨0,by omega,rfl,Below.refl _ _,λj hj h=>by omega⟩
 case round=>
  obtain⟨k,hk,rfl,hb,hall⟩:=hrel;have HA:=H_ hall;clear hall;have bP:=hb.size;by_cases aU:k<n
  case pos=>
   have bq:(k:Int)< (n:Int):=by omega
   have gW:0<n:=by omega
   have bI:k<l.length:=by rw[HN.o];exact aU
   obtain⟨b,o,es,dj,ed,bL,aS⟩:=aj.get HL.o k bI;subst dj;obtain⟨Al,Kb,bE,_⟩:=ax.lit bL;rw[bE]at aS;clear bE;obtain⟨q,hq⟩:=x_ ((l[k].id==code));have HQ:=H_ hq;obtain⟨x,hx⟩:=x_ (l[k]);rw[hx]at aS hq;obtain⟨p1,p2,p3,p4,p5,p6,p7⟩:=x;obtain⟨n7,hn7⟩:∃n,p7.length=n:=⟨_,rfl⟩;simp only[hn7]at aS;clear hn7;have eZ:=H_ (show wr.rangeAt b (o+k*7) [p1,p2,p3,p4,p5,p6,.slice Al n7 Kb]from(aS.fr (Fr.ofBelow hb)).range);have cI:=(SW p1 p2 p3 p4 p5 p6 Al n7 Kb g code wr ((hb.cell (p:=⟨g,0,none⟩) HG.o).trans FP.o) (Nat.lt_of_lt_of_le HG.o hb.size));simp only at hq;rw[hq]at cI;have FK:=H_ cI;clear bL aS hx ed hq cI;go_wp2_with (refine w_ 15 51 14 b (o+k*7) [p1,p2,p3,p4,p5,p6,.slice Al n7 Kb] eZ.o aY Tryz.underlying51 ?_);refine FK.o.mono ?_;rintro e w2 ⟨rfl,aH⟩;have dA:=hb.trans (aH.mono hb.size);cases q with
   |true=>
    have hf:=H_ (show r=(k:Int) by rw[<-HR.o];exact nW bI HQ.o HA.o);go_wp2_with fail;go_ret;exact⟨hf.o.symm▸rfl,dA⟩
   |false=>
    go_wp2_with fail;go_roundw
    case rel=>exact⟨k+1,by omega,by go_num,dA,λj hj m7=>by
     rcases Nat.lt_or_ge j k with h|h
     ·exact HA.o j hj h
     ·obtain rfl:j=k:=by omega
      exact HQ.o⟩
    case measure=>first|exact aQ aU|(simp only[intOf];omega)
  case neg=>
   have bq:¬(k:Int)< (n:Int):=by omega
   have hf:=H_ (show r= -1 by rw[<-HR.o];exact mf (λj hj=>HA.o j hj (by have:=HN.o;omega)));go_wp2_with fail;go_ret;exact⟨hf.o.symm▸rfl,hb⟩
theorem Zx (l:List ak) (code:Int):(iB (λa=>a.id==code) l= -1/\eH l code=none)\/∃k,∃hk:k<l.length,iB (λa=>a.id==code) l=(k:Int)/\eH l code=some k:=by
 unfold iB eH;cases h:l.findIdx? (λa=>a.id==code)with
 |none=>exact .inl ⟨rfl,rfl⟩
 |some k=>
  rw[List.findIdx?_eq_some_iff_getElem]at h;exact .inr ⟨k,h.1,rfl,rfl⟩
end
section
open Go Go.RowKit Go.ChangeShapes Go.WideShapes Go.Deep
structure BF where
 entity:Int:=0
 account:Int:=0
 date:Int:=0
 p:Int:=0
def tX (w:World) (Q:Nat->Prop) (cs:List Value) (x:BF):Prop:=∃c0 c1 c2 c3:List Value,cs=c0++c1++c2++c3/\av c0 x.entity/\av c1 x.account/\av c2 x.date/\av c3 x.p
theorem tX.lit {w:World} {Q:Nat->Prop} {cs:List Value} {x:BF} (h:tX w Q cs x):cs=[.int .i64 x.entity,.int .i64 x.account,.int .i64 x.date,.int .i64 x.p]/\am x.entity/\am x.account/\am x.date/\am x.p:=by
 obtain⟨c0,c1,c2,c3,rfl,⟨rfl,h0⟩,⟨rfl,h1⟩,⟨rfl,h2⟩,⟨rfl,h3⟩⟩:=h;exact⟨rfl,h0,h1,h2,h3⟩
section
variable {H:Type} {enc:TypeId × Value->H} {W:World}
def Io (x:aC):Prop:=x.currency.size<=140737488355327
theorem ZJ:fx enc W 70 (bN W (·<W.heap.size)) Io:=λbZ cs x h dS hz=>by
 obtain⟨xs,n,_,rfl,mH,eV,hf⟩:=DataW.trod_struct Tryz.underlying70 h;have vi:cs.length=4:=mH.trans K_;have hw:∀(j:Nat) (t:TypeId) (y:DataW H × List MemPlace),([9,3,3,3]:List TypeId)[j]? =some t->xs[j]? =some y->∀n∈y.1.weights Tryz.prog t,n<=reachBytes:=λj t y ht hy n hn=>hz n (by
  simp only[DataW.weights,Tryz.underlying70];exact DataW.weights_mem_each (j:=j) (t:=t) (d:=y.1) ht (by rw[List.getElem?_map,hy];rfl) n hn)
 have h0:=hf 0 _ rfl;obtain⟨y0,kz⟩:∃y,xs[0]? =some y:=⟨_,List.getElem?_eq_getElem (by rw[eV];decide)⟩;obtain⟨a0,q0,z0⟩:=AD _ _ _ (h0.trans kz) (λb cm hb=>dS b cm (List.mem_flatMap.2 ⟨y0,List.mem_of_getElem? kz,hb⟩)) (hw 0 _ y0 rfl kz);have h1:=hf 1 _ rfl;obtain⟨y1,gK⟩:∃y,xs[1]? =some y:=⟨_,List.getElem?_eq_getElem (by rw[eV];decide)⟩;obtain⟨a1,q1,z1⟩:=cL _ _ _ (h1.trans gK) (λb cm hb=>dS b cm (List.mem_flatMap.2 ⟨y1,List.mem_of_getElem? gK,hb⟩)) (hw 1 _ y1 rfl gK);have h2:=hf 2 _ rfl;obtain⟨y2,gS⟩:∃y,xs[2]? =some y:=⟨_,List.getElem?_eq_getElem (by rw[eV];decide)⟩;obtain⟨a2,q2,z2⟩:=cL _ _ _ (h2.trans gS) (λb cm hb=>dS b cm (List.mem_flatMap.2 ⟨y2,List.mem_of_getElem? gS,hb⟩)) (hw 2 _ y2 rfl gS);have h3:=hf 3 _ rfl;obtain⟨y3,pg⟩:∃y,xs[3]? =some y:=⟨_,List.getElem?_eq_getElem (by rw[eV];decide)⟩;obtain⟨a3,q3,z3⟩:=cL _ _ _ (h3.trans pg) (λb cm hb=>dS b cm (List.mem_flatMap.2 ⟨y3,List.mem_of_getElem? pg,hb⟩)) (hw 3 _ y3 rfl pg);refine⟨⟨a0,a1,a2,a3⟩,⟨_,_,_,_,?_,q0,q1,q2,q3⟩,z0⟩;have e0:(cs.drop 0).take (Tryz.prog.cellsOf 9)=(cs.drop 0).take 1:=by rw[show Tryz.prog.cellsOf 9=1 from by kernel_rfl]
 have e1:(cs.drop 1).take (Tryz.prog.cellsOf 3)=(cs.drop 1).take 1:=by rw[show Tryz.prog.cellsOf 3=1 from by kernel_rfl]
 have e2:(cs.drop 2).take (Tryz.prog.cellsOf 3)=(cs.drop 2).take 1:=by rw[show Tryz.prog.cellsOf 3=1 from by kernel_rfl]
 have e3:(cs.drop 3).take (Tryz.prog.cellsOf 3)=(cs.drop 3).take 1:=by rw[show Tryz.prog.cellsOf 3=1 from by kernel_rfl]
 show cs=(cs.drop 0).take (Tryz.prog.cellsOf 9)++(cs.drop 1).take (Tryz.prog.cellsOf 3)++(cs.drop 2).take (Tryz.prog.cellsOf 3)++(cs.drop 3).take (Tryz.prog.cellsOf 3);rw[e0,e1,e2,e3];have z:cs=cs.drop 0:=rfl;have t0:=aq cs 0 1;have t1:=aq cs 1 1;have t2:=aq cs 2 1;have t3:=aq cs 3 1;have tn:cs.drop 4=[]:=List.drop_eq_nil_of_le (by omega);simp only[Nat.reduceAdd]at t0 t1 t2 t3;have r3:=t3.trans (by rw[tn,List.append_nil]);have r2:=t2.trans (congrArg (_++ ·) r3);have r1:=t1.trans (congrArg (_++ ·) r2);have r0:=t0.trans (congrArg (_++ ·) r1);refine z.trans (r0.trans ?_);simp only[List.append_assoc]
theorem Te:fx enc W 31 (aj bN 4 W (·<W.heap.size)) (yF Io):=sy Tryz.underlying31 K_ (by decide) ZJ
def Fc (x:BF):Prop:=True
theorem Po:fx enc W 48 (tX W (·<W.heap.size)) Fc:=λbZ cs x h dS hz=>by
 obtain⟨xs,n,_,rfl,mH,eV,hf⟩:=DataW.trod_struct Tryz.underlying48 h;have vi:cs.length=4:=mH.trans K_;have hw:∀(j:Nat) (t:TypeId) (y:DataW H × List MemPlace),([3,3,3,3]:List TypeId)[j]? =some t->xs[j]? =some y->∀n∈y.1.weights Tryz.prog t,n<=reachBytes:=λj t y ht hy n hn=>hz n (by
  simp only[DataW.weights,Tryz.underlying48];exact DataW.weights_mem_each (j:=j) (t:=t) (d:=y.1) ht (by rw[List.getElem?_map,hy];rfl) n hn)
 have h0:=hf 0 _ rfl;obtain⟨y0,kz⟩:∃y,xs[0]? =some y:=⟨_,List.getElem?_eq_getElem (by rw[eV];decide)⟩;obtain⟨a0,q0,z0⟩:=cL _ _ _ (h0.trans kz) (λb cm hb=>dS b cm (List.mem_flatMap.2 ⟨y0,List.mem_of_getElem? kz,hb⟩)) (hw 0 _ y0 rfl kz);have h1:=hf 1 _ rfl;obtain⟨y1,gK⟩:∃y,xs[1]? =some y:=⟨_,List.getElem?_eq_getElem (by rw[eV];decide)⟩;obtain⟨a1,q1,z1⟩:=cL _ _ _ (h1.trans gK) (λb cm hb=>dS b cm (List.mem_flatMap.2 ⟨y1,List.mem_of_getElem? gK,hb⟩)) (hw 1 _ y1 rfl gK);have h2:=hf 2 _ rfl;obtain⟨y2,gS⟩:∃y,xs[2]? =some y:=⟨_,List.getElem?_eq_getElem (by rw[eV];decide)⟩;obtain⟨a2,q2,z2⟩:=cL _ _ _ (h2.trans gS) (λb cm hb=>dS b cm (List.mem_flatMap.2 ⟨y2,List.mem_of_getElem? gS,hb⟩)) (hw 2 _ y2 rfl gS);have h3:=hf 3 _ rfl;obtain⟨y3,pg⟩:∃y,xs[3]? =some y:=⟨_,List.getElem?_eq_getElem (by rw[eV];decide)⟩;obtain⟨a3,q3,z3⟩:=cL _ _ _ (h3.trans pg) (λb cm hb=>dS b cm (List.mem_flatMap.2 ⟨y3,List.mem_of_getElem? pg,hb⟩)) (hw 3 _ y3 rfl pg);refine⟨⟨a0,a1,a2,a3⟩,⟨_,_,_,_,?_,q0,q1,q2,q3⟩,trivial⟩;have e0:(cs.drop 0).take (Tryz.prog.cellsOf 3)=(cs.drop 0).take 1:=by rw[show Tryz.prog.cellsOf 3=1 from by kernel_rfl]
 have e1:(cs.drop 1).take (Tryz.prog.cellsOf 3)=(cs.drop 1).take 1:=by rw[show Tryz.prog.cellsOf 3=1 from by kernel_rfl]
 have e2:(cs.drop 2).take (Tryz.prog.cellsOf 3)=(cs.drop 2).take 1:=by rw[show Tryz.prog.cellsOf 3=1 from by kernel_rfl]
 have e3:(cs.drop 3).take (Tryz.prog.cellsOf 3)=(cs.drop 3).take 1:=by rw[show Tryz.prog.cellsOf 3=1 from by kernel_rfl]
 show cs=(cs.drop 0).take (Tryz.prog.cellsOf 3)++(cs.drop 1).take (Tryz.prog.cellsOf 3)++(cs.drop 2).take (Tryz.prog.cellsOf 3)++(cs.drop 3).take (Tryz.prog.cellsOf 3);rw[e0,e1,e2,e3];have z:cs=cs.drop 0:=rfl;have t0:=aq cs 0 1;have t1:=aq cs 1 1;have t2:=aq cs 2 1;have t3:=aq cs 3 1;have tn:cs.drop 4=[]:=List.drop_eq_nil_of_le (by omega);simp only[Nat.reduceAdd]at t0 t1 t2 t3;have r3:=t3.trans (by rw[tn,List.append_nil]);have r2:=t2.trans (congrArg (_++ ·) r3);have r1:=t1.trans (congrArg (_++ ·) r2);have r0:=t0.trans (congrArg (_++ ·) r1);refine z.trans (r0.trans ?_);simp only[List.append_assoc]
theorem xK {T E:TypeId} (ht:Tryz.prog.underlying T=some (.slice E)):fx enc W T (λcs (_:Unit)=>∃v,cs=[v]/\v.oneCell'=true) Qx:=λbZ cs x h dS hz=>by
 rcases open_slice ht h with⟨rfl,rfl⟩|⟨a,len,cap,m,n,Df,Pl,rfl,_,hl,hm,Iz,rfl,hi⟩
 ·exact⟨(),⟨_,rfl,rfl⟩,trivial⟩
 ·exact⟨(),⟨_,rfl,rfl⟩,trivial⟩
def Bz (w:World) (cs:List Value) (b:XBk):Prop:=∃gl Ae ce Ar cr tl,BkC w (·<w.heap.size) cs b gl Ae ce Ar cr tl
def Fb (b:XBk):Prop:=szG b.g/\(∀x∈b.es,Co x)/\∀r∈b.rs,Io r
theorem Cb:fx enc W 36 (Bz W) Fb:=λbZ cs x h dS hz=>by
 obtain⟨xs,n,_,rfl,mH,eV,hf⟩:=DataW.trod_struct Tryz.underlying36 h;have vi:cs.length=27:=mH.trans K_;have hw:∀(j:Nat) (t:TypeId) (y:DataW H × List MemPlace),([29,30,31,32,33,34,9]:List TypeId)[j]? =some t->xs[j]? =some y->∀n∈y.1.weights Tryz.prog t,n<=reachBytes:=λj t y ht hy n hn=>hz n (by
  simp only[DataW.weights,Tryz.underlying36];exact DataW.weights_mem_each (j:=j) (t:=t) (d:=y.1) ht (by rw[List.getElem?_map,hy];rfl) n hn)
 have h0:=hf 0 _ rfl;obtain⟨y0,kz⟩:∃y,xs[0]? =some y:=⟨_,List.getElem?_eq_getElem (by rw[eV];decide)⟩;obtain⟨a0,q0,z0⟩:=Tb _ _ _ (h0.trans kz) (λb cm hb=>dS b cm (List.mem_flatMap.2 ⟨y0,List.mem_of_getElem? kz,hb⟩)) (hw 0 _ y0 rfl kz);have h1:=hf 1 _ rfl;obtain⟨y1,gK⟩:∃y,xs[1]? =some y:=⟨_,List.getElem?_eq_getElem (by rw[eV];decide)⟩;obtain⟨a1,q1,z1⟩:=Pn _ _ _ (h1.trans gK) (λb cm hb=>dS b cm (List.mem_flatMap.2 ⟨y1,List.mem_of_getElem? gK,hb⟩)) (hw 1 _ y1 rfl gK);have h2:=hf 2 _ rfl;obtain⟨y2,gS⟩:∃y,xs[2]? =some y:=⟨_,List.getElem?_eq_getElem (by rw[eV];decide)⟩;obtain⟨a2,q2,z2⟩:=Te _ _ _ (h2.trans gS) (λb cm hb=>dS b cm (List.mem_flatMap.2 ⟨y2,List.mem_of_getElem? gS,hb⟩)) (hw 2 _ y2 rfl gS);have h3:=hf 3 _ rfl;obtain⟨y3,pg⟩:∃y,xs[3]? =some y:=⟨_,List.getElem?_eq_getElem (by rw[eV];decide)⟩;obtain⟨a3,q3,z3⟩:=(xK Tryz.underlying32) _ _ _ (h3.trans pg) (λb cm hb=>dS b cm (List.mem_flatMap.2 ⟨y3,List.mem_of_getElem? pg,hb⟩)) (hw 3 _ y3 rfl pg);have h4:=hf 4 _ rfl;obtain⟨y4,zS⟩:∃y,xs[4]? =some y:=⟨_,List.getElem?_eq_getElem (by rw[eV];decide)⟩;obtain⟨a4,q4,z4⟩:=(xK Tryz.underlying33) _ _ _ (h4.trans zS) (λb cm hb=>dS b cm (List.mem_flatMap.2 ⟨y4,List.mem_of_getElem? zS,hb⟩)) (hw 4 _ y4 rfl zS);have h5:=hf 5 _ rfl;obtain⟨y5,Ni⟩:∃y,xs[5]? =some y:=⟨_,List.getElem?_eq_getElem (by rw[eV];decide)⟩;obtain⟨a5,q5,z5⟩:=(xK Tryz.underlying34) _ _ _ (h5.trans Ni) (λb cm hb=>dS b cm (List.mem_flatMap.2 ⟨y5,List.mem_of_getElem? Ni,hb⟩)) (hw 5 _ y5 rfl Ni);have h6:=hf 6 _ rfl;obtain⟨y6,Of⟩:∃y,xs[6]? =some y:=⟨_,List.getElem?_eq_getElem (by rw[eV];decide)⟩;obtain⟨a6,q6,z6⟩:=AD _ _ _ (h6.trans Of) (λb cm hb=>dS b cm (List.mem_flatMap.2 ⟨y6,List.mem_of_getElem? Of,hb⟩)) (hw 6 _ y6 rfl Of);have e0:(cs.drop 0).take (Tryz.prog.cellsOf 29)=(cs.drop 0).take 21:=by rw[show Tryz.prog.cellsOf 29=21 from by kernel_rfl]
 have e1:(cs.drop 21).take (Tryz.prog.cellsOf 30)=(cs.drop 21).take 1:=by rw[show Tryz.prog.cellsOf 30=1 from by kernel_rfl]
 have e2:(cs.drop 22).take (Tryz.prog.cellsOf 31)=(cs.drop 22).take 1:=by rw[show Tryz.prog.cellsOf 31=1 from by kernel_rfl]
 have e3:(cs.drop 23).take (Tryz.prog.cellsOf 32)=(cs.drop 23).take 1:=by rw[show Tryz.prog.cellsOf 32=1 from by kernel_rfl]
 have e4:(cs.drop 24).take (Tryz.prog.cellsOf 33)=(cs.drop 24).take 1:=by rw[show Tryz.prog.cellsOf 33=1 from by kernel_rfl]
 have e5:(cs.drop 25).take (Tryz.prog.cellsOf 34)=(cs.drop 25).take 1:=by rw[show Tryz.prog.cellsOf 34=1 from by kernel_rfl]
 have e6:(cs.drop 26).take (Tryz.prog.cellsOf 9)=(cs.drop 26).take 1:=by rw[show Tryz.prog.cellsOf 9=1 from by kernel_rfl]
 have r0:=e0;have r1:=e1;have r2:=e2;have r3:=e3;have r4:=e4;have r5:=e5;have r6:=e6;have q0':aL W (·<W.heap.size) ((cs.drop 0).take 21) a0:=by rw[<-e0];exact q0
 have q1':aj ax 7 W (·<W.heap.size) ((cs.drop 21).take 1) a1:=by rw[<-e1];exact q1
 have q2':aj bN 4 W (·<W.heap.size) ((cs.drop 22).take 1) a2:=by rw[<-e2];exact q2
 have q3':∃v,(cs.drop 23).take 1=[v]/\v.oneCell'=true:=by rw[<-e3];exact q3
 have q4':∃v,(cs.drop 24).take 1=[v]/\v.oneCell'=true:=by rw[<-e4];exact q4
 have q5':∃v,(cs.drop 25).take 1=[v]/\v.oneCell'=true:=by rw[<-e5];exact q5
 have q6':(cs.drop 26).take 1=[.string a6]:=by rw[<-e6];exact q6
 clear e0 e1 e2 e3 e4 e5 e6 r0 r1 r2 r3 r4 r5 r6 q0 q1 q2 q3 q4 q5 q6 hw hf h0 h1 h2 h3 h4 h5 h6;have t0:=aq cs 0 21;have t1:=aq cs 21 1;have t2:=aq cs 22 1;have t3:=aq cs 23 1;have t4:=aq cs 24 1;have t5:=aq cs 25 1;have t6:=aq cs 26 1;have tn:cs.drop 27=[]:=List.drop_eq_nil_of_le (by omega);simp only[Nat.reduceAdd,List.drop_zero]at t0 t1 t2 t3 t4 t5 t6;obtain⟨Ae,ce,k1,k2⟩:=q1'.form;obtain⟨Ar,cr,k3,k4⟩:=q2'.form;obtain⟨v3,k5,o3⟩:=q3';obtain⟨v4,k6,o4⟩:=q4';obtain⟨v5,k7,o5⟩:=q5';refine⟨⟨a0,a1,a2⟩,⟨(cs.drop 0).take 21,Ae,ce,Ar,cr,[v3,v4,v5,.string a6],?_,rfl,?_,q0',?_,?_⟩,⟨z0,z1,z2⟩⟩
 ·rw[List.drop_zero];refine t0.trans (congrArg _ ?_);rw[t1,k1,t2,k3,t3,k5,t4,k6,t5,k7,t6,q6',tn];rfl
 ·intro v hv;simp only[List.mem_cons,List.not_mem_nil,or_false]at hv;rcases hv with rfl|rfl|rfl|rfl
  ·exact o3
  ·exact o4
  ·exact o5
  ·rfl
 ·rw[<-k1];exact q1'
 ·rw[<-k3];exact q2'
end
end
end Go.Proofs.YtibiddakakgakaaGreat
