/- The law TranslateSorted. Written by gen_z6.py. -/
import Derived.Test.YtibiddakakgakaaGreatQbW3
import Derived.Test.YtibiddakakgakaaGreatQbR8
import Derived.Test.YtibiddakakgakaaGreatQbZ2P0
set_option linter.unusedVariables false
set_option linter.unusedSimpArgs false
set_option maxRecDepth 4000
attribute [local go_sem ↓] Go.wp_at_zero Go.wp_at_succ
set_option maxHeartbeats 16000000
namespace Go.Proofs.YtibiddakakgakaaGreat
open Go Go.RowKit
theorem agB {x y:bW} (h:ltI x y):Ab x y= -1:=by
 obtain⟨⟨p1,p2⟩,p3,p4,p5,p6,p7⟩:=x;obtain⟨⟨q1,q2⟩,q3,q4,q5,q6,q7⟩:=y;unfold ltI at h;simp only at h;show orL [eG p3 q3,eG p6 q6,eG p1 q1,eG p2 q2]= -1;rcases h with h|⟨h3,h|⟨h6,h|⟨h1,h⟩⟩⟩
 ·simp[orL,eG,h]
 ·simp[orL,eG,h3,h]
 ·simp[orL,eG,h3,h6,h]
 ·simp[orL,eG,h3,h6,h1,h]
theorem j1 (b:XBk) (bl gl tl:List Value) (Ae Ar:Option Addr) (ce cr:Nat) (pe pa pd pp x1 x2 x3 x4 x5 x6 x7:Int) (w:World) (hk:BkC w (·<w.heap.size) bl b gl Ae ce Ar cr tl) (bP:Fb b) (lX:am pp):Calls Tryz.prog 11 #[.agg bl.toArray,.agg #[pe,pa,pd,pp],.agg #[x1,x2,x3,x4,x5,x6,x7]] w (ap w (.bool true)):=by
 have CZ:=H_ (λ(w2:World) (hb:Below w.heap.size w w2)=>BQ b bl gl tl Ae Ar ce cr w2 (hk.keep hb) bP.1 bP.2.1);have kY:=H_ (show bl.toArray.size=27 by have:=hk.len;simpa using this);have HK:=H_ hk;have N2:=H_ bP;have zU:=H_ (λ(w2:World) (hb:Below w.heap.size w w2) (hf:pI b)=>Qn b bl gl tl Ae Ar ce cr pe pp w2 (hk.keep hb) (j9 hf bP) lX);have py:=H_ (show(pQ b pe pp).2≠0->(pQ b pe pp).1=[]from mm);have Xx:=H_ (λ(h:(pQ b pe pp).2=0)=>p8 h);obtain⟨I1,I2,hv⟩:∃I1 I2,pQ b pe pp=(I1,I2):=⟨_,_,rfl⟩;unfold rX at zU;simp only[hv]at zU py Xx;obtain⟨fw,Od⟩:∃q:Prop,pI b=q:=⟨_,rfl⟩;rw[Od]at CZ;have Og:=H_ Od;clear hk bP Od lX hv;go_enter Tryz.func11,Tryz.ntmps11;go_upto_region 1 with fail;obtain⟨W1,cS,H1,bC,dr,ewx⟩:=B_ w (.cells bl.toArray 36);rw[cS];clear ewx;have yN:=H_ (show W1.heap.size=w.heap.size+1 by rw[<-cS];simp);clear cS;obtain⟨W2,fR,H2,dz,jK,ewx⟩:=B_ W1 (.cells #[pe,pa,pd,pp] 48);rw[fR];clear ewx;have Xo:=H_ (show W2.heap.size=W1.heap.size+1 by rw[<-fR];simp);clear fR;obtain⟨W3,hW3,H3,eA,rE,ewx⟩:=B_ W2 (.cells #[x1,x2,x3,x4,x5,x6,x7] 42);rw[hW3];clear ewx;have EW3:=H_ (show W3.heap.size=W2.heap.size+1 by rw[<-hW3];simp);clear hW3;have NV:=H_ bC;have Vr:=t_ NV dz;have NO:=t_ Vr eA;have iY:=H_ (show W3.heap[w.heap.size]? =some (.cells bl.toArray 36 (0,0))from((eA.block _ (ag (((dz.block _ (ag (H1))).trans (H1))))).trans (((dz.block _ (ag (H1))).trans (H1)))));have Ob:=H_ (show W3.heap[w.heap.size+1]? =some (.cells #[pe,pa,pd,pp] 48 (0,0)) by have h:=((eA.block _ (ag (H2))).trans (H2));rw[show W1.heap.size=w.heap.size+1 by rw[yN.o]]at h;exact h);have L0:=H_ (show W3.heap[w.heap.size+2]? =some (.cells #[x1,x2,x3,x4,x5,x6,x7] 42 (0,0)) by have h:=H3;rw[show W2.heap.size=w.heap.size+2 by rw[Xo.o,yN.o]]at h;exact h);clear H1 bC dr H2 dz jK H3 eA rE;go_wp2_with fail;refine(sa W3).mono ?_;rintro e w3 ⟨rfl,aZ⟩;have Dq:=t_ NO aZ;have sL:=k_ aZ iY;have Dn:=k_ aZ Ob;have agC:=k_ aZ L0;clear aZ iY Ob L0;have NO:=Dq;have iY:=sL;have Ob:=Dn;have L0:=agC;clear Dq sL Dn agC;go_wp2_with (refine W_ 12 36 3 (w.heap.size) iY.o (by rw[bF];exact congrArg some kY.o.symm) Tryz.underlying36 ?_);refine(CZ.o w3 NO.o).mono ?_;rintro e w4 ⟨bf,rfl,hf,bU⟩;have zn:=t_ NO bU;have i9:=k_ bU iY;have qy:=k_ bU Ob;have agL:=k_ bU L0;clear bU;cases bf with
 |false=>
  clear hf;go_wp2_with fail;go_ret;exact⟨rfl,zn.o⟩
 |true=>
 have Ov:=H_ (show pI b from Og.o▸hf rfl);have ML:=H_ (j9 Ov.o N2.o);clear hf;have p0:=ab qy.o 0;have p3:=ab qy.o 3;go_wp2_with (refine W_ 16 36 3 (w.heap.size) i9.o (by rw[bF];exact congrArg some kY.o.symm) Tryz.underlying36 ?_);refine(zU.o w4 zn.o Ov.o).mono ?_;rintro e w5 ⟨A5,c5,rfl,hl5,cP⟩;have R8:=H_ hl5;have QT:=t_ zn cP;have lW:=k_ cP i9;have rH:=k_ cP qy;have agK:=k_ cP agL;clear cP;clear hl5 p0 p3;obtain⟨q,hq⟩:=x_ (I1.length);have HQ:=H_ hq;have hqc:=R8.o.cap;rw[hq]at hqc |-;unfold maxLen at hqc;clear hq;go_wp2_with fail
 go_loopw [9] (λi wr=>∃k:Nat,k<=q/\i=.int .i64 (k:Int)/\Below w5.heap.size w5 wr) (λi _=>q- (intOf i).toNat)
 case atStart=>exact⟨0,by omega,rfl,Below.refl _ _⟩
 case round=>
  obtain⟨k,hk,rfl,hb⟩:=hrel;have zI:=H_ hb;have HWR:=t_ QT hb;have EI:=k_ hb agK;clear hb;by_cases aU:k<q
  case neg=>
   have bq:¬(k:Int)< (q:Int):=by omega
   by_cases h0:I2=0
   case pos=>
    subst h0;go_wp2_with fail;go_ret;exact⟨rfl,HWR.o⟩
   case neg=>
    have h0b:(I2==0)=false:=by simpa using h0
    have hI:=py.o h0;have zG:q=0:=by rw[<-HQ.o,hI];rfl
    subst zG;clear h0;go_wp2_with fail;go_ret;exact⟨rfl,HWR.o⟩
  case pos=>
  have bq:(k:Int)< (q:Int):=by omega
  have bI:k<I1.length:=by rw[HQ.o];exact aU
  have hz:I2=0:=by
   by_cases h:I2=0
   ·exact h
   ·have hI:=py.o h;rw[hI]at bI;simp at bI
  have Kf:=Xx.o hz;obtain⟨bi,oi,cs,hA,m4,ft,aS⟩:=aj.get R8.o k bI;rw[GI ft]at aS;subst hA;have lY:=(aS.fr (Fr.ofBelow zI.o)).mono (Q':=(·<wr.heap.size)) (λq h=>Nat.lt_of_lt_of_le h zI.o.size);obtain⟨y,hy⟩:=x_ (I1[k]);rw[hy]at lY;by_cases Fm:k=0
  case pos=>
   have HGT:=H_ (show decide (0<k)=false from decide_eq_false (by omega));obtain⟨⟨y1,y2⟩,y3,y4,y5,y6,y7⟩:=y;have o7:=H_ (show At wr (·<wr.heap.size) ⟨bi,oi+k*7,none⟩ [.int .i64 y1,.int .i64 y2,.int .i64 y3,.int .i64 y4,.int .i64 y5,.int .i64 y6,.int .i64 y7]from lY);clear ft aS lY hy Kf hz m4 Fm;have jG:=H_ (λ(w2:World)=>jb ⟨⟨y1,y2⟩,y3,y4,y5,y6,y7⟩ ⟨⟨x1,x2⟩,x3,x4,x5,x6,x7⟩ w2);have jv:=H_ (λ(w2:World)=>jc ⟨⟨y1,y2⟩,y3,y4,y5,y6,y7⟩ ⟨⟨x1,x2⟩,x3,x4,x5,x6,x7⟩ w2);have kB:=H_ (λ(w2:World)=>jb ⟨⟨x1,x2⟩,x3,x4,x5,x6,x7⟩ ⟨⟨y1,y2⟩,y3,y4,y5,y6,y7⟩ w2);have zF:=H_ (λ(w2:World)=>jc ⟨⟨x1,x2⟩,x3,x4,x5,x6,x7⟩ ⟨⟨y1,y2⟩,y3,y4,y5,y6,y7⟩ w2);generalize Ab ⟨⟨y1,y2⟩,y3,y4,y5,y6,y7⟩ ⟨⟨x1,x2⟩,x3,x4,x5,x6,x7⟩=c1 at jG jv;generalize Ab ⟨⟨x1,x2⟩,x3,x4,x5,x6,x7⟩ ⟨⟨y1,y2⟩,y3,y4,y5,y6,y7⟩=c2 at kB zF;go_upto_region 9 with fail;refine bk (Ks wr ((k:Int)::false::false::undef::undef::undef::undef::undef::undef::undef::undef::undef::undef::undef::false::false::.val (.slice (some ⟨bi,oi,none⟩) q c5)::(k:Int)::.val (.pointer (some ⟨bi,oi+k*7,none⟩))::.val (.agg #[y1,y2,y3,y4,y5,y6,y7])::.val (.agg #[x1,x2,x3,x4,x5,x6,x7])::c1::.val (.slice (some ⟨bi,oi,none⟩) q c5)::(k:Int)::.val (.pointer (some ⟨bi,oi+k*7,none⟩))::.val (.agg #[y1,y2,y3,y4,y5,y6,y7])::.val (.agg #[x1,x2,x3,x4,x5,x6,x7])::c1::false::false::false::.val (.agg #[x1,x2,x3,x4,x5,x6,x7])::.val (.slice (some ⟨bi,oi,none⟩) q c5)::(k:Int)::.val (.pointer (some ⟨bi,oi+k*7,none⟩))::.val (.agg #[y1,y2,y3,y4,y5,y6,y7])::c2::.val (.agg #[x1,x2,x3,x4,x5,x6,x7])::.val (.slice (some ⟨bi,oi,none⟩) q c5)::(k:Int)::.val (.pointer (some ⟨bi,oi+k*7,none⟩))::.val (.agg #[y1,y2,y3,y4,y5,y6,y7])::c2::false::false::[]))
    (λw'=>Below wr.heap.size wr w') K_ K_ K_ (Below.refl _ _).drew ?_ ?_
   ·refine⟨b_ (q_ 9),?_,b_ (p_ 1 31),n_,n_,n_,n_,n_,n_,n_,n_,n_,n_,n_,c_ (p_ 2 32) (p_ 13 43),b_ (p_ 14 44),f_ (q_ 7),f_ (q_ 9),g_ (p_ 16 46) (p_ 17 47),?_,?_,?_,f_ (q_ 7),f_ (q_ 9),g_ (p_ 22 52) (p_ 23 53),?_,?_,?_,g_ (p_ 21 51) (p_ 27 57),c_ (p_ 15 45) (p_ 28 58),b_ (p_ 29 59),?_,f_ (q_ 7),f_ (q_ 9),g_ (p_ 32 62) (p_ 33 63),?_,?_,?_,f_ (q_ 7),f_ (q_ 9),g_ (p_ 38 68) (p_ 39 69),?_,?_,g_ (p_ 36 66) (p_ 42 72),c_ (p_ 30 60) (p_ 43 73),trivial⟩
    ·intro _ A0 w2 hI hd hnd K hK;have e0:=hI.p hd 0 30;have hS:=hI.world;have Gt:=HGT.o;exact hI.z hK
    ·refine P1_ (p_ 18 48) λA0 w2 K e0 hS hK=>?_;have aJ:w2.rangeAt bi (oi+k*7) [y1,y2,y3,y4,y5,y6,y7]:=(o7.o.fr (Fr.ofBelow hS)).range;have aI:=aP;refine wp_load_mid 42 (.tmp 48) rfl _ _ (v_ e0) _ _ aJ Tryz.underlying42 rfl aI ?_;exact kq hK hS rfl
    ·refine P1_ (q_ 5) λA0 w2 K e0 hS hK=>?_;have aJ:w2.rangeAt (w.heap.size+1+1) 0 [x1,x2,x3,x4,x5,x6,x7]:=cy ((hS.block _ (ag EI.o)).trans EI.o) 0 _ (λj v hj=>by rw[Nat.zero_add];exact hj);have aI:=aP;refine wp_load_mid 42 (.tmp 5) rfl _ _ (v_ e0) _ _ aJ Tryz.underlying42 rfl aI ?_;exact kq hK hS rfl
    ·refine P2_ (p_ 19 49) (p_ 20 50) λA0 w2 K e0 e1 hS hK=>?_;go_simp
     go_at_call 35
     refine(jG.o w2).mono ?_;rintro e w3 ⟨rfl,h3⟩;exact hK.out _ _ (hS.trans (h3.mono hS.size)) (Ks.of rfl rfl) (Ks.keep h3)
    ·refine P1_ (p_ 24 54) λA0 w2 K e0 hS hK=>?_;have aJ:w2.rangeAt bi (oi+k*7) [y1,y2,y3,y4,y5,y6,y7]:=(o7.o.fr (Fr.ofBelow hS)).range;have aI:=aP;refine wp_load_mid 42 (.tmp 54) rfl _ _ (v_ e0) _ _ aJ Tryz.underlying42 rfl aI ?_;exact kq hK hS rfl
    ·refine P1_ (q_ 5) λA0 w2 K e0 hS hK=>?_;have aJ:w2.rangeAt (w.heap.size+1+1) 0 [x1,x2,x3,x4,x5,x6,x7]:=cy ((hS.block _ (ag EI.o)).trans EI.o) 0 _ (λj v hj=>by rw[Nat.zero_add];exact hj);have aI:=aP;refine wp_load_mid 42 (.tmp 5) rfl _ _ (v_ e0) _ _ aJ Tryz.underlying42 rfl aI ?_;exact kq hK hS rfl
    ·refine P2_ (p_ 25 55) (p_ 26 56) λA0 w2 K e0 e1 hS hK=>?_;go_simp
     go_at_call 36
     refine(jv.o w2).mono ?_;rintro e w3 ⟨rfl,h3⟩;exact hK.out _ _ (hS.trans (h3.mono hS.size)) (Ks.of rfl rfl) (Ks.keep h3)
    ·refine P1_ (q_ 5) λA0 w2 K e0 hS hK=>?_;have aJ:w2.rangeAt (w.heap.size+1+1) 0 [x1,x2,x3,x4,x5,x6,x7]:=cy ((hS.block _ (ag EI.o)).trans EI.o) 0 _ (λj v hj=>by rw[Nat.zero_add];exact hj);have aI:=aP;refine wp_load_mid 42 (.tmp 5) rfl _ _ (v_ e0) _ _ aJ Tryz.underlying42 rfl aI ?_;exact kq hK hS rfl
    ·refine P1_ (p_ 34 64) λA0 w2 K e0 hS hK=>?_;have aJ:w2.rangeAt bi (oi+k*7) [y1,y2,y3,y4,y5,y6,y7]:=(o7.o.fr (Fr.ofBelow hS)).range;have aI:=aP;refine wp_load_mid 42 (.tmp 64) rfl _ _ (v_ e0) _ _ aJ Tryz.underlying42 rfl aI ?_;exact kq hK hS rfl
    ·refine P2_ (p_ 31 61) (p_ 35 65) λA0 w2 K e0 e1 hS hK=>?_;go_simp
     go_at_call 35
     refine(kB.o w2).mono ?_;rintro e w3 ⟨rfl,h3⟩;exact hK.out _ _ (hS.trans (h3.mono hS.size)) (Ks.of rfl rfl) (Ks.keep h3)
    ·refine P1_ (q_ 5) λA0 w2 K e0 hS hK=>?_;have aJ:w2.rangeAt (w.heap.size+1+1) 0 [x1,x2,x3,x4,x5,x6,x7]:=cy ((hS.block _ (ag EI.o)).trans EI.o) 0 _ (λj v hj=>by rw[Nat.zero_add];exact hj);have aI:=aP;refine wp_load_mid 42 (.tmp 5) rfl _ _ (v_ e0) _ _ aJ Tryz.underlying42 rfl aI ?_;exact kq hK hS rfl
    ·refine P1_ (p_ 40 70) λA0 w2 K e0 hS hK=>?_;have aJ:w2.rangeAt bi (oi+k*7) [y1,y2,y3,y4,y5,y6,y7]:=(o7.o.fr (Fr.ofBelow hS)).range;have aI:=aP;refine wp_load_mid 42 (.tmp 70) rfl _ _ (v_ e0) _ _ aJ Tryz.underlying42 rfl aI ?_;exact kq hK hS rfl
    ·refine P2_ (p_ 37 67) (p_ 41 71) λA0 w2 K e0 e1 hS hK=>?_;go_simp
     go_at_call 36
     refine(zF.o w2).mono ?_;rintro e w3 ⟨rfl,h3⟩;exact hK.out _ _ (hS.trans (h3.mono hS.size)) (Ks.of rfl rfl) (Ks.keep h3)
   ·intro _ A0 w2 hI hall;have hS:=hI.world;have c9:=hI.ch hall [30,31,32,33,34,35,36,37,38,39,40,41,42,43,44,45,46,47,48,49,50,51,52,53,54,55,56,57,58,59,60,61,62,63,64,65,66,67,68,69,70,71,72,73,74];obtain⟨x0,x1,x2,x3,x4,x5,x6,x7,x8,x9,dN,ef,fh,gU,j4,jH,jZ,kv,lR,kh,rB,vz,vr,zW,zP,zK,zz,By,Bf,vy,N7,Ot,Nh,Nz,M9,N3,NU,Oc,C7,x39,x40,x41,x42,x43,x44,hA,hV⟩:=c9;obtain rfl:x44=.bool false:=hV 44 _ _ rfl _ rfl;clear hV hI hall;simp only[ba,List.foldl,List.setIfInBounds_toArray,List.set_cons_zero,List.set_cons_succ]at hA;rw[hA];clear hA;have HBN:=t_ zI hS;clear hS;go_wp2_with fail;go_roundw
    case rel=>exact⟨k+1,by omega,by go_num,HBN.o⟩
    case measure=>first|exact aQ aU|(simp only[intOf];omega)
  case neg=>
   obtain⟨k1,rfl⟩:∃k1,k=k1+1:=⟨k- 1,by omega⟩;have agG:k1<I1.length:=by omega
   obtain⟨b2,o2,cs2,hA2,_,agv,dt⟩:=aj.get R8.o k1 agG;simp only[Option.some.injEq,Addr.mk.injEq,and_true]at hA2;obtain⟨rfl,rfl⟩:=hA2;rw[GI agv]at dt;have agF:=(dt.fr (Fr.ofBelow zI.o)).mono (Q':=(·<wr.heap.size)) (λq h=>Nat.lt_of_lt_of_le h zI.o.size);have Si:=agB (List.pairwise_iff_getElem.1 Kf k1 (k1+1) agG bI (by omega));obtain⟨z,QH⟩:=x_ (I1[k1]);rw[QH]at agF Si;rw[hy]at Si;have Rn:=H_ (λ(w2:World)=>show Calls Tryz.prog 35 #[.agg (lq z).toArray,.agg (lq y).toArray] w2 (ap w2 (.int .i64 (-1)))from Si▸jb z y w2);obtain⟨⟨y1,y2⟩,y3,y4,y5,y6,y7⟩:=y;obtain⟨⟨z1,z2⟩,z3,z4,z5,z6,z7⟩:=z;obtain⟨k,Xv⟩:=x_ (k1+1);have HGT:=H_ (show decide (0<k)=true from decide_eq_true (by omega));have QV:=H_ (show(k:Int) - 1=(k1:Int) by omega);have HWK:=H_ (show IntKind.i64.wrap (k1:Int)=(k1:Int) by have:=HQ.o;rw[IntKind.wrap_i64];omega);have agQ:k1<q:=by omega
   rw[Xv]at lY;have o7:=H_ (show At wr (·<wr.heap.size) ⟨bi,oi+k*7,none⟩ [.int .i64 y1,.int .i64 y2,.int .i64 y3,.int .i64 y4,.int .i64 y5,.int .i64 y6,.int .i64 y7]from lY);have agO:=H_ (show At wr (·<wr.heap.size) ⟨bi,oi+k1*7,none⟩ [.int .i64 z1,.int .i64 z2,.int .i64 z3,.int .i64 z4,.int .i64 z5,.int .i64 z6,.int .i64 z7]from agF);have Rn:=H_ (show ∀w2:World,Calls Tryz.prog 35 #[.agg #[z1,z2,z3,z4,z5,z6,z7],.agg #[y1,y2,y3,y4,y5,y6,y7]] w2 (ap w2 (.int .i64 (-1)))from Rn.o);rw[Xv]at aU bq hk bI;have agR:(k1:Int)< (q:Int):=by omega
   clear ft aS lY hy Kf hz m4 agv dt agF Si QH agG Fm;have agP:=H_ Xv;rw[Xv];clear Xv;have jG:=H_ (λ(w2:World)=>jb ⟨⟨y1,y2⟩,y3,y4,y5,y6,y7⟩ ⟨⟨x1,x2⟩,x3,x4,x5,x6,x7⟩ w2);have jv:=H_ (λ(w2:World)=>jc ⟨⟨y1,y2⟩,y3,y4,y5,y6,y7⟩ ⟨⟨x1,x2⟩,x3,x4,x5,x6,x7⟩ w2);have kB:=H_ (λ(w2:World)=>jb ⟨⟨x1,x2⟩,x3,x4,x5,x6,x7⟩ ⟨⟨y1,y2⟩,y3,y4,y5,y6,y7⟩ w2);have zF:=H_ (λ(w2:World)=>jc ⟨⟨x1,x2⟩,x3,x4,x5,x6,x7⟩ ⟨⟨y1,y2⟩,y3,y4,y5,y6,y7⟩ w2);generalize Ab ⟨⟨y1,y2⟩,y3,y4,y5,y6,y7⟩ ⟨⟨x1,x2⟩,x3,x4,x5,x6,x7⟩=c1 at jG jv;generalize Ab ⟨⟨x1,x2⟩,x3,x4,x5,x6,x7⟩ ⟨⟨y1,y2⟩,y3,y4,y5,y6,y7⟩=c2 at kB zF;go_upto_region 9 with fail;refine bk (Ks wr ((k:Int)::true::true::.val (.slice (some ⟨bi,oi,none⟩) q c5)::(k:Int)::(k1:Int)::.val (.pointer (some ⟨bi,oi+k1*7,none⟩))::.val (.agg #[z1,z2,z3,z4,z5,z6,z7])::.val (.slice (some ⟨bi,oi,none⟩) q c5)::(k:Int)::.val (.pointer (some ⟨bi,oi+k*7,none⟩))::.val (.agg #[y1,y2,y3,y4,y5,y6,y7])::(-1:Int)::false::false::false::.val (.slice (some ⟨bi,oi,none⟩) q c5)::(k:Int)::.val (.pointer (some ⟨bi,oi+k*7,none⟩))::.val (.agg #[y1,y2,y3,y4,y5,y6,y7])::.val (.agg #[x1,x2,x3,x4,x5,x6,x7])::c1::.val (.slice (some ⟨bi,oi,none⟩) q c5)::(k:Int)::.val (.pointer (some ⟨bi,oi+k*7,none⟩))::.val (.agg #[y1,y2,y3,y4,y5,y6,y7])::.val (.agg #[x1,x2,x3,x4,x5,x6,x7])::c1::false::false::false::.val (.agg #[x1,x2,x3,x4,x5,x6,x7])::.val (.slice (some ⟨bi,oi,none⟩) q c5)::(k:Int)::.val (.pointer (some ⟨bi,oi+k*7,none⟩))::.val (.agg #[y1,y2,y3,y4,y5,y6,y7])::c2::.val (.agg #[x1,x2,x3,x4,x5,x6,x7])::.val (.slice (some ⟨bi,oi,none⟩) q c5)::(k:Int)::.val (.pointer (some ⟨bi,oi+k*7,none⟩))::.val (.agg #[y1,y2,y3,y4,y5,y6,y7])::c2::false::false::[]))
    (λw'=>Below wr.heap.size wr w') K_ K_ K_ (Below.refl _ _).drew ?_ ?_
   ·refine⟨b_ (q_ 9),?_,b_ (p_ 1 31),f_ (q_ 7),f_ (q_ 9),?_,g_ (p_ 3 33) (p_ 5 35),?_,f_ (q_ 7),f_ (q_ 9),g_ (p_ 8 38) (p_ 9 39),?_,?_,f_ (p_ 12 42),c_ (p_ 2 32) (p_ 13 43),b_ (p_ 14 44),f_ (q_ 7),f_ (q_ 9),g_ (p_ 16 46) (p_ 17 47),?_,?_,?_,f_ (q_ 7),f_ (q_ 9),g_ (p_ 22 52) (p_ 23 53),?_,?_,?_,g_ (p_ 21 51) (p_ 27 57),c_ (p_ 15 45) (p_ 28 58),b_ (p_ 29 59),?_,f_ (q_ 7),f_ (q_ 9),g_ (p_ 32 62) (p_ 33 63),?_,?_,?_,f_ (q_ 7),f_ (q_ 9),g_ (p_ 38 68) (p_ 39 69),?_,?_,g_ (p_ 36 66) (p_ 42 72),c_ (p_ 30 60) (p_ 43 73),trivial⟩
    ·intro _ A0 w2 hI hd hnd K hK;have e0:=hI.p hd 0 30;have hS:=hI.world;have Gt:=HGT.o;exact hI.z hK
    ·intro _ A0 w2 hI hd hnd K hK;have e0:=hI.p hd 4 34;have hS:=hI.world;have Dm:=QV.o;have hwk:=HWK.o;exact hI.z1 hK (hI.r hd 2 32 true)
    ·refine P1_ (p_ 6 36) λA0 w2 K e0 hS hK=>?_;have aJ:w2.rangeAt bi (oi+k1*7) [z1,z2,z3,z4,z5,z6,z7]:=(agO.o.fr (Fr.ofBelow hS)).range;have aI:=aP;refine wp_load_mid 42 (.tmp 36) rfl _ _ (v_ e0) _ _ aJ Tryz.underlying42 rfl aI ?_;exact kq hK hS rfl
    ·refine P1_ (p_ 10 40) λA0 w2 K e0 hS hK=>?_;have aJ:w2.rangeAt bi (oi+k*7) [y1,y2,y3,y4,y5,y6,y7]:=(o7.o.fr (Fr.ofBelow hS)).range;have aI:=aP;refine wp_load_mid 42 (.tmp 40) rfl _ _ (v_ e0) _ _ aJ Tryz.underlying42 rfl aI ?_;exact kq hK hS rfl
    ·refine P2_ (p_ 7 37) (p_ 11 41) λA0 w2 K e0 e1 hS hK=>?_;go_simp
     go_at_call 35
     refine(Rn.o w2).mono ?_;rintro e w3 ⟨rfl,h3⟩;exact hK.out _ _ (hS.trans (h3.mono hS.size)) (Ks.of rfl rfl) (Ks.keep h3)
    ·refine P1_ (p_ 18 48) λA0 w2 K e0 hS hK=>?_;have aJ:w2.rangeAt bi (oi+k*7) [y1,y2,y3,y4,y5,y6,y7]:=(o7.o.fr (Fr.ofBelow hS)).range;have aI:=aP;refine wp_load_mid 42 (.tmp 48) rfl _ _ (v_ e0) _ _ aJ Tryz.underlying42 rfl aI ?_;exact kq hK hS rfl
    ·refine P1_ (q_ 5) λA0 w2 K e0 hS hK=>?_;have aJ:w2.rangeAt (w.heap.size+1+1) 0 [x1,x2,x3,x4,x5,x6,x7]:=cy ((hS.block _ (ag EI.o)).trans EI.o) 0 _ (λj v hj=>by rw[Nat.zero_add];exact hj);have aI:=aP;refine wp_load_mid 42 (.tmp 5) rfl _ _ (v_ e0) _ _ aJ Tryz.underlying42 rfl aI ?_;exact kq hK hS rfl
    ·refine P2_ (p_ 19 49) (p_ 20 50) λA0 w2 K e0 e1 hS hK=>?_;go_simp
     go_at_call 35
     refine(jG.o w2).mono ?_;rintro e w3 ⟨rfl,h3⟩;exact hK.out _ _ (hS.trans (h3.mono hS.size)) (Ks.of rfl rfl) (Ks.keep h3)
    ·refine P1_ (p_ 24 54) λA0 w2 K e0 hS hK=>?_;have aJ:w2.rangeAt bi (oi+k*7) [y1,y2,y3,y4,y5,y6,y7]:=(o7.o.fr (Fr.ofBelow hS)).range;have aI:=aP;refine wp_load_mid 42 (.tmp 54) rfl _ _ (v_ e0) _ _ aJ Tryz.underlying42 rfl aI ?_;exact kq hK hS rfl
    ·refine P1_ (q_ 5) λA0 w2 K e0 hS hK=>?_;have aJ:w2.rangeAt (w.heap.size+1+1) 0 [x1,x2,x3,x4,x5,x6,x7]:=cy ((hS.block _ (ag EI.o)).trans EI.o) 0 _ (λj v hj=>by rw[Nat.zero_add];exact hj);have aI:=aP;refine wp_load_mid 42 (.tmp 5) rfl _ _ (v_ e0) _ _ aJ Tryz.underlying42 rfl aI ?_;exact kq hK hS rfl
    ·refine P2_ (p_ 25 55) (p_ 26 56) λA0 w2 K e0 e1 hS hK=>?_;go_simp
     go_at_call 36
     refine(jv.o w2).mono ?_;rintro e w3 ⟨rfl,h3⟩;exact hK.out _ _ (hS.trans (h3.mono hS.size)) (Ks.of rfl rfl) (Ks.keep h3)
    ·refine P1_ (q_ 5) λA0 w2 K e0 hS hK=>?_;have aJ:w2.rangeAt (w.heap.size+1+1) 0 [x1,x2,x3,x4,x5,x6,x7]:=cy ((hS.block _ (ag EI.o)).trans EI.o) 0 _ (λj v hj=>by rw[Nat.zero_add];exact hj);have aI:=aP;refine wp_load_mid 42 (.tmp 5) rfl _ _ (v_ e0) _ _ aJ Tryz.underlying42 rfl aI ?_;exact kq hK hS rfl
    ·refine P1_ (p_ 34 64) λA0 w2 K e0 hS hK=>?_;have aJ:w2.rangeAt bi (oi+k*7) [y1,y2,y3,y4,y5,y6,y7]:=(o7.o.fr (Fr.ofBelow hS)).range;have aI:=aP;refine wp_load_mid 42 (.tmp 64) rfl _ _ (v_ e0) _ _ aJ Tryz.underlying42 rfl aI ?_;exact kq hK hS rfl
    ·refine P2_ (p_ 31 61) (p_ 35 65) λA0 w2 K e0 e1 hS hK=>?_;go_simp
     go_at_call 35
     refine(kB.o w2).mono ?_;rintro e w3 ⟨rfl,h3⟩;exact hK.out _ _ (hS.trans (h3.mono hS.size)) (Ks.of rfl rfl) (Ks.keep h3)
    ·refine P1_ (q_ 5) λA0 w2 K e0 hS hK=>?_;have aJ:w2.rangeAt (w.heap.size+1+1) 0 [x1,x2,x3,x4,x5,x6,x7]:=cy ((hS.block _ (ag EI.o)).trans EI.o) 0 _ (λj v hj=>by rw[Nat.zero_add];exact hj);have aI:=aP;refine wp_load_mid 42 (.tmp 5) rfl _ _ (v_ e0) _ _ aJ Tryz.underlying42 rfl aI ?_;exact kq hK hS rfl
    ·refine P1_ (p_ 40 70) λA0 w2 K e0 hS hK=>?_;have aJ:w2.rangeAt bi (oi+k*7) [y1,y2,y3,y4,y5,y6,y7]:=(o7.o.fr (Fr.ofBelow hS)).range;have aI:=aP;refine wp_load_mid 42 (.tmp 70) rfl _ _ (v_ e0) _ _ aJ Tryz.underlying42 rfl aI ?_;exact kq hK hS rfl
    ·refine P2_ (p_ 37 67) (p_ 41 71) λA0 w2 K e0 e1 hS hK=>?_;go_simp
     go_at_call 36
     refine(zF.o w2).mono ?_;rintro e w3 ⟨rfl,h3⟩;exact hK.out _ _ (hS.trans (h3.mono hS.size)) (Ks.of rfl rfl) (Ks.keep h3)
   ·intro _ A0 w2 hI hall;have hS:=hI.world;have c9:=hI.ch hall [30,31,32,33,34,35,36,37,38,39,40,41,42,43,44,45,46,47,48,49,50,51,52,53,54,55,56,57,58,59,60,61,62,63,64,65,66,67,68,69,70,71,72,73,74];obtain⟨x0,x1,x2,x3,x4,x5,x6,x7,x8,x9,dN,ef,fh,gU,j4,jH,jZ,kv,lR,kh,rB,vz,vr,zW,zP,zK,zz,By,Bf,vy,N7,Ot,Nh,Nz,M9,N3,NU,Oc,C7,x39,x40,x41,x42,x43,x44,hA,hV⟩:=c9;obtain rfl:x44=.bool false:=hV 44 _ _ rfl _ rfl;clear hV hI hall;simp only[ba,List.foldl,List.setIfInBounds_toArray,List.set_cons_zero,List.set_cons_succ]at hA;rw[hA];clear hA;have HBN:=t_ zI hS;clear hS;go_wp2_with fail;go_roundw
    case rel=>exact⟨k+1,by omega,by go_num,HBN.o⟩
    case measure=>first|exact aQ aU|(simp only[intOf];omega)
end Go.Proofs.YtibiddakakgakaaGreat
