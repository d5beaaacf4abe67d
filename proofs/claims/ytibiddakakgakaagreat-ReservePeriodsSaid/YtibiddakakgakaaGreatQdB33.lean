/- The reference's Valid of groups. Written by gen_b33.py. -/
import Derived.Test.YtibiddakakgakaaGreatQdB24B31
import Derived.Test.YtibiddakakgakaaGreatQdB28S1
set_option linter.unusedVariables false
set_option linter.unusedSimpArgs false
set_option maxRecDepth 4000
attribute [local go_sem ↓] Go.wp_at_zero Go.wp_at_succ
set_option maxHeartbeats 16000000
namespace Go.Proofs.YtibiddakakgakaaGreat
open Go Go.RowKit
theorem LW {aw:ByteArray} {y m p:Int} {Ac Ae:Option Addr} {cc ce n ne:Nat} {ch:List ah} {es:List aV} {r0 r1 r2 r3 r4 r5 r6 r7 r8 r9 cw cA cy ct cz:Int} (hN:ch.length=n) (hE:es.length=ne) {w:World} (hg:aL w (·<w.heap.size) (fT aw y m p Ac ch.length cc r0 r1 r2 r3 r4 r5 r6 r7 r8 r9 cw cA cy ct cz Ae es.length ce) ⟨aw,⟨y,m,p⟩,ch,⟨r0,r1,r2,r3,r4,r5,r6,r7,r8,r9,cw,cA,cy,ct,cz⟩,es⟩) (hn:ch.length<=1000)
 {s cu:ByteArray} {ec:List ah} {ls:List bu} {jo:Bool} {Ec Al:Option Addr} {c2 cl n2 nl:Nat} (h2:ec.length=n2) (h3:ls.length=nl) (hx:aN w (·<w.heap.size) (lH s cu Ec ec.length c2 Al ls.length cl jo) ⟨s,cu,ec,ls,jo⟩) (hs:sF ⟨s,cu,ec,ls,jo⟩):
 Calls Tryz.prog 167 #[.agg (fT aw y m p Ac n cc r0 r1 r2 r3 r4 r5 r6 r7 r8 r9 cw cA cy ct cz Ae ne ce).toArray,.agg (lH s cu Ec n2 c2 Al nl cl jo).toArray] w (ap w (.bool (dP ch (cY ⟨r0,r1,r2,r3,r4,r5,r6,r7,r8,r9,cw,cA,cy,ct,cz⟩) ⟨s,cu,ec,ls,jo⟩))):=by
 subst hN hE h2 h3;exact LV _ _ _ _ w hg hx hn hs.1 hs.2.1 hs.2.2.1 hs.2.2.2
theorem PP {aw:ByteArray} {y m p:Int} {Ac Ae:Option Addr} {cc ce n ne:Nat} {ch:List ah} {es:List aV} {r0 r1 r2 r3 r4 r5 r6 r7 r8 r9 cw cA cy ct cz:Int} (hN:ch.length=n) (hE:es.length=ne) {w:World} (hg:aL w (·<w.heap.size) (fT aw y m p Ac ch.length cc r0 r1 r2 r3 r4 r5 r6 r7 r8 r9 cw cA cy ct cz Ae es.length ce) ⟨aw,⟨y,m,p⟩,ch,⟨r0,r1,r2,r3,r4,r5,r6,r7,r8,r9,cw,cA,cy,ct,cz⟩,es⟩) (hn:ch.length<=1000) (hc:aw.size<=1000):Calls Tryz.prog 165 #[.agg (fT aw y m p Ac n cc r0 r1 r2 r3 r4 r5 r6 r7 r8 r9 cw cA cy ct cz Ae ne ce).toArray] w (ap w (.bool (cQ aw&&du y m p&&bR ch ⟨r0,r1,r2,r3,r4,r5,r6,r7,r8,r9,cw,cA,cy,ct,cz⟩))):=by
 subst hN hE;exact PO _ _ w hg hn hc
theorem PD {aw:ByteArray} {y m p:Int} {Ac Ae:Option Addr} {cc ce n ne:Nat} {ch:List ah} {es:List aV} {r0 r1 r2 r3 r4 r5 r6 r7 r8 r9 cw cA cy ct cz:Int} (hN:ch.length=n) (hE:es.length=ne) {w:World} (hg:aL w (·<w.heap.size) (fT aw y m p Ac ch.length cc r0 r1 r2 r3 r4 r5 r6 r7 r8 r9 cw cA cy ct cz Ae es.length ce) ⟨aw,⟨y,m,p⟩,ch,⟨r0,r1,r2,r3,r4,r5,r6,r7,r8,r9,cw,cA,cy,ct,cz⟩,es⟩) (hn:es.length<=1000) (nm:ByteArray) {q:Int} {qb:Bool} (hq:nU es nm=(q,qb)):Calls Tryz.prog 166 #[.agg (fT aw y m p Ac n cc r0 r1 r2 r3 r4 r5 r6 r7 r8 r9 cw cA cy ct cz Ae ne ce).toArray,nm] w (ap w (.tuple #[q,qb])):=by
 subst hN hE;have:=PB _ _ nm w hg hn;simp only[hq]at this;exact this
theorem Ak {ch:List ah} {L:List dp} {es:List aV} {i:Nat} {e:aV} (h:es[i]? =some e):mK ch L es i=(!((es.take i).any λx=>decide (x.name=e.name))&&dP ch L e):=by unfold mK;rw[h]
theorem Cf {g:au} (h:(cQ g.currency&&du g.calendar.year g.calendar.month g.calendar.periods&&bR g.chart g.roles)=false):bh g=false:=by unfold bh;rw[h];simp
theorem xW {g:au} (h:¬(1<=g.entities.length/\g.entities.length<=12)):bh g=false:=by unfold bh;rw[decide_eq_false h];simp
theorem Cg {g:au} {e:aV} (h:g.entities[0]? =some e) (hj:e.joint=true):bh g=false:=by unfold bh;rw[List.getD_eq_getElem?_getD,h,Option.getD_some,hj];simp
theorem xX {g:au} {k:Nat} (hk:k<g.entities.length) (h:mK g.chart (cY g.roles) g.entities k=false):bh g=false:=by unfold bh DX;rw[bt hk h];simp
theorem Hx {g:au} {e:aV} (h1:(cQ g.currency&&du g.calendar.year g.calendar.month g.calendar.periods&&bR g.chart g.roles)=true) (h4:1<=g.entities.length/\g.entities.length<=12) (h5:g.entities[0]? =some e) (hj:e.joint=false) (h:∀k,k<g.entities.length->mK g.chart (cY g.roles) g.entities k=true):bh g=true:=by
 unfold bh DX;rw[h1,decide_eq_true h4,List.getD_eq_getElem?_getD,h5,Option.getD_some,hj,bQ h];rfl
theorem PV (g:au) (cs:List Value) (w:World) (hg:aL w (·<w.heap.size) cs g) (ci:dQ g):Calls Tryz.prog 122 #[.agg cs.toArray] w (ap w (.bool (bh g))):=by
 obtain⟨r,hr⟩:=x_ (bh g);rw[hr];have HR:=H_ hr;have FP:=H_ hg;obtain⟨hn,zi,ft,Fk⟩:=ci;clear hr;obtain⟨Ac,cc,Ae,ce,rfl,ee,iu,eu,mD⟩:=hg.lit;clear hg;obtain⟨aw,⟨y,m,p⟩,ch,⟨r0,r1,r2,r3,r4,r5,r6,r7,r8,r9,cw,cA,cy,ct,cz⟩,es⟩:=g;simp only at ft zi Fk HR ee iu mD eu hn |-;have Z9:=H_ Fk;have rC:=H_ hn;have adM:=H_ zi;obtain⟨L,hL⟩:=x_ (jM r0 r1 r2 r3 r4 r5 r6 r7 r8 r9 cw cA cy ct cz);have CI:L.length=15:=by rw[<-hL];rfl
 have tU:=H_ hL;have Bw:=H_ CI;obtain⟨n,bj⟩:=x_ (ch.length);obtain⟨ne,bT⟩:=x_ (es.length);have HL:=H_ ee;have HN:=H_ bj;have HE:=H_ iu;have eP:=H_ bT;rw[bj,bT];rw[bj]at hn;clear hL CI ee iu bj bT eu;clear mD Fk zi;show Calls Tryz.prog 122 #[.agg #[aw,y,m,p,.slice Ac n cc,r0,r1,r2,r3,r4,r5,r6,r7,r8,r9,cw,cA,cy,ct,cz,.slice Ae ne ce]] w (ap w (.bool r));go_enter Tryz.func122,Tryz.ntmps122;go_upto_region 1 with fail;obtain⟨W,hW,H,HB,HS,ewx⟩:=B_ w (.cells #[aw,y,m,p,.slice Ac n cc,r0,r1,r2,r3,r4,r5,r6,r7,r8,r9,cw,cA,cy,ct,cz,.slice Ae ne ce] 29);rw[hW];clear ewx;clear hW;have tw:=H_ (dO (cs:=fT aw y m p Ac n cc r0 r1 r2 r3 r4 r5 r6 r7 r8 r9 cw cA cy ct cz Ae ne ce) H);have HH:=H_ H;have Fx:=H_ (PP HN.o eP.o (aL.keep FP.o HB) rC.o ft);clear H;obtain⟨v0,zL⟩:∃v,(cQ aw&&du y m p&&bR ch ⟨r0,r1,r2,r3,r4,r5,r6,r7,r8,r9,cw,cA,cy,ct,cz⟩)=v:=⟨_,rfl⟩;rw[zL]at Fx;have Mw:=H_ zL;clear zL;go_wp2_with (refine W_ 6 29 1 w.heap.size HH.o ay Tryz.underlying29 ?_);refine Fx.o.mono ?_;rintro e w4 ⟨rfl,bU⟩;have bD:=HB.trans (bU.mono HB.size);have yJ:=bU.size;cases v0 with
 |false=>
  have hf:=H_ (show r=false by rw[<-HR.o];exact Cf Mw.o);go_wp2_with fail;go_ret;exact⟨hf.o.symm▸rfl,bD⟩
 |true=>
 have G4:=(bU.block _ HS).trans HH.o;have f20:=ab G4 20;by_cases h1:ne<1
 case pos=>
  have CV:(ne:Int)<1:=by omega
  have hf:=H_ (show r=false by rw[<-HR.o];exact xW (λh=>by have:=h.1;have:=eP.o;simp only at*;omega));go_wp2_with fail;go_ret;exact⟨hf.o.symm▸rfl,bD⟩
 case neg=>
 have CV:¬(ne:Int)<1:=by omega
 by_cases h2:12<ne
 case pos=>
  have yX:12< (ne:Int):=by omega
  have hf:=H_ (show r=false by rw[<-HR.o];exact xW (λh=>by have:=h.2;have:=eP.o;simp only at*;omega));go_wp2_with fail;go_ret;exact⟨hf.o.symm▸rfl,bD⟩
 case neg=>
 have yX:¬12< (ne:Int):=by omega
 have zl:(0:Int)< (ne:Int):=by omega
 have Ng:0<es.length:=by rw[eP.o];omega
 obtain⟨b,o,dj,ed,kZ⟩:=aj.base HE.o (by omega);subst dj;obtain⟨es0,Nu,FD⟩:=kZ 0 Ng;have tM:=H_ kZ;obtain⟨Ec,c2,Al,cl,rfl,_,_⟩:=Nu.lit;obtain⟨x0,hx0⟩:=x_ (es[0]);rw[hx0]at FD;have YO:=H_ (show es[0]? =some x0 by rw[List.getElem?_eq_getElem Ng,hx0]);have j0:=(FD.fr (Fr.ofBelow bD)).c (j:=4) rfl;obtain⟨J,hJ⟩:=x_ (x0.joint);rw[hJ,Nat.zero_mul,Nat.add_zero]at j0;have HJ:=H_ hJ;clear Nu FD kZ hx0 hJ;cases J with
 |true=>
  have hf:=H_ (show r=false by rw[<-HR.o];exact Cg YO.o HJ.o);go_wp2_with fail;go_ret;exact⟨hf.o.symm▸rfl,bD⟩
 |false=>
 have iX:=H_ G4;have qy:=H_ ((tw.o.fr (Fr.ofBelow bU)).mono (Q':=(·<w4.heap.size)) (λk (hk:k<W.heap.size)=>by omega));clear G4;go_wp2_with fail
 go_loopw [3] (λi wr=>∃k:Nat,k<=ne/\i=.int .i64 (k:Int)/\Below w4.heap.size w4 wr/\∀j,j<k->mK ch (cY ⟨r0,r1,r2,r3,r4,r5,r6,r7,r8,r9,cw,cA,cy,ct,cz⟩) es j=true) (λi _=>ne- (intOf i).toNat)
 case atStart=>exact⟨0,by omega,rfl,Below.refl _ _,λj hj=>by omega⟩
 case round=>
  obtain⟨k,hk,rfl,hb,hall⟩:=hrel;have HA:=H_ hall;have bP:=hb.size;clear hall f20 j0;have el:=bD.trans (hb.mono bD.size);have GR:=(hb.block w.heap.size (by omega)).trans iX.o;have d20:=ab GR 20;clear GR;by_cases aU:k<ne
  case pos=>
   have bq:(k:Int)< (ne:Int):=by omega
   have bI:k<es.length:=by rw[eP.o];exact aU
   obtain⟨rz,bL,aS⟩:=tM.o k bI;obtain⟨Ec,c2,Al,cl,rfl,_,_⟩:=bL.lit;obtain⟨x,hx⟩:=x_ (es[k]);have yG:=Z9.o _ (List.getElem_mem bI);rw[hx]at bL aS yG;have HX:=H_ (show es[k]? =some x by rw[List.getElem?_eq_getElem bI,hx]);obtain⟨s,cu,ec,ls,jo⟩:=x;simp only at bL aS;have hE:=λ(w2:World) (hb:Below w.heap.size w w2)=>λ{n2 nl:Nat} (h2:ec.length=n2) (h3:ls.length=nl)=>LW HN.o eP.o (aL.keep FP.o hb) rC.o h2 h3 (aN.keep bL hb) yG
   have dt:=aS.fr (Fr.ofBelow el);obtain⟨n2,oO⟩:∃n,ec.length=n:=⟨_,rfl⟩;obtain⟨nl,bj⟩:∃n,ls.length=n:=⟨_,rfl⟩;rw[oO,bj]at dt;have K0:=H_ (show wr.cell? ⟨b,o+k*5,none⟩=some (.string s)from by have:=dt.c (j:=0) rfl;rwa[Nat.add_zero]at this);have adx:=H_ (dt.mono (Q':=(·<wr.heap.size)) (λk (hk:k<w.heap.size)=>by have:=el.size;omega));have Vj:=H_ (λ(w2:World) (hb:Below w.heap.size w w2)=>hE w2 hb oO bj);have go:=H_ el;have LTB:=H_ (show b<wr.heap.size by have h:b<w.heap.size:=ed;have:=el.size;omega);have LTG:=H_ (show w.heap.size<wr.heap.size by omega);have Nd:=H_ (show wr.cell? ⟨w.heap.size,20,none⟩=some (.slice (some ⟨b,o,none⟩) ne ce)from d20);have Dh:=H_ ((qy.o.fr (Fr.ofBelow hb)).mono (Q':=(·<wr.heap.size)) (λk (hk:k<w4.heap.size)=>by omega));obtain⟨qq,Ct⟩:∃q,nU es s=q:=⟨_,rfl⟩;obtain⟨q,qf⟩:=qq;have HFE:=H_ Ct;have iI:=H_ (Lm HX.o);clear bL aS dt hx hE yG oO bj Ct;go_upto_region 6 with fail;refine bp (Ks wr [.val (.agg (fT aw y m p Ac n cc r0 r1 r2 r3 r4 r5 r6 r7 r8 r9 cw cA cy ct cz (some ⟨b,o,none⟩) ne ce).toArray),.val (.pointer (some ⟨w.heap.size,20,none⟩)),.val (.slice (some ⟨b,o,none⟩) ne ce),(k:Int),.val (.pointer (some ⟨b,o+k*5,none⟩)),.val (.pointer (some ⟨b,o+k*5,none⟩)),s,.val (.tuple #[q,qf]),.val (.tuple #[q,qf]),q,qf,q,qf])
    (λw'=>Below wr.heap.size wr w') K_ K_ K_ (Below.refl _ _).drew ?_ ?_
   ·refine⟨?_,b_ (q_ 1),e_ (p_ 1 37) λ_ h=>l_ h LTG.o Nd.o,b_ (q_ 3),c_ (p_ 2 38) (p_ 3 39),b_ (p_ 4 40),e_ (p_ 5 41) (p:=⟨b,o+k*5,none⟩) λ_ h=>l_ h LTB.o K0.o,?_,b_ (p_ 7 43),b_ (p_ 8 35),b_ (p_ 8 35),b_ (p_ 9 44),b_ (p_ 10 45),trivial⟩
    ·refine O1_ (q_ 1) λA0 w2 K e0 hS hK=>?_;have aJ:w2.rangeAt w.heap.size 0 (fT aw y m p Ac n cc r0 r1 r2 r3 r4 r5 r6 r7 r8 r9 cw cA cy ct cz (some ⟨b,o,none⟩) ne ce):=(Dh.o.fr (Fr.ofBelow hS)).range;have aI:(Tryz.prog.info? 29).map (·.size)=some (fT aw y m p Ac n cc r0 r1 r2 r3 r4 r5 r6 r7 r8 r9 cw cA cy ct cz (some ⟨b,o,none⟩) ne ce).length:=ay;refine wp_load_mid 29 (.tmp 1) rfl _ _ (v_ e0) _ _ aJ Tryz.underlying29 rfl aI ?_;exact kq hK hS rfl
    ·refine O2_ (p_ 0 36) (p_ 6 42) λA0 w2 K e0 e1 hS hK=>?_;go_simp
     go_at_call 166
     refine(PD HN.o eP.o (aL.keep FP.o (go.o.trans (hS.mono go.o.size))) adM.o s HFE.o).mono ?_;rintro e w3 ⟨rfl,h3⟩;exact hK.out _ _ (hS.trans (h3.mono hS.size)) (Ks.of rfl rfl) (Ks.keep h3)
   ·intro _ A0 w2 hI hall;have hS:=hI.world;have c9:=hI.ch hall [36,37,38,39,40,41,42,43,35,44,45,4,5];obtain⟨x0,x1,x2,x3,x4,x5,x6,x7,x8,x9,dN,ef,fh,hA,hV⟩:=c9;obtain rfl:ef=.int .i64 q:=hV 11 _ _ rfl _ rfl;obtain rfl:fh=.bool qf:=hV 12 _ _ rfl _ rfl;clear hV hI hall;simp only[ba,List.foldl,List.setIfInBounds_toArray,List.set_cons_zero,List.set_cons_succ]at hA;rw[hA];clear hA;generalize w2=V at*;have hSV:=hS.size;have lU:=t_ go hS;have HWV:=H_ hS;have Bv:=H_ ((Dh.o.fr (Fr.ofBelow hS)).mono (Q':=(·<V.heap.size)) (λk (hk:k<wr.heap.size)=>by omega));have abN:=H_ ((adx.o.fr (Fr.ofBelow hS)).mono (Q':=(·<V.heap.size)) (λk (hk:k<wr.heap.size)=>by omega));have aaQ:=H_ (show w.heap.size<V.heap.size by omega);have abU:=H_ ((hS.cell (p:=⟨w.heap.size,20,none⟩) LTG.o).trans Nd.o);clear hS;by_cases hq:q=(k:Int)
    case neg=>
     have hf:=H_ (show r=false by
      rw[<-HR.o];refine xX bI ?_;rw[Ak HX.o];cases adw:(es.take k).any (λx=>decide (x.name=s))with
      |true=>rfl
      |false=>exact absurd (by have:=iI.o.2 adw;rw[HFE.o]at this;exact this) hq)
     have hq':(q !=(k:Int))=true:=by simpa using hq
     go_upto_region 7 with fail;refine bp (Ks V [q,(k:Int),true,true,undef,undef,undef,undef,undef,undef,undef,undef,true])
      (λw'=>Below V.heap.size V w') K_ K_ K_ (Below.refl _ _).drew ?_ ?_
     ·exact⟨b_ (q_ 4),b_ (q_ 3),c_ (p_ 0 46) (p_ 1 47),b_ (p_ 2 48),n_,n_,n_,n_,n_,n_,n_,n_,c_ (p_ 3 49) (p_ 11 57),trivial⟩
     ·intro _ A0 w2 hI hall;have hS:=hI.world;have c9:=hI.ch hall [46,47,48,49,50,51,52,53,54,55,56,57,58];obtain⟨x0,x1,x2,x3,x4,x5,x6,x7,x8,x9,dN,ef,fh,hA,hV⟩:=c9;obtain rfl:fh=.bool true:=hV 12 _ _ rfl _ rfl;clear hV hI hall;simp only[ba,List.foldl,List.setIfInBounds_toArray,List.set_cons_zero,List.set_cons_succ]at hA;rw[hA];clear hA;go_wp2_with fail;go_ret;exact⟨hf.o.symm▸rfl,lU.o.trans (hS.mono lU.o.size)⟩
    case pos=>
     have HAN:=H_ (show((es.take k).any λx=>decide (x.name=s))=false from iI.o.1 (by rw[HFE.o];exact hq));subst hq;obtain⟨v,hv⟩:=x_ (dP ch (cY ⟨r0,r1,r2,r3,r4,r5,r6,r7,r8,r9,cw,cA,cy,ct,cz⟩) ⟨s,cu,ec,ls,jo⟩);have gc:=H_ (show mK ch (cY ⟨r0,r1,r2,r3,r4,r5,r6,r7,r8,r9,cw,cA,cy,ct,cz⟩) es k=v by rw[Ak HX.o,hv,HAN.o];rfl);have HV:=H_ hv;clear hv;cases v with
     |false=>
      have hf:=H_ (show r=false by rw[<-HR.o];exact xX bI gc.o);go_upto_region 7 with fail;refine bp (Ks V [(k:Int),(k:Int),false,false,.val (.agg (fT aw y m p Ac n cc r0 r1 r2 r3 r4 r5 r6 r7 r8 r9 cw cA cy ct cz (some ⟨b,o,none⟩) ne ce).toArray),.val (.pointer (some ⟨w.heap.size,20,none⟩)),.val (.slice (some ⟨b,o,none⟩) ne ce),(k:Int),.val (.pointer (some ⟨b,o+k*5,none⟩)),.val (.agg (lH s cu Ec n2 c2 Al nl cl jo).toArray),false,true,true])
       (λw'=>Below V.heap.size V w') K_ K_ K_ (Below.refl _ _).drew ?_ ?_
      ·refine⟨b_ (q_ 4),b_ (q_ 3),c_ (p_ 0 46) (p_ 1 47),b_ (p_ 2 48),?_,f_ (q_ 1),h_ (p_ 5 51) λ_ h=>l_ h aaQ.o abU.o,f_ (q_ 3),g_ (p_ 6 52) (p_ 7 53),?_,?_,f_ (p_ 10 56),c_ (p_ 3 49) (p_ 11 57),trivial⟩
       ·refine P1_ (q_ 1) λA0 w2 K e0 hS hK=>?_;have aJ:w2.rangeAt w.heap.size 0 (fT aw y m p Ac n cc r0 r1 r2 r3 r4 r5 r6 r7 r8 r9 cw cA cy ct cz (some ⟨b,o,none⟩) ne ce):=(Bv.o.fr (Fr.ofBelow hS)).range;have aI:(Tryz.prog.info? 29).map (·.size)=some (fT aw y m p Ac n cc r0 r1 r2 r3 r4 r5 r6 r7 r8 r9 cw cA cy ct cz (some ⟨b,o,none⟩) ne ce).length:=ay;refine wp_load_mid 29 (.tmp 1) rfl _ _ (v_ e0) _ _ aJ Tryz.underlying29 rfl aI ?_;exact kq hK hS rfl
       ·refine P1_ (p_ 8 54) λA0 w2 K e0 hS hK=>?_;have aJ:w2.rangeAt b (o+k*5) (lH s cu Ec n2 c2 Al nl cl jo):=(abN.o.fr (Fr.ofBelow hS)).range;have aI:(Tryz.prog.info? 74).map (·.size)=some (lH s cu Ec n2 c2 Al nl cl jo).length:=cD;refine wp_load_mid 74 (.tmp 54) rfl _ _ (v_ e0) _ _ aJ Tryz.underlying74 rfl aI ?_;exact kq hK hS rfl
       ·refine P2_ (p_ 4 50) (p_ 9 55) λA0 w2 K e0 e1 hS hK=>?_;go_simp
        go_at_call 167
        refine(Vj.o w2 (lU.o.trans (hS.mono lU.o.size))).mono ?_;rintro e w3 ⟨rfl,h3⟩;exact hK.out _ _ (hS.trans (h3.mono hS.size)) (Ks.of rfl (congrArg Value.bool HV.o)) (Ks.keep h3)
      ·intro _ A0 w2 hI hall;have hS:=hI.world;have c9:=hI.ch hall [46,47,48,49,50,51,52,53,54,55,56,57,58];obtain⟨x0,x1,x2,x3,x4,x5,x6,x7,x8,x9,dN,ef,fh,hA,hV⟩:=c9;obtain rfl:fh=.bool true:=hV 12 _ _ rfl _ rfl;clear hV hI hall;simp only[ba,List.foldl,List.setIfInBounds_toArray,List.set_cons_zero,List.set_cons_succ]at hA;rw[hA];clear hA;go_wp2_with fail;go_ret;exact⟨hf.o.symm▸rfl,lU.o.trans (hS.mono lU.o.size)⟩
     |true=>
      go_upto_region 7 with fail;refine bp (Ks V [(k:Int),(k:Int),false,false,.val (.agg (fT aw y m p Ac n cc r0 r1 r2 r3 r4 r5 r6 r7 r8 r9 cw cA cy ct cz (some ⟨b,o,none⟩) ne ce).toArray),.val (.pointer (some ⟨w.heap.size,20,none⟩)),.val (.slice (some ⟨b,o,none⟩) ne ce),(k:Int),.val (.pointer (some ⟨b,o+k*5,none⟩)),.val (.agg (lH s cu Ec n2 c2 Al nl cl jo).toArray),true,false,false])
       (λw'=>Below V.heap.size V w') K_ K_ K_ (Below.refl _ _).drew ?_ ?_
      ·refine⟨b_ (q_ 4),b_ (q_ 3),c_ (p_ 0 46) (p_ 1 47),b_ (p_ 2 48),?_,f_ (q_ 1),h_ (p_ 5 51) λ_ h=>l_ h aaQ.o abU.o,f_ (q_ 3),g_ (p_ 6 52) (p_ 7 53),?_,?_,f_ (p_ 10 56),c_ (p_ 3 49) (p_ 11 57),trivial⟩
       ·refine P1_ (q_ 1) λA0 w2 K e0 hS hK=>?_;have aJ:w2.rangeAt w.heap.size 0 (fT aw y m p Ac n cc r0 r1 r2 r3 r4 r5 r6 r7 r8 r9 cw cA cy ct cz (some ⟨b,o,none⟩) ne ce):=(Bv.o.fr (Fr.ofBelow hS)).range;have aI:(Tryz.prog.info? 29).map (·.size)=some (fT aw y m p Ac n cc r0 r1 r2 r3 r4 r5 r6 r7 r8 r9 cw cA cy ct cz (some ⟨b,o,none⟩) ne ce).length:=ay;refine wp_load_mid 29 (.tmp 1) rfl _ _ (v_ e0) _ _ aJ Tryz.underlying29 rfl aI ?_;exact kq hK hS rfl
       ·refine P1_ (p_ 8 54) λA0 w2 K e0 hS hK=>?_;have aJ:w2.rangeAt b (o+k*5) (lH s cu Ec n2 c2 Al nl cl jo):=(abN.o.fr (Fr.ofBelow hS)).range;have aI:(Tryz.prog.info? 74).map (·.size)=some (lH s cu Ec n2 c2 Al nl cl jo).length:=cD;refine wp_load_mid 74 (.tmp 54) rfl _ _ (v_ e0) _ _ aJ Tryz.underlying74 rfl aI ?_;exact kq hK hS rfl
       ·refine P2_ (p_ 4 50) (p_ 9 55) λA0 w2 K e0 e1 hS hK=>?_;go_simp
        go_at_call 167
        refine(Vj.o w2 (lU.o.trans (hS.mono lU.o.size))).mono ?_;rintro e w3 ⟨rfl,h3⟩;exact hK.out _ _ (hS.trans (h3.mono hS.size)) (Ks.of rfl (congrArg Value.bool HV.o)) (Ks.keep h3)
      ·intro _ A0 w2 hI hall;have hS:=hI.world;have c9:=hI.ch hall [46,47,48,49,50,51,52,53,54,55,56,57,58];obtain⟨x0,x1,x2,x3,x4,x5,x6,x7,x8,x9,dN,ef,fh,hA,hV⟩:=c9;obtain rfl:fh=.bool false:=hV 12 _ _ rfl _ rfl;clear hV hI hall;simp only[ba,List.foldl,List.setIfInBounds_toArray,List.set_cons_zero,List.set_cons_succ]at hA;rw[hA];clear hA;go_wp2_with fail;go_roundw
       case rel=>exact⟨k+1,by omega,by go_num,hb.trans ((HWV.o.trans (hS.mono hSV)).mono bP),λi hi=>by
        rcases Nat.lt_or_ge i k with h|h
        ·exact HA.o i h
        ·have:i=k:=by omega
         subst this;exact gc.o⟩
       case measure=>first|exact aQ aU|(simp only[intOf];omega)
  case neg=>
   have bq:¬(k:Int)< (ne:Int):=by omega
   have hf:=H_ (show r=true by
    rw[<-HR.o];exact Hx Mw.o ⟨by have:=eP.o;simp only;omega,by have:=eP.o;simp only;omega⟩ YO.o HJ.o (λj hj=>HA.o j (by have:=eP.o;simp only at hj;omega)))
   go_wp2_with fail;go_ret;exact⟨hf.o.symm▸rfl,el⟩
end Go.Proofs.YtibiddakakgakaaGreat
