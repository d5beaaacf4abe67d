/- The reference's Valid of groups. Written by gen_b33.py. -/
import Derived.Test.YtibiddakakgakaaGreatQeB29B32
set_option linter.unusedVariables false
set_option linter.unusedSimpArgs false
set_option maxRecDepth 4000
attribute [local go_sem ↓] Go.wp_at_zero Go.wp_at_succ
set_option maxHeartbeats 16000000
namespace Go.Proofs.YtibiddakakgakaaGreat
open Go Go.RowKit
theorem LW {aw:ByteArray} {y m p:Int} {Ac Ae:Option Addr} {cc ce n ne:Nat} {ch:List ah} {es:List aV} {r0 r1 r2 r3 r4 r5 r6 r7 r8 r9 cw cA eo ct cz:Int} (hN:ch.length=n) (hE:es.length=ne) {w:World} (hg:aL w (·<w.heap.size) (fT aw y m p Ac ch.length cc r0 r1 r2 r3 r4 r5 r6 r7 r8 r9 cw cA eo ct cz Ae es.length ce) ⟨aw,⟨y,m,p⟩,ch,⟨r0,r1,r2,r3,r4,r5,r6,r7,r8,r9,cw,cA,eo,ct,cz⟩,es⟩) (hn:ch.length<=1000)
 {s cu:ByteArray} {ec:List ah} {ls:List bu} {jo:Bool} {Ec Al:Option Addr} {c2 cl n2 nl:Nat} (h2:ec.length=n2) (h3:ls.length=nl) (hx:aN w (·<w.heap.size) (lH s cu Ec ec.length c2 Al ls.length cl jo) ⟨s,cu,ec,ls,jo⟩) (hs:sF ⟨s,cu,ec,ls,jo⟩):
 Calls Tryz.prog 167 #[.agg (fT aw y m p Ac n cc r0 r1 r2 r3 r4 r5 r6 r7 r8 r9 cw cA eo ct cz Ae ne ce).toArray,.agg (lH s cu Ec n2 c2 Al nl cl jo).toArray] w (ap w (.bool (dP ch (cY ⟨r0,r1,r2,r3,r4,r5,r6,r7,r8,r9,cw,cA,eo,ct,cz⟩) ⟨s,cu,ec,ls,jo⟩))):=by
 subst hN hE h2 h3;exact LV _ _ _ _ w hg hx hn hs.1 hs.2.1 hs.2.2.1 hs.2.2.2
theorem PP {aw:ByteArray} {y m p:Int} {Ac Ae:Option Addr} {cc ce n ne:Nat} {ch:List ah} {es:List aV} {r0 r1 r2 r3 r4 r5 r6 r7 r8 r9 cw cA eo ct cz:Int} (hN:ch.length=n) (hE:es.length=ne) {w:World} (hg:aL w (·<w.heap.size) (fT aw y m p Ac ch.length cc r0 r1 r2 r3 r4 r5 r6 r7 r8 r9 cw cA eo ct cz Ae es.length ce) ⟨aw,⟨y,m,p⟩,ch,⟨r0,r1,r2,r3,r4,r5,r6,r7,r8,r9,cw,cA,eo,ct,cz⟩,es⟩) (hn:ch.length<=1000) (hc:aw.size<=1000):Calls Tryz.prog 165 #[.agg (fT aw y m p Ac n cc r0 r1 r2 r3 r4 r5 r6 r7 r8 r9 cw cA eo ct cz Ae ne ce).toArray] w (ap w (.bool (cQ aw&&du y m p&&bR ch ⟨r0,r1,r2,r3,r4,r5,r6,r7,r8,r9,cw,cA,eo,ct,cz⟩))):=by
 subst hN hE;exact PO _ _ w hg hn hc
theorem PD {aw:ByteArray} {y m p:Int} {Ac Ae:Option Addr} {cc ce n ne:Nat} {ch:List ah} {es:List aV} {r0 r1 r2 r3 r4 r5 r6 r7 r8 r9 cw cA eo ct cz:Int} (hN:ch.length=n) (hE:es.length=ne) {w:World} (hg:aL w (·<w.heap.size) (fT aw y m p Ac ch.length cc r0 r1 r2 r3 r4 r5 r6 r7 r8 r9 cw cA eo ct cz Ae es.length ce) ⟨aw,⟨y,m,p⟩,ch,⟨r0,r1,r2,r3,r4,r5,r6,r7,r8,r9,cw,cA,eo,ct,cz⟩,es⟩) (hn:es.length<=1000) (nm:ByteArray) {q:Int} {qb:Bool} (hq:nU es nm=(q,qb)):Calls Tryz.prog 166 #[.agg (fT aw y m p Ac n cc r0 r1 r2 r3 r4 r5 r6 r7 r8 r9 cw cA eo ct cz Ae ne ce).toArray,nm] w (ap w (.tuple #[q,qb])):=by
 subst hN hE;have:=PB _ _ nm w hg hn;simp only[hq]at this;exact this
theorem Ak {ch:List ah} {L:List dp} {es:List aV} {i:Nat} {e:aV} (h:es[i]? =some e):mK ch L es i=(!((es.take i).any λx=>decide (x.name=e.name))&&dP ch L e):=by unfold mK;rw[h]
theorem Cf {g:au} (h:(cQ g.currency&&du g.calendar.year g.calendar.month g.calendar.periods&&bR g.chart g.roles)=false):bh g=false:=by unfold bh;rw[h];simp
theorem xW {g:au} (h:¬(1<=g.entities.length/\g.entities.length<=12)):bh g=false:=by unfold bh;rw[decide_eq_false h];simp
theorem Cg {g:au} {e:aV} (h:g.entities[0]? =some e) (hj:e.joint=true):bh g=false:=by unfold bh;rw[List.getD_eq_getElem?_getD,h,Option.getD_some,hj];simp
theorem xX {g:au} {k:Nat} (hk:k<g.entities.length) (h:mK g.chart (cY g.roles) g.entities k=false):bh g=false:=by unfold bh DX;rw[bt hk h];simp
theorem Hx {g:au} {e:aV} (h1:(cQ g.currency&&du g.calendar.year g.calendar.month g.calendar.periods&&bR g.chart g.roles)=true) (h4:1<=g.entities.length/\g.entities.length<=12) (h5:g.entities[0]? =some e) (hj:e.joint=false) (h:∀k,k<g.entities.length->mK g.chart (cY g.roles) g.entities k=true):bh g=true:=by
 unfold bh DX;rw[h1,decide_eq_true h4,List.getD_eq_getElem?_getD,h5,Option.getD_some,hj,bQ h];rfl
theorem PV (g:au) (cs:List Value) (w:World) (hg:aL w (·<w.heap.size) cs g) (ci:dQ g):Calls Tryz.prog 122 #[.agg cs.toArray] w (ap w (.bool (bh g))):=by
 obtain⟨r,hr⟩:=x_ (bh g);rw[hr];have HR:=H_ hr;have FP:=H_ hg;obtain⟨hn,zi,ft,Fk⟩:=ci;clear hr;obtain⟨Ac,cc,Ae,ce,rfl,ee,iu,eu,mD⟩:=hg.lit;clear hg;obtain⟨aw,⟨y,m,p⟩,ch,⟨r0,r1,r2,r3,r4,r5,r6,r7,r8,r9,cw,cA,eo,ct,cz⟩,es⟩:=g;simp only at ft zi Fk HR ee iu mD eu hn |-;have Z9:=H_ Fk;have rC:=H_ hn;have adM:=H_ zi;obtain⟨L,hL⟩:=x_ (jM r0 r1 r2 r3 r4 r5 r6 r7 r8 r9 cw cA eo ct cz);have CI:L.length=15:=by rw[<-hL];rfl
 have tU:=H_ hL;have Bw:=H_ CI;obtain⟨n,bj⟩:=x_ (ch.length);obtain⟨ne,bT⟩:=x_ (es.length);have HL:=H_ ee;have HN:=H_ bj;have HE:=H_ iu;have eP:=H_ bT;rw[bj,bT];rw[bj]at hn;clear hL CI ee iu bj bT eu;clear mD Fk zi;show Calls Tryz.prog 122 #[.agg #[aw,y,m,p,.slice Ac n cc,r0,r1,r2,r3,r4,r5,r6,r7,r8,r9,cw,cA,eo,ct,cz,.slice Ae ne ce]] w (ap w (.bool r));go_enter Tryz.func122,Tryz.ntmps122;go_upto_region 1 with fail;obtain⟨W,hW,H,HB,HS,ewx⟩:=B_ w (.cells #[aw,y,m,p,.slice Ac n cc,r0,r1,r2,r3,r4,r5,r6,r7,r8,r9,cw,cA,eo,ct,cz,.slice Ae ne ce] 29);rw[hW];clear ewx;clear hW;have tw:=H_ (dO (cs:=fT aw y m p Ac n cc r0 r1 r2 r3 r4 r5 r6 r7 r8 r9 cw cA eo ct cz Ae ne ce) H);have HH:=H_ H;have Fx:=H_ (PP HN.o eP.o (aL.keep FP.o HB) rC.o ft);clear H;obtain⟨v0,zL⟩:∃v,(cQ aw&&du y m p&&bR ch ⟨r0,r1,r2,r3,r4,r5,r6,r7,r8,r9,cw,cA,eo,ct,cz⟩)=v:=⟨_,rfl⟩;rw[zL]at Fx;have Mw:=H_ zL;clear zL;go_wp2_with (refine W_ 6 29 1 w.heap.size HH.o ay Tryz.underlying29 ?_);refine Fx.o.mono ?_;rintro e w4 ⟨rfl,bU⟩;have bD:=HB.trans (bU.mono HB.size);have yJ:=bU.size;cases v0 with
 |false=>
  have hf:=H_ (show r=false by rw[<-HR.o];exact Cf Mw.o);go_wp2_with fail;go_ret;exact⟨hf.o.symm▸rfl,bD⟩
 |true=>
 have G4:=(bU.block _ HS).trans HH.o;have f20:=ab G4 20;by_cases h1:ne<1
 case pos=>
  have CV:(ne:Int)<1:=by omega
  have hf:=H_ (show r=false by rw[<-HR.o];exact xW (λh=>by have:=h.1;have:=eP.o;simp only at*;omega));go_wp2_with fail;go_ret;exact⟨hf.o.symm▸rfl,bD⟩
 case neg=>
 have CV:¬(ne:Int)<1:=by omega
 by_cases h2:12<ne
 case pos=>
  have yX:12< (ne:Int):=by omega
  have hf:=H_ (show r=false by rw[<-HR.o];exact xW (λh=>by have:=h.2;have:=eP.o;simp only at*;omega));go_wp2_with fail;go_ret;exact⟨hf.o.symm▸rfl,bD⟩
 case neg=>
 have yX:¬12< (ne:Int):=by omega
 have zl:(0:Int)< (ne:Int):=by omega
 have Ng:0<es.length:=by rw[eP.o];omega
 obtain⟨b,o,dj,ed,kZ⟩:=aj.base HE.o (by omega);subst dj;obtain⟨es0,Nu,FD⟩:=kZ 0 Ng;have tM:=H_ kZ;obtain⟨Ec,c2,Al,cl,rfl,_,_⟩:=Nu.lit;obtain⟨x0,YE⟩:=x_ (es[0]);rw[YE]at FD;have YO:=H_ (show es[0]? =some x0 by rw[List.getElem?_eq_getElem Ng,YE]);have j0:=(FD.fr (Fr.ofBelow bD)).c (j:=4) rfl;obtain⟨J,hJ⟩:=x_ (x0.joint);rw[hJ,Nat.zero_mul,Nat.add_zero]at j0;have HJ:=H_ hJ;clear Nu FD kZ YE hJ;cases J with
 |true=>
  have hf:=H_ (show r=false by rw[<-HR.o];exact Cg YO.o HJ.o);go_wp2_with fail;go_ret;exact⟨hf.o.symm▸rfl,bD⟩
 |false=>
 have iX:=H_ G4;have qy:=H_ ((tw.o.fr (Fr.ofBelow bU)).mono (Q':=(·<w4.heap.size)) (λk (hk:k<W.heap.size)=>by omega));clear G4;go_wp2_with fail
 go_loopw [3] (λi wr=>∃k:Nat,k<=ne/\i=.int .i64 (k:Int)/\Below w4.heap.size w4 wr/\∀j,j<k->mK ch (cY ⟨r0,r1,r2,r3,r4,r5,r6,r7,r8,r9,cw,cA,eo,ct,cz⟩) es j=true) (λi _=>ne- (intOf i).toNat)
 case atStart=>exact⟨0,by omega,rfl,Below.refl _ _,λj hj=>by omega⟩
 case round=>
  obtain⟨k,hk,rfl,hb,hall⟩:=hrel;have HA:=H_ hall;have bP:=hb.size;clear hall f20 j0;have el:=bD.trans (hb.mono bD.size);have GR:=(hb.block w.heap.size (by omega)).trans iX.o;have d20:=ab GR 20;clear GR;by_cases aU:k<ne
  case pos=>
   have bq:(k:Int)< (ne:Int):=by omega
   have bI:k<es.length:=by rw[eP.o];exact aU
   obtain⟨rz,bL,aS⟩:=tM.o k bI;obtain⟨Ec,c2,Al,cl,rfl,_,_⟩:=bL.lit;obtain⟨x,hx⟩:=x_ (es[k]);have yG:=Z9.o _ (List.getElem_mem bI);rw[hx]at bL aS yG;have HX:=H_ (show es[k]? =some x by rw[List.getElem?_eq_getElem bI,hx]);obtain⟨s,cu,ec,ls,jo⟩:=x;simp only at bL aS;have hE:=λ(w2:World) (hb:Below w.heap.size w w2)=>λ{n2 nl:Nat} (h2:ec.length=n2) (h3:ls.length=nl)=>LW HN.o eP.o (aL.keep FP.o hb) rC.o h2 h3 (aN.keep bL hb) yG
   have dt:=aS.fr (Fr.ofBelow el);obtain⟨n2,oO⟩:∃n,ec.length=n:=⟨_,rfl⟩;obtain⟨nl,bj⟩:∃n,ls.length=n:=⟨_,rfl⟩;rw[oO,bj]at dt;have K0:=H_ (show wr.cell? ⟨b,o+k*5,none⟩=some (.string s)from by have:=dt.c (j:=0) rfl;rwa[Nat.add_zero]at this);have adx:=H_ (dt.mono (Q':=(·<wr.heap.size)) (λk (hk:k<w.heap.size)=>by have:=el.size;omega));have Vj:=H_ (λ(w2:World) (hb:Below w.heap.size w w2)=>hE w2 hb oO bj);have go:=H_ el;have LTB:=H_ (show b<wr.heap.size by have h:b<w.heap.size:=ed;have:=el.size;omega);have LTG:=H_ (show w.heap.size<wr.heap.size by omega);have Nd:=H_ (show wr.cell? ⟨w.heap.size,20,none⟩=some (.slice (some ⟨b,o,none⟩) ne ce)from d20);have Dh:=H_ ((qy.o.fr (Fr.ofBelow hb)).mono (Q':=(·<wr.heap.size)) (λk (hk:k<w4.heap.size)=>by omega));obtain⟨qq,Ct⟩:∃q,nU es s=q:=⟨_,rfl⟩;obtain⟨q,qf⟩:=qq;have HFE:=H_ Ct;have iI:=H_ (Lm HX.o);clear bL aS dt hx hE yG oO bj Ct;go_upto_region 6 with fail;refine bp (Ks wr [.val (.agg (fT aw y m p Ac n cc r0 r1 r2 r3 r4 r5 r6 r7 r8 r9 cw cA eo ct cz (some ⟨b,o,none⟩) ne ce).toArray),.val (.pointer (some ⟨w.heap.size,20,none⟩)),.val (.slice (some ⟨b,o,none⟩) ne ce),(k:Int),.val (.pointer (some ⟨b,o+k*5,none⟩)),.val (.pointer (some ⟨b,o+k*5,none⟩)),s,.val (.tuple #[q,qf]),.val (.tuple #[q,qf]),q,qf,q,qf])
    (λw'=>Below wr.heap.size wr w') K_ K_ K_ (Below.refl _ _).drew ?_ ?_
   ·refine⟨?_,b_ (q_ 1),e_ (p_ 1 37) λ_ h=>l_ h LTG.o Nd.o,b_ (q_ 3),c_ (p_ 2 38) (p_ 3 39),b_ (p_ 4 40),e_ (p_ 5 41) (p:=⟨b,o+k*5,none⟩) λ_ h=>l_ h LTB.o K0.o,?_,b_ (p_ 7 43),b_ (p_ 8 35),b_ (p_ 8 35),b_ (p_ 9 44),b_ (p_ 10 45),trivial⟩
    ·refine O1_ (q_ 1) λA0 w2 K e0 hS hK=>?_;have aJ:w2.rangeAt w.heap.size 0 (fT aw y m p Ac n cc r0 r1 r2 r3 r4 r5 r6 r7 r8 r9 cw cA eo ct cz (some ⟨b,o,none⟩) ne ce):=(Dh.o.fr (Fr.ofBelow hS)).range;have aI:(Tryz.prog.info? 29).map (·.size)=some (fT aw y m p Ac n cc r0 r1 r2 r3 r4 r5 r6 r7 r8 r9 cw cA eo ct cz (some ⟨b,o,none⟩) ne ce).length:=ay;refine wp_load_mid 29 (.tmp 1) rfl _ _ (v_ e0) _ _ aJ Tryz.underlying29 rfl aI ?_;exact kq hK hS rfl
    ·refine O2_ (p_ 0 36) (p_ 6 42) λA0 w2 K e0 e1 hS hK=>?_;go_simp
     go_at_call 166
     refine(PD HN.o eP.o (aL.keep FP.o (go.o.trans (hS.mono go.o.size))) adM.o s HFE.o).mono ?_;rintro e w3 ⟨rfl,h3⟩;exact hK.out _ _ (hS.trans (h3.mono hS.size)) (Ks.of rfl rfl) (Ks.keep h3)
   ·intro _ A0 w2 hI hall;have hS:=hI.world;have c9:=hI.ch hall [36,37,38,39,40,41,42,43,35,44,45,4,5];obtain⟨x0,x1,x2,x3,x4,x5,x6,x7,x8,x9,dN,ef,fh,hA,hV⟩:=c9;obtain rfl:ef=.int .i64 q:=hV 11 _ _ rfl _ rfl;obtain rfl:fh=.bool qf:=hV 12 _ _ rfl _ rfl;clear hV hI hall;simp only[ba,List.foldl,List.setIfInBounds_toArray,List.set_cons_zero,List.set_cons_succ]at hA;rw[hA];clear hA;generalize w2=V at*;have hSV:=hS.size;have lU:=t_ go hS;have HWV:=H_ hS;have Bv:=H_ ((Dh.o.fr (Fr.ofBelow hS)).mono (Q':=(·<V.heap.size)) (λk (hk:k<wr.heap.size)=>by omega));have abN:=H_ ((adx.o.fr (Fr.ofBelow hS)).mono (Q':=(·<V.heap.size)) (λk (hk:k<wr.heap.size)=>by omega));have aaQ:=H_ (show w.heap.size<V.heap.size by omega);have abU:=H_ ((hS.cell (p:=⟨w.heap.size,20,none⟩) LTG.o).trans Nd.o);clear hS;by_cases hq:q=(k:Int)
    case neg=>
     have hf:=H_ (show r=false by
      rw[<-HR.o];refine xX bI ?_;rw[Ak HX.o];cases adw:(es.take k).any (λx=>decide (x.name=s))with
      |true=>rfl
      |false=>exact absurd (by have:=iI.o.2 adw;rw[HFE.o]at this;exact this) hq)
     have hq':(q !=(k:Int))=true:=by simpa using hq
     go_upto_region 7 with fail;refine bp (Ks V [q,(k:Int),true,true,undef,undef,undef,undef,undef,undef,undef,undef,true])
      (λw'=>Below V.heap.size V w') K_ K_ K_ (Below.refl _ _).drew ?_ ?_
     ·exact⟨b_ (q_ 4),b_ (q_ 3),c_ (p_ 0 46) (p_ 1 47),b_ (p_ 2 48),n_,n_,n_,n_,n_,n_,n_,n_,c_ (p_ 3 49) (p_ 11 57),trivial⟩
     ·intro _ A0 w2 hI hall;have hS:=hI.world;have c9:=hI.ch hall [46,47,48,49,50,51,52,53,54,55,56,57,58];obtain⟨x0,x1,x2,x3,x4,x5,x6,x7,x8,x9,dN,ef,fh,hA,hV⟩:=c9;obtain rfl:fh=.bool true:=hV 12 _ _ rfl _ rfl;clear hV hI hall;simp only[ba,List.foldl,List.setIfInBounds_toArray,List.set_cons_zero,List.set_cons_succ]at hA;rw[hA];clear hA;go_wp2_with fail;go_ret;exact⟨hf.o.symm▸rfl,lU.o.trans (hS.mono lU.o.size)⟩
    case pos=>
     have HAN:=H_ (show((es.take k).any λx=>decide (x.name=s))=false from iI.o.1 (by rw[HFE.o];exact hq));subst hq;obtain⟨v,hv⟩:=x_ (dP ch (cY ⟨r0,r1,r2,r3,r4,r5,r6,r7,r8,r9,cw,cA,eo,ct,cz⟩) ⟨s,cu,ec,ls,jo⟩);have gc:=H_ (show mK ch (cY ⟨r0,r1,r2,r3,r4,r5,r6,r7,r8,r9,cw,cA,eo,ct,cz⟩) es k=v by rw[Ak HX.o,hv,HAN.o];rfl);have HV:=H_ hv;clear hv;cases v with
     |false=>
      have hf:=H_ (show r=false by rw[<-HR.o];exact xX bI gc.o);go_upto_region 7 with fail;refine bp (Ks V [(k:Int),(k:Int),false,false,.val (.agg (fT aw y m p Ac n cc r0 r1 r2 r3 r4 r5 r6 r7 r8 r9 cw cA eo ct cz (some ⟨b,o,none⟩) ne ce).toArray),.val (.pointer (some ⟨w.heap.size,20,none⟩)),.val (.slice (some ⟨b,o,none⟩) ne ce),(k:Int),.val (.pointer (some ⟨b,o+k*5,none⟩)),.val (.agg (lH s cu Ec n2 c2 Al nl cl jo).toArray),false,true,true])
       (λw'=>Below V.heap.size V w') K_ K_ K_ (Below.refl _ _).drew ?_ ?_
      ·refine⟨b_ (q_ 4),b_ (q_ 3),c_ (p_ 0 46) (p_ 1 47),b_ (p_ 2 48),?_,f_ (q_ 1),h_ (p_ 5 51) λ_ h=>l_ h aaQ.o abU.o,f_ (q_ 3),g_ (p_ 6 52) (p_ 7 53),?_,?_,f_ (p_ 10 56),c_ (p_ 3 49) (p_ 11 57),trivial⟩
       ·refine P1_ (q_ 1) λA0 w2 K e0 hS hK=>?_;have aJ:w2.rangeAt w.heap.size 0 (fT aw y m p Ac n cc r0 r1 r2 r3 r4 r5 r6 r7 r8 r9 cw cA eo ct cz (some ⟨b,o,none⟩) ne ce):=(Bv.o.fr (Fr.ofBelow hS)).range;have aI:(Tryz.prog.info? 29).map (·.size)=some (fT aw y m p Ac n cc r0 r1 r2 r3 r4 r5 r6 r7 r8 r9 cw cA eo ct cz (some ⟨b,o,none⟩) ne ce).length:=ay;refine wp_load_mid 29 (.tmp 1) rfl _ _ (v_ e0) _ _ aJ Tryz.underlying29 rfl aI ?_;exact kq hK hS rfl
       ·refine P1_ (p_ 8 54) λA0 w2 K e0 hS hK=>?_;have aJ:w2.rangeAt b (o+k*5) (lH s cu Ec n2 c2 Al nl cl jo):=(abN.o.fr (Fr.ofBelow hS)).range;have aI:(Tryz.prog.info? 74).map (·.size)=some (lH s cu Ec n2 c2 Al nl cl jo).length:=cD;refine wp_load_mid 74 (.tmp 54) rfl _ _ (v_ e0) _ _ aJ Tryz.underlying74 rfl aI ?_;exact kq hK hS rfl
       ·refine P2_ (p_ 4 50) (p_ 9 55) λA0 w2 K e0 e1 hS hK=>?_;go_simp
        go_at_call 167
        refine(Vj.o w2 (lU.o.trans (hS.mono lU.o.size))).mono ?_;rintro e w3 ⟨rfl,h3⟩;exact hK.out _ _ (hS.trans (h3.mono hS.size)) (Ks.of rfl (congrArg Value.bool HV.o)) (Ks.keep h3)
      ·intro _ A0 w2 hI hall;have hS:=hI.world;have c9:=hI.ch hall [46,47,48,49,50,51,52,53,54,55,56,57,58];obtain⟨x0,x1,x2,x3,x4,x5,x6,x7,x8,x9,dN,ef,fh,hA,hV⟩:=c9;obtain rfl:fh=.bool true:=hV 12 _ _ rfl _ rfl;clear hV hI hall;simp only[ba,List.foldl,List.setIfInBounds_toArray,List.set_cons_zero,List.set_cons_succ]at hA;rw[hA];clear hA;go_wp2_with fail;go_ret;exact⟨hf.o.symm▸rfl,lU.o.trans (hS.mono lU.o.size)⟩
     |true=>
      go_upto_region 7 with fail;refine bp (Ks V [(k:Int),(k:Int),false,false,.val (.agg (fT aw y m p Ac n cc r0 r1 r2 r3 r4 r5 r6 r7 r8 r9 cw cA eo ct cz (some ⟨b,o,none⟩) ne ce).toArray),.val (.pointer (some ⟨w.heap.size,20,none⟩)),.val (.slice (some ⟨b,o,none⟩) ne ce),(k:Int),.val (.pointer (some ⟨b,o+k*5,none⟩)),.val (.agg (lH s cu Ec n2 c2 Al nl cl jo).toArray),true,false,false])
       (λw'=>Below V.heap.size V w') K_ K_ K_ (Below.refl _ _).drew ?_ ?_
      ·refine⟨b_ (q_ 4),b_ (q_ 3),c_ (p_ 0 46) (p_ 1 47),b_ (p_ 2 48),?_,f_ (q_ 1),h_ (p_ 5 51) λ_ h=>l_ h aaQ.o abU.o,f_ (q_ 3),g_ (p_ 6 52) (p_ 7 53),?_,?_,f_ (p_ 10 56),c_ (p_ 3 49) (p_ 11 57),trivial⟩
       ·refine P1_ (q_ 1) λA0 w2 K e0 hS hK=>?_;have aJ:w2.rangeAt w.heap.size 0 (fT aw y m p Ac n cc r0 r1 r2 r3 r4 r5 r6 r7 r8 r9 cw cA eo ct cz (some ⟨b,o,none⟩) ne ce):=(Bv.o.fr (Fr.ofBelow hS)).range;have aI:(Tryz.prog.info? 29).map (·.size)=some (fT aw y m p Ac n cc r0 r1 r2 r3 r4 r5 r6 r7 r8 r9 cw cA eo ct cz (some ⟨b,o,none⟩) ne ce).length:=ay;refine wp_load_mid 29 (.tmp 1) rfl _ _ (v_ e0) _ _ aJ Tryz.underlying29 rfl aI ?_;exact kq hK hS rfl
       ·refine P1_ (p_ 8 54) λA0 w2 K e0 hS hK=>?_;have aJ:w2.rangeAt b (o+k*5) (lH s cu Ec n2 c2 Al nl cl jo):=(abN.o.fr (Fr.ofBelow hS)).range;have aI:(Tryz.prog.info? 74).map (·.size)=some (lH s cu Ec n2 c2 Al nl cl jo).length:=cD;refine wp_load_mid 74 (.tmp 54) rfl _ _ (v_ e0) _ _ aJ Tryz.underlying74 rfl aI ?_;exact kq hK hS rfl
       ·refine P2_ (p_ 4 50) (p_ 9 55) λA0 w2 K e0 e1 hS hK=>?_;go_simp
        go_at_call 167
        refine(Vj.o w2 (lU.o.trans (hS.mono lU.o.size))).mono ?_;rintro e w3 ⟨rfl,h3⟩;exact hK.out _ _ (hS.trans (h3.mono hS.size)) (Ks.of rfl (congrArg Value.bool HV.o)) (Ks.keep h3)
      ·intro _ A0 w2 hI hall;have hS:=hI.world;have c9:=hI.ch hall [46,47,48,49,50,51,52,53,54,55,56,57,58];obtain⟨x0,x1,x2,x3,x4,x5,x6,x7,x8,x9,dN,ef,fh,hA,hV⟩:=c9;obtain rfl:fh=.bool false:=hV 12 _ _ rfl _ rfl;clear hV hI hall;simp only[ba,List.foldl,List.setIfInBounds_toArray,List.set_cons_zero,List.set_cons_succ]at hA;rw[hA];clear hA;go_wp2_with fail;go_roundw
       case rel=>exact⟨k+1,by omega,by go_num,hb.trans ((HWV.o.trans (hS.mono hSV)).mono bP),λi hi=>by
        rcases Nat.lt_or_ge i k with h|h
        ·exact HA.o i h
        ·have:i=k:=by omega
         subst this;exact gc.o⟩
       case measure=>first|exact aQ aU|(simp only[intOf];omega)
  case neg=>
   have bq:¬(k:Int)< (ne:Int):=by omega
   have hf:=H_ (show r=true by
    rw[<-HR.o];exact Hx Mw.o ⟨by have:=eP.o;simp only;omega,by have:=eP.o;simp only;omega⟩ YO.o HJ.o (λj hj=>HA.o j (by have:=eP.o;simp only at hj;omega)))
   go_wp2_with fail;go_ret;exact⟨hf.o.symm▸rfl,el⟩
abbrev lq (x:bW):List Value:=[.int .i64 x.ref.entry,.int .i64 x.ref.line,.int .i64 x.entity,.int .i64 x.account,.int .i64 x.partner,.int .i64 x.date,.int .i64 x.amount]
theorem je.lit {w:World} {Q:Nat->Prop} {cs:List Value} {x:bW} (h:je w Q cs x):cs=lq x:=by
 obtain⟨c0,c1,c2,c3,c4,c5,rfl,h0,⟨rfl,h1⟩,⟨rfl,h2⟩,⟨rfl,h3⟩,⟨rfl,h4⟩,⟨rfl,h5⟩⟩:=h;obtain⟨d0,d1,rfl,⟨rfl,_⟩,⟨rfl,_⟩⟩:=h0;rfl
theorem aP:(Tryz.prog.info? 42).map (·.size)=some 7:=by kernel_rfl
def f9 (l:List bW):Int:=(l.map (·.amount)).sum
def akB (l:List bW):Prop:=(∀x∈l,-1125899906842624<=x.amount/\x.amount<=1125899906842624)/\l.length<=300
theorem ake {l:List bW} {k:Nat} (hk:k<l.length):f9 (l.take (k+1))=f9 (l.take k)+l[k].amount:=by
 unfold f9;rw[List.take_add_one,List.getElem?_eq_getElem hk,List.map_append,List.sum_append];simp
theorem akN {l:List bW} (h:akB l):∀k:Nat,k<=l.length-> -1125899906842624*(k:Int)<=f9 (l.take k)/\f9 (l.take k)<=1125899906842624*(k:Int)
 |0,_=>by simp[f9]
 |k+1,hk=>by
  have ih:=akN h k (by omega);have hb:=h.1 _ (List.getElem_mem (show k<l.length by omega));rw[ake (by omega)];omega
def sw (n:Int):Bool:=decide (-1000000000000<=n/\n<=1000000000000)
theorem S8 (n:Int) (w:World):Calls Tryz.prog 104 #[n] w (ap w (.bool (sw n))):=by
 by_cases h1: -1000000000000<=n
 case neg=>
  have hf:=H_ (show sw n=false from decide_eq_false (λh=>h1 h.1));rw[hf.o];go_enter Tryz.func104,Tryz.ntmps104;go_wp2_with fail;go_ret;exact⟨rfl,Below.refl _ _⟩
 case pos=>
 by_cases h2:n<=1000000000000
 case neg=>
  have hf:=H_ (show sw n=false from decide_eq_false (λh=>h2 h.2));rw[hf.o];go_enter Tryz.func104,Tryz.ntmps104;go_wp2_with fail;go_ret;exact⟨rfl,Below.refl _ _⟩
 case pos=>
  have hf:=H_ (show sw n=true from decide_eq_true ⟨h1,h2⟩);rw[hf.o];go_enter Tryz.func104,Tryz.ntmps104;go_wp2_with fail;go_ret;exact⟨rfl,Below.refl _ _⟩
theorem PF (n:Int) (w:World):Calls Tryz.prog 161 #[n] w (ap w (.bool (sw n))):=by
 by_cases h1: -1000000000000<=n
 case neg=>
  have hf:=H_ (show sw n=false from decide_eq_false (λh=>h1 h.1));rw[hf.o];go_enter Tryz.func161,Tryz.ntmps161;go_wp2_with fail;go_ret;exact⟨rfl,Below.refl _ _⟩
 case pos=>
 by_cases h2:n<=1000000000000
 case neg=>
  have hf:=H_ (show sw n=false from decide_eq_false (λh=>h2 h.2));rw[hf.o];go_enter Tryz.func161,Tryz.ntmps161;go_wp2_with fail;go_ret;exact⟨rfl,Below.refl _ _⟩
 case pos=>
  have hf:=H_ (show sw n=true from decide_eq_true ⟨h1,h2⟩);rw[hf.o];go_enter Tryz.func161,Tryz.ntmps161;go_wp2_with fail;go_ret;exact⟨rfl,Below.refl _ _⟩
theorem alx (l:List bW) (A:Option Addr) (c:Nat) (w:World) (hl:aj je 7 w (·<w.heap.size) [.slice A l.length c] l) (hs:akB l):Calls Tryz.prog 38 #[.slice A l.length c] w (ap w (.int .i64 (-f9 l))):=by
 obtain⟨r,hr⟩:=x_ (-f9 l);rw[hr];have HR:=H_ hr;obtain⟨n,bj⟩:=x_ (l.length);have HL:=H_ hl;have HN:=H_ bj;have HS:=H_ hs;have hn:n<=300:=by rw[<-bj];exact hs.2
 rw[bj];clear hr hl bj hs;go_enter Tryz.func38,Tryz.ntmps38;go_wp2_with fail
 go_loopw [3,8] (λs i wr=>∃k:Nat,k<=n/\s=.int .i64 (-f9 (l.take k))/\i=.int .i64 (k:Int)/\Below w.heap.size w wr) (λ_ i _=>n- (intOf i).toNat)
 case atStart=>exact⟨0,by omega,rfl,rfl,Below.refl _ _⟩
 case round=>
  obtain⟨k,hk,rfl,rfl,hb⟩:=hrel;by_cases aU:k<n
  case pos=>
   have bq:(k:Int)< (n:Int):=by omega
   have bI:k<l.length:=by rw[HN.o];exact aU
   obtain⟨b,o,es,dj,ed,bL,aS⟩:=aj.get HL.o k bI;subst dj;have bE:=je.lit bL;rw[bE]at aS;have jE:=HS.o.1 _ (List.getElem_mem bI);have oZ:=H_ (ake bI);have hBk:=akN HS.o k (by omega);obtain⟨x,hx⟩:=x_ (l[k]);rw[hx]at aS jE;have HX:=H_ hx;obtain⟨⟨i1,i2⟩,i3,i4,i5,i6,am⟩:=x;simp only at jE;obtain⟨S,hS⟩:=x_ (f9 (l.take k));rw[hS]at hBk |-;have CB:=H_ hS;have HBK:=H_ hBk;obtain⟨yI,yH⟩:=hBk;obtain⟨eL,aH⟩:=jE;have lY:=aS.fr (Fr.ofBelow hb);have eZ:=H_ lY.range;clear bL bE aS lY hx hS;go_upto_region 5 with(refine w_ 11 42 10 b (o+k*7) [i1,i2,i3,i4,i5,i6,am] eZ.o aP Tryz.underlying42 ?_);obtain⟨W6,mC,H6,dK,my,ewx⟩:=B_ wr (.cells #[i1,i2,i3,i4,i5,i6,am] 42);rw[mC];clear ewx;clear mC;have c6:=ab H6 6;have dd:=hb.trans (dK.mono hb.size);clear H6;go_wp2_with fail;go_roundw
   case rel=>exact⟨k+1,by omega,by rw[oZ.o,HX.o,CB.o];first|done|go_num|(congr 1;omega),by go_num,dd⟩
   case measure=>first|exact aQ aU|(simp only[intOf];omega)
  case neg=>
   have bq:¬(k:Int)< (n:Int):=by omega
   obtain⟨S,hS⟩:=x_ (f9 (l.take k));rw[hS];have hf:=H_ (show r= -S by rw[<-HR.o,<-hS,show k=n from by omega,<-HN.o,List.take_length]);clear hS;go_wp2_with fail;go_ret;exact⟨hf.o.symm▸rfl,hb⟩
def akk (g:au) (entity n:Int):kF × Int:=
 if bh g=false then({},1)
 else if entity<0\/(g.entities.length:Int)<=entity\/sw n=false then({},2)
 else if n=0 then({},0)else({kind:=1,entity:=entity,other:= -1,rule:=0,parts:=[⟨g.roles.reserve,n⟩]},0)
def VL (w:World) (p:kF × Int) (e:Ending) (w':World):Prop:=∃A c,e=.returned (.tuple #[.agg #[p.1.kind,p.1.entity,p.1.other,p.1.rule,.slice A p.1.parts.length c],p.2])/\
 aj gL 2 w' (λk=>w.heap.size<=k/\k<w'.heap.size) [.slice A p.1.parts.length c] p.1.parts/\Below w.heap.size w w'
theorem VL.bad {w w':World} {e:Int} (hb:Below w.heap.size w w'):VL w ({},e) (.returned (.tuple #[.agg #[(),(),(),(),.slice none 0 0],e])) w':=⟨none,0,rfl,sr _ _ _ _,hb⟩
theorem ln:(Tryz.prog.info? 127).map (·.size)=some 5:=by kernel_rfl
theorem VL.good {w w':World} {b:Nat} {T:TypeId} {k e o r a n err:Int} (hb:Below w.heap.size w w') (hw:w.heap.size<=b) (hB:w'.heap[b]? =some (.cells #[a,n] T (0,0))) (ha:cx a) (hn:cx n):VL w (⟨k,e,o,r,[⟨a,n⟩]⟩,err) (.returned (.tuple #[.agg #[k,e,o,r,.slice (some ⟨b,0,none⟩) 1 1],err])) w':=by
 refine⟨_,_,rfl,⟨_,_,rfl,Nat.le_refl _,by unfold maxLen;simp,λ_=>⟨b,0,rfl,⟨hw,ag hB⟩,λi x hx=>?_⟩⟩,hb⟩;cases i with
 |succ i=>simp at hx
 |zero=>
  simp only[List.getElem?_cons_zero,Option.some.injEq]at hx;subst hx;refine⟨[.int .i64 a,.int .i64 n],⟨[_],[_],rfl,⟨rfl,ha⟩,⟨rfl,hn⟩⟩,?_⟩;rw[Nat.zero_mul,Nat.add_zero];have h2:=dO (cs:=[.int .i64 a,.int .i64 n]) hB;exact⟨⟨hw,ag hB⟩,h2.2⟩
theorem EY {w:World} {g b:Nat} {x:Obj} {cs:Array Value} (h:w.heap[b]? =some x) (bT:b≠g):(w.setRow g cs).heap[b]? =some x:=((cC w g cs).block b bT).trans h
theorem alK {aw:ByteArray} {y m p:Int} {Ac Ae:Option Addr} {cc ce n ne:Nat} {ch:List ah} {es:List aV} {r0 r1 r2 r3 r4 r5 r6 r7 r8 r9 cw cA eo ct cz:Int} (hN:ch.length=n) (hE:es.length=ne) {w:World} (hg:aL w (·<w.heap.size) (fT aw y m p Ac ch.length cc r0 r1 r2 r3 r4 r5 r6 r7 r8 r9 cw cA eo ct cz Ae es.length ce) ⟨aw,⟨y,m,p⟩,ch,⟨r0,r1,r2,r3,r4,r5,r6,r7,r8,r9,cw,cA,eo,ct,cz⟩,es⟩) (hs:dQ ⟨aw,⟨y,m,p⟩,ch,⟨r0,r1,r2,r3,r4,r5,r6,r7,r8,r9,cw,cA,eo,ct,cz⟩,es⟩) {v:Bool} (hv:bh ⟨aw,⟨y,m,p⟩,ch,⟨r0,r1,r2,r3,r4,r5,r6,r7,r8,r9,cw,cA,eo,ct,cz⟩,es⟩=v):Calls Tryz.prog 103 #[.agg (fT aw y m p Ac n cc r0 r1 r2 r3 r4 r5 r6 r7 r8 r9 cw cA eo ct cz Ae ne ce).toArray] w (ap w (.bool v)):=by
 subst hN hE hv;rw[<-Lr];exact SS _ _ w hg hs
theorem ak1 {w w':World} {cs:List Value} {l:List bW} (h:aj je 7 w (·<w.heap.size) cs l) (hb:Below w.heap.size w w'):aj je 7 w' (·<w'.heap.size) cs l:=
 (h.fr (λh=>je.fr h (Fr.ofBelow hb)) (Fr.ofBelow hb)).mono (λh=>je.mono h (λk hk=>by have:=hb.size;omega)) (λk hk=>by have:=hb.size;omega)
theorem aly {l:List bW} {A:Option Addr} {c n:Nat} {w:World} (hN:l.length=n) (hl:aj je 7 w (·<w.heap.size) [.slice A l.length c] l) (hs:akB l) {N:Int} (hv: -f9 l=N):Calls Tryz.prog 38 #[.slice A n c] w (ap w (.int .i64 N)):=by
 subst hN hv;exact alx l A c w hl hs
theorem aln (g:au) (cs:List Value) (ent:Int) (l:List bW) (Al:Option Addr) (cl:Nat) (w:World) (hg:aL w (·<w.heap.size) cs g) (ci:dQ g) (ep:cx ent) (hl:aj je 7 w (·<w.heap.size) [.slice Al l.length cl] l) (hsi:akB l):Calls Tryz.prog 71 #[.agg cs.toArray,ent,.slice Al l.length cl] w (VL w (akk g ent (-f9 l))):=by
 obtain⟨P,hP⟩:=x_ (akk g ent (-f9 l));rw[hP];have FP:=H_ hg;have sW:=H_ ci;have zi:=ci.2.1;obtain⟨N,hN⟩:=x_ (-f9 l);rw[hN]at hP;have hbk:=akN hsi l.length (Nat.le_refl _);rw[List.take_length]at hbk;have amG:=hsi.2;have hNb: -337769972052787200<=N/\N<=337769972052787200:=by rw[<-hN];omega
 obtain⟨hN1,hN2⟩:=hNb;obtain⟨amI,aap⟩:=ep;have HP:=H_ hP;obtain⟨Ac,cc,Ae,ce,rfl,ee,iu,eu,mD⟩:=hg.lit;clear hg;obtain⟨aw,⟨y,m,p⟩,ch,⟨r0,r1,r2,r3,r4,r5,r6,r7,r8,r9,cw,cA,eo,ct,cz⟩,es⟩:=g;simp only at HP zi mD |-;have HR4:=H_ (show cx r4 from mD.2.2.2.2.1);obtain⟨n,bj⟩:=x_ (ch.length);obtain⟨ne,bT⟩:=x_ (es.length);obtain⟨nL,hnL⟩:∃n,l.length=n:=⟨_,rfl⟩;have HN:=H_ bj;have eP:=H_ bT;obtain⟨v,hv⟩:=x_ (bh ⟨aw,⟨y,m,p⟩,ch,⟨r0,r1,r2,r3,r4,r5,r6,r7,r8,r9,cw,cA,eo,ct,cz⟩,es⟩);have HV:=H_ hv;have HGR:=H_ (λ(w2:World) (hb:Below w.heap.size w w2)=>alK bj bT (aL.keep FP.o hb) sW.o hv);have HAM:=H_ (λ(w2:World) (hb:Below w.heap.size w w2)=>aly hnL (ak1 hl hb) hsi hN);rw[bj,bT,hnL];rw[bT]at zi;clear ee iu eu mD bj bT hnL hv hN hP hl hsi ci hbk amG;show Calls Tryz.prog 71 #[.agg #[aw,y,m,p,.slice Ac n cc,r0,r1,r2,r3,r4,r5,r6,r7,r8,r9,cw,cA,eo,ct,cz,.slice Ae ne ce],ent,.slice Al nL cl] w (VL w P);go_enter Tryz.func71,Tryz.ntmps71;go_upto_region 1 with fail;obtain⟨W,hW,H,HB,HS,ewx⟩:=B_ w (.cells #[aw,y,m,p,.slice Ac n cc,r0,r1,r2,r3,r4,r5,r6,r7,r8,r9,cw,cA,eo,ct,cz,.slice Ae ne ce] 29);rw[hW];clear ewx;obtain⟨W2,fR,H2,dz,jK,ewx⟩:=B_ W (.cells #[(),(),(),(),.slice none 0 0] 127);rw[fR];replace H:=(dz.block _ (ag H)).trans H;clear ewx;clear fR;have eW:W.heap.size=w.heap.size+1:=by rw[<-hW];simp
 rw[eW]at H2;clear hW;have aH:=HB.trans (dz.mono HB.size);have dW:=dz.size;have lV:=ag H2;have HH:=H_ H;have HZ:=H_ H2;clear H H2;go_wp2_with (refine W_ 9 29 3 w.heap.size HH.o ay Tryz.underlying29 ?_);refine(HGR.o W2 aH).mono ?_;rintro e w3 ⟨rfl,aZ⟩;have aR:=aH.trans (aZ.mono aH.size);have lE:=aZ.size;have l7:=H_ ((aZ.block _ (by omega)).trans HZ.o);have kS:=H_ ((aZ.block _ (by omega)).trans HH.o);cases v with
 |false=>
  have hf:=H_ (show P=({},1) by rw[<-HP.o];unfold akk;rw[if_pos HV.o]);go_wp2_with (show wpList _ _ _ (Oper.mk none (Op.store _ (Operand.tmp 6) _) _ _ _ _::_) _ _;refine wpList_store_row rfl 127 (.tmp 6) (.tmp 12) rfl (w.heap.size+1) #[(),(),(),(),.slice none 0 0] rfl rfl 127 #[(),(),(),(),.slice none 0 0] l7.o (by rw[ln];rfl) rfl (by simp[Value.oneCell']) ?_);refine bodyPost_ret (v:=.tuple #[.agg #[(),(),(),(),.slice none 0 0],(1:Int)]) (aA rfl _ _ (w.heap.size+1) 127 _ (0,0) _ rfl (aB l7.o _) Tryz.underlying127 rfl (by rw[ln];rfl) _ rfl) rfl ?_;rw[hf.o];exact VL.bad (aD aR (by omega) _)
 |true=>
 go_wp2_with fail;refine(HAM.o w3 aR).mono ?_;rintro e w4 ⟨rfl,bU⟩;have bD:=aR.trans (bU.mono aR.size);have yJ:=bU.size;have kX:=H_ ((bU.block _ (by omega)).trans l7.o);have oW:=H_ ((bU.block _ (by omega)).trans kS.o);have d20:=ab oW.o 20;have d9:=ab oW.o 9;by_cases h1:ent<0
 case pos=>
  have hf:=H_ (show P=({},2) by rw[<-HP.o];unfold akk;rw[if_neg (by rw[HV.o];decide)];rw[if_pos (Or.inl h1)]);go_wp2_with (show wpList _ _ _ (Oper.mk none (Op.store _ (Operand.tmp 6) _) _ _ _ _::_) _ _;refine wpList_store_row rfl 127 (.tmp 6) (.tmp 29) rfl (w.heap.size+1) #[(),(),(),(),.slice none 0 0] rfl rfl 127 #[(),(),(),(),.slice none 0 0] kX.o (by rw[ln];rfl) rfl (by simp[Value.oneCell']) ?_);refine bodyPost_ret (v:=.tuple #[.agg #[(),(),(),(),.slice none 0 0],(2:Int)]) (aA rfl _ _ (w.heap.size+1) 127 _ (0,0) _ rfl (aB kX.o _) Tryz.underlying127 rfl (by rw[ln];rfl) _ rfl) rfl ?_;rw[hf.o];exact VL.bad (aD bD (by omega) _)
 case neg=>
 by_cases h2:(ne:Int)<=ent
 case pos=>
  have hf:=H_ (show P=({},2) by rw[<-HP.o];unfold akk;rw[if_neg (by rw[HV.o];decide)];rw[if_pos (Or.inr (Or.inl (by rw[eP.o];exact h2)))]);go_wp2_with (show wpList _ _ _ (Oper.mk none (Op.store _ (Operand.tmp 6) _) _ _ _ _::_) _ _;refine wpList_store_row rfl 127 (.tmp 6) (.tmp 29) rfl (w.heap.size+1) #[(),(),(),(),.slice none 0 0] rfl rfl 127 #[(),(),(),(),.slice none 0 0] kX.o (by rw[ln];rfl) rfl (by simp[Value.oneCell']) ?_);refine bodyPost_ret (v:=.tuple #[.agg #[(),(),(),(),.slice none 0 0],(2:Int)]) (aA rfl _ _ (w.heap.size+1) 127 _ (0,0) _ rfl (aB kX.o _) Tryz.underlying127 rfl (by rw[ln];rfl) _ rfl) rfl ?_;rw[hf.o];exact VL.bad (aD bD (by omega) _)
 case neg=>
 obtain⟨mv,Yb⟩:∃v,sw N=v:=⟨_,rfl⟩;have aM:=S8 N w4;rw[Yb]at aM;have Fj:=H_ Yb;clear Yb;have h2':¬ent≥(ne:Int):=h2;go_wp2_with fail;refine aM.mono ?_;clear aM;rintro e w5 ⟨rfl,cP⟩;have fG:=bD.trans (cP.mono bD.size);have QU:=cP.size;have vv:=H_ ((cP.block _ (by omega)).trans kX.o);have QZ:=H_ ((cP.block _ (by omega)).trans oW.o);clear d20 d9;have d9:=ab QZ.o 9;cases mv with
 |false=>
  have hf:=H_ (show P=({},2) by rw[<-HP.o];unfold akk;rw[if_neg (by rw[HV.o];decide)];rw[if_pos (Or.inr (Or.inr Fj.o))]);go_wp2_with (show wpList _ _ _ (Oper.mk none (Op.store _ (Operand.tmp 6) _) _ _ _ _::_) _ _;refine wpList_store_row rfl 127 (.tmp 6) (.tmp 29) rfl (w.heap.size+1) #[(),(),(),(),.slice none 0 0] rfl rfl 127 #[(),(),(),(),.slice none 0 0] vv.o (by rw[ln];rfl) rfl (by simp[Value.oneCell']) ?_);refine bodyPost_ret (v:=.tuple #[.agg #[(),(),(),(),.slice none 0 0],(2:Int)]) (aA rfl _ _ (w.heap.size+1) 127 _ (0,0) _ rfl (aB vv.o _) Tryz.underlying127 rfl (by rw[ln];rfl) _ rfl) rfl ?_;rw[hf.o];exact VL.bad (aD fG (by omega) _)
 |true=>
 have HNB:=H_ (show cx N by unfold cx;omega);have Xw:=H_ (show ¬(ent<0\/(es.length:Int)<=ent\/sw N=false) by
  rw[eP.o,Fj.o];rintro(h|h|h)
  ·omega
  ·omega
  ·cases h)
 by_cases h3:N=0
 case pos=>
  subst h3;have hf:=H_ (show P=({},0) by rw[<-HP.o];unfold akk;rw[if_neg (by rw[HV.o];decide)];rw[if_neg Xw.o,if_pos rfl]);go_wp2_with (show wpList _ _ _ (Oper.mk none (Op.store _ (Operand.tmp 6) _) _ _ _ _::_) _ _;refine wpList_store_row rfl 127 (.tmp 6) (.tmp 32) rfl (w.heap.size+1) #[(),(),(),(),.slice none 0 0] rfl rfl 127 #[(),(),(),(),.slice none 0 0] vv.o (by rw[ln];rfl) rfl (by simp[Value.oneCell']) ?_);refine bodyPost_ret (v:=.tuple #[.agg #[(),(),(),(),.slice none 0 0],()]) (aA rfl _ _ (w.heap.size+1) 127 _ (0,0) _ rfl (aB vv.o _) Tryz.underlying127 rfl (by rw[ln];rfl) _ rfl) rfl ?_;rw[hf.o];exact VL.bad (aD fG (by omega) _)
 case neg=>
  have h3':(N==0)=false:=by simpa using h3
  have hf:=H_ (show P=(⟨1,ent,-1,0,[⟨r4,N⟩]⟩,0) by rw[<-HP.o];unfold akk;rw[if_neg (by rw[HV.o];decide)];rw[if_neg Xw.o,if_neg h3]);clear h3;go_wp2_with (show wpList _ _ _ (Oper.mk none (Op.store _ (Operand.tmp 6) _) _ _ _ _::_) _ _;refine wpList_store_row rfl 127 (.tmp 6) (.tmp 40) rfl (w.heap.size+1) #[(1:Int),ent,(-1:Int),(),.slice (some ⟨w5.heap.size,0,none⟩) 1 1] rfl rfl 127 #[(),(),(),(),.slice none 0 0] (al vv.o _) (by rw[ln];rfl) rfl (by simp[Value.oneCell']) ?_);refine bodyPost_ret (v:=.tuple #[.agg #[(1:Int),ent,(-1:Int),(),.slice (some ⟨w5.heap.size,0,none⟩) 1 1],()]) (aA rfl _ _ (w.heap.size+1) 127 _ (0,0) _ rfl (aB (al vv.o _) _) Tryz.underlying127 rfl (by rw[ln];rfl) _ rfl) rfl ?_;rw[hf.o];exact VL.good (aD (fG.alloc fG.size _) (by omega) _) (by omega) (EY (heap_alloc_new w5 _) (by omega)) HR4.o HNB.o
section
variable {P:Program} (w:World)
theorem Cl (base:Nat) (t ty e:TypeId) (i:TypeInfo) (size:Nat) (ht:P.underlying t=some (.slice e)) (hi:P.info? e=some i)
 (v:Value) (n:Nat) (xs:List Value) (bv:w.ownsRow base e size v n xs) (c:Nat):(Builtin.append_ #[t,t] ty #[v,.slice none 0 c]).run P w=.ok v w:=by
 rcases bv.2 with⟨rfl,rfl⟩|⟨g,cap,aw,rfl,_,_,Rc,_⟩
 ·simp[Builtin.append_,run_underlying ht,sizeOf,typeInfo,hi,Builtin.lenOf,Builtin.firstCells]
 ·simp[Builtin.append_,run_underlying ht,sizeOf,typeInfo,hi,Builtin.lenOf,Builtin.firstCells,Rc,storeCells]
theorem JF (base:Nat) (t ty e:TypeId) (i:TypeInfo) (z:Value) (size fF:Nat) (ht:P.underlying t=some (.slice e)) (hi:P.info? e=some i) (hz:i.zero=some z)
 (lf:i.size=size) (MM:i.bytes=fF) (Ns:z.cells.size=size) (bP:0<size)
 (v:Value) (n:Nat) (xs:List Value) (bv:w.ownsRow base e size v n xs)
 (Q:Nat->Prop) (A:Option Addr) (m c:Nat) (gd:List Value) (hr:Rd w Q A m size gd) (h1:∀u∈gd,u.oneCell'=true)
 (Mu:n+m<=maxLen) (jF:(n+m)*fF<=140737488355328) (jR:base<=w.heap.size):
 ∃v' w',(Builtin.append_ #[t,t] ty #[v,.slice A m c]).run P w=.ok v' w'/\w'.ownsRow base e size v' (n+m) (xs++gd)/\w.grownBy w' v.ownBlock/\
  (v'.ownBlock=v.ownBlock\/v'.ownBlock=some w.heap.size):=by
 rcases A with _|ad
 ·have hm:m=0:=by
   rcases Nat.eq_zero_or_pos m with h0|h0
   ·exact h0
   ·obtain⟨ad,h,_⟩:=hr.2 h0;cases h
  subst hm;have hn:gd=[]:=List.eq_nil_of_length_eq_zero (by simpa using hr.1);subst hn;exact⟨v,w,Cl w base t ty e i size ht hi v n xs bv c,by simpa using bv,World.grownBy.refl w _,.inl rfl⟩
 ·have V0:∀j u,gd[j]? =some u->w.cell? (ad.add j)=some u:=by
   intro j u hu;rcases Nat.eq_zero_or_pos m with h0|h0
   ·subst h0;have hn:gd=[]:=List.eq_nil_of_length_eq_zero (by simpa using hr.1);subst hn;simp at hu
   ·obtain⟨ad',h,hc⟩:=hr.2 h0
    injection h with h
    subst h;exact(hc.2 j u hu).1
  obtain⟨v',w',eC,h2,h3,_,h5⟩:=run_append_own_at (P:=P) w base t ty e i z size fF ht hi hz lf MM Ns bP v n xs bv ad m c gd hr.1 V0 h1 Mu jF jR;exact⟨v',w',eC,h2,h3,h5⟩
theorem Qs {o:Oper} {a:Act} {K:Act->World->Prop} {Q':Exit->Act->World->Prop} (s x:Operand) (t:TypeId)
 (ho:o.op=.call {callee:=.builtin .append,args:=#[s,x],argTypes:=#[t,t]})
 (base:Nat) (e:TypeId) (i:TypeInfo) (z:Value) (size fF:Nat) (ht:P.underlying t=some (.slice e)) (hi:P.info? e=some i) (hz:i.zero=some z)
 (lf:i.size=size) (MM:i.bytes=fF) (Ns:z.cells.size=size) (bP:0<size)
 (v:Value) (n:Nat) (xs:List Value) (hs:a.eval s=v) (bv:w.ownsRow base e size v n xs)
 (Q:Nat->Prop) (A:Option Addr) (m c:Nat) (gd:List Value) (hx:a.eval x=.slice A m c) (hr:Rd w Q A m size gd) (h1:∀u∈gd,u.oneCell'=true)
 (Mu:n+m<=maxLen) (jF:(n+m)*fF<=140737488355328) (jR:base<=w.heap.size)
 (h:∀v' w',w'.ownsRow base e size v' (n+m) (xs++gd)->w.grownBy w' v.ownBlock->(v'.ownBlock=v.ownBlock\/v'.ownBlock=some w.heap.size)->K (a.put o.dst v') w'):o.wp P a w K Q':=by
 obtain⟨v',w',eC,h2,h3,h4⟩:=JF (P:=P) w base t o.type e i z size fF ht hi hz lf MM Ns bP v n xs bv Q A m c gd hr h1 Mu jF jR;unfold Oper.wp execOp;simp only[ho,resolve,invoke,builtin,Sem.run_bind,Sem.run_pure,Result.andThen_ok,List.map_toArray,List.map_cons,List.map_nil,hs,hx,eC];exact h v' w' h2 h3 h4
theorem cq {ops:Array Oper} {rest:List Oper} {o:Oper} {a:Act} {Q':Exit->Act->World->Prop} (qE:o.guard=none) (s x:Operand) (t:TypeId)
 (ho:o.op=.call {callee:=.builtin .append,args:=#[s,x],argTypes:=#[t,t]})
 (base:Nat) (e:TypeId) (i:TypeInfo) (z:Value) (size fF:Nat) (ht:P.underlying t=some (.slice e)) (hi:P.info? e=some i) (hz:i.zero=some z)
 (lf:i.size=size) (MM:i.bytes=fF) (Ns:z.cells.size=size) (bP:0<size)
 (v:Value) (n:Nat) (xs:List Value) (hs:a.eval s=v) (bv:w.ownsRow base e size v n xs)
 (Q:Nat->Prop) (A:Option Addr) (m c:Nat) (gd:List Value) (hx:a.eval x=.slice A m c) (hr:Rd w Q A m size gd) (h1:∀u∈gd,u.oneCell'=true)
 (Mu:n+m<=maxLen) (jF:(n+m)*fF<=140737488355328) (jR:base<=w.heap.size)
 (h:∀v' w',w'.ownsRow base e size v' (n+m) (xs++gd)->w.grownBy w' v.ownBlock->(v'.ownBlock=v.ownBlock\/v'.ownBlock=some w.heap.size)->wpList P ops Q' rest (a.put o.dst v') w'):wpList P ops Q' (o::rest) a w:=
 wpList_plain qE λ_ hK=>Qs w s x t ho base e i z size fF ht hi hz lf MM Ns bP v n xs hs bv Q A m c gd hx hr h1 Mu jF jR λv' w' h2 h3 h4=>hK _ _ (h v' w' h2 h3 h4)
theorem Fa {ops:Array Oper} {o:Oper} {a:Act} {K:Act->World->Prop} {Q':Exit->Act->World->Prop} {E:Prop} (qE:o.guard=none) (s x:Operand) (t:TypeId)
 (ho:o.op=.call {callee:=.builtin .append,args:=#[s,x],argTypes:=#[t,t]})
 (base:Nat) (e:TypeId) (i:TypeInfo) (z:Value) (size fF:Nat) (ht:P.underlying t=some (.slice e)) (hi:P.info? e=some i) (hz:i.zero=some z)
 (lf:i.size=size) (MM:i.bytes=fF) (Ns:z.cells.size=size) (bP:0<size)
 (v:Value) (n:Nat) (xs:List Value) (hs:a.eval s=v) (bv:w.ownsRow base e size v n xs)
 (Q:Nat->Prop) (A:Option Addr) (m c:Nat) (gd:List Value) (hx:a.eval x=.slice A m c) (hr:Rd w Q A m size gd) (h1:∀u∈gd,u.oneCell'=true)
 (Mu:n+m<=maxLen) (jF:(n+m)*fF<=140737488355328) (jR:base<=w.heap.size)
 (h:∀v' w',w'.ownsRow base e size v' (n+m) (xs++gd)->w.grownBy w' v.ownBlock->(v'.ownBlock=v.ownBlock\/v'.ownBlock=some w.heap.size)->K (a.put o.dst v') w'):
 if Region.wanted o (yielded ops a.tmps)=true then Oper.wp P o a w K Q' else E:=by
 have hw:Region.wanted o (yielded ops a.tmps)=true:=by simp[Region.wanted,qE]
 rw[if_pos hw];exact Qs w s x t ho base e i z size fF ht hi hz lf MM Ns bP v n xs hs bv Q A m c gd hx hr h1 Mu jF jR h
end
theorem fq {w:World} {g n size:Nat} {T:TypeId} {xs:List Value} (h:w.heap[g]? =some (.cells xs.toArray T (0,0))) (hl:xs.length=n*size):Rd w (λ_=>True) (some ⟨g,0,none⟩) n size xs:=
 ⟨hl,λ_=>⟨⟨g,0,none⟩,rfl,(dO h).mono (λ_ _=>trivial)⟩⟩
theorem sA {α:Type} {El:World->(Nat->Prop)->List Value->α->Prop} {f:α->List Value} {sz:Nat} (hf:∀x,(f x).length=sz) {w:World} {Q:Nat->Prop} {base:Nat} {e:TypeId} {v:Value} {xs:List α} (h:w.ownsRow base e sz v xs.length (xs.flatMap f)) (hE:∀x∈xs,El w Q (f x) x) (hQ:∀g,v.ownBlock=some g->Q g) (hm:xs.length<=1000):aj El sz w Q [v] xs:=by
 rcases Nat.eq_zero_or_pos xs.length with h0|h0
 ·have hx:xs=[]:=List.eq_nil_of_length_eq_zero h0;subst hx;rcases h.2 with⟨rfl,_⟩|⟨g,cap,aw,rfl,_⟩
  ·exact sr _ _ _ _
  ·rename_i h2;exact⟨_,cap,rfl,by simp,h2.2.2.2.1,λh=>absurd h (by simp)⟩
 ·obtain⟨g,cap,rfl,h1,h2⟩:∃g cap,v=.slice (some ⟨g,0,none⟩) xs.length cap/\xs.length<=cap/\cap<=maxLen:=by
   rcases h.2 with⟨_,hz⟩|⟨g,cap,aw,hv,_,_,h3,h4,_⟩
   ·omega
   ·exact⟨g,cap,hv,h3,h4⟩
  refine⟨_,cap,rfl,h1,h2,λ_=>⟨g,0,rfl,hQ g rfl,λi x hx=>⟨f x,hE x (List.mem_of_getElem? hx),?_⟩⟩⟩;have aS:At w Q ⟨g,0,none⟩ (xs.flatMap f):=⟨hQ g rfl,λj u hu=>⟨h.cells (g:=g) rfl j u hu,kc h (g:=g) rfl j⟩⟩;have:=qU f hf xs 0 aS i x hx;exact this
theorem eT {P:Program} {fn:Func} {p:Tmp} {ty:TypeId} (h:fn.results=#[.cell p ty]) (tmps:Array Value) (w:World) (g:Nat) (T:TypeId) (cs:Array Value) (fr:Nat × Nat) (d:TypeDesc)
 (hp:tmps.getD p undef=.pointer (some ⟨g,0,none⟩)) (hg:w.heap[g]? =some (.cells cs T fr))
 (hu:P.underlying ty=some d) (hd:(match d with| .struct _| .array _ _=>true|_=>false)=true) (hi:(P.info? ty).map (·.size)=some cs.size):
 (results fn tmps).run P w=.ok (.agg cs) w:=by
 have hp':tmps[p]?.getD undef=.pointer (some ⟨g,0,none⟩):=by simpa using hp
 simp[results,h,hp',asAddr,run_loadVar_row w g T ty cs fr d hg hu hd hi]
theorem Qa (w:World):Calls Tryz.prog 75 #[] w (λe w'=>e=.returned (.agg #[(1500:Int),(1600:Int),(1700:Int),(1200:Int),(3100:Int),(3200:Int),(3300:Int),(3400:Int),(3500:Int),(4500:Int),(4600:Int),(4700:Int),(5500:Int),(5600:Int),(5700:Int)])/\Below w.heap.size w w'):=by
 go_enter Tryz.func75,Tryz.ntmps75;go_wp2_with fail;refine bodyPost_ret (v:=_) (eT rfl _ _ w.heap.size 26 _ (0,0) _ rfl (heap_alloc_new _ _) Tryz.underlying26 rfl (by rw[kI];rfl)) rfl ⟨rfl,(Below.refl _ _).alloc (Nat.le_refl _) _⟩
theorem si:(Tryz.prog.info? 78).map (λi=>(i.zero,i.size,i.bytes))=some (some (.agg #[(),(),(),()]),4,32):=by kernel_rfl
theorem pP:(Tryz.prog.info? 154).map (λi=>(i.zero,i.size,i.bytes))=some (some (.agg #[(),(),()]),3,24):=by kernel_rfl
theorem ie:Tryz.prog.underlying 24=some (.slice 78):=by kernel_rfl
theorem oD:Tryz.prog.underlying 72=some (.slice 154):=by kernel_rfl
theorem Le:∀k:Nat,k<14->dv[k]? =some ⟨10*((k:Int)+1),B5.getD k 0,0,0⟩:=by decide+kernel
theorem Lg:∀k:Nat,k<14->dw[k]? =some ⟨10*((k:Int)+1),TA.getD k 0,-25567⟩:=by decide+kernel
theorem bS {w:World} {base:Nat} {e:TypeId} {size n:Nat} {v:Value} {xs:List Value} (h:w.ownsRow base e size v n xs):∃A n c,v=.slice A n c:=by
 rcases h.2 with⟨rfl,_⟩|⟨g,cap,aw,rfl,_⟩
 ·exact⟨_,_,_,rfl⟩
 ·exact⟨_,_,_,rfl⟩
theorem cU {w w':World} {base:Nat} {e:TypeId} {size n:Nat} {v:Value} {xs:List Value} (h:w.ownsRow base e size v n xs) (hb:∀g,v.ownBlock=some g->w'.heap[g]? =w.heap[g]?):w'.ownsRow base e size v n xs:=by
 refine⟨h.1,?_⟩;rcases h.2 with h1|⟨g,cap,aw,rfl,h1,h2,h3⟩
 ·exact .inl h1
 ·exact .inr ⟨g,cap,aw,rfl,h1,(hb g rfl).trans h2,h3⟩
theorem Qu {k:Nat} (h:k<14):IntKind.i64.wrap (10*IntKind.i64.wrap ((k:Int)+1))=10*((k:Int)+1):=by
 rw[IntKind.wrap_i64,IntKind.wrap_i64];omega
theorem DW {W4 wr wb w2:World} {eb i n nB s sB:Nat} {e eB:TypeId} {vA vB v2:Value} {xs xsB:List Value} (heb:eb<W4.heap.size) (hF:Fr (QX W4.heap.size eb) W4 wr) (hwb:Below wr.heap.size wr wb) (hg:wb.grownBy w2 vA.ownBlock)
 (hA:∀g,vA.ownBlock=some g->W4.heap.size<=g) (hB:wr.ownsRow W4.heap.size eB sB vB nB xsB) (hN:∀g,vA.ownBlock=some g->vB.ownBlock≠some g) (aS:v2.ownBlock=vA.ownBlock\/v2.ownBlock=some wb.heap.size) (h2:w2.ownsRow W4.heap.size e s v2 n xs):
 (w2.setCell ⟨eb,i,none⟩ v2).ownsRow W4.heap.size e s v2 n xs/\(w2.setCell ⟨eb,i,none⟩ v2).ownsRow W4.heap.size eB sB vB nB xsB/\Fr (QX W4.heap.size eb) W4 (w2.setCell ⟨eb,i,none⟩ v2)/\(∀g,v2.ownBlock=some g->vB.ownBlock≠some g):=by
 refine⟨cU h2 (λg rG=>?_),cU hB (λg rG=>?_),?_,λg rG hb=>?_⟩
 ·have:=(h2.lt _ rG).1;exact Below.heap_setCell w2 ⟨eb,i,none⟩ v2 g (by show g≠eb;omega)
 ·have h3:=hB.lt _ rG;have bP:=hwb.size;rw[Below.heap_setCell w2 ⟨eb,i,none⟩ v2 g (by show g≠eb;omega),hg.block g (by omega) (λe=>hN g e.symm rG),hwb.block g (by omega)]
 ·have bP:=hF.size;refine Fr.setCell (((hF.trans ((Fr.ofBelow hwb).mono (λk hk=>by have:=hk.1;omega))).grown hg (λk hk=>hk.1) (λk hk hq=>?_))) (λh=>h.2 rfl) v2;have:=hA k hk;have:=hq.1;omega
 ·rcases aS with h|h
  ·exact hN g (h▸rG) hb
  ·rw[h]at rG
   injection rG with rG
   have:=(hB.lt _ hb).2;have:=hwb.size;omega
instance (n:Int):Decidable (cx n):=by unfold cx;infer_instance
theorem Lf:∀x∈dv,pG x:=by
 show ∀x∈dv,cx x.code/\cx x.kind/\cx x.basis/\cx x.parent
 decide+kernel
theorem Lh:∀x∈dw,mM x:=by
 show ∀x∈dw,cx x.from_/\cx x.to_/\cx x.since
 decide+kernel
theorem tY {w:World} {Q:Nat->Prop} {x:ah} (h:pG x):ar w Q (bn x) x:=⟨[_],[_],[_],[_],rfl,⟨rfl,h.1⟩,⟨rfl,h.2.1⟩,⟨rfl,h.2.2.1⟩,⟨rfl,h.2.2.2⟩⟩
theorem En {w:World} {Q:Nat->Prop} {x:bu} (h:mM x):bJ w Q (eI x) x:=⟨[_],[_],[_],rfl,⟨rfl,h.1⟩,⟨rfl,h.2.1⟩,⟨rfl,h.2.2⟩⟩
theorem AX {α:Type} {f:α->List Value} {l:List α} {k:Nat} {x:α} (h:l[k]? =some x):(l.take (k+1)).flatMap f=(l.take k).flatMap f++f x:=by
 rw[List.take_add_one,h,List.flatMap_append];simp
theorem Md (nm cu:ByteArray) (w:World):Calls Tryz.prog 76 #[nm,cu] w (λe w'=>∃vs:List Value,e=.returned (.agg vs.toArray)/\aN w' (λk=>w.heap.size<=k/\k<w'.heap.size) vs (BN nm cu false)/\Below w.heap.size w w'):=by
 obtain⟨ia,oR,ge,gg,gh⟩:=info_parts si;obtain⟨il,hil,aea,acQ,ads⟩:=info_parts pP;go_enter Tryz.func76,Tryz.ntmps76;go_upto_region 4 with fail;have HZ:=heap_alloc_new w (.cells #[.string ⟨#[]⟩,.string ⟨#[]⟩,.slice none 0 0,.slice none 0 0,false] 74);have eb1:=ai w (.cells #[.string ⟨#[]⟩,.string ⟨#[]⟩,.slice none 0 0,.slice none 0 0,false] 74);have Nn:(w.alloc (.cells #[.string ⟨#[]⟩,.string ⟨#[]⟩,.slice none 0 0,.slice none 0 0,false] 74)).heap.size=w.heap.size+1:=by simp
 generalize w.alloc (Obj.cells #[.string ⟨#[]⟩,.string ⟨#[]⟩,.slice none 0 0,.slice none 0 0,false] 74)=W1 at*;have HT:=heap_alloc_new W1 (.cells #[(1010:Int),(1100:Int),(1200:Int),(1300:Int),(1500:Int),(2000:Int),(2100:Int),(3000:Int),(3300:Int),(4000:Int),(4100:Int),(4700:Int),(5000:Int),(5100:Int)] 3);have eb2:=ai W1 (.cells #[(1010:Int),(1100:Int),(1200:Int),(1300:Int),(1500:Int),(2000:Int),(2100:Int),(3000:Int),(3300:Int),(4000:Int),(4100:Int),(4700:Int),(5000:Int),(5100:Int)] 3);have RF:(W1.alloc (.cells #[(1010:Int),(1100:Int),(1200:Int),(1300:Int),(1500:Int),(2000:Int),(2100:Int),(3000:Int),(3300:Int),(4000:Int),(4100:Int),(4700:Int),(5000:Int),(5100:Int)] 3)).heap.size=W1.heap.size+1:=by simp
 replace HZ:=al HZ (Obj.cells #[(1010:Int),(1100:Int),(1200:Int),(1300:Int),(1500:Int),(2000:Int),(2100:Int),(3000:Int),(3300:Int),(4000:Int),(4100:Int),(4700:Int),(5000:Int),(5100:Int)] 3);generalize W1.alloc (Obj.cells #[(1010:Int),(1100:Int),(1200:Int),(1300:Int),(1500:Int),(2000:Int),(2100:Int),(3000:Int),(3300:Int),(4000:Int),(4100:Int),(4700:Int),(5000:Int),(5100:Int)] 3)=W2 at*;have HK:=heap_alloc_new W2 (.cells #[(1:Int),(1:Int),(1:Int),(1:Int),(1:Int),(2:Int),(2:Int),(3:Int),(3:Int),(4:Int),(4:Int),(4:Int),(5:Int),(5:Int)] 3);have eb3:=ai W2 (.cells #[(1:Int),(1:Int),(1:Int),(1:Int),(1:Int),(2:Int),(2:Int),(3:Int),(3:Int),(4:Int),(4:Int),(4:Int),(5:Int),(5:Int)] 3);have YK:(W2.alloc (.cells #[(1:Int),(1:Int),(1:Int),(1:Int),(1:Int),(2:Int),(2:Int),(3:Int),(3:Int),(4:Int),(4:Int),(4:Int),(5:Int),(5:Int)] 3)).heap.size=W2.heap.size+1:=by simp
 replace HZ:=al HZ (Obj.cells #[(1:Int),(1:Int),(1:Int),(1:Int),(1:Int),(2:Int),(2:Int),(3:Int),(3:Int),(4:Int),(4:Int),(4:Int),(5:Int),(5:Int)] 3);replace HT:=al HT (Obj.cells #[(1:Int),(1:Int),(1:Int),(1:Int),(1:Int),(2:Int),(2:Int),(3:Int),(3:Int),(4:Int),(4:Int),(4:Int),(5:Int),(5:Int)] 3);generalize W2.alloc (Obj.cells #[(1:Int),(1:Int),(1:Int),(1:Int),(1:Int),(2:Int),(2:Int),(3:Int),(3:Int),(4:Int),(4:Int),(4:Int),(5:Int),(5:Int)] 3)=W3 at*;have HE:=heap_alloc_new W3 (.cells #[nm,cu,.slice none 0 0,.slice none 0 0,false] 74);have eb4:=ai W3 (.cells #[nm,cu,.slice none 0 0,.slice none 0 0,false] 74);have ez4:(W3.alloc (.cells #[nm,cu,.slice none 0 0,.slice none 0 0,false] 74)).heap.size=W3.heap.size+1:=by simp
 replace HZ:=al HZ (Obj.cells #[nm,cu,.slice none 0 0,.slice none 0 0,false] 74);replace HT:=al HT (Obj.cells #[nm,cu,.slice none 0 0,.slice none 0 0,false] 74);replace HK:=al HK (Obj.cells #[nm,cu,.slice none 0 0,.slice none 0 0,false] 74);generalize W3.alloc (Obj.cells #[nm,cu,.slice none 0 0,.slice none 0 0,false] 74)=W4 at*;rw[Nn]at HT;rw[RF,Nn]at HK;rw[YK,RF,Nn]at HE;have bU:Below w.heap.size w W4:=eb1.trans ((eb2.mono (by omega)).trans ((eb3.mono (by omega)).trans (eb4.mono (by omega))));have hz4:W4.heap.size=w.heap.size+4:=by omega
 have HZ':=H_ HZ;have HTO:=H_ (show W4.heap[w.heap.size+1]? =some (.cells (iv TA).toArray 3 (0,0))from HT);have HKI:=H_ (show W4.heap[w.heap.size+1+1]? =some (.cells (iv B5).toArray 3 (0,0))from HK);have HE':=H_ HE;have kX:=H_ hz4;clear HZ HT HK HE Nn RF YK ez4 eb1 eb2 eb3 eb4 hz4;go_wp2_with fail
 go_loopw [8] (λi wr=>∃(k:Nat) (vC vL:Value),k<=14/\i=.int .i64 (k:Int)/\Fr (QX W4.heap.size (w.heap.size+1+1+1)) W4 wr/\wr.heap[w.heap.size+1+1+1]? =some (.cells #[nm,cu,vC,vL,false] 74 (0,0))/\wr.ownsRow W4.heap.size 78 4 vC k ((dv.take k).flatMap bn)/\wr.ownsRow W4.heap.size 154 3 vL k ((dw.take k).flatMap eI)/\(∀g,vC.ownBlock=some g->vL.ownBlock≠some g)) (λi _=>14- (intOf i).toNat)
 case atStart=>exact⟨0,_,_,by omega,rfl,Fr.refl _ _,HE'.o,World.ownsRow_nil _ _ _ _,World.ownsRow_nil _ _ _ _,λg h=>by cases h⟩
 case round=>
  obtain⟨k,vC,vL,hk,rfl,lM,hE,hoC,hoL,bT⟩:=hrel;have HF:=H_ lM;have bP:=lM.size;have Z1:=H_ hE;have HOC:=H_ hoC;have HOL:=H_ hoL;have eP:=H_ bT;clear lM hE hoC hoL bT;by_cases aU:k<14
  case pos=>
   have bq:(k:Int)<14:=by omega
   obtain⟨K1,TL⟩:∃x,B5.getD k 0=x:=⟨_,rfl⟩;obtain⟨K2,MY⟩:∃x,TA.getD k 0=x:=⟨_,rfl⟩;have hkc:wr.cell? ⟨w.heap.size+1+1,k,none⟩=some (.int .i64 K1):=by
    rw[(HF.o.cell (p:=⟨w.heap.size+1+1,k,none⟩) ⟨by have:=kX.o;show w.heap.size+1+1<_;omega,by show w.heap.size+1+1≠_;omega⟩),ab HKI.o k];rw[<-TL];simp only[iv,List.map_toArray,List.getElem?_toArray,List.getElem?_map,List.getD_eq_getElem?_getD];rw[List.getElem?_eq_getElem (show k<B5.length from aU)];rfl
   have htc:wr.cell? ⟨w.heap.size+1,k,none⟩=some (.int .i64 K2):=by
    rw[(HF.o.cell (p:=⟨w.heap.size+1,k,none⟩) ⟨by have:=kX.o;show w.heap.size+1<_;omega,by show w.heap.size+1≠_;omega⟩),ab HTO.o k];rw[<-MY];simp only[iv,List.map_toArray,List.getElem?_toArray,List.getElem?_map,List.getD_eq_getElem?_getD];rw[List.getElem?_eq_getElem (show k<TA.length from aU)];rfl
   have HA:=H_ (AX (f:=bn) (Le k aU));have HL:=H_ (AX (f:=eI) (Lg k aU));rw[TL]at HA;rw[MY]at HL;have c2:=ab Z1.o 2;have c3:=ab Z1.o 3;have c2A:∀o:Obj,(wr.alloc o).cell? ⟨w.heap.size+1+1+1,2,none⟩=some vC:=λo=>ab (al Z1.o o) 2
   have hkA:∀o:Obj,(wr.alloc o).cell? ⟨w.heap.size+1+1,k,none⟩=some (.int .i64 K1):=λo=>((ai wr o).cell (p:=⟨w.heap.size+1+1,k,none⟩) (by have:=kX.o;show w.heap.size+1+1<_;omega)).trans hkc
   have HKC:=H_ hkc;have HTC:=H_ htc;clear TL MY;have NEC:=H_ (show some (w.heap.size+1+1+1)≠vC.ownBlock from λe=>by have:=(HOC.o.lt _ e.symm).1;have:=kX.o;omega);have NEL:=H_ (show some (w.heap.size+1+1+1)≠vL.ownBlock from λe=>by have:=(HOL.o.lt _ e.symm).1;have:=kX.o;omega);have hnm:=kX.o;go_upto_region 7 with fail
   go_cut [31]from 20 to 32 (λv wx=>∃A2 n2 Mx,v=.slice A2 n2 Mx/\wx.heap[w.heap.size+1+1+1]? =some (.cells #[nm,cu,.slice A2 n2 Mx,vL,false] 74 (0,0))/\wx.ownsRow W4.heap.size 78 4 (.slice A2 n2 Mx) (k+1) ((dv.take (k+1)).flatMap bn)/\wx.ownsRow W4.heap.size 154 3 vL k ((dw.take k).flatMap eI)/\Fr (QX W4.heap.size (w.heap.size+1+1+1)) W4 wx/\(∀g,(Value.slice A2 n2 Mx).ownBlock=some g->vL.ownBlock≠some g))
   case first=>
    go_region_law (refine Fa _ (by rfl) _ _ 24 (by rfl) W4.heap.size 78 ia _ 4 32 ie oR ge gg gh rfl (by decide) vC k ((dv.take k).flatMap bn) (by rfl) (by exact(bb HOC.o (((Below.refl _ _).alloc (Nat.le_refl _) _).drew))) (λ_=>True) (some ⟨_,0,none⟩) 1 1 [(IntKind.i64.wrap (10*IntKind.i64.wrap ((k:Int)+1))),K1,(),()] (by rfl) (by exact fq (w:=World.drew (wr.alloc _)) (heap_alloc_new wr _) rfl) (by simp[Value.oneCell']) (by unfold maxLen;omega) (by omega) (by simp;omega) ?_;intro v2 w2 Do f8 dt;obtain⟨A2,n2,Mx,rfl⟩:=bS Do;have Nj:=(f8.block (w.heap.size+1+1+1) (ag (al Z1.o _)) NEC.o).trans (al Z1.o _);have gn:=ab Nj 2;have jC:=bB Nj 2)
    all_goals (go_wp2_with fail)
    all_goals go_meet
    all_goals (obtain⟨h1,h2,h3,h4⟩:=DW (i:=2) (by have:=kX.o;omega) HF.o (((Below.refl _ _).alloc (Nat.le_refl _) _).drew) f8 (λg h=>(HOC.o.lt _ h).1) HOL.o eP.o dt Do;rw[Qu aU,<-HA.o]at h1;exact⟨_,_,_,rfl,aG Nj 2 _,h1,h2,h3,h4⟩)
   case rest=>
    obtain⟨A2,n2,Mx,rfl,hE,hoC,hoL,lM,bT⟩:=hcut;have HEC:=H_ hE;have acS:=H_ hoC;have aaF:=H_ hoL;have ny:=H_ lM;have Oj:=H_ bT;have c3:=ab hE 3;have hsc:=lM.size;clear hE hoC hoL lM bT c2A hkA c2;have ad9:wc.cell? ⟨w.heap.size+1,k,none⟩=some (.int .i64 K2):=
     (ny.o.cell (p:=⟨w.heap.size+1,k,none⟩) ⟨by have:=kX.o;show w.heap.size+1<_;omega,by show w.heap.size+1≠_;omega⟩).trans ((HF.o.cell (p:=⟨w.heap.size+1,k,none⟩) ⟨by have:=kX.o;show w.heap.size+1<_;omega,by show w.heap.size+1≠_;omega⟩).symm.trans HTC.o)
    have c3A:∀o:Obj,(wc.alloc o).cell? ⟨w.heap.size+1+1+1,3,none⟩=some vL:=λo=>ab (al HEC.o o) 3
    have htA:∀o:Obj,(wc.alloc o).cell? ⟨w.heap.size+1,k,none⟩=some (.int .i64 K2):=λo=>((ai wc o).cell (p:=⟨w.heap.size+1,k,none⟩) (by have:=kX.o;show w.heap.size+1<_;omega)).trans ad9
    go_upto_region 8 with fail
    go_region_law (refine Fa _ (by rfl) _ _ 72 (by rfl) W4.heap.size 154 il _ 3 24 oD hil aea acQ ads rfl (by decide) vL k ((dw.take k).flatMap eI) (by rfl) (by exact(bb aaF.o (((Below.refl _ _).alloc (Nat.le_refl _) _).drew))) (λ_=>True) (some ⟨_,0,none⟩) 1 1 [(IntKind.i64.wrap (10*IntKind.i64.wrap ((k:Int)+1))),K2,(-25567:Int)] (by rfl) (by exact fq (w:=World.drew (wc.alloc _)) (heap_alloc_new wc _) rfl) (by simp[Value.oneCell']) (by unfold maxLen;omega) (by omega) (by simp;omega) ?_;intro v2 w2 Do f8 dt;obtain⟨A3,n3,cc3,rfl⟩:=bS Do;have Nj:=(f8.block (w.heap.size+1+1+1) (ag (al HEC.o _)) NEL.o).trans (al HEC.o _);have gn:=ab Nj 3;have jC:=bB Nj 3)
    all_goals (go_wp2_with fail)
    all_goals (
     go_roundw
     case rel=>
      obtain⟨h1,h2,h3,h4⟩:=DW (i:=3) (by have:=kX.o;omega) ny.o (((Below.refl _ _).alloc (Nat.le_refl _) _).drew) f8 (λg h=>(aaF.o.lt _ h).1) acS.o (λg h h'=>Oj.o g h' h) dt Do;rw[Qu aU,<-HL.o]at h1;exact⟨k+1,_,_,by omega,by go_num,h3,aG Nj 3 _,h2,h1,λg h h'=>h4 g h' h⟩
     case measure=>first|exact aQ aU|(simp only[intOf];omega))
  case neg=>
   have bq:¬(k:Int)<14:=by omega
   have YL:k=14:=by omega
   have Xm:=H_ (show wr.ownsRow W4.heap.size 78 4 vC dv.length (dv.flatMap bn) by have h:=HOC.o;rw[YL]at h;exact h);have Yu:=H_ (show wr.ownsRow W4.heap.size 154 3 vL dw.length (dw.flatMap eI) by have h:=HOL.o;rw[YL]at h;exact h);clear YL;have QW:=H_ ((HF.o.block w.heap.size ⟨by have:=kX.o;omega,by omega⟩).trans HZ'.o);have LTR:=ag QW.o;go_wp2_with (first|(refine W_ 46 74 7 (w.heap.size+1+1+1) Z1.o cD Tryz.underlying74 ?_)|(show wpList _ _ _ (Oper.mk none (Op.store _ (Operand.tmp 4) _) _ _ _ _::_) _ _;refine wpList_store_row rfl 74 (.tmp 4) (.tmp 46) rfl w.heap.size #[nm,cu,vC,vL,false] rfl rfl 74 #[.string ⟨#[]⟩,.string ⟨#[]⟩,.slice none 0 0,.slice none 0 0,false] QW.o cD rfl (by obtain⟨_,_,_,rfl⟩:=bS Xm.o;obtain⟨_,_,_,rfl⟩:=bS Yu.o;simp[Value.oneCell']) ?_));refine bodyPost_ret (v:=_) (eT rfl _ _ w.heap.size 74 _ (0,0) _ rfl (aB QW.o _) Tryz.underlying74 rfl cD) rfl ?_;have hsz':=HF.o.size;have hz:=kX.o;have kT:Below w.heap.size w (wr.setRow w.heap.size #[nm,cu,vC,vL,false]):=aD (((Fr.ofBelow bU).trans (HF.o.mono (λk (hk:k<w.heap.size)=>⟨by omega,by omega⟩))).below) (Nat.le_refl _) _;have hsr:(wr.setRow w.heap.size #[nm,cu,vC,vL,false]).heap.size=wr.heap.size:=by simp
   have o1:=cU (w':=wr.setRow w.heap.size #[nm,cu,vC,vL,false]) Xm.o (λg hg=>(cC wr w.heap.size _).block g (by have:=(Xm.o.lt _ hg).1;show g≠_;omega));have o2:=cU (w':=wr.setRow w.heap.size #[nm,cu,vC,vL,false]) Yu.o (λg hg=>(cC wr w.heap.size _).block g (by have:=(Yu.o.lt _ hg).1;show g≠_;omega));have l1:=sA (El:=ar) (f:=bn) (λ_=>rfl) o1 (Q:=λk=>w.heap.size<=k/\k< (wr.setRow w.heap.size #[nm,cu,vC,vL,false]).heap.size) (λx hx=>tY (Lf x hx)) (λg hg=>by have:=o1.lt _ hg;omega) (by decide);have l2:=sA (El:=bJ) (f:=eI) (λ_=>rfl) o2 (Q:=λk=>w.heap.size<=k/\k< (wr.setRow w.heap.size #[nm,cu,vC,vL,false]).heap.size) (λx hx=>En (Lh x hx)) (λg hg=>by have:=o2.lt _ hg;omega) (by decide);exact⟨[.string nm,.string cu,vC,vL,.bool false],rfl,⟨[_],[_],[_],[_],[_],rfl,rfl,rfl,l1,l2,rfl⟩,kT⟩
end Go.Proofs.YtibiddakakgakaaGreat
