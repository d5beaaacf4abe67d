/- The reference's Valid of groups. Written by gen_b33.py. -/
import Derived.Test.YtibiddakakgakaaGreatQcB29B32
set_option linter.unusedVariables false
set_option linter.unusedSimpArgs false
set_option maxRecDepth 4000
attribute [local go_sem ↓] Go.wp_at_zero Go.wp_at_succ
set_option maxHeartbeats 16000000
namespace Go.Proofs.YtibiddakakgakaaGreat
open Go Go.RowKit
theorem LW {cur:ByteArray} {y m p:Int} {Ac Ae:Option Addr} {cc ce n ne:Nat} {ch:List ah} {es:List aV} {r0 r1 r2 r3 r4 r5 r6 r7 r8 r9 cw cA ey ct cz:Int} (hN:ch.length=n) (hE:es.length=ne) {w:World} (hg:aL w (·<w.heap.size) (fT cur y m p Ac ch.length cc r0 r1 r2 r3 r4 r5 r6 r7 r8 r9 cw cA ey ct cz Ae es.length ce) ⟨cur,⟨y,m,p⟩,ch,⟨r0,r1,r2,r3,r4,r5,r6,r7,r8,r9,cw,cA,ey,ct,cz⟩,es⟩) (hn:ch.length<=1000)
 {s cu:ByteArray} {ec:List ah} {ls:List bu} {jo:Bool} {Ec Al:Option Addr} {c2 cl n2 nl:Nat} (h2:ec.length=n2) (h3:ls.length=nl) (hx:aN w (·<w.heap.size) (lH s cu Ec ec.length c2 Al ls.length cl jo) ⟨s,cu,ec,ls,jo⟩) (hs:sF ⟨s,cu,ec,ls,jo⟩):
 Calls Tryz.prog 167 #[.agg (fT cur y m p Ac n cc r0 r1 r2 r3 r4 r5 r6 r7 r8 r9 cw cA ey ct cz Ae ne ce).toArray,.agg (lH s cu Ec n2 c2 Al nl cl jo).toArray] w (ap w (.bool (dP ch (cY ⟨r0,r1,r2,r3,r4,r5,r6,r7,r8,r9,cw,cA,ey,ct,cz⟩) ⟨s,cu,ec,ls,jo⟩))):=by
 subst hN hE h2 h3;exact LV _ _ _ _ w hg hx hn hs.1 hs.2.1 hs.2.2.1 hs.2.2.2
theorem PP {cur:ByteArray} {y m p:Int} {Ac Ae:Option Addr} {cc ce n ne:Nat} {ch:List ah} {es:List aV} {r0 r1 r2 r3 r4 r5 r6 r7 r8 r9 cw cA ey ct cz:Int} (hN:ch.length=n) (hE:es.length=ne) {w:World} (hg:aL w (·<w.heap.size) (fT cur y m p Ac ch.length cc r0 r1 r2 r3 r4 r5 r6 r7 r8 r9 cw cA ey ct cz Ae es.length ce) ⟨cur,⟨y,m,p⟩,ch,⟨r0,r1,r2,r3,r4,r5,r6,r7,r8,r9,cw,cA,ey,ct,cz⟩,es⟩) (hn:ch.length<=1000) (hc:cur.size<=1000):Calls Tryz.prog 165 #[.agg (fT cur y m p Ac n cc r0 r1 r2 r3 r4 r5 r6 r7 r8 r9 cw cA ey ct cz Ae ne ce).toArray] w (ap w (.bool (cQ cur&&du y m p&&bR ch ⟨r0,r1,r2,r3,r4,r5,r6,r7,r8,r9,cw,cA,ey,ct,cz⟩))):=by
 subst hN hE;exact PO _ _ w hg hn hc
theorem PD {cur:ByteArray} {y m p:Int} {Ac Ae:Option Addr} {cc ce n ne:Nat} {ch:List ah} {es:List aV} {r0 r1 r2 r3 r4 r5 r6 r7 r8 r9 cw cA ey ct cz:Int} (hN:ch.length=n) (hE:es.length=ne) {w:World} (hg:aL w (·<w.heap.size) (fT cur y m p Ac ch.length cc r0 r1 r2 r3 r4 r5 r6 r7 r8 r9 cw cA ey ct cz Ae es.length ce) ⟨cur,⟨y,m,p⟩,ch,⟨r0,r1,r2,r3,r4,r5,r6,r7,r8,r9,cw,cA,ey,ct,cz⟩,es⟩) (hn:es.length<=1000) (nm:ByteArray) {q:Int} {qb:Bool} (hq:nU es nm=(q,qb)):Calls Tryz.prog 166 #[.agg (fT cur y m p Ac n cc r0 r1 r2 r3 r4 r5 r6 r7 r8 r9 cw cA ey ct cz Ae ne ce).toArray,nm] w (ap w (.tuple #[q,qb])):=by
 subst hN hE;have:=PB _ _ nm w hg hn;simp only[hq]at this;exact this
theorem Ak {ch:List ah} {L:List dp} {es:List aV} {i:Nat} {e:aV} (h:es[i]? =some e):mK ch L es i=(!((es.take i).any λx=>decide (x.name=e.name))&&dP ch L e):=by unfold mK;rw[h]
theorem Cf {g:au} (h:(cQ g.currency&&du g.calendar.year g.calendar.month g.calendar.periods&&bR g.chart g.roles)=false):bh g=false:=by unfold bh;rw[h];simp
theorem xW {g:au} (h:¬(1<=g.entities.length/\g.entities.length<=12)):bh g=false:=by unfold bh;rw[decide_eq_false h];simp
theorem Cg {g:au} {e:aV} (h:g.entities[0]? =some e) (hj:e.joint=true):bh g=false:=by unfold bh;rw[List.getD_eq_getElem?_getD,h,Option.getD_some,hj];simp
theorem xX {g:au} {k:Nat} (hk:k<g.entities.length) (h:mK g.chart (cY g.roles) g.entities k=false):bh g=false:=by unfold bh DX;rw[bt hk h];simp
theorem Hx {g:au} {e:aV} (h1:(cQ g.currency&&du g.calendar.year g.calendar.month g.calendar.periods&&bR g.chart g.roles)=true) (h4:1<=g.entities.length/\g.entities.length<=12) (h5:g.entities[0]? =some e) (hj:e.joint=false) (h:∀k,k<g.entities.length->mK g.chart (cY g.roles) g.entities k=true):bh g=true:=by
 unfold bh DX;rw[h1,decide_eq_true h4,List.getD_eq_getElem?_getD,h5,Option.getD_some,hj,bQ h];rfl
theorem PV (g:au) (cs:List Value) (w:World) (hg:aL w (·<w.heap.size) cs g) (ci:dQ g):Calls Tryz.prog 122 #[.agg cs.toArray] w (ap w (.bool (bh g))):=by
 obtain⟨r,hr⟩:=x_ (bh g);rw[hr];have HR:=H_ hr;have FP:=H_ hg;obtain⟨hn,zi,ft,Fk⟩:=ci;clear hr;obtain⟨Ac,cc,Ae,ce,rfl,ee,iu,eu,mD⟩:=hg.lit;clear hg;obtain⟨cur,⟨y,m,p⟩,ch,⟨r0,r1,r2,r3,r4,r5,r6,r7,r8,r9,cw,cA,ey,ct,cz⟩,es⟩:=g;simp only at ft zi Fk HR ee iu mD eu hn |-;have Z9:=H_ Fk;have rC:=H_ hn;have adM:=H_ zi;obtain⟨L,hL⟩:=x_ (jM r0 r1 r2 r3 r4 r5 r6 r7 r8 r9 cw cA ey ct cz);have CI:L.length=15:=by rw[<-hL];rfl
 have tU:=H_ hL;have Bw:=H_ CI;obtain⟨n,bj⟩:=x_ (ch.length);obtain⟨ne,bT⟩:=x_ (es.length);have HL:=H_ ee;have HN:=H_ bj;have HE:=H_ iu;have eP:=H_ bT;rw[bj,bT];rw[bj]at hn;clear hL CI ee iu bj bT eu;clear mD Fk zi;show Calls Tryz.prog 122 #[.agg #[cur,y,m,p,.slice Ac n cc,r0,r1,r2,r3,r4,r5,r6,r7,r8,r9,cw,cA,ey,ct,cz,.slice Ae ne ce]] w (ap w (.bool r));go_enter Tryz.func122,Tryz.ntmps122;go_upto_region 1 with fail;obtain⟨W,hW,H,HB,HS,ewx⟩:=B_ w (.cells #[cur,y,m,p,.slice Ac n cc,r0,r1,r2,r3,r4,r5,r6,r7,r8,r9,cw,cA,ey,ct,cz,.slice Ae ne ce] 29);rw[hW];clear ewx;clear hW;have tw:=H_ (dO (cs:=fT cur y m p Ac n cc r0 r1 r2 r3 r4 r5 r6 r7 r8 r9 cw cA ey ct cz Ae ne ce) H);have HH:=H_ H;have Fx:=H_ (PP HN.o eP.o (aL.keep FP.o HB) rC.o ft);clear H;obtain⟨v0,zL⟩:∃v,(cQ cur&&du y m p&&bR ch ⟨r0,r1,r2,r3,r4,r5,r6,r7,r8,r9,cw,cA,ey,ct,cz⟩)=v:=⟨_,rfl⟩;rw[zL]at Fx;have Mw:=H_ zL;clear zL;go_wp2_with (refine W_ 6 29 1 w.heap.size HH.o ay Tryz.underlying29 ?_);refine Fx.o.mono ?_;rintro e w4 ⟨rfl,bU⟩;have bD:=HB.trans (bU.mono HB.size);have yJ:=bU.size;cases v0 with
 |false=>
  have hf:=H_ (show r=false by rw[<-HR.o];exact Cf Mw.o);go_wp2_with fail;go_ret;exact⟨hf.o.symm▸rfl,bD⟩
 |true=>
 have G4:=(bU.block _ HS).trans HH.o;have f20:=ab G4 20;by_cases h1:ne<1
 case pos=>
  have CV:(ne:Int)<1:=by omega
  have hf:=H_ (show r=false by rw[<-HR.o];exact xW (λh=>by have:=h.1;have:=eP.o;simp only at*;omega));go_wp2_with fail;go_ret;exact⟨hf.o.symm▸rfl,bD⟩
 case neg=>
 have CV:¬(ne:Int)<1:=by omega
 by_cases h2:12<ne
 case pos=>
  have yX:12< (ne:Int):=by omega
  have hf:=H_ (show r=false by rw[<-HR.o];exact xW (λh=>by have:=h.2;have:=eP.o;simp only at*;omega));go_wp2_with fail;go_ret;exact⟨hf.o.symm▸rfl,bD⟩
 case neg=>
 have yX:¬12< (ne:Int):=by omega
 have zl:(0:Int)< (ne:Int):=by omega
 have Ng:0<es.length:=by rw[eP.o];omega
 obtain⟨b,o,dj,ed,kZ⟩:=aj.base HE.o (by omega);subst dj;obtain⟨es0,Nu,FD⟩:=kZ 0 Ng;have tM:=H_ kZ;obtain⟨Ec,c2,Al,cl,rfl,_,_⟩:=Nu.lit;obtain⟨x0,hx0⟩:=x_ (es[0]);rw[hx0]at FD;have YO:=H_ (show es[0]? =some x0 by rw[List.getElem?_eq_getElem Ng,hx0]);have j0:=(FD.fr (Fr.ofBelow bD)).c (j:=4) rfl;obtain⟨J,hJ⟩:=x_ (x0.joint);rw[hJ,Nat.zero_mul,Nat.add_zero]at j0;have HJ:=H_ hJ;clear Nu FD kZ hx0 hJ;cases J with
 |true=>
  have hf:=H_ (show r=false by rw[<-HR.o];exact Cg YO.o HJ.o);go_wp2_with fail;go_ret;exact⟨hf.o.symm▸rfl,bD⟩
 |false=>
 have iX:=H_ G4;have qy:=H_ ((tw.o.fr (Fr.ofBelow bU)).mono (Q':=(·<w4.heap.size)) (λk (hk:k<W.heap.size)=>by omega));clear G4;go_wp2_with fail
 go_loopw [3] (λi wr=>∃k:Nat,k<=ne/\i=.int .i64 (k:Int)/\Below w4.heap.size w4 wr/\∀j,j<k->mK ch (cY ⟨r0,r1,r2,r3,r4,r5,r6,r7,r8,r9,cw,cA,ey,ct,cz⟩) es j=true) (λi _=>ne- (intOf i).toNat)
 case atStart=>exact⟨0,by omega,rfl,Below.refl _ _,λj hj=>by omega⟩
 case round=>
  obtain⟨k,hk,rfl,hb,hall⟩:=hrel;have HA:=H_ hall;have bP:=hb.size;clear hall f20 j0;have el:=bD.trans (hb.mono bD.size);have GR:=(hb.block w.heap.size (by omega)).trans iX.o;have d20:=ab GR 20;clear GR;by_cases aU:k<ne
  case pos=>
   have bq:(k:Int)< (ne:Int):=by omega
   have bI:k<es.length:=by rw[eP.o];exact aU
   obtain⟨rz,bL,aS⟩:=tM.o k bI;obtain⟨Ec,c2,Al,cl,rfl,_,_⟩:=bL.lit;obtain⟨x,hx⟩:=x_ (es[k]);have yG:=Z9.o _ (List.getElem_mem bI);rw[hx]at bL aS yG;have HX:=H_ (show es[k]? =some x by rw[List.getElem?_eq_getElem bI,hx]);obtain⟨s,cu,ec,ls,jo⟩:=x;simp only at bL aS;have hE:=λ(w2:World) (hb:Below w.heap.size w w2)=>λ{n2 nl:Nat} (h2:ec.length=n2) (h3:ls.length=nl)=>LW HN.o eP.o (aL.keep FP.o hb) rC.o h2 h3 (aN.keep bL hb) yG
   have dt:=aS.fr (Fr.ofBelow el);obtain⟨n2,oO⟩:∃n,ec.length=n:=⟨_,rfl⟩;obtain⟨nl,bj⟩:∃n,ls.length=n:=⟨_,rfl⟩;rw[oO,bj]at dt;have K0:=H_ (show wr.cell? ⟨b,o+k*5,none⟩=some (.string s)from by have:=dt.c (j:=0) rfl;rwa[Nat.add_zero]at this);have adx:=H_ (dt.mono (Q':=(·<wr.heap.size)) (λk (hk:k<w.heap.size)=>by have:=el.size;omega));have Vj:=H_ (λ(w2:World) (hb:Below w.heap.size w w2)=>hE w2 hb oO bj);have go:=H_ el;have LTB:=H_ (show b<wr.heap.size by have h:b<w.heap.size:=ed;have:=el.size;omega);have LTG:=H_ (show w.heap.size<wr.heap.size by omega);have Nd:=H_ (show wr.cell? ⟨w.heap.size,20,none⟩=some (.slice (some ⟨b,o,none⟩) ne ce)from d20);have Dh:=H_ ((qy.o.fr (Fr.ofBelow hb)).mono (Q':=(·<wr.heap.size)) (λk (hk:k<w4.heap.size)=>by omega));obtain⟨qq,Ct⟩:∃q,nU es s=q:=⟨_,rfl⟩;obtain⟨q,qf⟩:=qq;have HFE:=H_ Ct;have iI:=H_ (Lm HX.o);clear bL aS dt hx hE yG oO bj Ct;go_upto_region 6 with fail;refine bp (Ks wr [.val (.agg (fT cur y m p Ac n cc r0 r1 r2 r3 r4 r5 r6 r7 r8 r9 cw cA ey ct cz (some ⟨b,o,none⟩) ne ce).toArray),.val (.pointer (some ⟨w.heap.size,20,none⟩)),.val (.slice (some ⟨b,o,none⟩) ne ce),(k:Int),.val (.pointer (some ⟨b,o+k*5,none⟩)),.val (.pointer (some ⟨b,o+k*5,none⟩)),s,.val (.tuple #[q,qf]),.val (.tuple #[q,qf]),q,qf,q,qf])
    (λw'=>Below wr.heap.size wr w') K_ K_ K_ (Below.refl _ _).drew ?_ ?_
   ·refine⟨?_,b_ (q_ 1),e_ (p_ 1 37) λ_ h=>l_ h LTG.o Nd.o,b_ (q_ 3),c_ (p_ 2 38) (p_ 3 39),b_ (p_ 4 40),e_ (p_ 5 41) (p:=⟨b,o+k*5,none⟩) λ_ h=>l_ h LTB.o K0.o,?_,b_ (p_ 7 43),b_ (p_ 8 35),b_ (p_ 8 35),b_ (p_ 9 44),b_ (p_ 10 45),trivial⟩
    ·refine O1_ (q_ 1) λA0 w2 K e0 hS hK=>?_;have aJ:w2.rangeAt w.heap.size 0 (fT cur y m p Ac n cc r0 r1 r2 r3 r4 r5 r6 r7 r8 r9 cw cA ey ct cz (some ⟨b,o,none⟩) ne ce):=(Dh.o.fr (Fr.ofBelow hS)).range;have aI:(Tryz.prog.info? 29).map (·.size)=some (fT cur y m p Ac n cc r0 r1 r2 r3 r4 r5 r6 r7 r8 r9 cw cA ey ct cz (some ⟨b,o,none⟩) ne ce).length:=ay;refine wp_load_mid 29 (.tmp 1) rfl _ _ (v_ e0) _ _ aJ Tryz.underlying29 rfl aI ?_;exact kq hK hS rfl
    ·refine O2_ (p_ 0 36) (p_ 6 42) λA0 w2 K e0 e1 hS hK=>?_;go_simp
     go_at_call 166
     refine(PD HN.o eP.o (aL.keep FP.o (go.o.trans (hS.mono go.o.size))) adM.o s HFE.o).mono ?_;rintro e w3 ⟨rfl,h3⟩;exact hK.out _ _ (hS.trans (h3.mono hS.size)) (Ks.of rfl rfl) (Ks.keep h3)
   ·intro _ A0 w2 hI hall;have hS:=hI.world;have c9:=hI.ch hall [36,37,38,39,40,41,42,43,35,44,45,4,5];obtain⟨x0,x1,x2,x3,x4,x5,x6,x7,x8,x9,dN,ef,fh,hA,hV⟩:=c9;obtain rfl:ef=.int .i64 q:=hV 11 _ _ rfl _ rfl;obtain rfl:fh=.bool qf:=hV 12 _ _ rfl _ rfl;clear hV hI hall;simp only[ba,List.foldl,List.setIfInBounds_toArray,List.set_cons_zero,List.set_cons_succ]at hA;rw[hA];clear hA;generalize w2=V at*;have hSV:=hS.size;have lU:=t_ go hS;have HWV:=H_ hS;have Bv:=H_ ((Dh.o.fr (Fr.ofBelow hS)).mono (Q':=(·<V.heap.size)) (λk (hk:k<wr.heap.size)=>by omega));have abN:=H_ ((adx.o.fr (Fr.ofBelow hS)).mono (Q':=(·<V.heap.size)) (λk (hk:k<wr.heap.size)=>by omega));have aaQ:=H_ (show w.heap.size<V.heap.size by omega);have abU:=H_ ((hS.cell (p:=⟨w.heap.size,20,none⟩) LTG.o).trans Nd.o);clear hS;by_cases hq:q=(k:Int)
    case neg=>
     have hf:=H_ (show r=false by
      rw[<-HR.o];refine xX bI ?_;rw[Ak HX.o];cases adw:(es.take k).any (λx=>decide (x.name=s))with
      |true=>rfl
      |false=>exact absurd (by have:=iI.o.2 adw;rw[HFE.o]at this;exact this) hq)
     have hq':(q !=(k:Int))=true:=by simpa using hq
     go_upto_region 7 with fail;refine bp (Ks V [q,(k:Int),true,true,undef,undef,undef,undef,undef,undef,undef,undef,true])
      (λw'=>Below V.heap.size V w') K_ K_ K_ (Below.refl _ _).drew ?_ ?_
     ·exact⟨b_ (q_ 4),b_ (q_ 3),c_ (p_ 0 46) (p_ 1 47),b_ (p_ 2 48),n_,n_,n_,n_,n_,n_,n_,n_,c_ (p_ 3 49) (p_ 11 57),trivial⟩
     ·intro _ A0 w2 hI hall;have hS:=hI.world;have c9:=hI.ch hall [46,47,48,49,50,51,52,53,54,55,56,57,58];obtain⟨x0,x1,x2,x3,x4,x5,x6,x7,x8,x9,dN,ef,fh,hA,hV⟩:=c9;obtain rfl:fh=.bool true:=hV 12 _ _ rfl _ rfl;clear hV hI hall;simp only[ba,List.foldl,List.setIfInBounds_toArray,List.set_cons_zero,List.set_cons_succ]at hA;rw[hA];clear hA;go_wp2_with fail;go_ret;exact⟨hf.o.symm▸rfl,lU.o.trans (hS.mono lU.o.size)⟩
    case pos=>
     have HAN:=H_ (show((es.take k).any λx=>decide (x.name=s))=false from iI.o.1 (by rw[HFE.o];exact hq));subst hq;obtain⟨v,hv⟩:=x_ (dP ch (cY ⟨r0,r1,r2,r3,r4,r5,r6,r7,r8,r9,cw,cA,ey,ct,cz⟩) ⟨s,cu,ec,ls,jo⟩);have gc:=H_ (show mK ch (cY ⟨r0,r1,r2,r3,r4,r5,r6,r7,r8,r9,cw,cA,ey,ct,cz⟩) es k=v by rw[Ak HX.o,hv,HAN.o];rfl);have HV:=H_ hv;clear hv;cases v with
     |false=>
      have hf:=H_ (show r=false by rw[<-HR.o];exact xX bI gc.o);go_upto_region 7 with fail;refine bp (Ks V [(k:Int),(k:Int),false,false,.val (.agg (fT cur y m p Ac n cc r0 r1 r2 r3 r4 r5 r6 r7 r8 r9 cw cA ey ct cz (some ⟨b,o,none⟩) ne ce).toArray),.val (.pointer (some ⟨w.heap.size,20,none⟩)),.val (.slice (some ⟨b,o,none⟩) ne ce),(k:Int),.val (.pointer (some ⟨b,o+k*5,none⟩)),.val (.agg (lH s cu Ec n2 c2 Al nl cl jo).toArray),false,true,true])
       (λw'=>Below V.heap.size V w') K_ K_ K_ (Below.refl _ _).drew ?_ ?_
      ·refine⟨b_ (q_ 4),b_ (q_ 3),c_ (p_ 0 46) (p_ 1 47),b_ (p_ 2 48),?_,f_ (q_ 1),h_ (p_ 5 51) λ_ h=>l_ h aaQ.o abU.o,f_ (q_ 3),g_ (p_ 6 52) (p_ 7 53),?_,?_,f_ (p_ 10 56),c_ (p_ 3 49) (p_ 11 57),trivial⟩
       ·refine P1_ (q_ 1) λA0 w2 K e0 hS hK=>?_;have aJ:w2.rangeAt w.heap.size 0 (fT cur y m p Ac n cc r0 r1 r2 r3 r4 r5 r6 r7 r8 r9 cw cA ey ct cz (some ⟨b,o,none⟩) ne ce):=(Bv.o.fr (Fr.ofBelow hS)).range;have aI:(Tryz.prog.info? 29).map (·.size)=some (fT cur y m p Ac n cc r0 r1 r2 r3 r4 r5 r6 r7 r8 r9 cw cA ey ct cz (some ⟨b,o,none⟩) ne ce).length:=ay;refine wp_load_mid 29 (.tmp 1) rfl _ _ (v_ e0) _ _ aJ Tryz.underlying29 rfl aI ?_;exact kq hK hS rfl
       ·refine P1_ (p_ 8 54) λA0 w2 K e0 hS hK=>?_;have aJ:w2.rangeAt b (o+k*5) (lH s cu Ec n2 c2 Al nl cl jo):=(abN.o.fr (Fr.ofBelow hS)).range;have aI:(Tryz.prog.info? 74).map (·.size)=some (lH s cu Ec n2 c2 Al nl cl jo).length:=cD;refine wp_load_mid 74 (.tmp 54) rfl _ _ (v_ e0) _ _ aJ Tryz.underlying74 rfl aI ?_;exact kq hK hS rfl
       ·refine P2_ (p_ 4 50) (p_ 9 55) λA0 w2 K e0 e1 hS hK=>?_;go_simp
        go_at_call 167
        refine(Vj.o w2 (lU.o.trans (hS.mono lU.o.size))).mono ?_;rintro e w3 ⟨rfl,h3⟩;exact hK.out _ _ (hS.trans (h3.mono hS.size)) (Ks.of rfl (congrArg Value.bool HV.o)) (Ks.keep h3)
      ·intro _ A0 w2 hI hall;have hS:=hI.world;have c9:=hI.ch hall [46,47,48,49,50,51,52,53,54,55,56,57,58];obtain⟨x0,x1,x2,x3,x4,x5,x6,x7,x8,x9,dN,ef,fh,hA,hV⟩:=c9;obtain rfl:fh=.bool true:=hV 12 _ _ rfl _ rfl;clear hV hI hall;simp only[ba,List.foldl,List.setIfInBounds_toArray,List.set_cons_zero,List.set_cons_succ]at hA;rw[hA];clear hA;go_wp2_with fail;go_ret;exact⟨hf.o.symm▸rfl,lU.o.trans (hS.mono lU.o.size)⟩
     |true=>
      go_upto_region 7 with fail;refine bp (Ks V [(k:Int),(k:Int),false,false,.val (.agg (fT cur y m p Ac n cc r0 r1 r2 r3 r4 r5 r6 r7 r8 r9 cw cA ey ct cz (some ⟨b,o,none⟩) ne ce).toArray),.val (.pointer (some ⟨w.heap.size,20,none⟩)),.val (.slice (some ⟨b,o,none⟩) ne ce),(k:Int),.val (.pointer (some ⟨b,o+k*5,none⟩)),.val (.agg (lH s cu Ec n2 c2 Al nl cl jo).toArray),true,false,false])
       (λw'=>Below V.heap.size V w') K_ K_ K_ (Below.refl _ _).drew ?_ ?_
      ·refine⟨b_ (q_ 4),b_ (q_ 3),c_ (p_ 0 46) (p_ 1 47),b_ (p_ 2 48),?_,f_ (q_ 1),h_ (p_ 5 51) λ_ h=>l_ h aaQ.o abU.o,f_ (q_ 3),g_ (p_ 6 52) (p_ 7 53),?_,?_,f_ (p_ 10 56),c_ (p_ 3 49) (p_ 11 57),trivial⟩
       ·refine P1_ (q_ 1) λA0 w2 K e0 hS hK=>?_;have aJ:w2.rangeAt w.heap.size 0 (fT cur y m p Ac n cc r0 r1 r2 r3 r4 r5 r6 r7 r8 r9 cw cA ey ct cz (some ⟨b,o,none⟩) ne ce):=(Bv.o.fr (Fr.ofBelow hS)).range;have aI:(Tryz.prog.info? 29).map (·.size)=some (fT cur y m p Ac n cc r0 r1 r2 r3 r4 r5 r6 r7 r8 r9 cw cA ey ct cz (some ⟨b,o,none⟩) ne ce).length:=ay;refine wp_load_mid 29 (.tmp 1) rfl _ _ (v_ e0) _ _ aJ Tryz.underlying29 rfl aI ?_;exact kq hK hS rfl
       ·refine P1_ (p_ 8 54) λA0 w2 K e0 hS hK=>?_;have aJ:w2.rangeAt b (o+k*5) (lH s cu Ec n2 c2 Al nl cl jo):=(abN.o.fr (Fr.ofBelow hS)).range;have aI:(Tryz.prog.info? 74).map (·.size)=some (lH s cu Ec n2 c2 Al nl cl jo).length:=cD;refine wp_load_mid 74 (.tmp 54) rfl _ _ (v_ e0) _ _ aJ Tryz.underlying74 rfl aI ?_;exact kq hK hS rfl
       ·refine P2_ (p_ 4 50) (p_ 9 55) λA0 w2 K e0 e1 hS hK=>?_;go_simp
        go_at_call 167
        refine(Vj.o w2 (lU.o.trans (hS.mono lU.o.size))).mono ?_;rintro e w3 ⟨rfl,h3⟩;exact hK.out _ _ (hS.trans (h3.mono hS.size)) (Ks.of rfl (congrArg Value.bool HV.o)) (Ks.keep h3)
      ·intro _ A0 w2 hI hall;have hS:=hI.world;have c9:=hI.ch hall [46,47,48,49,50,51,52,53,54,55,56,57,58];obtain⟨x0,x1,x2,x3,x4,x5,x6,x7,x8,x9,dN,ef,fh,hA,hV⟩:=c9;obtain rfl:fh=.bool false:=hV 12 _ _ rfl _ rfl;clear hV hI hall;simp only[ba,List.foldl,List.setIfInBounds_toArray,List.set_cons_zero,List.set_cons_succ]at hA;rw[hA];clear hA;go_wp2_with fail;go_roundw
       case rel=>exact⟨k+1,by omega,by go_num,hb.trans ((HWV.o.trans (hS.mono hSV)).mono bP),λi hi=>by
        rcases Nat.lt_or_ge i k with h|h
        ·exact HA.o i h
        ·have:i=k:=by omega
         subst this;exact gc.o⟩
       case measure=>first|exact aQ aU|(simp only[intOf];omega)
  case neg=>
   have bq:¬(k:Int)< (ne:Int):=by omega
   have hf:=H_ (show r=true by
    rw[<-HR.o];exact Hx Mw.o ⟨by have:=eP.o;simp only;omega,by have:=eP.o;simp only;omega⟩ YO.o HJ.o (λj hj=>HA.o j (by have:=eP.o;simp only at hj;omega)))
   go_wp2_with fail;go_ret;exact⟨hf.o.symm▸rfl,el⟩
abbrev lq (x:bW):List Value:=[.int .i64 x.ref.entry,.int .i64 x.ref.line,.int .i64 x.entity,.int .i64 x.account,.int .i64 x.partner,.int .i64 x.date,.int .i64 x.amount]
theorem je.lit {w:World} {Q:Nat->Prop} {cs:List Value} {x:bW} (h:je w Q cs x):cs=lq x:=by
 obtain⟨c0,c1,c2,c3,c4,c5,rfl,h0,⟨rfl,h1⟩,⟨rfl,h2⟩,⟨rfl,h3⟩,⟨rfl,h4⟩,⟨rfl,h5⟩⟩:=h;obtain⟨d0,d1,rfl,⟨rfl,_⟩,⟨rfl,_⟩⟩:=h0;rfl
theorem aP:(Tryz.prog.info? 42).map (·.size)=some 7:=by kernel_rfl
def sw (n:Int):Bool:=decide (-1000000000000<=n/\n<=1000000000000)
theorem S8 (n:Int) (w:World):Calls Tryz.prog 104 #[n] w (ap w (.bool (sw n))):=by
 by_cases h1: -1000000000000<=n
 case neg=>
  have hf:=H_ (show sw n=false from decide_eq_false (λh=>h1 h.1));rw[hf.o];go_enter Tryz.func104,Tryz.ntmps104;go_wp2_with fail;go_ret;exact⟨rfl,Below.refl _ _⟩
 case pos=>
 by_cases h2:n<=1000000000000
 case neg=>
  have hf:=H_ (show sw n=false from decide_eq_false (λh=>h2 h.2));rw[hf.o];go_enter Tryz.func104,Tryz.ntmps104;go_wp2_with fail;go_ret;exact⟨rfl,Below.refl _ _⟩
 case pos=>
  have hf:=H_ (show sw n=true from decide_eq_true ⟨h1,h2⟩);rw[hf.o];go_enter Tryz.func104,Tryz.ntmps104;go_wp2_with fail;go_ret;exact⟨rfl,Below.refl _ _⟩
theorem PF (n:Int) (w:World):Calls Tryz.prog 161 #[n] w (ap w (.bool (sw n))):=by
 by_cases h1: -1000000000000<=n
 case neg=>
  have hf:=H_ (show sw n=false from decide_eq_false (λh=>h1 h.1));rw[hf.o];go_enter Tryz.func161,Tryz.ntmps161;go_wp2_with fail;go_ret;exact⟨rfl,Below.refl _ _⟩
 case pos=>
 by_cases h2:n<=1000000000000
 case neg=>
  have hf:=H_ (show sw n=false from decide_eq_false (λh=>h2 h.2));rw[hf.o];go_enter Tryz.func161,Tryz.ntmps161;go_wp2_with fail;go_ret;exact⟨rfl,Below.refl _ _⟩
 case pos=>
  have hf:=H_ (show sw n=true from decide_eq_true ⟨h1,h2⟩);rw[hf.o];go_enter Tryz.func161,Tryz.ntmps161;go_wp2_with fail;go_ret;exact⟨rfl,Below.refl _ _⟩
def VL (w:World) (p:kF × Int) (e:Ending) (w':World):Prop:=∃A c,e=.returned (.tuple #[.agg #[p.1.kind,p.1.entity,p.1.other,p.1.rule,.slice A p.1.parts.length c],p.2])/\
 aj gL 2 w' (λk=>w.heap.size<=k/\k<w'.heap.size) [.slice A p.1.parts.length c] p.1.parts/\Below w.heap.size w w'
theorem VL.bad {w w':World} {e:Int} (hb:Below w.heap.size w w'):VL w ({},e) (.returned (.tuple #[.agg #[(),(),(),(),.slice none 0 0],e])) w':=⟨none,0,rfl,sr _ _ _ _,hb⟩
theorem EY {w:World} {g b:Nat} {x:Obj} {cs:Array Value} (h:w.heap[b]? =some x) (bT:b≠g):(w.setRow g cs).heap[b]? =some x:=((cC w g cs).block b bT).trans h
section
variable {P:Program} (w:World)
theorem Cl (base:Nat) (t ty e:TypeId) (i:TypeInfo) (size:Nat) (ht:P.underlying t=some (.slice e)) (hi:P.info? e=some i)
 (v:Value) (n:Nat) (xs:List Value) (bv:w.ownsRow base e size v n xs) (c:Nat):(Builtin.append_ #[t,t] ty #[v,.slice none 0 c]).run P w=.ok v w:=by
 rcases bv.2 with⟨rfl,rfl⟩|⟨g,cap,cur,rfl,_,_,Rc,_⟩
 ·simp[Builtin.append_,run_underlying ht,sizeOf,typeInfo,hi,Builtin.lenOf,Builtin.firstCells]
 ·simp[Builtin.append_,run_underlying ht,sizeOf,typeInfo,hi,Builtin.lenOf,Builtin.firstCells,Rc,storeCells]
theorem JF (base:Nat) (t ty e:TypeId) (i:TypeInfo) (z:Value) (size fF:Nat) (ht:P.underlying t=some (.slice e)) (hi:P.info? e=some i) (hz:i.zero=some z)
 (lf:i.size=size) (MM:i.bytes=fF) (Ns:z.cells.size=size) (bP:0<size)
 (v:Value) (n:Nat) (xs:List Value) (bv:w.ownsRow base e size v n xs)
 (Q:Nat->Prop) (A:Option Addr) (m c:Nat) (gd:List Value) (hr:Rd w Q A m size gd) (h1:∀u∈gd,u.oneCell'=true)
 (Mu:n+m<=maxLen) (jF:(n+m)*fF<=140737488355328) (jR:base<=w.heap.size):
 ∃v' w',(Builtin.append_ #[t,t] ty #[v,.slice A m c]).run P w=.ok v' w'/\w'.ownsRow base e size v' (n+m) (xs++gd)/\w.grownBy w' v.ownBlock/\
  (v'.ownBlock=v.ownBlock\/v'.ownBlock=some w.heap.size):=by
 rcases A with _|ad
 ·have hm:m=0:=by
   rcases Nat.eq_zero_or_pos m with h0|h0
   ·exact h0
   ·obtain⟨ad,h,_⟩:=hr.2 h0;cases h
  subst hm;have hn:gd=[]:=List.eq_nil_of_length_eq_zero (by simpa using hr.1);subst hn;exact⟨v,w,Cl w base t ty e i size ht hi v n xs bv c,by simpa using bv,World.grownBy.refl w _,.inl rfl⟩
 ·have V0:∀j u,gd[j]? =some u->w.cell? (ad.add j)=some u:=by
   intro j u hu;rcases Nat.eq_zero_or_pos m with h0|h0
   ·subst h0;have hn:gd=[]:=List.eq_nil_of_length_eq_zero (by simpa using hr.1);subst hn;simp at hu
   ·obtain⟨ad',h,hc⟩:=hr.2 h0
    injection h with h
    subst h;exact(hc.2 j u hu).1
  obtain⟨v',w',eC,h2,h3,_,h5⟩:=run_append_own_at (P:=P) w base t ty e i z size fF ht hi hz lf MM Ns bP v n xs bv ad m c gd hr.1 V0 h1 Mu jF jR;exact⟨v',w',eC,h2,h3,h5⟩
theorem Qs {o:Oper} {a:Act} {K:Act->World->Prop} {Q':Exit->Act->World->Prop} (s x:Operand) (t:TypeId)
 (ho:o.op=.call {callee:=.builtin .append,args:=#[s,x],argTypes:=#[t,t]})
 (base:Nat) (e:TypeId) (i:TypeInfo) (z:Value) (size fF:Nat) (ht:P.underlying t=some (.slice e)) (hi:P.info? e=some i) (hz:i.zero=some z)
 (lf:i.size=size) (MM:i.bytes=fF) (Ns:z.cells.size=size) (bP:0<size)
 (v:Value) (n:Nat) (xs:List Value) (hs:a.eval s=v) (bv:w.ownsRow base e size v n xs)
 (Q:Nat->Prop) (A:Option Addr) (m c:Nat) (gd:List Value) (hx:a.eval x=.slice A m c) (hr:Rd w Q A m size gd) (h1:∀u∈gd,u.oneCell'=true)
 (Mu:n+m<=maxLen) (jF:(n+m)*fF<=140737488355328) (jR:base<=w.heap.size)
 (h:∀v' w',w'.ownsRow base e size v' (n+m) (xs++gd)->w.grownBy w' v.ownBlock->(v'.ownBlock=v.ownBlock\/v'.ownBlock=some w.heap.size)->K (a.put o.dst v') w'):o.wp P a w K Q':=by
 obtain⟨v',w',eC,h2,h3,h4⟩:=JF (P:=P) w base t o.type e i z size fF ht hi hz lf MM Ns bP v n xs bv Q A m c gd hr h1 Mu jF jR;unfold Oper.wp execOp;simp only[ho,resolve,invoke,builtin,Sem.run_bind,Sem.run_pure,Result.andThen_ok,List.map_toArray,List.map_cons,List.map_nil,hs,hx,eC];exact h v' w' h2 h3 h4
theorem cq {ops:Array Oper} {rest:List Oper} {o:Oper} {a:Act} {Q':Exit->Act->World->Prop} (qE:o.guard=none) (s x:Operand) (t:TypeId)
 (ho:o.op=.call {callee:=.builtin .append,args:=#[s,x],argTypes:=#[t,t]})
 (base:Nat) (e:TypeId) (i:TypeInfo) (z:Value) (size fF:Nat) (ht:P.underlying t=some (.slice e)) (hi:P.info? e=some i) (hz:i.zero=some z)
 (lf:i.size=size) (MM:i.bytes=fF) (Ns:z.cells.size=size) (bP:0<size)
 (v:Value) (n:Nat) (xs:List Value) (hs:a.eval s=v) (bv:w.ownsRow base e size v n xs)
 (Q:Nat->Prop) (A:Option Addr) (m c:Nat) (gd:List Value) (hx:a.eval x=.slice A m c) (hr:Rd w Q A m size gd) (h1:∀u∈gd,u.oneCell'=true)
 (Mu:n+m<=maxLen) (jF:(n+m)*fF<=140737488355328) (jR:base<=w.heap.size)
 (h:∀v' w',w'.ownsRow base e size v' (n+m) (xs++gd)->w.grownBy w' v.ownBlock->(v'.ownBlock=v.ownBlock\/v'.ownBlock=some w.heap.size)->wpList P ops Q' rest (a.put o.dst v') w'):wpList P ops Q' (o::rest) a w:=
 wpList_plain qE λ_ hK=>Qs w s x t ho base e i z size fF ht hi hz lf MM Ns bP v n xs hs bv Q A m c gd hx hr h1 Mu jF jR λv' w' h2 h3 h4=>hK _ _ (h v' w' h2 h3 h4)
theorem Fa {ops:Array Oper} {o:Oper} {a:Act} {K:Act->World->Prop} {Q':Exit->Act->World->Prop} {E:Prop} (qE:o.guard=none) (s x:Operand) (t:TypeId)
 (ho:o.op=.call {callee:=.builtin .append,args:=#[s,x],argTypes:=#[t,t]})
 (base:Nat) (e:TypeId) (i:TypeInfo) (z:Value) (size fF:Nat) (ht:P.underlying t=some (.slice e)) (hi:P.info? e=some i) (hz:i.zero=some z)
 (lf:i.size=size) (MM:i.bytes=fF) (Ns:z.cells.size=size) (bP:0<size)
 (v:Value) (n:Nat) (xs:List Value) (hs:a.eval s=v) (bv:w.ownsRow base e size v n xs)
 (Q:Nat->Prop) (A:Option Addr) (m c:Nat) (gd:List Value) (hx:a.eval x=.slice A m c) (hr:Rd w Q A m size gd) (h1:∀u∈gd,u.oneCell'=true)
 (Mu:n+m<=maxLen) (jF:(n+m)*fF<=140737488355328) (jR:base<=w.heap.size)
 (h:∀v' w',w'.ownsRow base e size v' (n+m) (xs++gd)->w.grownBy w' v.ownBlock->(v'.ownBlock=v.ownBlock\/v'.ownBlock=some w.heap.size)->K (a.put o.dst v') w'):
 if Region.wanted o (yielded ops a.tmps)=true then Oper.wp P o a w K Q' else E:=by
 have hw:Region.wanted o (yielded ops a.tmps)=true:=by simp[Region.wanted,qE]
 rw[if_pos hw];exact Qs w s x t ho base e i z size fF ht hi hz lf MM Ns bP v n xs hs bv Q A m c gd hx hr h1 Mu jF jR h
end
theorem fq {w:World} {g n size:Nat} {T:TypeId} {xs:List Value} (h:w.heap[g]? =some (.cells xs.toArray T (0,0))) (hl:xs.length=n*size):Rd w (λ_=>True) (some ⟨g,0,none⟩) n size xs:=
 ⟨hl,λ_=>⟨⟨g,0,none⟩,rfl,(dO h).mono (λ_ _=>trivial)⟩⟩
theorem sA {α:Type} {El:World->(Nat->Prop)->List Value->α->Prop} {f:α->List Value} {sz:Nat} (hf:∀x,(f x).length=sz) {w:World} {Q:Nat->Prop} {base:Nat} {e:TypeId} {v:Value} {xs:List α} (h:w.ownsRow base e sz v xs.length (xs.flatMap f)) (hE:∀x∈xs,El w Q (f x) x) (hQ:∀g,v.ownBlock=some g->Q g) (hm:xs.length<=1000):aj El sz w Q [v] xs:=by
 rcases Nat.eq_zero_or_pos xs.length with h0|h0
 ·have hx:xs=[]:=List.eq_nil_of_length_eq_zero h0;subst hx;rcases h.2 with⟨rfl,_⟩|⟨g,cap,cur,rfl,_⟩
  ·exact sr _ _ _ _
  ·rename_i h2;exact⟨_,cap,rfl,by simp,h2.2.2.2.1,λh=>absurd h (by simp)⟩
 ·obtain⟨g,cap,rfl,h1,h2⟩:∃g cap,v=.slice (some ⟨g,0,none⟩) xs.length cap/\xs.length<=cap/\cap<=maxLen:=by
   rcases h.2 with⟨_,hz⟩|⟨g,cap,cur,hv,_,_,h3,h4,_⟩
   ·omega
   ·exact⟨g,cap,hv,h3,h4⟩
  refine⟨_,cap,rfl,h1,h2,λ_=>⟨g,0,rfl,hQ g rfl,λi x hx=>⟨f x,hE x (List.mem_of_getElem? hx),?_⟩⟩⟩;have aS:At w Q ⟨g,0,none⟩ (xs.flatMap f):=⟨hQ g rfl,λj u hu=>⟨h.cells (g:=g) rfl j u hu,kc h (g:=g) rfl j⟩⟩;have:=qU f hf xs 0 aS i x hx;exact this
theorem eT {P:Program} {fn:Func} {p:Tmp} {ty:TypeId} (h:fn.results=#[.cell p ty]) (tmps:Array Value) (w:World) (g:Nat) (T:TypeId) (cs:Array Value) (fr:Nat × Nat) (d:TypeDesc)
 (hp:tmps.getD p undef=.pointer (some ⟨g,0,none⟩)) (hg:w.heap[g]? =some (.cells cs T fr))
 (hu:P.underlying ty=some d) (hd:(match d with| .struct _| .array _ _=>true|_=>false)=true) (hi:(P.info? ty).map (·.size)=some cs.size):
 (results fn tmps).run P w=.ok (.agg cs) w:=by
 have hp':tmps[p]?.getD undef=.pointer (some ⟨g,0,none⟩):=by simpa using hp
 simp[results,h,hp',asAddr,run_loadVar_row w g T ty cs fr d hg hu hd hi]
theorem Qa (w:World):Calls Tryz.prog 75 #[] w (λe w'=>e=.returned (.agg #[(1500:Int),(1600:Int),(1700:Int),(1200:Int),(3100:Int),(3200:Int),(3300:Int),(3400:Int),(3500:Int),(4500:Int),(4600:Int),(4700:Int),(5500:Int),(5600:Int),(5700:Int)])/\Below w.heap.size w w'):=by
 go_enter Tryz.func75,Tryz.ntmps75;go_wp2_with fail;refine bodyPost_ret (v:=_) (eT rfl _ _ w.heap.size 26 _ (0,0) _ rfl (heap_alloc_new _ _) Tryz.underlying26 rfl (by rw[kI];rfl)) rfl ⟨rfl,(Below.refl _ _).alloc (Nat.le_refl _) _⟩
theorem si:(Tryz.prog.info? 78).map (λi=>(i.zero,i.size,i.bytes))=some (some (.agg #[(),(),(),()]),4,32):=by kernel_rfl
theorem pP:(Tryz.prog.info? 154).map (λi=>(i.zero,i.size,i.bytes))=some (some (.agg #[(),(),()]),3,24):=by kernel_rfl
theorem ie:Tryz.prog.underlying 24=some (.slice 78):=by kernel_rfl
theorem oD:Tryz.prog.underlying 72=some (.slice 154):=by kernel_rfl
theorem Le:∀k:Nat,k<14->dv[k]? =some ⟨10*((k:Int)+1),B5.getD k 0,0,0⟩:=by decide+kernel
theorem Lg:∀k:Nat,k<14->dw[k]? =some ⟨10*((k:Int)+1),TA.getD k 0,-25567⟩:=by decide+kernel
theorem bS {w:World} {base:Nat} {e:TypeId} {size n:Nat} {v:Value} {xs:List Value} (h:w.ownsRow base e size v n xs):∃A n c,v=.slice A n c:=by
 rcases h.2 with⟨rfl,_⟩|⟨g,cap,cur,rfl,_⟩
 ·exact⟨_,_,_,rfl⟩
 ·exact⟨_,_,_,rfl⟩
theorem cU {w w':World} {base:Nat} {e:TypeId} {size n:Nat} {v:Value} {xs:List Value} (h:w.ownsRow base e size v n xs) (hb:∀g,v.ownBlock=some g->w'.heap[g]? =w.heap[g]?):w'.ownsRow base e size v n xs:=by
 refine⟨h.1,?_⟩;rcases h.2 with h1|⟨g,cap,cur,rfl,h1,h2,h3⟩
 ·exact .inl h1
 ·exact .inr ⟨g,cap,cur,rfl,h1,(hb g rfl).trans h2,h3⟩
theorem Qu {k:Nat} (h:k<14):IntKind.i64.wrap (10*IntKind.i64.wrap ((k:Int)+1))=10*((k:Int)+1):=by
 rw[IntKind.wrap_i64,IntKind.wrap_i64];omega
theorem DW {W4 wr wb w2:World} {eb i n nB s sB:Nat} {e eB:TypeId} {vA vB v2:Value} {xs xsB:List Value} (heb:eb<W4.heap.size) (hF:Fr (QX W4.heap.size eb) W4 wr) (hwb:Below wr.heap.size wr wb) (hg:wb.grownBy w2 vA.ownBlock)
 (hA:∀g,vA.ownBlock=some g->W4.heap.size<=g) (hB:wr.ownsRow W4.heap.size eB sB vB nB xsB) (hN:∀g,vA.ownBlock=some g->vB.ownBlock≠some g) (aS:v2.ownBlock=vA.ownBlock\/v2.ownBlock=some wb.heap.size) (h2:w2.ownsRow W4.heap.size e s v2 n xs):
 (w2.setCell ⟨eb,i,none⟩ v2).ownsRow W4.heap.size e s v2 n xs/\(w2.setCell ⟨eb,i,none⟩ v2).ownsRow W4.heap.size eB sB vB nB xsB/\Fr (QX W4.heap.size eb) W4 (w2.setCell ⟨eb,i,none⟩ v2)/\(∀g,v2.ownBlock=some g->vB.ownBlock≠some g):=by
 refine⟨cU h2 (λg rG=>?_),cU hB (λg rG=>?_),?_,λg rG hb=>?_⟩
 ·have:=(h2.lt _ rG).1;exact Below.heap_setCell w2 ⟨eb,i,none⟩ v2 g (by show g≠eb;omega)
 ·have h3:=hB.lt _ rG;have bP:=hwb.size;rw[Below.heap_setCell w2 ⟨eb,i,none⟩ v2 g (by show g≠eb;omega),hg.block g (by omega) (λe=>hN g e.symm rG),hwb.block g (by omega)]
 ·have bP:=hF.size;refine Fr.setCell (((hF.trans ((Fr.ofBelow hwb).mono (λk hk=>by have:=hk.1;omega))).grown hg (λk hk=>hk.1) (λk hk hq=>?_))) (λh=>h.2 rfl) v2;have:=hA k hk;have:=hq.1;omega
 ·rcases aS with h|h
  ·exact hN g (h▸rG) hb
  ·rw[h]at rG
   injection rG with rG
   have:=(hB.lt _ hb).2;have:=hwb.size;omega
instance (n:Int):Decidable (am n):=by unfold am;infer_instance
theorem Lf:∀x∈dv,pG x:=by
 show ∀x∈dv,am x.code/\am x.kind/\am x.basis/\am x.parent
 decide+kernel
theorem Lh:∀x∈dw,mM x:=by
 show ∀x∈dw,am x.from_/\am x.to_/\am x.since
 decide+kernel
theorem tY {w:World} {Q:Nat->Prop} {x:ah} (h:pG x):ar w Q (bn x) x:=⟨[_],[_],[_],[_],rfl,⟨rfl,h.1⟩,⟨rfl,h.2.1⟩,⟨rfl,h.2.2.1⟩,⟨rfl,h.2.2.2⟩⟩
theorem En {w:World} {Q:Nat->Prop} {x:bu} (h:mM x):bJ w Q (eI x) x:=⟨[_],[_],[_],rfl,⟨rfl,h.1⟩,⟨rfl,h.2.1⟩,⟨rfl,h.2.2⟩⟩
theorem AX {α:Type} {f:α->List Value} {l:List α} {k:Nat} {x:α} (h:l[k]? =some x):(l.take (k+1)).flatMap f=(l.take k).flatMap f++f x:=by
 rw[List.take_add_one,h,List.flatMap_append];simp
theorem Md (nm cu:ByteArray) (w:World):Calls Tryz.prog 76 #[nm,cu] w (λe w'=>∃vs:List Value,e=.returned (.agg vs.toArray)/\aN w' (λk=>w.heap.size<=k/\k<w'.heap.size) vs (BN nm cu false)/\Below w.heap.size w w'):=by
 obtain⟨ia,oR,ge,gg,gh⟩:=info_parts si;obtain⟨il,hil,aea,acQ,ads⟩:=info_parts pP;go_enter Tryz.func76,Tryz.ntmps76;go_upto_region 4 with fail;have HZ:=heap_alloc_new w (.cells #[.string ⟨#[]⟩,.string ⟨#[]⟩,.slice none 0 0,.slice none 0 0,false] 74);have eb1:=ai w (.cells #[.string ⟨#[]⟩,.string ⟨#[]⟩,.slice none 0 0,.slice none 0 0,false] 74);have Nn:(w.alloc (.cells #[.string ⟨#[]⟩,.string ⟨#[]⟩,.slice none 0 0,.slice none 0 0,false] 74)).heap.size=w.heap.size+1:=by simp
 generalize w.alloc (Obj.cells #[.string ⟨#[]⟩,.string ⟨#[]⟩,.slice none 0 0,.slice none 0 0,false] 74)=W1 at*;have HT:=heap_alloc_new W1 (.cells #[(1010:Int),(1100:Int),(1200:Int),(1300:Int),(1500:Int),(2000:Int),(2100:Int),(3000:Int),(3300:Int),(4000:Int),(4100:Int),(4700:Int),(5000:Int),(5100:Int)] 3);have eb2:=ai W1 (.cells #[(1010:Int),(1100:Int),(1200:Int),(1300:Int),(1500:Int),(2000:Int),(2100:Int),(3000:Int),(3300:Int),(4000:Int),(4100:Int),(4700:Int),(5000:Int),(5100:Int)] 3);have RF:(W1.alloc (.cells #[(1010:Int),(1100:Int),(1200:Int),(1300:Int),(1500:Int),(2000:Int),(2100:Int),(3000:Int),(3300:Int),(4000:Int),(4100:Int),(4700:Int),(5000:Int),(5100:Int)] 3)).heap.size=W1.heap.size+1:=by simp
 replace HZ:=al HZ (Obj.cells #[(1010:Int),(1100:Int),(1200:Int),(1300:Int),(1500:Int),(2000:Int),(2100:Int),(3000:Int),(3300:Int),(4000:Int),(4100:Int),(4700:Int),(5000:Int),(5100:Int)] 3);generalize W1.alloc (Obj.cells #[(1010:Int),(1100:Int),(1200:Int),(1300:Int),(1500:Int),(2000:Int),(2100:Int),(3000:Int),(3300:Int),(4000:Int),(4100:Int),(4700:Int),(5000:Int),(5100:Int)] 3)=W2 at*;have HK:=heap_alloc_new W2 (.cells #[(1:Int),(1:Int),(1:Int),(1:Int),(1:Int),(2:Int),(2:Int),(3:Int),(3:Int),(4:Int),(4:Int),(4:Int),(5:Int),(5:Int)] 3);have eb3:=ai W2 (.cells #[(1:Int),(1:Int),(1:Int),(1:Int),(1:Int),(2:Int),(2:Int),(3:Int),(3:Int),(4:Int),(4:Int),(4:Int),(5:Int),(5:Int)] 3);have YK:(W2.alloc (.cells #[(1:Int),(1:Int),(1:Int),(1:Int),(1:Int),(2:Int),(2:Int),(3:Int),(3:Int),(4:Int),(4:Int),(4:Int),(5:Int),(5:Int)] 3)).heap.size=W2.heap.size+1:=by simp
 replace HZ:=al HZ (Obj.cells #[(1:Int),(1:Int),(1:Int),(1:Int),(1:Int),(2:Int),(2:Int),(3:Int),(3:Int),(4:Int),(4:Int),(4:Int),(5:Int),(5:Int)] 3);replace HT:=al HT (Obj.cells #[(1:Int),(1:Int),(1:Int),(1:Int),(1:Int),(2:Int),(2:Int),(3:Int),(3:Int),(4:Int),(4:Int),(4:Int),(5:Int),(5:Int)] 3);generalize W2.alloc (Obj.cells #[(1:Int),(1:Int),(1:Int),(1:Int),(1:Int),(2:Int),(2:Int),(3:Int),(3:Int),(4:Int),(4:Int),(4:Int),(5:Int),(5:Int)] 3)=W3 at*;have HE:=heap_alloc_new W3 (.cells #[nm,cu,.slice none 0 0,.slice none 0 0,false] 74);have eb4:=ai W3 (.cells #[nm,cu,.slice none 0 0,.slice none 0 0,false] 74);have ez4:(W3.alloc (.cells #[nm,cu,.slice none 0 0,.slice none 0 0,false] 74)).heap.size=W3.heap.size+1:=by simp
 replace HZ:=al HZ (Obj.cells #[nm,cu,.slice none 0 0,.slice none 0 0,false] 74);replace HT:=al HT (Obj.cells #[nm,cu,.slice none 0 0,.slice none 0 0,false] 74);replace HK:=al HK (Obj.cells #[nm,cu,.slice none 0 0,.slice none 0 0,false] 74);generalize W3.alloc (Obj.cells #[nm,cu,.slice none 0 0,.slice none 0 0,false] 74)=W4 at*;rw[Nn]at HT;rw[RF,Nn]at HK;rw[YK,RF,Nn]at HE;have bU:Below w.heap.size w W4:=eb1.trans ((eb2.mono (by omega)).trans ((eb3.mono (by omega)).trans (eb4.mono (by omega))));have hz4:W4.heap.size=w.heap.size+4:=by omega
 have HZ':=H_ HZ;have HTO:=H_ (show W4.heap[w.heap.size+1]? =some (.cells (iv TA).toArray 3 (0,0))from HT);have HKI:=H_ (show W4.heap[w.heap.size+1+1]? =some (.cells (iv B5).toArray 3 (0,0))from HK);have HE':=H_ HE;have kX:=H_ hz4;clear HZ HT HK HE Nn RF YK ez4 eb1 eb2 eb3 eb4 hz4;go_wp2_with fail
 go_loopw [8] (λi wr=>∃(k:Nat) (vC vL:Value),k<=14/\i=.int .i64 (k:Int)/\Fr (QX W4.heap.size (w.heap.size+1+1+1)) W4 wr/\wr.heap[w.heap.size+1+1+1]? =some (.cells #[nm,cu,vC,vL,false] 74 (0,0))/\wr.ownsRow W4.heap.size 78 4 vC k ((dv.take k).flatMap bn)/\wr.ownsRow W4.heap.size 154 3 vL k ((dw.take k).flatMap eI)/\(∀g,vC.ownBlock=some g->vL.ownBlock≠some g)) (λi _=>14- (intOf i).toNat)
 case atStart=>exact⟨0,_,_,by omega,rfl,Fr.refl _ _,HE'.o,World.ownsRow_nil _ _ _ _,World.ownsRow_nil _ _ _ _,λg h=>by cases h⟩
 case round=>
  obtain⟨k,vC,vL,hk,rfl,lM,hE,hoC,hoL,bT⟩:=hrel;have HF:=H_ lM;have bP:=lM.size;have Z1:=H_ hE;have HOC:=H_ hoC;have HOL:=H_ hoL;have eP:=H_ bT;clear lM hE hoC hoL bT;by_cases aU:k<14
  case pos=>
   have bq:(k:Int)<14:=by omega
   obtain⟨K1,TL⟩:∃x,B5.getD k 0=x:=⟨_,rfl⟩;obtain⟨K2,MY⟩:∃x,TA.getD k 0=x:=⟨_,rfl⟩;have hkc:wr.cell? ⟨w.heap.size+1+1,k,none⟩=some (.int .i64 K1):=by
    rw[(HF.o.cell (p:=⟨w.heap.size+1+1,k,none⟩) ⟨by have:=kX.o;show w.heap.size+1+1<_;omega,by show w.heap.size+1+1≠_;omega⟩),ab HKI.o k];rw[<-TL];simp only[iv,List.map_toArray,List.getElem?_toArray,List.getElem?_map,List.getD_eq_getElem?_getD];rw[List.getElem?_eq_getElem (show k<B5.length from aU)];rfl
   have htc:wr.cell? ⟨w.heap.size+1,k,none⟩=some (.int .i64 K2):=by
    rw[(HF.o.cell (p:=⟨w.heap.size+1,k,none⟩) ⟨by have:=kX.o;show w.heap.size+1<_;omega,by show w.heap.size+1≠_;omega⟩),ab HTO.o k];rw[<-MY];simp only[iv,List.map_toArray,List.getElem?_toArray,List.getElem?_map,List.getD_eq_getElem?_getD];rw[List.getElem?_eq_getElem (show k<TA.length from aU)];rfl
   have HA:=H_ (AX (f:=bn) (Le k aU));have HL:=H_ (AX (f:=eI) (Lg k aU));rw[TL]at HA;rw[MY]at HL;have c2:=ab Z1.o 2;have c3:=ab Z1.o 3;have c2A:∀o:Obj,(wr.alloc o).cell? ⟨w.heap.size+1+1+1,2,none⟩=some vC:=λo=>ab (al Z1.o o) 2
   have hkA:∀o:Obj,(wr.alloc o).cell? ⟨w.heap.size+1+1,k,none⟩=some (.int .i64 K1):=λo=>((ai wr o).cell (p:=⟨w.heap.size+1+1,k,none⟩) (by have:=kX.o;show w.heap.size+1+1<_;omega)).trans hkc
   have HKC:=H_ hkc;have HTC:=H_ htc;clear TL MY;have NEC:=H_ (show some (w.heap.size+1+1+1)≠vC.ownBlock from λe=>by have:=(HOC.o.lt _ e.symm).1;have:=kX.o;omega);have NEL:=H_ (show some (w.heap.size+1+1+1)≠vL.ownBlock from λe=>by have:=(HOL.o.lt _ e.symm).1;have:=kX.o;omega);have hnm:=kX.o;go_upto_region 7 with fail
   go_cut [31]from 20 to 32 (λv wx=>∃A2 n2 Mx,v=.slice A2 n2 Mx/\wx.heap[w.heap.size+1+1+1]? =some (.cells #[nm,cu,.slice A2 n2 Mx,vL,false] 74 (0,0))/\wx.ownsRow W4.heap.size 78 4 (.slice A2 n2 Mx) (k+1) ((dv.take (k+1)).flatMap bn)/\wx.ownsRow W4.heap.size 154 3 vL k ((dw.take k).flatMap eI)/\Fr (QX W4.heap.size (w.heap.size+1+1+1)) W4 wx/\(∀g,(Value.slice A2 n2 Mx).ownBlock=some g->vL.ownBlock≠some g))
   case first=>
    go_region_law (refine Fa _ (by rfl) _ _ 24 (by rfl) W4.heap.size 78 ia _ 4 32 ie oR ge gg gh rfl (by decide) vC k ((dv.take k).flatMap bn) (by rfl) (by exact(bb HOC.o (((Below.refl _ _).alloc (Nat.le_refl _) _).drew))) (λ_=>True) (some ⟨_,0,none⟩) 1 1 [(IntKind.i64.wrap (10*IntKind.i64.wrap ((k:Int)+1))),K1,(),()] (by rfl) (by exact fq (w:=World.drew (wr.alloc _)) (heap_alloc_new wr _) rfl) (by simp[Value.oneCell']) (by unfold maxLen;omega) (by omega) (by simp;omega) ?_;intro v2 w2 Do hg2 dt;obtain⟨A2,n2,Mx,rfl⟩:=bS Do;have Nj:=(hg2.block (w.heap.size+1+1+1) (ag (al Z1.o _)) NEC.o).trans (al Z1.o _);have gn:=ab Nj 2;have jC:=bB Nj 2)
    all_goals (go_wp2_with fail)
    all_goals go_meet
    all_goals (obtain⟨h1,h2,h3,h4⟩:=DW (i:=2) (by have:=kX.o;omega) HF.o (((Below.refl _ _).alloc (Nat.le_refl _) _).drew) hg2 (λg h=>(HOC.o.lt _ h).1) HOL.o eP.o dt Do;rw[Qu aU,<-HA.o]at h1;exact⟨_,_,_,rfl,aG Nj 2 _,h1,h2,h3,h4⟩)
   case rest=>
    obtain⟨A2,n2,Mx,rfl,hE,hoC,hoL,lM,bT⟩:=hcut;have HEC:=H_ hE;have acS:=H_ hoC;have aaF:=H_ hoL;have ny:=H_ lM;have Oj:=H_ bT;have c3:=ab hE 3;have hsc:=lM.size;clear hE hoC hoL lM bT c2A hkA c2;have ad9:wc.cell? ⟨w.heap.size+1,k,none⟩=some (.int .i64 K2):=
     (ny.o.cell (p:=⟨w.heap.size+1,k,none⟩) ⟨by have:=kX.o;show w.heap.size+1<_;omega,by show w.heap.size+1≠_;omega⟩).trans ((HF.o.cell (p:=⟨w.heap.size+1,k,none⟩) ⟨by have:=kX.o;show w.heap.size+1<_;omega,by show w.heap.size+1≠_;omega⟩).symm.trans HTC.o)
    have c3A:∀o:Obj,(wc.alloc o).cell? ⟨w.heap.size+1+1+1,3,none⟩=some vL:=λo=>ab (al HEC.o o) 3
    have htA:∀o:Obj,(wc.alloc o).cell? ⟨w.heap.size+1,k,none⟩=some (.int .i64 K2):=λo=>((ai wc o).cell (p:=⟨w.heap.size+1,k,none⟩) (by have:=kX.o;show w.heap.size+1<_;omega)).trans ad9
    go_upto_region 8 with fail
    go_region_law (refine Fa _ (by rfl) _ _ 72 (by rfl) W4.heap.size 154 il _ 3 24 oD hil aea acQ ads rfl (by decide) vL k ((dw.take k).flatMap eI) (by rfl) (by exact(bb aaF.o (((Below.refl _ _).alloc (Nat.le_refl _) _).drew))) (λ_=>True) (some ⟨_,0,none⟩) 1 1 [(IntKind.i64.wrap (10*IntKind.i64.wrap ((k:Int)+1))),K2,(-25567:Int)] (by rfl) (by exact fq (w:=World.drew (wc.alloc _)) (heap_alloc_new wc _) rfl) (by simp[Value.oneCell']) (by unfold maxLen;omega) (by omega) (by simp;omega) ?_;intro v2 w2 Do hg2 dt;obtain⟨A3,n3,cc3,rfl⟩:=bS Do;have Nj:=(hg2.block (w.heap.size+1+1+1) (ag (al HEC.o _)) NEL.o).trans (al HEC.o _);have gn:=ab Nj 3;have jC:=bB Nj 3)
    all_goals (go_wp2_with fail)
    all_goals (
     go_roundw
     case rel=>
      obtain⟨h1,h2,h3,h4⟩:=DW (i:=3) (by have:=kX.o;omega) ny.o (((Below.refl _ _).alloc (Nat.le_refl _) _).drew) hg2 (λg h=>(aaF.o.lt _ h).1) acS.o (λg h h'=>Oj.o g h' h) dt Do;rw[Qu aU,<-HL.o]at h1;exact⟨k+1,_,_,by omega,by go_num,h3,aG Nj 3 _,h2,h1,λg h h'=>h4 g h' h⟩
     case measure=>first|exact aQ aU|(simp only[intOf];omega))
  case neg=>
   have bq:¬(k:Int)<14:=by omega
   have YL:k=14:=by omega
   have Xm:=H_ (show wr.ownsRow W4.heap.size 78 4 vC dv.length (dv.flatMap bn) by have h:=HOC.o;rw[YL]at h;exact h);have Yu:=H_ (show wr.ownsRow W4.heap.size 154 3 vL dw.length (dw.flatMap eI) by have h:=HOL.o;rw[YL]at h;exact h);clear YL;have QW:=H_ ((HF.o.block w.heap.size ⟨by have:=kX.o;omega,by omega⟩).trans HZ'.o);have LTR:=ag QW.o;go_wp2_with (first|(refine W_ 46 74 7 (w.heap.size+1+1+1) Z1.o cD Tryz.underlying74 ?_)|(show wpList _ _ _ (Oper.mk none (Op.store _ (Operand.tmp 4) _) _ _ _ _::_) _ _;refine wpList_store_row rfl 74 (.tmp 4) (.tmp 46) rfl w.heap.size #[nm,cu,vC,vL,false] rfl rfl 74 #[.string ⟨#[]⟩,.string ⟨#[]⟩,.slice none 0 0,.slice none 0 0,false] QW.o cD rfl (by obtain⟨_,_,_,rfl⟩:=bS Xm.o;obtain⟨_,_,_,rfl⟩:=bS Yu.o;simp[Value.oneCell']) ?_));refine bodyPost_ret (v:=_) (eT rfl _ _ w.heap.size 74 _ (0,0) _ rfl (aB QW.o _) Tryz.underlying74 rfl cD) rfl ?_;have hsz':=HF.o.size;have hz:=kX.o;have kT:Below w.heap.size w (wr.setRow w.heap.size #[nm,cu,vC,vL,false]):=aD (((Fr.ofBelow bU).trans (HF.o.mono (λk (hk:k<w.heap.size)=>⟨by omega,by omega⟩))).below) (Nat.le_refl _) _;have hsr:(wr.setRow w.heap.size #[nm,cu,vC,vL,false]).heap.size=wr.heap.size:=by simp
   have o1:=cU (w':=wr.setRow w.heap.size #[nm,cu,vC,vL,false]) Xm.o (λg hg=>(cC wr w.heap.size _).block g (by have:=(Xm.o.lt _ hg).1;show g≠_;omega));have o2:=cU (w':=wr.setRow w.heap.size #[nm,cu,vC,vL,false]) Yu.o (λg hg=>(cC wr w.heap.size _).block g (by have:=(Yu.o.lt _ hg).1;show g≠_;omega));have l1:=sA (El:=ar) (f:=bn) (λ_=>rfl) o1 (Q:=λk=>w.heap.size<=k/\k< (wr.setRow w.heap.size #[nm,cu,vC,vL,false]).heap.size) (λx hx=>tY (Lf x hx)) (λg hg=>by have:=o1.lt _ hg;omega) (by decide);have l2:=sA (El:=bJ) (f:=eI) (λ_=>rfl) o2 (Q:=λk=>w.heap.size<=k/\k< (wr.setRow w.heap.size #[nm,cu,vC,vL,false]).heap.size) (λx hx=>En (Lh x hx)) (λg hg=>by have:=o2.lt _ hg;omega) (by decide);exact⟨[.string nm,.string cu,vC,vL,.bool false],rfl,⟨[_],[_],[_],[_],[_],rfl,rfl,rfl,l1,l2,rfl⟩,kT⟩
end Go.Proofs.YtibiddakakgakaaGreat
