/- The accounts, the date and the sum of an entry. Written by gen_e5.py. -/
import Derived.Test.YtibiddakakgakaaGreatQdB33
import Derived.Test.YtibiddakakgakaaGreatQdC4E3
import Derived.WideKeyEntry
import Derived.Maps.RangeWalk
import Derived.Sort.Grow
import Derived.Shelf.SlSortCmp.WholeK
import Derived.Shelf.SlSortCmp.NoneTotal
import Derived.IntWalk
set_option linter.unusedVariables false
set_option linter.unusedSimpArgs false
set_option maxRecDepth 4000
attribute [local go_sem ↓] Go.wp_at_zero Go.wp_at_succ
set_option maxHeartbeats 16000000
namespace Go.Proofs.YtibiddakakgakaaGreat
section
open Go Go.RowKit
theorem aL.view {w:World} {Q:Nat->Prop} {cs:List Value} {g:au} (h:aL w Q cs g):∃Ac cc Ae ce,cs.length=21/\cs[20]? =some (.slice Ae g.entities.length ce)/\cs[4]? =some (.slice Ac g.chart.length cc)/\
 cs[1]? =some (.int .i64 g.calendar.year)/\cs[2]? =some (.int .i64 g.calendar.month)/\cs[3]? =some (.int .i64 g.calendar.periods)/\aj ar 4 w Q [.slice Ac g.chart.length cc] g.chart/\aj aN 5 w Q [.slice Ae g.entities.length ce] g.entities:=by
 have hl:=h.len;obtain⟨Ac,cc,Ae,ce,e,h1,h2,_⟩:=h.lit;subst e;exact⟨Ac,cc,Ae,ce,hl,rfl,rfl,rfl,rfl,rfl,h1,h2⟩
def dY (ch:List ah) (ls:List bG):Bool:=ls.all (λl=>(aK ch l.account).isSome)
theorem vS {ch:List ah} {ls:List bG} {x:bG} (hx:x∈ls) (h:(aK ch x.account).isSome=false):dY ch ls=false:=by
 unfold dY;rw[List.all_eq_false];exact⟨x,hx,by rw[h];decide⟩
theorem KX (g:au) (gl:List Value) (q:Nat) (xi xd xk xo:Int) (xt:ByteArray) (ls:List bG) (Al:Option Addr) (cl:Nat) (w:World) (hg:aL w (·<w.heap.size) gl g) (ci:dQ g) (hq:q<g.entities.length) (hl:aj bc 3 w (·<w.heap.size) [.slice Al ls.length cl] ls) (lP:ls.length<=40):Calls Tryz.prog 192 #[.agg gl.toArray,.agg #[xi,(q:Int),xd,xk,xo,xt,.slice Al ls.length cl]] w (ap w (.int .i64 (if dY g.entities[q].chart ls=true then 0 else 17))):=by
 obtain⟨r,hr⟩:=x_ (dY g.entities[q].chart ls);rw[hr];obtain⟨Ac,cc,Ae,ce,Gs,LE,_,_,_,_,_,iu⟩:=hg.view;obtain⟨be,oe,es,dj,oQ,bL,aS⟩:=aj.get iu q hq;subst dj;obtain⟨Ec,c2,Cu,Kb,bE,ee,_⟩:=aN.lit bL;have oO:=(ci.2.2.2 _ (List.getElem_mem hq)).1;obtain⟨ec,sN⟩:=x_ (g.entities[q].chart);rw[sN]at hr bE ee oO;obtain⟨n2,Gc⟩:∃n,ec.length=n:=⟨_,rfl⟩;rw[Gc]at bE;subst bE;obtain⟨ne,bT⟩:∃n,g.entities.length=n:=⟨_,rfl⟩;rw[bT]at LE hq;have zi:ne<=1000:=by rw[<-bT];exact ci.2.1
 have HR:=H_ hr;have rN:=H_ Gc;have HN3:=H_ oO;have Ow:=H_ ee;have HDE:=H_ (aS.c (j:=2) rfl);have Gf:=H_ oQ;have HL:=H_ hl;obtain⟨nl,bj⟩:∃n,ls.length=n:=⟨_,rfl⟩;have HN:=H_ bj;have Z8:nl<=40:=by rw[<-bj];exact lP
 rw[bj];have rU:=H_ (show gl.toArray[20]? =some (.slice (some ⟨be,oe,none⟩) ne ce) by simpa using LE);have fu:=H_ (show gl.toArray.size=21 by simpa using Gs);clear hr Gc oO ee aS oQ hl bj LE Gs iu bL bT sN lP ci hg;obtain⟨R,hR⟩:=x_ ((if r=true then(0:Int)else 17));rw[hR];have HE:=H_ hR.symm;clear hR;go_enter Tryz.func192,Tryz.ntmps192;go_upto_region 1 with fail;obtain⟨W,hW,H,HB,HS,ewx⟩:=B_ w (.cells gl.toArray 29);rw[hW];clear ewx;obtain⟨W2,fR,H2,dz,jK,ewx⟩:=B_ W (.cells #[xi,(q:Int),xd,xk,xo,xt,.slice Al nl cl] 51);rw[fR];replace H:=(dz.block _ (ag H)).trans H;clear ewx;clear fR;have eW:W.heap.size=w.heap.size+1:=by rw[<-hW];simp
 rw[eW]at H2;clear hW;have aH:=HB.trans (dz.mono HB.size);have dW:=dz.size;have lV:=ag H2;have nf:w.heap.size<W2.heap.size:=by omega
 have HH:=H_ H;have HZ:=H_ H2;have EW:=H_ eW;clear H H2 eW;have e6:=ab HZ.o 6;go_wp2_with fail;clear e6
 go_loopw [12] (λi wr=>∃k:Nat,k<=nl/\i=.int .i64 (k:Int)/\Below W2.heap.size W2 wr/\∀j (hj:j<ls.length),j<k->(aK ec ls[j].account).isSome=true) (λi _=>nl- (intOf i).toNat)
 case atStart=>exact⟨0,by omega,rfl,Below.refl _ _,λj hj h=>by omega⟩
 case round=>
  obtain⟨k,Fi,rfl,hb,hall⟩:=hrel;have HA:=H_ hall;clear hall;by_cases aU:k<nl
  case pos=>
   have bq:(k:Int)< (nl:Int):=by omega
   have bI:k<ls.length:=by rw[HN.o];exact aU
   obtain⟨b,o,es,dj,ed,bL,aS⟩:=aj.get HL.o k bI;subst dj;have bE:=(bc.lit bL).1;have jE:=(bc.lit bL).2;rw[bE]at aS;have ld:=H_ (List.getElem_mem bI);obtain⟨x,hx⟩:=x_ (ls[k]);rw[hx]at aS jE ld;have HX:=H_ hx;obtain⟨la,lm,lp⟩:=x
   try simp only at aS
   have vw:=H_ (show cx la from jE.1);have lY:=(aS.fr (Fr.ofBelow aH)).fr (Fr.ofBelow (hb.mono aH.size));have J3:=(hb.block _ nf).trans HH.o;have Cw:=(hb.block _ lV).trans HZ.o;have abW:=H_ (Nat.lt_of_lt_of_le nf hb.size);have aaj:=H_ (Nat.lt_of_lt_of_le lV hb.size);have rV:=aH.trans (hb.mono aH.size);obtain⟨ao,hao⟩:∃a,gH (aK ec la)=a:=⟨_,rfl⟩;obtain⟨p1,p2,p3,p4⟩:=ao;have Bm:=H_ hao;obtain⟨fs,hfs⟩:∃s,(aK ec la).isSome=s:=⟨_,rfl⟩;have Sg:=H_ hfs;clear hao hfs;have eZ:=H_ lY.range;have abb:=(rV.cell (p:=⟨be,oe+q*5+2,none⟩) Gf.o).trans HDE.o;clear bL bE aS lY hx jE;go_upto_region 4 with(refine w_ 15 60 14 b (o+k*3) [la,lm,lp] eZ.o cK Tryz.underlying60 ?_);obtain⟨W6,mC,H6,dK,my,ewx⟩:=B_ wr (.cells #[la,lm,lp] 60);rw[mC];clear ewx;clear mC;have C0:=H_ (ab H6 0);clear H6;have go:=H_ (rV.trans (dK.mono rV.size));have Mw:=H_ (Nat.lt_of_lt_of_le abW.o dK.size);have vo:=H_ (Nat.lt_of_lt_of_le aaj.o dK.size);have HVE:=H_ (show be<W6.heap.size by have:=go.o.size;have:=Gf.o;omega);have Nd:=H_ ((dK.cell (p:=⟨w.heap.size,20,none⟩) abW.o).trans ((ab J3 20).trans rU.o));have D1:=H_ ((dK.cell (p:=⟨w.heap.size+1,1,none⟩) aaj.o).trans (ab Cw 1));have DE:=H_ ((dK.cell (p:=⟨be,oe+q*5+2,none⟩) (show be<wr.heap.size by have:=rV.size;have:=Gf.o;omega)).trans abb);have dd:=hb.trans (dK.mono hb.size);clear J3 Cw abb;have IR:(q:Int)< (ne:Int):=by omega
   cases fs with
   |false=>
    have hf:=H_ (show r=false from HR.o.symm.trans (vS ld.o Sg.o));refine cV 14 (λi=>i==12) (Ks W6 [.val (.pointer (some ⟨w.heap.size,20,none⟩)),.val (.slice (some ⟨be,oe,none⟩) ne ce),.val (.pointer (some ⟨(w.heap.size+1),1,none⟩)),(q:Int),.val (.pointer (some ⟨be,oe+q*5,none⟩)),.val (.pointer (some ⟨be,oe+q*5+2,none⟩)),.val (.slice Ec n2 c2),.val (.pointer (some ⟨wr.heap.size,0,none⟩)),la,.val (.tuple #[.agg #[p1,p2,p3,p4],false]),.val (.tuple #[.agg #[p1,p2,p3,p4],false]),.val (.agg #[p1,p2,p3,p4]),false,.own (cM W6 #[.int .i64 0,.int .i64 0,.int .i64 0,.int .i64 0] 78) (cM.keep _ _ _)])
     (λw'=>Below W6.heap.size W6 w') (Ks W6 [.val (.pointer (some ⟨w.heap.size,20,none⟩)),.val (.slice (some ⟨be,oe,none⟩) ne ce),.val (.pointer (some ⟨(w.heap.size+1),1,none⟩)),(q:Int),.val (.pointer (some ⟨be,oe+q*5,none⟩)),.val (.pointer (some ⟨be,oe+q*5+2,none⟩)),.val (.slice Ec n2 c2),.val (.pointer (some ⟨wr.heap.size,0,none⟩)),la,.val (.tuple #[.agg #[p1,p2,p3,p4],false]),.val (.tuple #[.agg #[p1,p2,p3,p4],false]),.val (.agg #[p1,p2,p3,p4]),false,.own (cM W6 #[.int .i64 p1,.int .i64 p2,.int .i64 p3,.int .i64 p4] 78) (cM.keep _ _ _)])
     (λw'=>Below W6.heap.size W6 w') K_ K_ K_ (by decide) K_ K_ K_ K_ rfl K_ _ rfl rfl (Below.refl _ _).drew ?_ ?_ ?_ ?_
    ·refine⟨b_ (q_ 2),e_ (p_ 0 17) λ_ h=>l_ h Mw.o Nd.o,b_ (q_ 3),e_ (p_ 2 19) λ_ h=>l_ h vo.o D1.o,c_ (p_ 1 18) (p_ 3 20),b_ (p_ 4 21),e_ (p_ 5 22) λ_ h=>l_ h HVE.o DE.o,b_ (q_ 6),e_ (p_ 7 24) (p:=⟨wr.heap.size,0,none⟩) λ_ h=>l_ h my C0.o,?_,b_ (p_ 9 26),b_ (p_ 10 16),b_ (p_ 10 16),?_,trivial⟩
     ·refine O2_ (p_ 6 23) (p_ 8 25) λA0 w2 K e0 e1 hS hK=>?_;go_simp
      go_at_call 94
      refine(BR rN.o (az Ow.o (go.o.trans (hS.mono go.o.size))) HN3.o la vw.o Bm.o Sg.o).mono ?_;rintro e w3 ⟨rfl,h3⟩;exact hK.out _ _ (hS.trans (h3.mono hS.size)) (Ks.of rfl rfl) (Ks.keep h3)
     ·refine O0_ λA0 w2 K hS hK=>?_;go_simp;exact hK.out _ _ (hS.alloc hS.size _) (Ks.of rfl (cM.made hS.size _ _)) (Ks.keep (ai w2 _))
    ·intro _ A0 w2 hI hall K hK;obtain⟨xp,gp,hp⟩:=hI.got 13 _ 7 rfl rfl (hall 13 (by decide) rfl);obtain⟨xv,gv,hv⟩:=hI.got 11 _ 27 rfl rfl (hall 11 (by decide) rfl);obtain⟨g,rfl,jy,f8⟩:=hp _ rfl;obtain rfl:xv=.agg #[p1,p2,p3,p4]:=hv _ rfl;have hS:=hI.world;refine aa rfl ?_;refine wp_store_row 78 (.tmp 7) (.tmp 27) rfl g #[p1,p2,p3,p4] (by simp[Act.eval,Array.getD_eq_getD_getElem?,gp]) (by simp[Act.eval,Array.getD_eq_getD_getElem?,gv]) 78 #[(),(),(),()] f8 (bX ⟨p1,p2,p3,p4⟩) rfl (by simp[Value.oneCell']) ?_;refine hK _ (aD hS jy _) ?_;intro i o d u hi ho hd hu hV;refine Ks.store (p:=13) (kn:=_) rfl hV (λDl=>?_);subst Dl;obtain rfl:_=o:=Option.some.inj ho;obtain rfl:_=d:=Option.some.inj hd;obtain rfl:_=u:=Option.some.inj (gp.symm.trans hu);exact⟨g,rfl,jy,aB f8 _⟩
    ·refine⟨o_,o_,o_,o_,o_,o_,o_,o_,o_,o_,o_,o_,?_,o_,o_,trivial⟩
     ·intro _;intro _ A0 w2 hI hd hnd K hK;have e0:=hI.p hd 10 16;exact hI.z hK
    ·intro A0 w2 hI;have hS:=hI.world;have c9:=hI.cg [(0,17),(1,18),(2,19),(3,20),(4,21),(5,22),(6,23),(7,24),(8,25),(9,26),(10,16),(11,27),(12,28),(13,7)] [8] j_;obtain⟨x0,x1,x2,x3,x4,x5,x6,x7,x8,x9,dN,ef,fh,gU,y8,hA,hV⟩:=c9;obtain rfl:ef=.agg #[p1,p2,p3,p4]:=hV 11 _ _ _ rfl rfl _ rfl;obtain rfl:fh=.bool false:=hV 12 _ _ _ rfl rfl _ rfl;obtain⟨g,rfl,jy,f8⟩:=hV 13 _ _ _ rfl rfl _ rfl;clear hV hI;simp only[ba,List.foldl,List.setIfInBounds_toArray,List.set_cons_zero,List.set_cons_succ]at hA;rw[hA];clear hA;simp only[List.drop_succ_cons,List.drop_zero];have zJ:=aH.trans ((dd.trans (hS.mono dd.size)).mono aH.size);clear f8;go_wp2_with fail;go_ret;exact⟨by rw[HE.o,hf.o];first|done|rfl,zJ⟩
   |true=>
    refine cV 14 (λi=>i==12) (Ks W6 [.val (.pointer (some ⟨w.heap.size,20,none⟩)),.val (.slice (some ⟨be,oe,none⟩) ne ce),.val (.pointer (some ⟨(w.heap.size+1),1,none⟩)),(q:Int),.val (.pointer (some ⟨be,oe+q*5,none⟩)),.val (.pointer (some ⟨be,oe+q*5+2,none⟩)),.val (.slice Ec n2 c2),.val (.pointer (some ⟨wr.heap.size,0,none⟩)),la,.val (.tuple #[.agg #[p1,p2,p3,p4],true]),.val (.tuple #[.agg #[p1,p2,p3,p4],true]),.val (.agg #[p1,p2,p3,p4]),true,.own (cM W6 #[.int .i64 0,.int .i64 0,.int .i64 0,.int .i64 0] 78) (cM.keep _ _ _)])
     (λw'=>Below W6.heap.size W6 w') (Ks W6 [.val (.pointer (some ⟨w.heap.size,20,none⟩)),.val (.slice (some ⟨be,oe,none⟩) ne ce),.val (.pointer (some ⟨(w.heap.size+1),1,none⟩)),(q:Int),.val (.pointer (some ⟨be,oe+q*5,none⟩)),.val (.pointer (some ⟨be,oe+q*5+2,none⟩)),.val (.slice Ec n2 c2),.val (.pointer (some ⟨wr.heap.size,0,none⟩)),la,.val (.tuple #[.agg #[p1,p2,p3,p4],true]),.val (.tuple #[.agg #[p1,p2,p3,p4],true]),.val (.agg #[p1,p2,p3,p4]),true,.own (cM W6 #[.int .i64 p1,.int .i64 p2,.int .i64 p3,.int .i64 p4] 78) (cM.keep _ _ _)])
     (λw'=>Below W6.heap.size W6 w') K_ K_ K_ (by decide) K_ K_ K_ K_ rfl K_ _ rfl rfl (Below.refl _ _).drew ?_ ?_ ?_ ?_
    ·refine⟨b_ (q_ 2),e_ (p_ 0 17) λ_ h=>l_ h Mw.o Nd.o,b_ (q_ 3),e_ (p_ 2 19) λ_ h=>l_ h vo.o D1.o,c_ (p_ 1 18) (p_ 3 20),b_ (p_ 4 21),e_ (p_ 5 22) λ_ h=>l_ h HVE.o DE.o,b_ (q_ 6),e_ (p_ 7 24) (p:=⟨wr.heap.size,0,none⟩) λ_ h=>l_ h my C0.o,?_,b_ (p_ 9 26),b_ (p_ 10 16),b_ (p_ 10 16),?_,trivial⟩
     ·refine O2_ (p_ 6 23) (p_ 8 25) λA0 w2 K e0 e1 hS hK=>?_;go_simp
      go_at_call 94
      refine(BR rN.o (az Ow.o (go.o.trans (hS.mono go.o.size))) HN3.o la vw.o Bm.o Sg.o).mono ?_;rintro e w3 ⟨rfl,h3⟩;exact hK.out _ _ (hS.trans (h3.mono hS.size)) (Ks.of rfl rfl) (Ks.keep h3)
     ·refine O0_ λA0 w2 K hS hK=>?_;go_simp;exact hK.out _ _ (hS.alloc hS.size _) (Ks.of rfl (cM.made hS.size _ _)) (Ks.keep (ai w2 _))
    ·intro _ A0 w2 hI hall K hK;obtain⟨xp,gp,hp⟩:=hI.got 13 _ 7 rfl rfl (hall 13 (by decide) rfl);obtain⟨xv,gv,hv⟩:=hI.got 11 _ 27 rfl rfl (hall 11 (by decide) rfl);obtain⟨g,rfl,jy,f8⟩:=hp _ rfl;obtain rfl:xv=.agg #[p1,p2,p3,p4]:=hv _ rfl;have hS:=hI.world;refine aa rfl ?_;refine wp_store_row 78 (.tmp 7) (.tmp 27) rfl g #[p1,p2,p3,p4] (by simp[Act.eval,Array.getD_eq_getD_getElem?,gp]) (by simp[Act.eval,Array.getD_eq_getD_getElem?,gv]) 78 #[(),(),(),()] f8 (bX ⟨p1,p2,p3,p4⟩) rfl (by simp[Value.oneCell']) ?_;refine hK _ (aD hS jy _) ?_;intro i o d u hi ho hd hu hV;refine Ks.store (p:=13) (kn:=_) rfl hV (λDl=>?_);subst Dl;obtain rfl:_=o:=Option.some.inj ho;obtain rfl:_=d:=Option.some.inj hd;obtain rfl:_=u:=Option.some.inj (gp.symm.trans hu);exact⟨g,rfl,jy,aB f8 _⟩
    ·refine⟨o_,o_,o_,o_,o_,o_,o_,o_,o_,o_,o_,o_,?_,o_,o_,trivial⟩
     ·intro _;intro _ A0 w2 hI hd hnd K hK;have e0:=hI.p hd 10 16;exact hI.z hK
    ·intro A0 w2 hI;have hS:=hI.world;have c9:=hI.cg [(0,17),(1,18),(2,19),(3,20),(4,21),(5,22),(6,23),(7,24),(8,25),(9,26),(10,16),(11,27),(12,28),(13,7)] [8] j_;obtain⟨x0,x1,x2,x3,x4,x5,x6,x7,x8,x9,dN,ef,fh,gU,y8,hA,hV⟩:=c9;obtain rfl:ef=.agg #[p1,p2,p3,p4]:=hV 11 _ _ _ rfl rfl _ rfl;obtain rfl:fh=.bool true:=hV 12 _ _ _ rfl rfl _ rfl;obtain⟨g,rfl,jy,f8⟩:=hV 13 _ _ _ rfl rfl _ rfl;clear hV hI;simp only[ba,List.foldl,List.setIfInBounds_toArray,List.set_cons_zero,List.set_cons_succ]at hA;rw[hA];clear hA;simp only[List.drop_succ_cons,List.drop_zero];have zJ:=dd.trans (hS.mono dd.size);clear f8;go_wp2_with fail;go_roundw
     case rel=>exact⟨k+1,by omega,by go_num,zJ,λj hj m7=>by
      rcases Nat.lt_or_ge j k with h|h
      ·exact HA.o j hj h
      ·have:j=k:=by omega
       subst this;rw[HX.o];exact Sg.o⟩
     case measure=>first|exact aQ aU|(simp only[intOf];omega)
  case neg=>
   have bq:¬(k:Int)< (nl:Int):=by omega
   have hf:=H_ (show r=true from HR.o.symm.trans (by
    unfold dY;rw[List.all_eq_true];intro x hx;obtain⟨j,hj,rfl⟩:=List.getElem_of_mem hx;exact HA.o j hj (by have:=HN.o;omega)))
   go_wp2_with fail;go_ret;exact⟨by rw[HE.o,hf.o];first|done|rfl,aH.trans (hb.mono aH.size)⟩
theorem sd {w:World} {b:Nat} {gl:List Value} {T:TypeId} {y m n:Int} (h:w.heap[b]? =some (.cells gl.toArray T (0,0))) (e1:gl[1]? =some (.int .i64 y)) (e2:gl[2]? =some (.int .i64 m)) (e3:gl[3]? =some (.int .i64 n)):w.rangeAt b 1 [y,m,n]:=λj v hj=>by
 match j,hj with
 |0,hj=>rw[ab h];simp at hj;subst hj;simpa using e1
 |1,hj=>rw[ab h];simp at hj;subst hj;simpa using e2
 |2,hj=>rw[ab h];simp at hj;subst hj;simpa using e3
 |j+3,hj=>simp at hj
theorem eR {w w':World} {cs:List Value} {l:List bG} (h:aj bc 3 w (·<w.heap.size) cs l) (hb:Below w.heap.size w w'):aj bc 3 w' (·<w'.heap.size) cs l:=
 (h.fr (λh=>bc.fr h (Fr.ofBelow hb)) (Fr.ofBelow hb)).mono (λh=>bc.mono h (λk hk=>by have:=hb.size;omega)) (λk hk=>by have:=hb.size;omega)
theorem ax.lit {w:World} {Q:Nat->Prop} {cs:List Value} {x:ak} (h:ax w Q cs x):∃Al cl,cs=[.int .i64 x.id,.int .i64 x.entity,.int .i64 x.date,.int .i64 x.kind,.int .i64 x.of_,.string x.text,.slice Al x.lines.length cl]/\(cx x.id/\cx x.entity/\cx x.date/\cx x.kind/\cx x.of_)/\aj bc 3 w Q [.slice Al x.lines.length cl] x.lines:=by
 obtain⟨c0,c1,c2,c3,c4,c5,c6,rfl,⟨rfl,h0⟩,⟨rfl,h1⟩,⟨rfl,h2⟩,⟨rfl,h3⟩,⟨rfl,h4⟩,h5,h6⟩:=h;have e5:c5=_:=h5;subst e5;obtain⟨A,c,e,_⟩:=h6.form;subst e;exact⟨A,c,rfl,⟨h0,h1,h2,h3,h4⟩,h6⟩
theorem BT {g:au} {gl:List Value} {w:World} (hg:aL w (·<w.heap.size) gl g) (ci:dQ g):∀w2:World,Below w.heap.size w w2->Calls Tryz.prog 103 #[.agg gl.toArray] w2 (ap w2 (.bool (bh g))):=λw2 hb=>by
 rw[<-Lr];exact SS g gl w2 (hg.keep hb) ci
theorem xY {g:au} {gl:List Value} {w:World} (hg:aL w (·<w.heap.size) gl g) (ci:dQ g):∀w2:World,Below w.heap.size w w2->Calls Tryz.prog 122 #[.agg gl.toArray] w2 (ap w2 (.bool (bh g))):=λw2 hb=>
 PV g gl w2 (hg.keep hb) ci
theorem aky {gv:Bool} {ne:Int} {x:ak} (h:agS gv ne x=true):Pw x.lines:=by
 have h':=(en _ _ _).1 h;have hl:=h'.2.2.2.2.2.2.2.2.2.2;refine Ii.pre ⟨λl hm=>?_,by omega⟩;have:=((kj _ _ _).1 (hl.2 l hm)).2.1;have:=of_decide_eq_true this;omega
theorem xh {g:au} {ne:Int} {x:ak} (h:agS (bh g) ne x=true):du g.calendar.year g.calendar.month g.calendar.periods=true:=by
 have h':=((en _ _ _).1 h).1;cases hc:du g.calendar.year g.calendar.month g.calendar.periods with
 |true=>rfl
 |false=>
  unfold bh at h';simp[hc]at h'
def dh (g:au) (x:ak):Int:=
 if agS (bh g) g.entities.length x=true then(if dY (g.entities.getD x.entity.toNat {}).chart x.lines=true then(if jL g.calendar.year g.calendar.month g.calendar.periods x.date=true then(if iS x.lines=0 then 0 else 11)else 2)else 17)else 1
theorem SK (gl:List Value) (y m n:Int) (xi xe xd xk xo:Int) (xt:ByteArray) (nl:Nat) (Al:Option Addr) (cl:Nat) (w:World) (h1:gl[1]? =some (.int .i64 y)) (h2:gl[2]? =some (.int .i64 m)) (h3:gl[3]? =some (.int .i64 n)) (hc:du y m n=true) (hd:cx xd):Calls Tryz.prog 193 #[.agg gl.toArray,.agg #[xi,xe,xd,xk,xo,xt,.slice Al nl cl]] w (ap w (.int .i64 (if jL y m n xd=true then 0 else 2))):=by
 obtain⟨R,hR⟩:=x_ ((if jL y m n xd=true then(0:Int)else 2));have HPI:=H_ ((Pu (d:=xd) hc).trans hR);have rD:=H_ (λw2:World=>xP y m n xd w2 hc hd);have h0:=H_ (show R=0\/R=2 by rw[<-hR];split<;>simp);rw[hR];obtain⟨⟨pp,pe⟩,Gp⟩:∃p,cT y m n xd=p:=⟨_,rfl⟩;rw[Gp]at HPI rD;have Gg:=H_ h1;have CD:=H_ h2;have IG:=H_ h3;clear h1 h2 h3 hc hd hR Gp;go_enter Tryz.func193,Tryz.ntmps193;go_upto_region 1 with fail;obtain⟨W,hW,H,HB,HS,ewx⟩:=B_ w (.cells gl.toArray 29);rw[hW];clear ewx;obtain⟨W2,fR,H2,dz,jK,ewx⟩:=B_ W (.cells #[xi,xe,xd,xk,xo,xt,.slice Al nl cl] 51);rw[fR];replace H:=(dz.block _ (ag H)).trans H;clear ewx;clear fR;have eW:W.heap.size=w.heap.size+1:=by rw[<-hW];simp
 rw[eW]at H2;clear hW;have aH:=HB.trans (dz.mono HB.size);have dW:=dz.size;have lV:=ag H2;have nf:w.heap.size<W2.heap.size:=by omega
 have HH:=H_ H;have HZ:=H_ H2;have EW:=H_ eW;clear H H2 eW;have Cv:=H_ (sd HH.o Gg.o CD.o IG.o);have e2:=ab HZ.o 2;go_wp2_with (refine w_ 9 23 8 w.heap.size 1 [y,m,n] Cv.o bV Tryz.underlying23 ?_);refine(rD.o W2).mono ?_;rintro e w3 ⟨rfl,aZ⟩;have aR:=aH.trans (aZ.mono aH.size);clear e2;by_cases hz:pe=0
 case pos=>
  subst hz;have hf:=H_ (show R=0 by exact HPI.o.symm);go_wp2_with fail;go_ret;exact⟨hf.o.symm▸rfl,aR⟩
 case neg=>
  have IU:(pe !=0)=true:=by simpa using hz
  have QH:¬(pe=0):=hz;have HP2:=H_ (show R=2 by
   have h:=HPI.o
   try simp only at h
   have hR2:=h0.o;rcases hR2 with h'|h'
   ·exact absurd (h.trans h') hz
   ·exact h')
  clear hz QH;have hf:=H_ (show R=2 by exact HP2.o);go_wp2_with fail;go_ret;exact⟨hf.o.symm▸rfl,aR⟩
theorem GB (gl:List Value) (xi xe xd xk xo:Int) (xt:ByteArray) (ls:List bG) (Al:Option Addr) (cl:Nat) (w:World) (hl:aj bc 3 w (·<w.heap.size) [.slice Al ls.length cl] ls) (hp:Pw ls):Calls Tryz.prog 194 #[.agg gl.toArray,.agg #[xi,xe,xd,xk,xo,xt,.slice Al ls.length cl]] w (ap w (.int .i64 (if iS ls=0 then 0 else 11))):=by
 have HSC:=H_ (λ(w2:World) (hb:Below w.heap.size w w2)=>ZV ls Al cl w2 (eR hl hb) hp);obtain⟨S,hS⟩:=x_ (iS ls);rw[hS]at HSC |-;obtain⟨nl,bj⟩:∃n,ls.length=n:=⟨_,rfl⟩;rw[bj]at HSC |-;obtain⟨R,hR⟩:=x_ ((if S=0 then(0:Int)else 11));rw[hR];have HR:=H_ hR;clear hS bj hl hp hR;go_enter Tryz.func194,Tryz.ntmps194;go_upto_region 1 with fail;obtain⟨W,hW,H,HB,HS,ewx⟩:=B_ w (.cells gl.toArray 29);rw[hW];clear ewx;obtain⟨W2,fR,H2,dz,jK,ewx⟩:=B_ W (.cells #[xi,xe,xd,xk,xo,xt,.slice Al nl cl] 51);rw[fR];replace H:=(dz.block _ (ag H)).trans H;clear ewx;clear fR;have eW:W.heap.size=w.heap.size+1:=by rw[<-hW];simp
 rw[eW]at H2;clear hW;have aH:=HB.trans (dz.mono HB.size);have dW:=dz.size;have lV:=ag H2;have nf:w.heap.size<W2.heap.size:=by omega
 have HH:=H_ H;have HZ:=H_ H2;have EW:=H_ eW;clear H H2 eW;have e6:=ab HZ.o 6;go_wp2_with fail;refine(HSC.o W2 aH).mono ?_;rintro e w3 ⟨rfl,aZ⟩;have aR:=aH.trans (aZ.mono aH.size);clear e6;by_cases hz:S=0
 case pos=>
  have hf:=H_ (show R=0 by rw[<-HR.o,if_pos hz]);have IU:(S !=0)=false:=by simpa using hz
  clear hz;go_wp2_with fail;go_ret;exact⟨hf.o.symm▸rfl,aR⟩
 case neg=>
  have IU:(S !=0)=true:=by simpa using hz
  have hf:=H_ (show R=11 by rw[<-HR.o,if_neg hz]);clear hz;go_wp2_with fail;go_ret;exact⟨hf.o.symm▸rfl,aR⟩
set_option maxRecDepth 100000 in
theorem vg (w:World):Sem.run Tryz.prog (Instr.index 230 (.agg #[.func (Fn.func 191) #[] #[],.func (Fn.func 192) #[] #[],.func (Fn.func 193) #[] #[],.func (Fn.func 194) #[] #[]]) (.int .i64 0)) w=.ok (.func (Fn.func 191) #[] #[]) w/\Sem.run Tryz.prog (Instr.index 230 (.agg #[.func (Fn.func 191) #[] #[],.func (Fn.func 192) #[] #[],.func (Fn.func 193) #[] #[],.func (Fn.func 194) #[] #[]]) (.int .i64 1)) w=.ok (.func (Fn.func 192) #[] #[]) w/\Sem.run Tryz.prog (Instr.index 230 (.agg #[.func (Fn.func 191) #[] #[],.func (Fn.func 192) #[] #[],.func (Fn.func 193) #[] #[],.func (Fn.func 194) #[] #[]]) (.int .i64 2)) w=.ok (.func (Fn.func 193) #[] #[]) w/\Sem.run Tryz.prog (Instr.index 230 (.agg #[.func (Fn.func 191) #[] #[],.func (Fn.func 192) #[] #[],.func (Fn.func 193) #[] #[],.func (Fn.func 194) #[] #[]]) (.int .i64 3)) w=.ok (.func (Fn.func 194) #[] #[]) w:=⟨rfl,rfl,rfl,rfl⟩
theorem vT {g:au} {x:ak} (h:agS (bh g) g.entities.length x=false):dh g x=1:=by unfold dh;rw[if_neg (by rw[h];decide)]
theorem DK {g:au} {x:ak} (h:agS (bh g) g.entities.length x=true) (h2:dY (g.entities.getD x.entity.toNat {}).chart x.lines=false):dh g x=17:=by unfold dh;rw[if_pos h,if_neg (by rw[h2];decide)]
theorem DM {g:au} {x:ak} (h:agS (bh g) g.entities.length x=true) (h2:dY (g.entities.getD x.entity.toNat {}).chart x.lines=true) (h3:jL g.calendar.year g.calendar.month g.calendar.periods x.date=false):dh g x=2:=by unfold dh;rw[if_pos h,if_pos h2,if_neg (by rw[h3];decide)]
theorem qR {g:au} {x:ak} (h:agS (bh g) g.entities.length x=true) (h2:dY (g.entities.getD x.entity.toNat {}).chart x.lines=true) (h3:jL g.calendar.year g.calendar.month g.calendar.periods x.date=true):dh g x=if iS x.lines=0 then 0 else 11:=by unfold dh;rw[if_pos h,if_pos h2,if_pos h3]
theorem Zt {g:au} {x:ak} {gl ex:List Value} {w:World} (hg:aL w (·<w.heap.size) gl g) (ci:dQ g) (hx:ax w (·<w.heap.size) ex x) (ry:x.text.size<=140737488355327) (w2:World) (hb:Below w.heap.size w w2):Calls Tryz.prog 191 #[.agg gl.toArray,.agg ex.toArray] w2 (ap w2 (.int .i64 (if agS (bh g) g.entities.length x=true then 0 else 1))):=by
 obtain⟨Al,cl,rfl,jE,hl⟩:=(ax.keep hx hb).lit;obtain⟨Ac,cc,Ae,ce,Gs,LE,_⟩:=(aL.keep hg hb).view;exact O4 gl.toArray Ae g.entities.length ce (bh g) _ _ _ _ _ _ x.lines Al cl w2 (by simpa using Gs) (by simpa using LE) ci.2.1 (BT (hg.keep hb) ci) jE ry hl
theorem SD {g:au} {x:ak} {gl ex:List Value} {w:World} (hg:aL w (·<w.heap.size) gl g) (ci:dQ g) (hx:ax w (·<w.heap.size) ex x) (hf:agS (bh g) g.entities.length x=true) (w2:World) (hb:Below w.heap.size w w2):Calls Tryz.prog 192 #[.agg gl.toArray,.agg ex.toArray] w2 (ap w2 (.int .i64 (if dY (g.entities.getD x.entity.toNat {}).chart x.lines=true then 0 else 17))):=by
 obtain⟨Al,cl,rfl,jE,hl⟩:=(ax.keep hx hb).lit;have h':=(en _ _ _).1 hf;have hq:x.entity.toNat<g.entities.length:=by have:=h'.2.2.1;have:=h'.2.2.2.1;omega
 have zT:x.entity=(x.entity.toNat:Int):=by have:=h'.2.2.1;omega
 have:=KX g gl x.entity.toNat x.id x.date x.kind x.of_ x.text x.lines Al cl w2 (hg.keep hb) ci hq hl h'.2.2.2.2.2.2.2.2.2.2.1;rw[<-zT]at this;rw[List.getD_eq_getElem?_getD,List.getElem?_eq_getElem hq,Option.getD_some];exact this
theorem Zq {g:au} {x:ak} {gl ex:List Value} {w:World} (hg:aL w (·<w.heap.size) gl g) (hx:ax w (·<w.heap.size) ex x) (hf:agS (bh g) g.entities.length x=true) (w2:World) (hb:Below w.heap.size w w2):Calls Tryz.prog 193 #[.agg gl.toArray,.agg ex.toArray] w2 (ap w2 (.int .i64 (if jL g.calendar.year g.calendar.month g.calendar.periods x.date=true then 0 else 2))):=by
 obtain⟨Al,cl,rfl,jE,hl⟩:=(ax.keep hx hb).lit;obtain⟨Ac,cc,Ae,ce,Gs,LE,h4,h1,h2,h3,_⟩:=(aL.keep hg hb).view;exact SK gl _ _ _ _ _ _ _ _ _ _ Al cl w2 h1 h2 h3 (xh hf) jE.2.2.1
theorem ab4 {g:au} {x:ak} {gl ex:List Value} {w:World} (hx:ax w (·<w.heap.size) ex x) (hf:agS (bh g) g.entities.length x=true) (w2:World) (hb:Below w.heap.size w w2):Calls Tryz.prog 194 #[.agg gl.toArray,.agg ex.toArray] w2 (ap w2 (.int .i64 (if iS x.lines=0 then 0 else 11))):=by
 obtain⟨Al,cl,rfl,jE,hl⟩:=(ax.keep hx hb).lit;exact GB gl _ _ _ _ _ _ x.lines Al cl w2 hl (aky hf)
theorem SE (g:au) (x:ak) (gl ex:List Value) (w:World) (hg:aL w (·<w.heap.size) gl g) (ci:dQ g) (hx:ax w (·<w.heap.size) ex x) (ry:x.text.size<=140737488355327):Calls Tryz.prog 150 #[.agg gl.toArray,.agg ex.toArray] w (ap w (.int .i64 (dh g x))):=by
 obtain⟨r,hr⟩:=x_ (dh g x);rw[hr];have HR:=H_ hr;have H1:=H_ (Zt hg ci hx ry);have dn:=H_ (λhf=>SD hg ci hx hf);have H3:=H_ (λhf=>Zq hg hx hf);have H4:=H_ (λhf=>ab4 (g:=g) (gl:=gl) hx hf);obtain⟨f1,yL⟩:∃b,agS (bh g) g.entities.length x=b:=⟨_,rfl⟩;obtain⟨f2,jC⟩:∃b,dY (g.entities.getD x.entity.toNat {}).chart x.lines=b:=⟨_,rfl⟩;obtain⟨f3,l6⟩:∃b,jL g.calendar.year g.calendar.month g.calendar.periods x.date=b:=⟨_,rfl⟩;have kU:=H_ yL;have kV:=H_ jC;have IH:=H_ l6;obtain⟨S,hS⟩:=x_ (iS x.lines);have CB:=H_ hS;rw[yL]at H1 dn H3 H4;rw[jC]at dn;rw[l6]at H3;rw[hS]at H4;have fZ:gl.toArray.size=21:=by have:=hg.len;simpa using this
 have kZ:ex.toArray.size=7:=by have:=hx.len;simpa using this
 obtain⟨G,hG⟩:=x_ (gl.toArray);obtain⟨E,hE⟩:=x_ (ex.toArray);rw[hG]at H1 dn H3 H4 fZ |-;rw[hE]at H1 dn H3 H4 kZ |-;have fu:=H_ fZ;have Db:=H_ kZ;clear hr hg ci hx ry yL jC l6 hS fZ kZ hG hE;go_enter Tryz.func150,Tryz.ntmps150;go_upto_region 1 with fail;obtain⟨W,hW,H,HB,HS,ewx⟩:=B_ w (.cells G 29);rw[hW];clear ewx;obtain⟨W2,fR,RA,dz,jK,ewx⟩:=B_ W (.cells E 51);rw[fR];replace H:=(dz.block _ (ag H)).trans H;clear ewx;clear fR;have eW:W.heap.size=w.heap.size+1:=by rw[<-hW];simp
 rw[eW]at RA;clear hW;have aH:=HB.trans (dz.mono HB.size);have dW:=dz.size;have lV:=ag RA;have nf:w.heap.size<W2.heap.size:=by omega
 have HHG:=H_ H;have HZ:=H_ RA;have EW:=H_ eW;clear H RA eW;have HHR:=H_ (λ(b:Bool) (h:b=true)=>h);go_wp2_with fail
 go_loopw [9] (λi wr=>∃q:Int,i=.int .i64 q/\0<=q/\q<=4/\Below W2.heap.size W2 wr/\(1<=q->f1=true)/\(2<=q->f2=true)/\(3<=q->f3=true)/\(4<=q->S=0)) (λi _=>(4- intOf i).toNat)
 case atStart=>exact⟨0,rfl,by omega,by omega,Below.refl _ _,by omega,by omega,by omega,by omega⟩
 case round=>
  obtain⟨q,rfl,zG,hq4,hb,k1,k2,k3,k4⟩:=hrel;have K1:=H_ k1;have K2:=H_ k2;have K3:=H_ k3;have K4:=H_ k4;clear k1 k2 k3 k4;have ed:=aH.trans (hb.mono aH.size);have HGr:=k_ hb HHG;have HEr:=k_ hb HZ;by_cases aU:q<4
  case neg=>
   have hf:=H_ (show r=0 by rw[<-HR.o,qR (kU.o.trans (K1.o (by omega))) (kV.o.trans (K2.o (by omega))) (IH.o.trans (K3.o (by omega))),CB.o,if_pos (K4.o (by omega))]);go_wp2_with fail;go_ret;exact⟨hf.o.symm▸rfl,ed⟩
  case pos=>
  obtain rfl|rfl|rfl|rfl:q=0\/q=1\/q=2\/q=3:=by omega
  case inl=>
   have aM:=H1.o wr ed;have ja:=(vg wr).1;go_wp2_with (first|(refine W_ 13 29 2 (w.heap.size) HGr.o (by rw[ay];exact congrArg some fu.o.symm) Tryz.underlying29 ?_)|(refine W_ 14 51 3 (w.heap.size+1) HEr.o (by rw[aY];exact congrArg some Db.o.symm) Tryz.underlying51 ?_));refine aM.mono ?_;clear aM ja;rintro e w3 ⟨rfl,aZ⟩;have zJ:=ed.trans (aZ.mono ed.size);have Rl:=hb.trans (aZ.mono hb.size);by_cases hz:f1=true
   case neg=>
    have hf:=H_ (show r=1 by rw[<-HR.o];exact vT (kU.o.trans (by cases f1 with|false=>rfl|true=>exact absurd rfl hz)));rw[if_neg hz];clear hz;go_wp2_with fail;go_ret;exact⟨hf.o.symm▸rfl,zJ⟩
   case pos=>
    rw[if_pos hz];have XY:=H_ hz;clear hz;go_wp2_with fail;go_roundw
    case rel=>exact⟨1,rfl,by omega,by omega,Rl,λ_=>XY.o,by omega,by omega,by omega⟩
    case measure=>simp only[intOf];omega
  case inr.inl=>
   have aM:=dn.o (K1.o (by omega)) wr ed;have ja:=(vg wr).2.1;go_wp2_with (first|(refine W_ 13 29 2 (w.heap.size) HGr.o (by rw[ay];exact congrArg some fu.o.symm) Tryz.underlying29 ?_)|(refine W_ 14 51 3 (w.heap.size+1) HEr.o (by rw[aY];exact congrArg some Db.o.symm) Tryz.underlying51 ?_));refine aM.mono ?_;clear aM ja;rintro e w3 ⟨rfl,aZ⟩;have zJ:=ed.trans (aZ.mono ed.size);have Rl:=hb.trans (aZ.mono hb.size);by_cases hz:f2=true
   case neg=>
    have hf:=H_ (show r=17 by rw[<-HR.o];exact DK (kU.o.trans (K1.o (by omega))) (kV.o.trans (by cases f2 with|false=>rfl|true=>exact absurd rfl hz)));rw[if_neg hz];clear hz;go_wp2_with fail;go_ret;exact⟨hf.o.symm▸rfl,zJ⟩
   case pos=>
    rw[if_pos hz];have XY:=H_ hz;clear hz;go_wp2_with fail;go_roundw
    case rel=>exact⟨2,rfl,by omega,by omega,Rl,λ_=>K1.o (by omega),λ_=>XY.o,by omega,by omega⟩
    case measure=>simp only[intOf];omega
  case inr.inr.inl=>
   have aM:=H3.o (K1.o (by omega)) wr ed;have ja:=(vg wr).2.2.1;go_wp2_with (first|(refine W_ 13 29 2 (w.heap.size) HGr.o (by rw[ay];exact congrArg some fu.o.symm) Tryz.underlying29 ?_)|(refine W_ 14 51 3 (w.heap.size+1) HEr.o (by rw[aY];exact congrArg some Db.o.symm) Tryz.underlying51 ?_));refine aM.mono ?_;clear aM ja;rintro e w3 ⟨rfl,aZ⟩;have zJ:=ed.trans (aZ.mono ed.size);have Rl:=hb.trans (aZ.mono hb.size);by_cases hz:f3=true
   case neg=>
    have hf:=H_ (show r=2 by rw[<-HR.o];exact DM (kU.o.trans (K1.o (by omega))) (kV.o.trans (K2.o (by omega))) (IH.o.trans (by cases f3 with|false=>rfl|true=>exact absurd rfl hz)));rw[if_neg hz];clear hz;go_wp2_with fail;go_ret;exact⟨hf.o.symm▸rfl,zJ⟩
   case pos=>
    rw[if_pos hz];have XY:=H_ hz;clear hz;go_wp2_with fail;go_roundw
    case rel=>exact⟨3,rfl,by omega,by omega,Rl,λ_=>K1.o (by omega),λ_=>K2.o (by omega),λ_=>XY.o,by omega⟩
    case measure=>simp only[intOf];omega
  case inr.inr.inr=>
   have aM:=H4.o (K1.o (by omega)) wr ed;have ja:=(vg wr).2.2.2;go_wp2_with (first|(refine W_ 13 29 2 (w.heap.size) HGr.o (by rw[ay];exact congrArg some fu.o.symm) Tryz.underlying29 ?_)|(refine W_ 14 51 3 (w.heap.size+1) HEr.o (by rw[aY];exact congrArg some Db.o.symm) Tryz.underlying51 ?_));refine aM.mono ?_;clear aM ja;rintro e w3 ⟨rfl,aZ⟩;have zJ:=ed.trans (aZ.mono ed.size);have Rl:=hb.trans (aZ.mono hb.size);by_cases hz:S=0
   case neg=>
    have hf:=H_ (show r=11 by rw[<-HR.o,qR (kU.o.trans (K1.o (by omega))) (kV.o.trans (K2.o (by omega))) (IH.o.trans (K3.o (by omega))),CB.o];exact if_neg hz);rw[if_neg hz];clear hz;go_wp2_with fail;go_ret;exact⟨hf.o.symm▸rfl,zJ⟩
   case pos=>
    rw[if_pos hz];have XY:=H_ hz;clear hz;go_wp2_with fail;go_roundw
    case rel=>exact⟨4,rfl,by omega,by omega,Rl,λ_=>K1.o (by omega),λ_=>K2.o (by omega),λ_=>K3.o (by omega),λ_=>XY.o⟩
    case measure=>simp only[intOf];omega
theorem ab7 {g:au} {gl:List Value} {w w2:World} (hg:aL w (·<w.heap.size) gl g) (bP:szG g) (hb:Below w.heap.size w w2):Calls Tryz.prog 77 #[.agg gl.toArray] w2 (If (Lk g) w2):=ab6 g gl w2 (hg.keep hb) bP
end
section
open Go Go.RowKit Go.ChangeShapes Go.WideShapes Go.MapKept Go.ChangeMaps
open Go.WideElems (Fit rd rg pl rd_key findIdx_born findIdx_arr modify_last set_self)
open Go.Maps (Keyed)
theorem O8 {l:List MapEntry} (hn:(l.map (·.key)).Nodup) {i j:Nat} {a c:MapEntry} (hi:l[i]? =some a) (hj:l[j]? =some c) (h:a.key=c.key):i=j:=by
 obtain⟨yZ,tV⟩:=List.getElem?_eq_some_iff.1 hi;obtain⟨Fp,tP⟩:=List.getElem?_eq_some_iff.1 hj;rcases Nat.lt_trichotomy i j with h'|h'|h'
 ·exfalso
  have hp:=List.pairwise_iff_getElem.1 hn i j (by simpa using yZ) (by simpa using Fp) h';simp only[List.getElem_map]at hp;rw[tV,tP]at hp;exact hp h
 ·exact h'
 ·exfalso
  have hp:=List.pairwise_iff_getElem.1 hn j i (by simpa using Fp) (by simpa using yZ) h';simp only[List.getElem_map]at hp;rw[tV,tP]at hp;exact hp h.symm
section
variable {H:Type} {P:Program} {w:World} {t k e:TypeId} {R:Value->Option (DataW H × List MemPlace)} {b:Nat} {es:Array MapEntry} {dc:Nat}
theorem LN (K:Keyed P k) (ht:P.underlying t=some (.map k e)) {z:Value} (hz:∀u:World,(zeroValue e).run P u=.ok z u) (hb:w.heap[b]? =some (.map es dc)) (F:Fit P k R es dc)
 {ir:Value} {kl:Lit} (iz:keyOf P k ir=some kl):
 ∃(v0:Value) (st:Nat) (rz:Array MapEntry) (gV:Nat),
  (∀u:World,(u.heap[b]? =some (.map es dc)\/u.heap[b]? =some (.map rz gV))->(Instr.lookup t (.map (some b)) ir false).run P u=.ok v0 u/\(Instr.mapEntry t (.map (some b)) ir).run P u=.ok (.tuple #[v0,goInt st]) (setBlock u b (.map rz gV)))/\
  ∀val:Value,∃Ft ky,(∀u:World,u.heap[b]? =some (.map rz gV)->(Instr.entryStore t (.map (some b)) (goInt st) val).run P u=.ok () (setBlock u b (.map Ft ky)))/\
   (Instr.mapUpdate t (.map (some b)) ir val).run P w=.ok () (setBlock w b (.map Ft ky)):=by
 obtain⟨s1,s2,_⟩:=F.stamped;rcases K.find w iz es.toList F.keys with⟨h1,h2⟩|⟨j,e0,h1,h2,h3⟩
 ·have aaP:(es.push ⟨ir,z,dc⟩).modify es.size (λe=>{e with key:=ir})=es.push ⟨ir,z,dc⟩:=by
   apply Array.ext';rw[Array.toList_modify,Array.toList_push,<-Array.length_toList,modify_last]
  have JP:∀x∈(es.push (⟨ir,z,dc⟩:MapEntry)).toList,∃l,keyOf P k x.key=some l:=λx hx=>by
   simp only[Array.toList_push,List.mem_append,List.mem_singleton]at hx;rcases hx with hx|rfl
   ·exact F.keys x hx
   ·exact⟨kl,iz⟩
  refine⟨z,dc,es.push ⟨ir,z,dc⟩,dc+1,λu hu=>?_,λval=>⟨es.push ⟨ir,val,dc⟩,dc+1,λu hu=>?_,?_⟩⟩
  ·rcases hu with hu|hu
   ·have h1u:(Instr.findKey k ir es.toList).run P u=.ok none u:=by
     rcases K.find u iz es.toList F.keys with⟨g1,_⟩|⟨j,e0,_,g2,g3⟩
     ·exact g1
     ·exact absurd g3 (h2 e0 (List.mem_of_getElem? g2))
    exact⟨by simp[Instr.lookup,run_underlying ht,MapKept.run_getObj_map hu,K.check u _ iz,h1u,hz,Result.andThen],
     by simp[Instr.mapEntry,run_underlying ht,MapKept.run_getObj_map hu,K.check u false iz,h1u,hz,MapKept.run_setObj_map _ hu,Result.andThen,setBlock]⟩
   ·rcases K.find u iz (es.push (⟨ir,z,dc⟩:MapEntry)).toList JP with⟨_,g2⟩|⟨j,e0,g1,g2,g3⟩
    ·exact absurd rfl (g2 ⟨ir,z,dc⟩ (by simp))
    ·have hj:j=es.size/\e0=⟨ir,z,dc⟩:=by
      rw[Array.toList_push]at g2;rcases Nat.lt_or_ge j es.toList.length with hl|hl
      ·rw[List.getElem?_append_left hl]at g2;exact absurd g3 (h2 e0 (List.mem_of_getElem? g2))
      ·rw[List.getElem?_append_right hl]at g2;have Bg:=(List.getElem?_eq_some_iff.1 g2).1;simp only[List.length_singleton]at Bg;have h0:j- es.toList.length=0:=by omega
       rw[h0]at g2;simp only[List.getElem?_cons_zero,Option.some.injEq]at g2;exact⟨by rw[Array.length_toList]at hl h0;omega,g2.symm⟩
     obtain⟨rfl,rfl⟩:=hj;simp only[Array.toList_push]at g1;exact⟨by simp[Instr.lookup,run_underlying ht,MapKept.run_getObj_map hu,K.check u _ iz,g1,Result.andThen],
      by simp[Instr.mapEntry,run_underlying ht,MapKept.run_getObj_map hu,K.check u false iz,g1,K.stays u iz,aaP,MapKept.run_setObj_map _ hu,Result.andThen,setBlock]⟩
  ·have Yi:(es.push ⟨ir,z,dc⟩).findIdx? (λe=>((e.born:Nat):Int)==((dc:Nat):Int))=some es.size:=by
    rw[findIdx_arr];exact findIdx_born (l:=(es.push ⟨ir,z,dc⟩).toList) (j:=es.size) (e0:=⟨ir,z,dc⟩) (by
     simp only[Array.toList_push,List.map_append,List.map_cons,List.map_nil];refine List.nodup_append.2 ⟨s2,by simp,λa ha c hc e1=>?_⟩;simp only[List.mem_singleton]at hc;obtain⟨x,hx,rfl⟩:=List.mem_map.1 ha;have:=s1 x hx;omega) (by simp)
   have Kc:(es.push ⟨ir,z,dc⟩).modify es.size (λe=>{e with val:=val})=es.push ⟨ir,val,dc⟩:=by
    apply Array.ext';rw[Array.toList_modify,Array.toList_push,Array.toList_push,<-Array.length_toList,modify_last]
   simp[Instr.entryStore,MapKept.run_getObj_map hu,asInt,asIntOf,goInt,Yi,Kc,MapKept.run_setObj_map _ hu,Result.andThen,setBlock]
  ·simp[Instr.mapUpdate,run_underlying ht,MapKept.run_getObj_map hb,K.check w false iz,h1,MapKept.run_setObj_map _ hb,Result.andThen,setBlock]
 ·have hj:es[j]? =some e0:=by simpa using h2
  have abd:es.modify j (λe=>{e with key:=ir})=es:=by
   apply Array.ext';rw[Array.toList_modify,modify_eq_set _ _ _ _ h2];have:({e0 with key:=ir}:MapEntry)=e0:=by rw[<-h3]
   rw[this];exact set_self _ _ _ h2
  have hu1:∀u:World,(Instr.findKey k ir es.toList).run P u=.ok (some (j,e0.val)) u:=λu=>by
   rcases K.find u iz es.toList F.keys with⟨_,g2⟩|⟨j',e',g1,g2,g3⟩
   ·exact absurd h3 (g2 e0 (List.mem_of_getElem? h2))
   ·have bT:j'=j:=O8 F.stamped.2.2 g2 h2 (g3.trans h3.symm);subst bT;rw[h2]at g2;cases g2;exact g1
  refine⟨e0.val,e0.born,es,dc,λu hu=>?_,λval=>⟨es.modify j (λe'=>{e' with key:=ir,val:=val}),dc,λu hu=>?_,?_⟩⟩
  ·have hu:u.heap[b]? =some (.map es dc):=hu.elim id id;exact⟨by simp[Instr.lookup,run_underlying ht,MapKept.run_getObj_map hu,K.check u _ iz,hu1,Result.andThen],
    by simp[Instr.mapEntry,run_underlying ht,MapKept.run_getObj_map hu,K.check u false iz,hu1,hj,h3,K.stays u iz,abd,MapKept.run_setObj_map _ hu,Result.andThen,setBlock]⟩
  ·have Yi:es.findIdx? (λe=>((e.born:Nat):Int)==((e0.born:Nat):Int))=some j:=by
    rw[findIdx_arr];exact findIdx_born s2 h2
   have Kc:es.modify j (λe=>{e with val:=val})=es.modify j (λe'=>{e' with key:=ir,val:=val}):=by
    apply Array.ext';rw[Array.toList_modify,Array.toList_modify,modify_eq_set _ _ _ _ h2,modify_eq_set _ _ _ _ h2,<-h3]
   simp[Instr.entryStore,MapKept.run_getObj_map hu,asInt,asIntOf,goInt,Yi,Kc,MapKept.run_setObj_map _ hu,Result.andThen,setBlock]
  ·simp[Instr.mapUpdate,run_underlying ht,MapKept.run_getObj_map hb,K.check w false iz,h1,hj,h3,K.stays w iz,MapKept.run_setObj_map _ hb,Result.andThen,setBlock]
end
end
section
open Go Go.RowKit Go.ChangeMaps
open Go.Maps (Keyed)
open Go.WideMaps (KeyLaw)
def jf {α:Type} (P:Program) (k e:TypeId) (κ:α->Lit) (w:World) (b n:Nat) (f:α->Int):Prop:=
 ∃D:UD,w.ownsMap P k (plainElem P e) b n D/\∀c,D.atKey (κ c) (.lit (.int .i64 0))=.lit (.int .i64 (f c))
section
variable {α:Type} {P:Program} {k e t:TypeId} {κ:α->Lit} {w w':World} {b n:Nat} {f:α->Int}
theorem jf.made (P:Program) (k e:TypeId) (κ:α->Lit) (w:World):jf P k e κ (w.alloc (.map #[] 0)) w.heap.size 0 (λ_=>0):=
 ⟨_,World.ownsMap_made w P k _,λ_=>rfl⟩
theorem jf.kept {row:Option Nat} (h:jf P k e κ w b n f) (hg:w.grownBy w' row) (bT:some b≠row):jf P k e κ w' b n f:=by
 obtain⟨D,h1,h2⟩:=h;exact⟨D,h1.kept hg bT,h2⟩
theorem jf.lt (h:jf P k e κ w b n f):b<w.heap.size:=by
 obtain⟨D,h1,h2⟩:=h;exact h1.lt
theorem jf.same (h:jf P k e κ w b n f) (hb:w'.heap[b]? =w.heap[b]?):jf P k e κ w' b n f:=by
 obtain⟨D,⟨es,dc,h1,h3,h4,h5⟩,h2⟩:=h;exact⟨D,⟨es,dc,hb.trans h1,h3,h4,h5⟩,h2⟩
theorem jf.fr {Q:Nat->Prop} (h:jf P k e κ w b n f) (hf:Fr Q w w') (hb:Q b):jf P k e κ w' b n f:=h.same (hf.block b hb)
theorem jf.below (h:jf P k e κ w b n f) (hb:Below w.heap.size w w'):jf P k e κ w' b n f:=h.fr (Fr.ofBelow hb) h.lt
theorem jf.mono (h:jf P k e κ w b n f) {n':Nat} (hn:n<=n'):jf P k e κ w b n' f:=by
 obtain⟨D,h1,h2⟩:=h;exact⟨D,h1.mono hn,h2⟩
theorem jf.eqv {g:α->Int} (h:jf P k e κ w b n f) (hg:∀c,f c=g c):jf P k e κ w b n g:=by
 obtain⟨D,h1,h2⟩:=h;exact⟨D,h1,λc=>by rw[h2 c,hg c]⟩
theorem tk {w:World} {b:Nat} {o:Obj} (h:b<w.heap.size):(setBlock w b o).heap[b]? =some o:=by
 simp[setBlock,h]
theorem jf.assign [DecidableEq α] (h:jf P k e κ w b n f) (K:Keyed P k) (ht:P.underlying t=some (.map k e)) (he:P.underlying e=some (.int .i64)) (hz:∀u:World,(zeroValue e).run P u=.ok (.int .i64 0) u) (hn:n<maxLen) (hκ:∀x y,κ x=κ y->x=y) (hl:∀x,WideAt.IsKeyLit (κ x))
 {ir:Value} {c:α} (iz:keyOf P k ir=some (κ c)):
 ∃(st:Nat) (es:Array MapEntry) (dc:Nat) (rz:Array MapEntry) (gV:Nat),w.heap[b]? =some (.map es dc)/\
  (∀u:World,(u.heap[b]? =some (.map es dc)\/u.heap[b]? =some (.map rz gV))->(Instr.lookup t (.map (some b)) ir false).run P u=.ok (.int .i64 (f c)) u/\(Instr.mapEntry t (.map (some b)) ir).run P u=.ok (.tuple #[(f c),goInt st]) (setBlock u b (.map rz gV)))/\
  ∀x:Int,(Lit.int .i64 x).wf=true->∃Ft ky,(∀u:World,u.heap[b]? =some (.map rz gV)->(Instr.entryStore t (.map (some b)) (goInt st) (.int .i64 x)).run P u=.ok () (setBlock u b (.map Ft ky)))/\
   ∀u:World,b<u.heap.size->jf P k e κ (setBlock u b (.map Ft ky)) b (n+1) (λd=>if d=c then x else f d):=by
 obtain⟨D,h1,h2⟩:=h;have h1':=h1;obtain⟨es,dc,hb,F,hs,hD⟩:=h1';obtain⟨v0,st,rz,gV,hA,hB⟩:=LN K ht hz hb F iz;obtain⟨a,eC,aS,_⟩:=h1.lookup_int K ht he (hz w) iz;have hv:v0=.int .i64 (f c):=by
  have e1:=(hA w (Or.inl hb)).1;rw[eC]at e1;have e2:=h2 c;rw[aS]at e2;simp only[DataW.lit.injEq,Lit.int.injEq,true_and]at e2;rw[<-e2];simpa using e1.symm
 subst hv;refine⟨st,es,dc,rz,gV,hb,hA,λx hx=>?_⟩;obtain⟨Ft,ky,hS,hU⟩:=hB (.int .i64 x);refine⟨Ft,ky,hS,λu hu=>?_⟩;obtain⟨w2,zV,h3,h4⟩:=h1.update K ht hn iz (plainElem_int he hx);rw[hU]at zV;have Vn:setBlock w b (.map Ft ky)=w2:=by simpa using zV
 subst Vn;have hm:Maps.IsMap D:=⟨_,hD⟩;have aU:=h1.lt;have adp:jf P k e κ (setBlock w b (.map Ft ky)) b (n+1) (λd=>if d=c then x else f d):=⟨_,h3,λd=>by
  by_cases hd:d=c
  ·subst hd;rw[Maps.atKey_put_same hm (hl d)];simp
  ·rw[Maps.atKey_put_other (λe=>hd (hκ _ _ e)),h2 d];simp[hd]⟩
 exact adp.same (by rw[tk aU,tk hu])
end
theorem Ps:(83:TypeId)<Tryz.prog.types.size:=of_decide_eq_true K_
theorem LP:(match Tryz.prog.underlying 83 with|some (.array _ _)|some (.struct _)=>true|_=>false)=true:=by kernel_rfl
theorem Pr:KeyLaw Tryz.prog 83:=deep_law_laid lA (m:=2) (by omega) Ps K_ LP
theorem Hm:Keyed Tryz.prog 83:=Keyed.of_law Pr
theorem xO:Tryz.prog.cellsOf 83=2:=by kernel_rfl
theorem Cd {d:Nat} {a z:Int} (ha:cx a) (hz:cx z):Tryz.prog.keyLits (d+2) 83 [a,z]=some [.int .i64 a,.int .i64 z]:=by
 unfold Program.keyLits;rw[Tryz.underlying83];have h1:=f7 (d:=d) ha;have h2:=f7 (d:=d) hz;simp[mh,xO,h1,h2,List.range_succ]
theorem Ce:Tryz.prog.keyType 83=true:=by kernel_rfl
theorem ED {a b:Value}:(Value.agg #[a,b]).formed Tryz.prog 83=true:=by
 simp[Value.formed,Tryz.underlying83,xO,mh]
abbrev PK:={p:Int × Int // cx p.1/\cx p.2}
def mO (c:PK):Lit:=.string (keyBytes [c.1.1,c.1.2])
theorem Jr (c:PK):keyOf Tryz.prog 83 (.agg #[c.1.1,c.1.2])=some (mO c):=by
 obtain⟨d,hd⟩:=mW;unfold keyOf;rw[Tryz.underlying83];simp only[Ce,ED,Bool.and_self,if_true,hd,Value.cells];rw[Cd c.2.1 c.2.2];rfl
theorem Pp (x y:PK) (h:mO x=mO y):x=y:=by
 have h1:=Jr x;have h2:=Jr y;rw[<-h]at h2;have h3:=Hm.inj h1 h2;have h4:=congrArg Array.toList (Value.agg.inj h3);simp only[List.cons.injEq,Value.int.injEq,true_and,and_true]at h4;exact Subtype.ext (Prod.ext h4.1 h4.2)
theorem Pq (x:PK):WideAt.IsKeyLit (mO x):=trivial
theorem O5 (w:World):(zeroValue 3).run Tryz.prog w=.ok (.int .i64 0) w:=by kernel_rfl
end
section
def aet (a p:Int) (x:bG):Bool:=x.account==a&&x.partner==p
def Qj (l:List bG) (a p:Int):Int:=iS (l.filter (aet a p))
def ltL (x y:bG):Prop:=x.account<y.account\/(x.account=y.account/\x.partner<y.partner)
def Gw (l fj:List bG):Prop:=fj.Pairwise ltL/\∀x:bG,x∈fj↔(x.amount=Qj l x.account x.partner/\x.amount≠0)
theorem alo (x:bG) (l:List bG):iS (x::l)=x.amount+iS l:=by simp[iS]
theorem xH (x:bG):¬ltL x x:=λh=>by rcases h with h|⟨_,h⟩<;>omega
theorem LJ {x y:bG} (h:ltL x y):¬ltL y x:=λh'=>by rcases h with h|⟨h,h2⟩<;>rcases h' with h'|⟨h',h2'⟩<;>omega
theorem tj:∀{a b:List bG},a.Pairwise ltL->b.Pairwise ltL->(∀x,x∈a↔x∈b)->a=b
 |[],b,_,_,h=>by
  cases b with
  |nil=>rfl
  |cons y b=>exact absurd ((h y).2 List.mem_cons_self) (by simp)
 |x::a,b,ha,hb,h=>by
  cases b with
  |nil=>exact absurd ((h x).1 List.mem_cons_self) (by simp)
  |cons y b=>
   rw[List.pairwise_cons]at ha hb;have hxy:x=y:=by
    rcases List.mem_cons.1 ((h x).1 List.mem_cons_self)with e|h1
    ·exact e
    ·rcases List.mem_cons.1 ((h y).2 List.mem_cons_self)with e|h2
     ·exact e.symm
     ·exact absurd (hb.1 x h1) (LJ (ha.1 y h2))
   subst hxy;rw[tj ha.2 hb.2 (λz=>?_)];constructor
   ·intro hz;rcases List.mem_cons.1 ((h z).1 (List.mem_cons_of_mem _ hz))with e|h1
    ·subst e;exact absurd (ha.1 z hz) (xH z)
    ·exact h1
   ·intro hz;rcases List.mem_cons.1 ((h z).2 (List.mem_cons_of_mem _ hz))with e|h1
    ·subst e;exact absurd (hb.1 z hz) (xH z)
    ·exact h1
theorem Gw.uniq {l a b:List bG} (ha:Gw l a) (hb:Gw l b):a=b:=
 tj ha.1 hb.1 (λx=>(ha.2 x).trans (hb.2 x).symm)
end
section
open Go Go.RowKit Go.Sort
def eG (x y:Int):Int:=if x<y then -1 else if y<x then 1 else 0
def orI (a b:Int):Int:=if a=0 then b else a
theorem Ph (x:Int) (w:World):Calls Tryz.prog 100 #[x] w (λe w'=>e=.returned (.bool false)/\w'=w):=by
 go_enter Tryz.func100,Tryz.ntmps100;go_wp2_with fail;go_ret;exact⟨rfl,rfl⟩
theorem sf (x y:Int) (w:World):Calls Tryz.prog 61 #[x,y] w (λe w'=>e=.returned (.int .i64 (eG x y))/\w'=w):=by
 obtain⟨r,hr⟩:=x_ (eG x y);rw[hr];have HR:=H_ hr;clear hr;go_enter Tryz.func61,Tryz.ntmps61;by_cases h1:x<y
 case pos=>
  have hf:=H_ (show r= -1 by rw[<-HR.o];unfold eG;rw[if_pos h1]);go_wp2_with (go_at_call 100;refine(Ph _ _).mono ?_;rintro e w' ⟨rfl,rfl⟩);go_ret;exact⟨hf.o.symm▸rfl,rfl⟩
 case neg=>
 by_cases h2:y<x
 case pos=>
  have h2':x>y:=h2;have hf:=H_ (show r=1 by rw[<-HR.o];unfold eG;rw[if_neg h1,if_pos h2]);go_wp2_with (go_at_call 100;refine(Ph _ _).mono ?_;rintro e w' ⟨rfl,rfl⟩);go_ret;exact⟨hf.o.symm▸rfl,rfl⟩
 case neg=>
  have h2':¬x>y:=h2;have hf:=H_ (show r=0 by rw[<-HR.o];unfold eG;rw[if_neg h1,if_neg h2]);go_wp2_with (go_at_call 100;refine(Ph _ _).mono ?_;rintro e w' ⟨rfl,rfl⟩);go_ret;exact⟨hf.o.symm▸rfl,rfl⟩
theorem aew (g:Nat) (a b:Int) (T:TypeId) (w:World) (hg:w.heap[g]? =some (.cells #[a,b] T (0,0))):Calls Tryz.prog 60 #[.slice (some ⟨g,0,none⟩) 2 2] w (λe w'=>e=.returned (.int .i64 (orI a b))/\w'=w):=by
 obtain⟨r,hr⟩:=x_ (orI a b);rw[hr];have HR:=H_ hr;have HG:=H_ hg;clear hr hg;go_enter Tryz.func60,Tryz.ntmps60;go_wp2_with fail
 go_loopw [8] (λi wr=>∃q:Int,i=.int .i64 q/\0<=q/\q<=2/\wr=w/\(1<=q->a=0)/\(2<=q->b=0)) (λi _=>(2- intOf i).toNat)
 case atStart=>exact⟨0,rfl,by omega,by omega,rfl,by omega,by omega⟩
 case round=>
  obtain⟨q,rfl,zG,lc,rfl,k1,k2⟩:=hrel;have K1:=H_ k1;have K2:=H_ k2;have c0:=ab HG.o 0;have c1:=ab HG.o 1;clear k1 k2;by_cases aU:q<2
  case neg=>
   have hf:=H_ (show r=0 by rw[<-HR.o];unfold orI;rw[if_pos (K1.o (by omega))];exact K2.o (by omega));go_wp2_with fail;go_ret;exact⟨hf.o.symm▸rfl,rfl⟩
  case pos=>
  obtain rfl|rfl:q=0\/q=1:=by omega
  case inl=>
   by_cases ha:a=0
   case pos=>
    have ha1:(a !=0)=false:=by simpa using ha
    have HA:=H_ ha;clear ha;go_wp2_with fail;go_roundw
    case rel=>exact⟨1,rfl,by omega,by omega,by first|trivial|rfl,λ_=>HA.o,by omega⟩
    case measure=>simp only[intOf];omega
   case neg=>
    have ha1:(a !=0)=true:=by simpa using ha
    have hf:=H_ (show r=a by rw[<-HR.o];unfold orI;rw[if_neg ha]);clear ha;go_wp2_with fail;go_ret;exact⟨hf.o.symm▸rfl,rfl⟩
  case inr=>
   by_cases hb:b=0
   case pos=>
    have eL:(b !=0)=false:=by simpa using hb
    have HB:=H_ hb;clear hb;go_wp2_with fail;go_roundw
    case rel=>exact⟨2,rfl,by omega,by omega,by first|trivial|rfl,λ_=>K1.o (by omega),λ_=>HB.o⟩
    case measure=>simp only[intOf];omega
   case neg=>
    have eL:(b !=0)=true:=by simpa using hb
    have hf:=H_ (show r=b by rw[<-HR.o];unfold orI;rw[if_pos (K1.o (by omega))]);clear hb;go_wp2_with fail;go_ret;exact⟨hf.o.symm▸rfl,rfl⟩
def gP (W w:World):Prop:=∃q os,w=grow (W.drewN q) os
theorem gP.refl (W:World):gP W W:=⟨0,#[],by simp[grow];rfl⟩
theorem GH (w:World) (os:Array Obj) (n:Nat):(grow w os).drewN n=grow (w.drewN n) os:=rfl
theorem DU (w:World) (a b:Nat):(w.drewN a).drewN b=w.drewN (a+b):=by
 simp[World.drewN,Nat.add_assoc]
theorem gP.trans {A B C:World} (h:gP A B) (k:gP B C):gP A C:=by
 obtain⟨a,o1,rfl⟩:=h;obtain⟨b,o2,rfl⟩:=k;exact⟨a+b,o1++o2,by rw[GH,DU,grow_grow]⟩
theorem gP.alloc {A B:World} (h:gP A B) (o:Obj):gP A (B.alloc o):=h.trans ⟨0,#[o],by rw[alloc_eq_grow];rfl⟩
theorem gP.drew {A B:World} (h:gP A B):gP A B.drew:=h.trans ⟨1,#[],by simp[grow];rfl⟩
theorem gP.below {A B:World} (h:gP A B):Below A.heap.size A B:=by
 obtain⟨a,o,rfl⟩:=h;refine⟨rfl,rfl,rfl,by simp[grow,World.drewN],λk hk=>?_⟩;show(A.heap++o)[k]? =A.heap[k]?;rw[Array.getElem?_append_left hk]
def Dz (a b:Int) (v:Value) (w:World):Prop:=∃g T,v=.slice (some ⟨g,0,none⟩) 2 2/\w.heap[g]? =some (.cells #[a,b] T (0,0))
theorem Dz.keep (a b:Int):∀v w w',Below w.heap.size w w'->Dz a b v w->Dz a b v w':=λv w w' hb ⟨g,T,e,h⟩=>⟨g,T,e,(hb.block g (ag h)).trans h⟩
theorem Dz.made (a b:Int) (T:TypeId) (w:World):Dz a b (.slice (some ⟨w.heap.size,0,none⟩) 2 2) (w.alloc (.cells #[a,b] T)):=⟨_,T,rfl,heap_alloc_new _ _⟩
end
section
open Go Go.RowKit Go.Shelf Go.Lib
open Go.Sort hiding Below
theorem D7 {α:Type} [Inhabited α] {f:α->List Value} {k:Nat} (hk:0<k) (hf:∀x,(f x).length=k):∀(l:List α) (j:Nat),j<l.length*k->(l.flatMap f)[j]? =(f (l[j/ k]!))[j%k]?
 |[],j,h=>by simp at h
 |x::l,j,h=>by
  rw[List.flatMap_cons];rcases Nat.lt_or_ge j k with h1|h1
  ·rw[List.getElem?_append_left (by rw[hf];exact h1),Nat.div_eq_of_lt h1,Nat.mod_eq_of_lt h1];rfl
  ·rw[List.getElem?_append_right (by rw[hf];exact h1),hf];have hl:j- k<l.length*k:=by rw[List.length_cons,Nat.add_mul,Nat.one_mul]at h;omega
   rw[D7 hk hf l (j- k) hl];have e1:j/ k=(j- k) / k+1:=by rw[Nat.div_eq_sub_div hk h1]
   have e2:j%k=(j- k) %k:=(Nat.mod_eq_sub_mod h1);rw[e1,e2];rfl
instance:Inhabited bG:=⟨{}⟩
end
section
open Go Go.RowKit Go.ChangeMaps
open Go.Maps (Keyed)
def OC (mb:Nat) (rz:Array MapEntry) (gV:Nat) (c0:Int) (st:Nat) (v:Value) (w:World):Prop:=v=.tuple #[c0,goInt st]/\w.heap[mb]? =some (.map rz gV)
theorem OC.keep (mb:Nat) (rz:Array MapEntry) (gV:Nat) (c0:Int) (st:Nat):∀v w w',Below w.heap.size w w'->OC mb rz gV c0 st v w->OC mb rz gV c0 st v w':=
 λv w w' hb h=>⟨h.1,(hb.block mb (ag h.2)).trans h.2⟩
def vI (l:List bG) (k:Nat) (c:PK):Int:=Qj (l.take k) c.1.1 c.1.2
theorem xu:(Tryz.prog.info? 60).map (λi=>(i.zero,i.size,i.bytes))=some (some (.agg #[(),(),()]),3,24):=by kernel_rfl
theorem sq:Tryz.prog.underlying 49=some (.slice 60):=by kernel_rfl
def ow (l:List bG) (k:Nat) (left:Lit->Bool) (fj:List bG):Prop:=
 (∀x∈fj,nZ x/\x.amount=Qj (l.take k) x.account x.partner/\x.amount≠0/\∀hb,left (mO ⟨(x.account,x.partner),hb⟩)=false)/\
 fj.Pairwise (λx y=>¬(x.account=y.account/\x.partner=y.partner))/\
 ∀c:PK,vI l k c≠0->left (mO c)=true\/∃x∈fj,x.account=c.1.1/\x.partner=c.1.2
theorem sC {a c:PK}:(mO a).sameKey (mO c)=true↔a=c:=
 ⟨λh=>Pp _ _ (WideAt.sameKey_eq h),λh=>by rw[h];exact WideAt.sameKey_self (Pq c)⟩
theorem ow.step {l:List bG} {k:Nat} {left:Lit->Bool} {fj:List bG} (h:ow l k left fj) {c:PK} (Kx:left (mO c)=true) (h0:vI l k c≠0) (jE:cx (vI l k c)):ow l k (λz=>left z&&!z.sameKey (mO c)) (fj++[⟨c.1.1,vI l k c,c.1.2⟩]):=by
 obtain⟨h1,h2,h3⟩:=h;refine⟨λx hx=>?_,?_,λd hd=>?_⟩
 ·rcases List.mem_append.1 hx with hx|hx
  ·obtain⟨a1,a2,a3,a4⟩:=h1 x hx;exact⟨a1,a2,a3,λhb=>by show(left (mO _)&&_)=false;rw[a4 hb];rfl⟩
  ·simp only[List.mem_singleton]at hx;subst hx;refine⟨⟨c.2.1,jE,c.2.2⟩,rfl,h0,λhb=>?_⟩;have:(mO ⟨(c.1.1,c.1.2),hb⟩).sameKey (mO c)=true:=sC.2 (Subtype.ext rfl);simp only[this];simp
 ·rw[List.pairwise_append];refine⟨h2,by simp,λx hx y hy hxy=>?_⟩;simp only[List.mem_singleton]at hy;subst hy;obtain⟨a1,_,_,a4⟩:=h1 x hx;have hb:cx x.account/\cx x.partner:=⟨a1.1,a1.2.2⟩;have e:(⟨(x.account,x.partner),hb⟩:PK)=c:=Subtype.ext (Prod.ext hxy.1 hxy.2);have:=a4 hb;rw[e,Kx]at this;cases this
 ·by_cases e:d=c
  ·subst e;exact Or.inr ⟨_,List.mem_append_right _ (List.mem_singleton.2 rfl),rfl,rfl⟩
  ·rcases h3 d hd with h4|⟨x,hx,h5⟩
   ·left;have:¬(mO d).sameKey (mO c)=true:=λe'=>e (sC.1 e')
    simp[h4,this]
   ·exact Or.inr ⟨x,List.mem_append_left _ hx,h5⟩
end
section
open Go Go.RowKit
theorem O3 (l:List bG):∀u∈l.flatMap iH,u.oneCell'=true:=λu hu=>by
 obtain⟨x,_,hx⟩:=List.mem_flatMap.1 hu;simp[iH]at hx;rcases hx with rfl|rfl|rfl<;>rfl
def nu (x:bG):bG:=⟨x.account,-x.amount,x.partner⟩
def xM (a b:List bG):Bool:=decide (a=b.map nu)
def Hf (x:bG):Prop:= -4611686018427387904<=x.amount/\x.amount<=4611686018427387904
theorem Tg (x y:bG) (w:World) (hy:Hf y):Calls Tryz.prog 219 #[.agg (iH x).toArray,.agg (iH y).toArray] w (ap w (.bool (decide (x=nu y)))):=by
 obtain⟨r,hr⟩:=x_ (decide (x=nu y));rw[hr];obtain⟨xa,xm,xp⟩:=x;obtain⟨ya,ym,yp⟩:=y;have HR:=H_ (show r=decide (xa=ya/\xm= -ym/\xp=yp) by rw[<-hr];simp[nu]);obtain⟨gK,gS⟩:=hy;simp only at gK gS;clear hr;show Calls Tryz.prog 219 #[.agg #[xa,xm,xp],.agg #[ya,ym,yp]] w (ap w (.bool r));go_enter Tryz.func219,Tryz.ntmps219;go_upto_region 1 with fail;obtain⟨W,hW,H,HB,HS,ewx⟩:=B_ w (.cells #[xa,xm,xp] 60);rw[hW];clear ewx;obtain⟨W2,fR,H2,dz,jK,ewx⟩:=B_ W (.cells #[ya,ym,yp] 60);rw[fR];replace H:=(dz.block _ (ag H)).trans H;clear ewx;clear fR;have eW:W.heap.size=w.heap.size+1:=by rw[<-hW];simp
 rw[eW]at H2;clear hW;have aH:=HB.trans (dz.mono HB.size);have dW:=dz.size;have lV:=ag H2;have nf:w.heap.size<W2.heap.size:=by omega
 have HH:=H_ H;have HZ:=H_ H2;have EW:=H_ eW;clear H H2 eW;have c0:=ab HH.o 0;have c1:=ab HH.o 1;have c2:=ab HH.o 2;have e0:=ab HZ.o 0;have e1:=ab HZ.o 1;have e2:=ab HZ.o 2;by_cases h1:xa=ya
 case neg=>
  have h1':(xa==ya)=false:=by simpa using h1
  have hf:=H_ (show r=false from HR.o.trans (decide_eq_false (λh=>h1 h.1)));go_wp2_with fail;go_ret;exact⟨hf.o.symm▸rfl,aH⟩
 case pos=>
 have h1':(xa==ya)=true:=by simpa using h1
 have HA:=H_ h1;clear h1;by_cases h2:xp=yp
 case neg=>
  have h2':(xp==yp)=false:=by simpa using h2
  have hf:=H_ (show r=false from HR.o.trans (decide_eq_false (λh=>h2 h.2.2)));go_wp2_with fail;go_ret;exact⟨hf.o.symm▸rfl,aH⟩
 case pos=>
 have h2':(xp==yp)=true:=by simpa using h2
 have HP:=H_ h2;clear h2;by_cases h3:xm= -ym
 case neg=>
  have h3':(xm== -ym)=false:=by simpa using h3
  have hf:=H_ (show r=false from HR.o.trans (decide_eq_false (λh=>h3 h.2.1)));go_wp2_with fail;go_ret;exact⟨hf.o.symm▸rfl,aH⟩
 case pos=>
  have h3':(xm== -ym)=true:=by simpa using h3
  have hf:=H_ (show r=true from HR.o.trans (decide_eq_true ⟨HA.o,h3,HP.o⟩));clear h3;go_wp2_with fail;go_ret;exact⟨hf.o.symm▸rfl,aH⟩
theorem ab5 (a b':List bG) (A B:Option Addr) (c c4:Nat) (w:World) (ha:aj bc 3 w (·<w.heap.size) [.slice A a.length c] a) (QS:aj bc 3 w (·<w.heap.size) [.slice B b'.length c4] b') (kA:∀x∈b',Hf x):Calls Tryz.prog 218 #[.slice A a.length c,.slice B b'.length c4,.func (.func 219) #[] #[]] w (ap w (.bool (xM a b'))):=by
 obtain⟨r,hr⟩:=x_ (xM a b');rw[hr];have HR:=H_ (show decide (a=b'.map nu)=r from hr);have jw:=ha.cap;have Fy:=QS.cap;obtain⟨n,bj⟩:=x_ (a.length);obtain⟨m,QF⟩:∃n,b'.length=n:=⟨_,rfl⟩;have HA:=H_ ha;have HB:=H_ QS;have HN:=H_ bj;have HM:=H_ QF;have Fu:=H_ kA;rw[bj]at jw |-;rw[QF]at Fy |-;unfold maxLen at jw Fy;have Sb:n<=9223372036854775807:=by omega
 have hm9:m<=9223372036854775807:=by omega
 clear hr ha QS bj QF jw Fy kA;by_cases hl:n=m
 case neg=>
  have hf:=H_ (show r=false by rw[<-HR.o];exact decide_eq_false (λe=>hl (by rw[<-HN.o,<-HM.o,e,List.length_map])));have Bg:((n:Int) !=(m:Int))=true:=by simp;omega
  clear hl;go_enter Tryz.func218,Tryz.ntmps218;go_wp2_with fail;go_ret;exact⟨hf.o.symm▸rfl,Below.refl _ _⟩
 case pos=>
 subst hl;go_enter Tryz.func218,Tryz.ntmps218;go_wp2_with fail
 go_loopw [17] (λi wr=>∃k:Nat,k<=n/\i=.int .i64 (k:Int)/\Below w.heap.size w wr/\∀j,j<k->a[j]? =(b'.map nu)[j]?) (λi _=>n- (intOf i).toNat)
 case atStart=>exact⟨0,by omega,rfl,Below.refl _ _,λj h=>by omega⟩
 case round=>
  obtain⟨k,hk,rfl,hb,hall⟩:=hrel;have eY:=H_ hall;clear hall;by_cases aU:k<n
  case pos=>
   have bq:(k:Int)< (n:Int):=by omega
   have bI:k<a.length:=by rw[HN.o];exact aU
   have yW:k<b'.length:=by rw[HM.o];exact aU
   obtain⟨b,o,es,dj,ed,bL,aS⟩:=aj.get HA.o k bI;obtain⟨b4,o4,es4,Ye,adE,N5,ze⟩:=aj.get HB.o k yW;subst dj Ye;have bE:=(bc.lit bL).1;have iy:=(bc.lit N5).1;rw[bE]at aS;rw[iy]at ze;have Mz:=Fu.o _ (List.getElem_mem yW);obtain⟨x,hx⟩:=x_ (a[k]);obtain⟨y,hy⟩:∃x,b'[k]=x:=⟨_,rfl⟩;rw[hx]at aS;rw[hy]at ze Mz;have HX:=H_ (show a[k]? =some x by rw[List.getElem?_eq_getElem bI,hx]);have HY:=H_ (show(b'.map nu)[k]? =some (nu y) by rw[List.getElem?_map,List.getElem?_eq_getElem yW,hy];rfl);have XA:=H_ (λw2:World=>Tg x y w2 Mz);obtain⟨q,hq⟩:=x_ (decide (x=nu y));rw[hq]at XA;have HQ:=H_ hq;obtain⟨xa,xm,xp⟩:=x;obtain⟨ya,ym,yp⟩:=y;have ad4:=H_ (show ∀w2,Calls Tryz.prog 219 #[.agg #[xa,xm,xp],.agg #[ya,ym,yp]] w2 (ap w2 (.bool q))from XA.o)
   try simp only at aS ze
   have eZ:=H_ ((aS.fr (Fr.ofBelow hb)).range);have N9:=H_ ((ze.fr (Fr.ofBelow hb)));clear bL N5 bE iy aS ze hx hy Mz hq XA;go_upto_region 6 with(refine w_ 21 60 20 b (o+k*3) [xa,xm,xp] eZ.o cK Tryz.underlying60 ?_);have H6:=heap_alloc_new wr (.cells #[xa,xm,xp] 60);have dK:=ai wr (.cells #[xa,xm,xp] 60);have my:=ag H6;have ez6:(wr.alloc (.cells #[xa,xm,xp] 60)).heap.size=wr.heap.size+1:=by simp
   generalize mC:wr.alloc (Obj.cells #[xa,xm,xp] 60)=W6 at*;clear mC;have QP:=H_ H6;have EZ6:=H_ ez6;clear H6 ez6;have dd:=hb.trans (dK.mono hb.size);have acA:=H_ ((N9.o.fr ((Fr.ofBelow dK).mono (λq (hq:q<w.heap.size)=>by have:=hb.size;omega))).range);go_upto_region 7 with(refine w_ 25 60 24 b4 (o4+k*3) [ya,ym,yp] acA.o cK Tryz.underlying60 ?_);obtain⟨W7,F8,H7,em,HS7,ewx⟩:=B_ W6 (.cells #[ya,ym,yp] 60);rw[F8];clear ewx;clear F8;have Mo:=H_ H7;have acK:=k_ em QP;clear H7;have fC:=dd.trans (em.mono dd.size);go_wp2_with (first|(refine W_ 27 60 8 wr.heap.size acK.o cK Tryz.underlying60 ?_)|(refine W_ 28 60 9 W6.heap.size Mo.o cK Tryz.underlying60 ?_));refine(ad4.o W7).mono ?_;rintro e w8 ⟨rfl,jX⟩;have kw:=fC.trans (jX.mono fC.size);cases q with
   |false=>
    have hf:=H_ (show r=false by
     rw[<-HR.o];refine decide_eq_false (λe=>?_);have h1:=HX.o;rw[e,HY.o]at h1;exact of_decide_eq_false HQ.o (Option.some.inj h1).symm)
    go_wp2_with fail;go_ret;exact⟨hf.o.symm▸rfl,kw⟩
   |true=>
    go_wp2_with fail;go_roundw
    case rel=>exact⟨k+1,by omega,by go_num,kw,λj hj=>by
     rcases Nat.lt_or_ge j k with h|h
     ·exact eY.o j h
     ·have:j=k:=by omega
      subst this;rw[HX.o,HY.o,of_decide_eq_true HQ.o]⟩
    case measure=>first|exact aQ aU|(simp only[intOf];omega)
  case neg=>
   have bq:¬(k:Int)< (n:Int):=by omega
   have hf:=H_ (show r=true by
    rw[<-HR.o];refine decide_eq_true (List.ext_getElem? (λi=>?_));rcases Nat.lt_or_ge i k with h|h
    ·exact eY.o i h
    ·rw[List.getElem?_eq_none (by rw[HN.o];omega),List.getElem?_eq_none (by rw[List.length_map,HM.o];omega)])
   go_wp2_with fail;go_ret;exact⟨hf.o.symm▸rfl,hb⟩
theorem ach (a b':List bG) (A B:Option Addr) (c c4:Nat) (w:World) (ha:aj bc 3 w (·<w.heap.size) [.slice A a.length c] a) (QS:aj bc 3 w (·<w.heap.size) [.slice B b'.length c4] b') (kA:∀x∈b',Hf x):Calls Tryz.prog 195 #[.slice A a.length c,.slice B b'.length c4] w (ap w (.bool (xM a b'))):=by
 have hc:=ab5 a b' A B c c4 w ha QS kA;obtain⟨n,bj⟩:=x_ (a.length);obtain⟨m,QF⟩:∃n,b'.length=n:=⟨_,rfl⟩;obtain⟨r,hr⟩:=x_ (xM a b');rw[bj,QF,hr]at hc |-;have HC:=H_ hc;clear hc bj QF hr ha QS kA;go_enter Tryz.func195,Tryz.ntmps195;go_wp2_with fail;refine HC.o.mono ?_;rintro e w2 ⟨rfl,aH⟩;go_wp2_with fail;go_ret;exact⟨rfl,aH⟩
def eH (es:List ak) (id:Int):Option Nat:=es.findIdx? (λx=>x.id==id)
def eJ:List ak->Int->Int
 |[],_=>0
 |x::es,id=>if x.kind=3/\x.of_=id then x.id else eJ es id
def qg (es:List ak) (x:ak):Int:=
 match eH es x.of_ with
 |none=>8
 |some k=>if(es.getD k {}).kind=3\/eJ es x.of_≠0 then 7 else if(es.getD k {}).entity≠x.entity\/x.date< (es.getD k {}).date\/xM x.lines (es.getD k {}).lines=false then 18 else 0
def eF (g:au) (es:List ak) (x:ak):Int:=
 if dh g x≠0 then dh g x
 else if(eH es x.id).isSome then 9
 else if x.kind=3/\qg es x≠0 then qg es x
 else if 2000<=es.length then 6 else 0
def okJ (g:au) (es:List ak):Prop:=∀k (h:k<es.length),eF g (es.take k) es[k]=0
theorem Jn (g:au):okJ g []:=λk h=>absurd h (by simp)
theorem EA {g:au} {es:List ak} {x:ak} (h:okJ g es) (hx:eF g es x=0):okJ g (es++[x]):=λk hk=>by
 rcases Nat.lt_or_ge k es.length with h1|h1
 ·rw[List.getElem_append_left h1,List.take_append_of_le_length (by omega)];exact h k h1
 ·have Iv:k=es.length:=by simp at hk;omega
  subst Iv;simp[hx]
theorem rp {g:au} {es:List ak} {x:ak} (h:eF g es x=0):dh g x=0/\eH es x.id=none/\(x.kind=3->qg es x=0)/\es.length<2000:=by
 unfold eF at h;split at h
 ·exact absurd h ‹_›
 ·rename_i h1;split at h
  ·exact absurd h (by decide)
  ·rename_i h2;split at h
   ·rename_i h3;exact absurd h h3.2
   ·rename_i h3;split at h
    ·exact absurd h (by decide)
    ·rename_i h4;refine⟨by omega,?_,λhk=>?_,by omega⟩
     ·cases hi:eH es x.id with
      |none=>rfl
      |some k=>rw[hi]at h2;exact absurd rfl h2
     ·by_cases hr:qg es x=0
      ·exact hr
      ·exact absurd ⟨hk,hr⟩ h3
theorem mn {g:au} {es:List ak} (h:okJ g es) {x:ak} (hx:x∈es):dh g x=0:=by
 obtain⟨k,hk,rfl⟩:=List.getElem_of_mem hx;exact(rp (h k hk)).1
theorem li {g:au} {x:ak} (h:dh g x=0):agS (bh g) g.entities.length x=true:=by
 cases hf:agS (bh g) g.entities.length x with
 |true=>rfl
 |false=>rw[vT hf]at h;exact absurd h (by decide)
theorem Ag {g:au} {x:ak} (h:dh g x=0):1<=x.id:=((en _ _ _).1 (li h)).2.1
theorem BJ {g:au} {x:ak} (h:dh g x=0):x.lines.length<=40:=((en _ _ _).1 (li h)).2.2.2.2.2.2.2.2.2.2.1
theorem vU {g:au} {x:ak} (h:dh g x=0):∀y∈x.lines,Hf y:=λy hy=>by
 have h1:=((en _ _ _).1 (li h)).2.2.2.2.2.2.2.2.2.2.2 y hy;have h2:=((kj _ _ _).1 h1).2.1;unfold sw at h2;simp only[Bool.and_eq_true,decide_eq_true_eq]at h2;unfold Hf;omega
theorem Lx (es:List ak) (x:ak) (id:Int):eH (es++[x]) id=match eH es id with|some k=>some k|none=>if x.id=id then some es.length else none:=by
 unfold eH;rw[List.findIdx?_append];cases h:es.findIdx? (λx=>x.id==id)with
 |some k=>simp
 |none=>
  by_cases hx:x.id=id
  ·simp[hx,List.findIdx?_cons]
  ·simp[hx,List.findIdx?_cons]
theorem zt {es:List ak} {x:ak} (h:eH es x.id=none) (id:Int):eH (es++[x]) id=if id=x.id then some es.length else eH es id:=by
 rw[Lx];by_cases hx:id=x.id
 ·subst hx;simp[h]
 ·rw[if_neg hx,if_neg (λe=>hx e.symm)];cases eH es id<;>rfl
theorem sg {es:List ak} {id:Int} {k:Nat} (h:eH es id=some k):∃hk:k<es.length,es[k].id=id:=by
 unfold eH at h;rw[List.findIdx?_eq_some_iff_getElem]at h;obtain⟨hk,h1,_⟩:=h;exact⟨hk,by simpa using h1⟩
theorem Lw {es:List ak} {id:Int} (h:eH es id=none):∀x∈es,x.id≠id:=by
 unfold eH at h;rw[List.findIdx?_eq_none_iff]at h;intro x hx;simpa using h x hx
theorem Hv (es:List ak) (x:ak) (id:Int) (hp:∀y∈es,1<=y.id):eJ (es++[x]) id=if eJ es id=0 then(if x.kind=3/\x.of_=id then x.id else 0)else eJ es id:=by
 induction es with
 |nil=>rfl
 |cons y es ih=>
  have h1:=hp y (by simp);have ih:=ih (λz hz=>hp z (by simp[hz]));have e1:eJ (y::es++[x]) id=if y.kind=3/\y.of_=id then y.id else eJ (es++[x]) id:=rfl
  have e2:eJ (y::es) id=if y.kind=3/\y.of_=id then y.id else eJ es id:=rfl
  by_cases hy:y.kind=3/\y.of_=id
  ·rw[if_pos hy]at e1 e2;rw[e1,e2,if_neg (by omega)]
  ·rw[if_neg hy]at e1 e2;rw[e1,e2,ih]
def qd (es:List ak) (id:Int):Option Int:=if eJ es id=0 then none else some (eJ es id)
theorem ZS {es:List ak} {x:ak} (h:qg es x=0):eJ es x.of_=0:=by
 unfold qg at h;split at h
 ·exact absurd h (by decide)
 ·split at h
  ·exact absurd h (by decide)
  ·rename_i h1;exact Decidable.byContradiction (λh2=>h1 (.inr h2))
theorem AN {g:au} {es:List ak} {x:ak} (hj:okJ g es) (h:eF g es x=0) (id:Int):qd (es++[x]) id=if x.kind=3/\id=x.of_ then some x.id else qd es id:=by
 have hp:∀y∈es,1<=y.id:=λy hy=>Ag (mn hj hy)
 obtain⟨h1,h2,h3,h4⟩:=rp h;have mA:=Ag h1;unfold qd;rw[Hv es x id hp];by_cases hk:x.kind=3/\id=x.of_
 ·obtain⟨Dm,rfl⟩:=hk;have h0:=ZS (h3 Dm);rw[if_pos h0,if_pos (show x.kind=3/\x.of_=x.of_ from⟨Dm,rfl⟩),if_pos (show x.kind=3/\x.of_=x.of_ from⟨Dm,rfl⟩),if_neg (by omega)]
 ·rw[if_neg hk,if_neg (show ¬(x.kind=3/\x.of_=id)from λhh=>hk ⟨hh.1,hh.2.symm⟩)];by_cases h0:eJ es id=0
  ·simp[h0]
  ·simp[h0]
theorem LY {g:au} {es:List ak} {x:ak} (hj:okJ g es) (h:eF g es x=0) (hk:x.kind≠3) (id:Int):qd (es++[x]) id=qd es id:=by
 rw[AN hj h,if_neg (λhh=>hk hh.1)]
end
section
open Go Go.RowKit Go.ChangeMaps
open Go.Maps (Keyed)
theorem Aw:Tryz.prog.underlying 193=some (.map 3 3):=by kernel_rfl
def eM (w:World) (b n:Nat) (f:Int->Option Int):Prop:=
 ∃D:UD,w.ownsMap Tryz.prog 3 (plainElem Tryz.prog 3) b n D/\∀c:Int,Maps.has D (qV c)=(f c).isSome/\D.atKey (qV c) (.lit (.int .i64 0))=.lit (.int .i64 ((f c).getD 0))
section
variable {w w':World} {b n:Nat} {f:Int->Option Int}
theorem eM.made (w:World):eM (w.alloc (.map #[] 0)) w.heap.size 0 (λ_=>none):=⟨_,World.ownsMap_made w Tryz.prog 3 _,λ_=>⟨rfl,rfl⟩⟩
theorem eM.lt (h:eM w b n f):b<w.heap.size:=by
 obtain⟨D,h1,h2⟩:=h;exact h1.lt
theorem eM.same (h:eM w b n f) (hb:w'.heap[b]? =w.heap[b]?):eM w' b n f:=by
 obtain⟨D,⟨es,dc,h1,h3,h4,h5⟩,h2⟩:=h;exact⟨D,⟨es,dc,hb.trans h1,h3,h4,h5⟩,h2⟩
theorem eM.fr {Q:Nat->Prop} (h:eM w b n f) (hf:Fr Q w w') (hb:Q b):eM w' b n f:=h.same (hf.block b hb)
theorem eM.below (h:eM w b n f) (hb:Below w.heap.size w w'):eM w' b n f:=h.fr (Fr.ofBelow hb) h.lt
theorem eM.mono (h:eM w b n f) {n':Nat} (hn:n<=n'):eM w b n' f:=by
 obtain⟨D,h1,h2⟩:=h;exact⟨D,h1.mono hn,h2⟩
theorem eM.eqv {g:Int->Option Int} (h:eM w b n f) (hg:∀c,f c=g c):eM w b n g:=by
 obtain⟨D,h1,h2⟩:=h;exact⟨D,h1,λc=>by rw[<-hg c];exact h2 c⟩
theorem eM.look (h:eM w b n f) {c:Int} (hc:cx c):(Instr.lookup 193 (.map (some b)) (.int .i64 c) true).run Tryz.prog w=.ok (.tuple #[((f c).getD 0:Int),.bool (f c).isSome]) w:=by
 obtain⟨D,h1,h2⟩:=h;obtain⟨v,ps,eC,hv⟩:=h1.look_ok dI Aw (O5 w) (plainElem_int oA (by decide)) (gD hc);obtain⟨a,rfl,ha,_⟩:=plainElem_int_inv oA hv;rw[(h2 c).2]at ha;simp only[Prod.mk.injEq,DataW.lit.injEq,Lit.int.injEq,true_and]at ha;rw[eC,<-ha.1,(h2 c).1]
theorem eM.store (h:eM w b n f) (hn:n<maxLen) {c x:Int} (hc:cx c) (hx:cx x):
 ∃w',(Instr.mapUpdate 193 (.map (some b)) (.int .i64 c) (.int .i64 x)).run Tryz.prog w=.ok () w'/\eM w' b (n+1) (λd=>if d=c then some x else f d)/\Fr (λq=>q≠b) w w':=by
 obtain⟨D,h1,h2⟩:=h;obtain⟨w2,eC,h3,h4⟩:=h1.store dI Aw hn (gD hc) (plainElem_int oA (WalkArith.wf_i64 hx));have hm:Maps.IsMap D:=h1.isMap;refine⟨w2,eC,⟨_,h3,λd=>?_⟩,?_⟩
 ·by_cases hd:d=c
  ·subst hd;rw[Maps.atKey_put_same hm (nV d),Maps.has_put_same hm (nV d)];simp
  ·have bT:qV d≠qV c:=λe=>hd (qW _ _ e)
   rw[Maps.atKey_put_other bT,Maps.has_put_other bT];simp only[if_neg hd];exact h2 d
 ·obtain⟨es,dc,Ft,ky,hb,rfl⟩:=h4;exact⟨rfl,rfl,rfl,by simp[setBlock],λi hi=>heap_setBlock_other hb _ hi⟩
end
theorem yE {ops:Array Oper} {rest:List Oper} {o:Oper} {a:Act} {w:World} {Q:Exit->Act->World->Prop} (hg:o.guard=none) (m x v:Operand) (pC:o.op=Op.mapUpdate 193 m x v)
 (b n:Nat) (f:Int->Option Int) (hm:a.eval m=.map (some b)) (h:eM w b n f) (hn:n<maxLen) (c:Int) (hx:a.eval x=.int .i64 c) (hc:cx c) (xv:Int) (hv:a.eval v=.int .i64 xv) (hxv:cx xv)
 (hK:∀w',eM w' b (n+1) (λd=>if d=c then some xv else f d)->Fr (λq=>q≠b) w w'->wpList Tryz.prog ops Q rest (a.put o.dst undef) w'):wpList Tryz.prog ops Q (o::rest) a w:=by
 refine wpList_plain hg λK' hK'=>?_
 obtain⟨w',eC,r1,r2⟩:=h.store hn hc hxv;unfold Oper.wp;simp[execOp,pC,hm,hx,hv,eC,Result.andThen];exact hK' _ _ (hK w' r1 r2)
end
end Go.Proofs.YtibiddakakgakaaGreat
