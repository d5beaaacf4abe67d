/- Check of an entry in the reference. Written by gen_e7.py. -/
import Derived.Test.YtibiddakakgakaaGreatQdE4
import Derived.Test.YtibiddakakgakaaGreatQdE5I2
set_option linter.unusedVariables false
set_option linter.unusedSimpArgs false
set_option maxRecDepth 4000
attribute [local go_sem ↓] Go.wp_at_zero Go.wp_at_succ
set_option maxHeartbeats 16000000
namespace Go.Proofs.YtibiddakakgakaaGreat
open Go Go.RowKit
theorem Tv {g:au} {x:ak} {gl ex:List Value} {w:World} (hg:aL w (·<w.heap.size) gl g) (ci:dQ g) (hx:ax w (·<w.heap.size) ex x) (ry:x.text.size<=140737488355327) (w2:World) (hb:Below w.heap.size w w2):Calls Tryz.prog 87 #[.agg gl.toArray,.agg ex.toArray] w2 (ap w2 (.bool (agS (bh g) g.entities.length x))):=by
 obtain⟨Al,cl,rfl,jE,hl⟩:=(ax.keep hx hb).lit;obtain⟨Ac,cc,Ae,ce,Gs,LE,_⟩:=(aL.keep hg hb).view;exact P2 gl.toArray Ae g.entities.length ce (bh g) _ _ _ _ _ _ x.lines Al cl w2 (by simpa using Gs) (by simpa using LE) ci.2.1 (xY (hg.keep hb) ci) jE ry hl
theorem PQ (g:au) (x:ak) (gl ex:List Value) (w:World) (hg:aL w (·<w.heap.size) gl g) (ci:dQ g) (hx:ax w (·<w.heap.size) ex x) (ry:x.text.size<=140737488355327):Calls Tryz.prog 51 #[.agg gl.toArray,.agg ex.toArray] w (ap w (.int .i64 (dh g x))):=by
 obtain⟨r,hr⟩:=x_ (dh g x);rw[hr];have HR:=H_ hr;have RH:=H_ (Tv hg ci hx ry);obtain⟨f1,yL⟩:∃b,agS (bh g) g.entities.length x=b:=⟨_,rfl⟩;rw[yL]at RH;have kU:=H_ yL;have fZ:gl.toArray.size=21:=by have:=hg.len;simpa using this
 have fu:=H_ fZ;have FP:=H_ hg;have sW:=H_ ci;have MB:=H_ hx;obtain⟨Al,cl,YX,⟨R4,rQ,hxd,hxk,hxo⟩,hl⟩:=hx.lit;subst YX;obtain⟨xi,xe,xd,xk,xo,xt,ls⟩:=x;simp only at RH hl hxd |-;have HL:=H_ hl;have HXD:=H_ hxd;obtain⟨nl,bj⟩:∃n,ls.length=n:=⟨_,rfl⟩;have HN:=H_ bj;rw[bj]at RH |-;clear hr yL hg ci hx hl bj ry fZ R4 rQ hxd hxk hxo;show Calls Tryz.prog 51 #[.agg gl.toArray,.agg #[xi,xe,xd,xk,xo,xt,.slice Al nl cl]] w (ap w (.int .i64 r));have adB:=H_ (show ∀(w2:World),Below w.heap.size w w2->Calls Tryz.prog 87 #[.agg gl.toArray,.agg #[xi,xe,xd,xk,xo,xt,.slice Al nl cl]] w2 (ap w2 (.bool f1))from RH.o);clear RH;go_enter Tryz.func51,Tryz.ntmps51;go_upto_region 1 with fail;obtain⟨W,hW,H,HB,HS,ewx⟩:=B_ w (.cells gl.toArray 29);rw[hW];clear ewx;obtain⟨W2,fR,H2,dz,jK,ewx⟩:=B_ W (.cells #[xi,xe,xd,xk,xo,xt,.slice Al nl cl] 51);rw[fR];replace H:=(dz.block _ (ag H)).trans H;clear ewx;clear fR;have eW:W.heap.size=w.heap.size+1:=by rw[<-hW];simp
 rw[eW]at H2;clear hW;have aH:=HB.trans (dz.mono HB.size);have dW:=dz.size;have lV:=ag H2;have nf:w.heap.size<W2.heap.size:=by omega
 have HH:=H_ H;have HZ:=H_ H2;have EW:=H_ eW;clear H H2 eW;go_wp2_with (first|(refine W_ 8 29 2 (w.heap.size) HH.o (by rw[ay];exact congrArg some fu.o.symm) Tryz.underlying29 ?_)|(refine W_ 9 51 3 (w.heap.size+1) HZ.o aY Tryz.underlying51 ?_));refine(adB.o W2 aH).mono ?_;rintro e w3 ⟨rfl,aZ⟩;have aF:=aH;have ku:=nf;have kt:=lV;have dn:=HH;have qN:=HZ;have aR:=aF.trans (aZ.mono aF.size);have lE:=aZ.size;have nD:=Nat.lt_of_lt_of_le ku lE;have nK:=Nat.lt_of_lt_of_le kt lE;have kS:=k_ aZ dn;have l7:=k_ aZ qN;cases f1 with
 |false=>
  have hf:=H_ (show r=1 by exact HR.o.symm.trans (vT kU.o));go_wp2_with fail;go_ret;exact⟨hf.o.symm▸rfl,aR⟩
 |true=>
 have hfm:=(en _ _ _).1 kU.o;have zG:0<=xe:=hfm.2.2.1;have mF:xe< (g.entities.length:Int):=hfm.2.2.2.1;have Z8:nl<=40:=by rw[<-HN.o];exact hfm.2.2.2.2.2.2.2.2.2.2.1
 clear hfm;obtain⟨q,rfl⟩:∃q:Nat,xe=(q:Int):=⟨xe.toNat,by omega⟩;have hq:q<g.entities.length:=by omega
 obtain⟨Ac,cc,Ae,ce,_,LE,_,hy,hm,hn,_,iu⟩:=FP.o.view;obtain⟨be,oe,es,dj,oQ,bL,aS⟩:=aj.get iu q hq;subst dj;obtain⟨Ec,c2,Cu,Kb,bE,ee,_⟩:=aN.lit bL;have oO:=(sW.o.2.2.2 _ (List.getElem_mem hq)).1;have yQ:=H_ (show(g.entities.getD (q:Int).toNat {}).chart=g.entities[q].chart by rw[show(q:Int).toNat=q from by omega,List.getD_eq_getElem?_getD,List.getElem?_eq_getElem hq];rfl);obtain⟨ec,sN⟩:=x_ (g.entities[q].chart);rw[sN]at bE ee oO yQ;obtain⟨n2,Gc⟩:∃n,ec.length=n:=⟨_,rfl⟩;rw[Gc]at bE;subst bE;obtain⟨ne,bT⟩:∃n,g.entities.length=n:=⟨_,rfl⟩;rw[bT]at LE hq;have zi:ne<=1000:=by rw[<-bT];exact sW.o.2.1
 have rN:=H_ Gc;have HN3:=H_ oO;have Ow:=H_ ee;have HDE:=H_ (aS.c (j:=2) rfl);have Gf:=H_ oQ;have HY:=H_ hy;have HM:=H_ hm;have Yl:=H_ hn;have Sh:=H_ (xh kU.o);have rU:=H_ (show gl.toArray[20]? =some (.slice (some ⟨be,oe,none⟩) ne ce) by simpa using LE);clear Gc oO ee aS oQ LE iu bL bT sN zG mF hy hm hn;have e6:=ab l7.o 6;go_wp2_with fail;clear e6
 go_loopw [5] (λi wr=>∃k:Nat,k<=nl/\i=.int .i64 (k:Int)/\Below w3.heap.size w3 wr/\∀j (hj:j<ls.length),j<k->(aK ec ls[j].account).isSome=true) (λi _=>nl- (intOf i).toNat)
 case atStart=>exact⟨0,by omega,rfl,Below.refl _ _,λj hj h=>by omega⟩
 case round=>
  obtain⟨k,Fi,rfl,hb,hall⟩:=hrel;have HA:=H_ hall;clear hall;have J3:=(hb.block _ nD).trans kS.o;have Cw:=(hb.block _ nK).trans l7.o;have Mw:=H_ (Nat.lt_of_lt_of_le nD hb.size);have vo:=H_ (Nat.lt_of_lt_of_le nK hb.size);have rV:=aR.trans (hb.mono aR.size);have d6:=ab Cw 6;by_cases aU:k<nl
  case pos=>
   have bq:(k:Int)< (nl:Int):=by omega
   have bI:k<ls.length:=by rw[HN.o];exact aU
   obtain⟨b,o,es,dj,ed,bL,aS⟩:=aj.get HL.o k bI;subst dj;have bE:=(bc.lit bL).1;have jE:=(bc.lit bL).2;rw[bE]at aS;have ld:=H_ (List.getElem_mem bI);obtain⟨x,hx⟩:=x_ (ls[k]);rw[hx]at aS jE ld;have HX:=H_ hx;obtain⟨la,lm,lp⟩:=x
   try simp only at aS
   have vw:=H_ (show cx la from jE.1);have lY:=aS.fr (Fr.ofBelow rV);obtain⟨ao,hao⟩:∃a,gH (aK ec la)=a:=⟨_,rfl⟩;obtain⟨p1,p2,p3,p4⟩:=ao;have Bm:=H_ hao;obtain⟨fs,hfs⟩:∃s,(aK ec la).isSome=s:=⟨_,rfl⟩;have Sg:=H_ hfs;clear hao hfs;have jI:=H_ (show b<wr.heap.size from Nat.lt_of_lt_of_le ed rV.size);have HVE:=H_ (show be<wr.heap.size from Nat.lt_of_lt_of_le Gf.o rV.size);have C0:=H_ (lY.c (j:=0) rfl);have go:=H_ rV;have Nd:=H_ ((ab J3 20).trans rU.o);have D1:=H_ (ab Cw 1);have D6:=H_ (ab Cw 6);have DE:=H_ ((rV.cell (p:=⟨be,oe+q*5+2,none⟩) Gf.o).trans HDE.o);clear bL bE aS lY hx jE J3 Cw rV;have IR:(q:Int)< (ne:Int):=by omega
   go_wp2_with fail;clear d6;cases fs with
   |false=>
    have hf:=H_ (show r=17 from HR.o.symm.trans (DK kU.o (by show dY (g.entities.getD (q:Int).toNat {}).chart ls=false;rw[yQ.o];exact vS ld.o Sg.o)));refine cV 18 (λi=>i==16) (Ks wr [.val (.pointer (some ⟨w.heap.size,20,none⟩)),.val (.slice (some ⟨be,oe,none⟩) ne ce),.val (.pointer (some ⟨(w.heap.size+1),1,none⟩)),(q:Int),.val (.pointer (some ⟨be,oe+q*5,none⟩)),.val (.pointer (some ⟨be,oe+q*5+2,none⟩)),.val (.slice Ec n2 c2),.val (.pointer (some ⟨(w.heap.size+1),6,none⟩)),.val (.slice (some ⟨b,o,none⟩) nl cl),(k:Int),.val (.pointer (some ⟨b,o+k*3,none⟩)),.val (.pointer (some ⟨b,o+k*3,none⟩)),la,.val (.tuple #[.agg #[p1,p2,p3,p4],false]),.val (.tuple #[.agg #[p1,p2,p3,p4],false]),.val (.agg #[p1,p2,p3,p4]),false,.own (cM wr #[.int .i64 0,.int .i64 0,.int .i64 0,.int .i64 0] 78) (cM.keep _ _ _)])
     (λw'=>Below wr.heap.size wr w') (Ks wr [.val (.pointer (some ⟨w.heap.size,20,none⟩)),.val (.slice (some ⟨be,oe,none⟩) ne ce),.val (.pointer (some ⟨(w.heap.size+1),1,none⟩)),(q:Int),.val (.pointer (some ⟨be,oe+q*5,none⟩)),.val (.pointer (some ⟨be,oe+q*5+2,none⟩)),.val (.slice Ec n2 c2),.val (.pointer (some ⟨(w.heap.size+1),6,none⟩)),.val (.slice (some ⟨b,o,none⟩) nl cl),(k:Int),.val (.pointer (some ⟨b,o+k*3,none⟩)),.val (.pointer (some ⟨b,o+k*3,none⟩)),la,.val (.tuple #[.agg #[p1,p2,p3,p4],false]),.val (.tuple #[.agg #[p1,p2,p3,p4],false]),.val (.agg #[p1,p2,p3,p4]),false,.own (cM wr #[.int .i64 p1,.int .i64 p2,.int .i64 p3,.int .i64 p4] 78) (cM.keep _ _ _)])
     (λw'=>Below wr.heap.size wr w') K_ K_ K_ (by decide) K_ K_ K_ K_ rfl K_ _ rfl rfl (Below.refl _ _).drew ?_ ?_ ?_ ?_
    ·refine⟨b_ (q_ 2),e_ (p_ 0 20) λ_ h=>l_ h Mw.o Nd.o,b_ (q_ 3),e_ (p_ 2 22) λ_ h=>l_ h vo.o D1.o,c_ (p_ 1 21) (p_ 3 23),b_ (p_ 4 24),e_ (p_ 5 25) λ_ h=>l_ h HVE.o DE.o,b_ (q_ 3),e_ (p_ 7 27) λ_ h=>l_ h vo.o D6.o,b_ (q_ 5),c_ (p_ 8 28) (p_ 9 29),b_ (p_ 10 30),e_ (p_ 11 31) (p:=⟨b,o+k*3,none⟩) λ_ h=>l_ h jI.o C0.o,?_,b_ (p_ 13 33),b_ (p_ 14 19),b_ (p_ 14 19),?_,trivial⟩
     ·refine O2_ (p_ 6 26) (p_ 12 32) λA0 w2 K e0 e1 hS hK=>?_;go_simp
      go_at_call 34
      refine(ve rN.o (az Ow.o (go.o.trans (hS.mono go.o.size))) HN3.o la vw.o Bm.o Sg.o).mono ?_;rintro e w3 ⟨rfl,h3⟩;exact hK.out _ _ (hS.trans (h3.mono hS.size)) (Ks.of rfl rfl) (Ks.keep h3)
     ·refine O0_ λA0 w2 K hS hK=>?_;go_simp;exact hK.out _ _ (hS.alloc hS.size _) (Ks.of rfl (cM.made hS.size _ _)) (Ks.keep (ai w2 _))
    ·intro _ A0 w2 hI hall K hK;obtain⟨xp,gp,hp⟩:=hI.got 17 _ 6 rfl rfl (hall 17 (by decide) rfl);obtain⟨xv,gv,hv⟩:=hI.got 15 _ 34 rfl rfl (hall 15 (by decide) rfl);obtain⟨g,rfl,jy,f8⟩:=hp _ rfl;obtain rfl:xv=.agg #[p1,p2,p3,p4]:=hv _ rfl;have hS:=hI.world;refine aa rfl ?_;refine wp_store_row 78 (.tmp 6) (.tmp 34) rfl g #[p1,p2,p3,p4] (by simp[Act.eval,Array.getD_eq_getD_getElem?,gp]) (by simp[Act.eval,Array.getD_eq_getD_getElem?,gv]) 78 #[(),(),(),()] f8 (bX ⟨p1,p2,p3,p4⟩) rfl (by simp[Value.oneCell']) ?_;refine hK _ (aD hS jy _) ?_;intro i o d u hi ho hd hu hV;refine Ks.store (p:=17) (kn:=_) rfl hV (λDl=>?_);subst Dl;obtain rfl:_=o:=Option.some.inj ho;obtain rfl:_=d:=Option.some.inj hd;obtain rfl:_=u:=Option.some.inj (gp.symm.trans hu);exact⟨g,rfl,jy,aB f8 _⟩
    ·refine⟨o_,o_,o_,o_,o_,o_,o_,o_,o_,o_,o_,o_,o_,o_,o_,o_,?_,o_,o_,trivial⟩
     ·intro _;intro _ A0 w2 hI hd hnd K hK;have e0:=hI.p hd 14 19;exact hI.z hK
    ·intro A0 w2 hI;have hS:=hI.world;have c9:=hI.cg [(0,20),(1,21),(2,22),(3,23),(4,24),(5,25),(6,26),(7,27),(8,28),(9,29),(10,30),(11,31),(12,32),(13,33),(14,19),(15,34),(16,35),(17,6)] [7] j_;obtain⟨x0,x1,x2,x3,x4,x5,x6,x7,x8,x9,dN,ef,fh,gU,LR,jH,jZ,kv,y7,hA,hV⟩:=c9;obtain rfl:jH=.agg #[p1,p2,p3,p4]:=hV 15 _ _ _ rfl rfl _ rfl;obtain rfl:jZ=.bool false:=hV 16 _ _ _ rfl rfl _ rfl;obtain⟨g,rfl,jy,f8⟩:=hV 17 _ _ _ rfl rfl _ rfl;clear hV hI;simp only[ba,List.foldl,List.setIfInBounds_toArray,List.set_cons_zero,List.set_cons_succ]at hA;rw[hA];clear hA;simp only[List.drop_succ_cons,List.drop_zero];have zJ:=go.o.trans (hS.mono go.o.size);clear f8;go_wp2_with fail;go_ret;exact⟨hf.o.symm▸rfl,zJ⟩
   |true=>
    refine cV 18 (λi=>i==16) (Ks wr [.val (.pointer (some ⟨w.heap.size,20,none⟩)),.val (.slice (some ⟨be,oe,none⟩) ne ce),.val (.pointer (some ⟨(w.heap.size+1),1,none⟩)),(q:Int),.val (.pointer (some ⟨be,oe+q*5,none⟩)),.val (.pointer (some ⟨be,oe+q*5+2,none⟩)),.val (.slice Ec n2 c2),.val (.pointer (some ⟨(w.heap.size+1),6,none⟩)),.val (.slice (some ⟨b,o,none⟩) nl cl),(k:Int),.val (.pointer (some ⟨b,o+k*3,none⟩)),.val (.pointer (some ⟨b,o+k*3,none⟩)),la,.val (.tuple #[.agg #[p1,p2,p3,p4],true]),.val (.tuple #[.agg #[p1,p2,p3,p4],true]),.val (.agg #[p1,p2,p3,p4]),true,.own (cM wr #[.int .i64 0,.int .i64 0,.int .i64 0,.int .i64 0] 78) (cM.keep _ _ _)])
     (λw'=>Below wr.heap.size wr w') (Ks wr [.val (.pointer (some ⟨w.heap.size,20,none⟩)),.val (.slice (some ⟨be,oe,none⟩) ne ce),.val (.pointer (some ⟨(w.heap.size+1),1,none⟩)),(q:Int),.val (.pointer (some ⟨be,oe+q*5,none⟩)),.val (.pointer (some ⟨be,oe+q*5+2,none⟩)),.val (.slice Ec n2 c2),.val (.pointer (some ⟨(w.heap.size+1),6,none⟩)),.val (.slice (some ⟨b,o,none⟩) nl cl),(k:Int),.val (.pointer (some ⟨b,o+k*3,none⟩)),.val (.pointer (some ⟨b,o+k*3,none⟩)),la,.val (.tuple #[.agg #[p1,p2,p3,p4],true]),.val (.tuple #[.agg #[p1,p2,p3,p4],true]),.val (.agg #[p1,p2,p3,p4]),true,.own (cM wr #[.int .i64 p1,.int .i64 p2,.int .i64 p3,.int .i64 p4] 78) (cM.keep _ _ _)])
     (λw'=>Below wr.heap.size wr w') K_ K_ K_ (by decide) K_ K_ K_ K_ rfl K_ _ rfl rfl (Below.refl _ _).drew ?_ ?_ ?_ ?_
    ·refine⟨b_ (q_ 2),e_ (p_ 0 20) λ_ h=>l_ h Mw.o Nd.o,b_ (q_ 3),e_ (p_ 2 22) λ_ h=>l_ h vo.o D1.o,c_ (p_ 1 21) (p_ 3 23),b_ (p_ 4 24),e_ (p_ 5 25) λ_ h=>l_ h HVE.o DE.o,b_ (q_ 3),e_ (p_ 7 27) λ_ h=>l_ h vo.o D6.o,b_ (q_ 5),c_ (p_ 8 28) (p_ 9 29),b_ (p_ 10 30),e_ (p_ 11 31) (p:=⟨b,o+k*3,none⟩) λ_ h=>l_ h jI.o C0.o,?_,b_ (p_ 13 33),b_ (p_ 14 19),b_ (p_ 14 19),?_,trivial⟩
     ·refine O2_ (p_ 6 26) (p_ 12 32) λA0 w2 K e0 e1 hS hK=>?_;go_simp
      go_at_call 34
      refine(ve rN.o (az Ow.o (go.o.trans (hS.mono go.o.size))) HN3.o la vw.o Bm.o Sg.o).mono ?_;rintro e w3 ⟨rfl,h3⟩;exact hK.out _ _ (hS.trans (h3.mono hS.size)) (Ks.of rfl rfl) (Ks.keep h3)
     ·refine O0_ λA0 w2 K hS hK=>?_;go_simp;exact hK.out _ _ (hS.alloc hS.size _) (Ks.of rfl (cM.made hS.size _ _)) (Ks.keep (ai w2 _))
    ·intro _ A0 w2 hI hall K hK;obtain⟨xp,gp,hp⟩:=hI.got 17 _ 6 rfl rfl (hall 17 (by decide) rfl);obtain⟨xv,gv,hv⟩:=hI.got 15 _ 34 rfl rfl (hall 15 (by decide) rfl);obtain⟨g,rfl,jy,f8⟩:=hp _ rfl;obtain rfl:xv=.agg #[p1,p2,p3,p4]:=hv _ rfl;have hS:=hI.world;refine aa rfl ?_;refine wp_store_row 78 (.tmp 6) (.tmp 34) rfl g #[p1,p2,p3,p4] (by simp[Act.eval,Array.getD_eq_getD_getElem?,gp]) (by simp[Act.eval,Array.getD_eq_getD_getElem?,gv]) 78 #[(),(),(),()] f8 (bX ⟨p1,p2,p3,p4⟩) rfl (by simp[Value.oneCell']) ?_;refine hK _ (aD hS jy _) ?_;intro i o d u hi ho hd hu hV;refine Ks.store (p:=17) (kn:=_) rfl hV (λDl=>?_);subst Dl;obtain rfl:_=o:=Option.some.inj ho;obtain rfl:_=d:=Option.some.inj hd;obtain rfl:_=u:=Option.some.inj (gp.symm.trans hu);exact⟨g,rfl,jy,aB f8 _⟩
    ·refine⟨o_,o_,o_,o_,o_,o_,o_,o_,o_,o_,o_,o_,o_,o_,o_,o_,?_,o_,o_,trivial⟩
     ·intro _;intro _ A0 w2 hI hd hnd K hK;have e0:=hI.p hd 14 19;exact hI.z hK
    ·intro A0 w2 hI;have hS:=hI.world;have c9:=hI.cg [(0,20),(1,21),(2,22),(3,23),(4,24),(5,25),(6,26),(7,27),(8,28),(9,29),(10,30),(11,31),(12,32),(13,33),(14,19),(15,34),(16,35),(17,6)] [7] j_;obtain⟨x0,x1,x2,x3,x4,x5,x6,x7,x8,x9,dN,ef,fh,gU,LR,jH,jZ,kv,y7,hA,hV⟩:=c9;obtain rfl:jH=.agg #[p1,p2,p3,p4]:=hV 15 _ _ _ rfl rfl _ rfl;obtain rfl:jZ=.bool true:=hV 16 _ _ _ rfl rfl _ rfl;obtain⟨g,rfl,jy,f8⟩:=hV 17 _ _ _ rfl rfl _ rfl;clear hV hI;simp only[ba,List.foldl,List.setIfInBounds_toArray,List.set_cons_zero,List.set_cons_succ]at hA;rw[hA];clear hA;simp only[List.drop_succ_cons,List.drop_zero];have zJ:=hb.trans (hS.mono hb.size);clear f8;go_wp2_with fail;go_roundw
     case rel=>exact⟨k+1,by omega,by go_num,zJ,λj hj m7=>by
      rcases Nat.lt_or_ge j k with h|h
      ·exact HA.o j hj h
      ·have:j=k:=by omega
       subst this;rw[HX.o];exact Sg.o⟩
     case measure=>first|exact aQ aU|(simp only[intOf];omega)
  case neg=>
   have bq:¬(k:Int)< (nl:Int):=by omega
   have Gm:=H_ (show dY (g.entities.getD (q:Int).toNat {}).chart ls=true by
    rw[yQ.o];unfold dY;rw[List.all_eq_true];intro x hx;obtain⟨j,hj,rfl⟩:=List.getElem_of_mem hx;exact HA.o j hj (by have:=HN.o;omega))
   have Cv:=H_ (sd J3 HY.o HM.o Yl.o);have QW:=H_ Cw;obtain⟨ic,hic⟩:∃b,jL g.calendar.year g.calendar.month g.calendar.periods xd=b:=⟨_,rfl⟩;have HIC:=H_ hic;have aM:=SX g.calendar.year g.calendar.month g.calendar.periods xd wr Sh.o;rw[hic]at aM;have eE:=H_ aM;obtain⟨yy,On⟩:∃y,g.calendar.year=y:=⟨_,rfl⟩;obtain⟨mm,Iz⟩:∃y,g.calendar.month=y:=⟨_,rfl⟩;obtain⟨nn,zR⟩:∃y,g.calendar.periods=y:=⟨_,rfl⟩;rw[On,Iz,zR]at eE Cv;clear hic aM J3 On Iz zR;have e2:=ab Cw 2;go_wp2_with (refine w_ 40 23 39 w.heap.size 1 [yy,mm,nn] Cv.o bV Tryz.underlying23 ?_);refine eE.o.mono ?_;rintro e w5 ⟨rfl,cP⟩;have zJ:=rV.trans (cP.mono rV.size);clear e2 d6;cases ic with
   |false=>
    have hf:=H_ (show r=2 by exact HR.o.symm.trans (DM kU.o Gm.o HIC.o));go_wp2_with fail;go_ret;exact⟨hf.o.symm▸rfl,zJ⟩
   |true=>
   have d6:=ab ((cP.block _ vo.o).trans QW.o) 6;clear Cw;have HSC:=H_ (Tt ls Al cl w5 (eR HL.o zJ) (aky kU.o));obtain⟨S,hS⟩:=x_ (iS ls);rw[hS,HN.o]at HSC;have CB:=H_ hS;clear hS;go_wp2_with fail;refine HSC.o.mono ?_;rintro e w6 ⟨rfl,dd⟩;have hwF:=zJ.trans (dd.mono zJ.size);by_cases hz:S=0
   case pos=>
    have IU:(S !=0)=false:=by simpa using hz
    have hf:=H_ (show r=0 by rw[<-HR.o,qR kU.o Gm.o HIC.o];simp only;rw[CB.o,if_pos hz]);clear hz;go_wp2_with fail;go_ret;exact⟨hf.o.symm▸rfl,hwF⟩
   case neg=>
    have IU:(S !=0)=true:=by simpa using hz
    have hf:=H_ (show r=11 by rw[<-HR.o,qR kU.o Gm.o HIC.o];simp only;rw[CB.o,if_neg hz]);clear hz;go_wp2_with fail;go_ret;exact⟨hf.o.symm▸rfl,hwF⟩
theorem ZT (a b':List bG) (A B:Option Addr) (c c4:Nat) (w:World) (ha:aj bc 3 w (·<w.heap.size) [.slice A a.length c] a) (QS:aj bc 3 w (·<w.heap.size) [.slice B b'.length c4] b'):Calls Tryz.prog 90 #[.slice A a.length c,.slice B b'.length c4] w (ap w (.bool (decide (a=b')))):=by
 obtain⟨r,hr⟩:=x_ (decide (a=b'));rw[hr];have HR:=H_ hr;have jw:=ha.cap;have Fy:=QS.cap;obtain⟨n,bj⟩:=x_ (a.length);obtain⟨m,QF⟩:∃n,b'.length=n:=⟨_,rfl⟩;have HA:=H_ ha;have HB:=H_ QS;have HN:=H_ bj;have HM:=H_ QF;rw[bj]at jw |-;rw[QF]at Fy |-;unfold maxLen at jw Fy;have Sb:n<=9223372036854775807:=by omega
 have hm9:m<=9223372036854775807:=by omega
 clear hr ha QS bj QF jw Fy;by_cases hl:n=m
 case neg=>
  have hf:=H_ (show r=false by rw[<-HR.o];exact decide_eq_false (λe=>hl (by rw[<-HN.o,<-HM.o,e])));have Bg:((n:Int) !=(m:Int))=true:=by simp;omega
  clear hl;go_enter Tryz.func90,Tryz.ntmps90;go_wp2_with fail;go_ret;exact⟨hf.o.symm▸rfl,Below.refl _ _⟩
 case pos=>
 subst hl;go_enter Tryz.func90,Tryz.ntmps90;go_wp2_with fail
 go_loopw [5] (λi wr=>∃k:Nat,k<=n/\i=.int .i64 (k:Int)/\Below w.heap.size w wr/\∀j,j<k->a[j]? =b'[j]?) (λi _=>n- (intOf i).toNat)
 case atStart=>exact⟨0,by omega,rfl,Below.refl _ _,λj h=>by omega⟩
 case round=>
  obtain⟨k,hk,rfl,hb,hall⟩:=hrel;have eY:=H_ hall;clear hall;by_cases aU:k<n
  case pos=>
   have bq:(k:Int)< (n:Int):=by omega
   have bI:k<a.length:=by rw[HN.o];exact aU
   have yW:k<b'.length:=by rw[HM.o];exact aU
   obtain⟨b,o,es,dj,ed,bL,aS⟩:=aj.get HA.o k bI;obtain⟨b4,o4,es4,Ye,adE,N5,ze⟩:=aj.get HB.o k yW;subst dj Ye;have bE:=(bc.lit bL).1;have iy:=(bc.lit N5).1;rw[bE]at aS;rw[iy]at ze;obtain⟨x,hx⟩:=x_ (a[k]);obtain⟨y,hy⟩:∃x,b'[k]=x:=⟨_,rfl⟩;rw[hx]at aS;rw[hy]at ze;have HX:=H_ (show a[k]? =some x by rw[List.getElem?_eq_getElem bI,hx]);have HY:=H_ (show b'[k]? =some y by rw[List.getElem?_eq_getElem yW,hy]);have AT1:=H_ ((aS.fr (Fr.ofBelow hb)).mono (λq (hq:q<w.heap.size)=>show q<wr.heap.size by have:=hb.size;omega));have AT2:=H_ ((ze.fr (Fr.ofBelow hb)).mono (λq (hq:q<w.heap.size)=>show q<wr.heap.size by have:=hb.size;omega));clear bL N5 bE iy aS ze hx hy;by_cases he:x=y
   case neg=>
    have hf:=H_ (show r=false by rw[<-HR.o];exact decide_eq_false (λe=>he (by have h1:=HX.o;rw[e,HY.o]at h1;exact(Option.some.inj h1).symm)));obtain⟨a1,a2,a3⟩:=x;obtain⟨b1,b2,b3⟩:=y;have adZ:=H_ (show ¬(a1=b1/\a2=b2/\a3=b3)from λh=>he (by rw[h.1,h.2.1,h.2.2]))
    try simp only at AT1 AT2
    clear he;go_wp2_with fail;refine bk (Ks wr [.val (.slice (some ⟨b,o,none⟩) n c),(k:Int),.val (.pointer (some ⟨b,o+k*3,none⟩)),.val (.agg #[a1,a2,a3]),.val (.slice (some ⟨b4,o4,none⟩) n c4),(k:Int),.val (.pointer (some ⟨b4,o4+k*3,none⟩)),.val (.agg #[b1,b2,b3]),true])
     (λw'=>Below wr.heap.size wr w') K_ K_ K_ (Below.refl _ _).drew ?_ ?_
    ·refine⟨b_ (q_ 0),b_ (q_ 5),c_ (p_ 0 17) (p_ 1 18),?_,b_ (q_ 1),b_ (q_ 5),c_ (p_ 4 21) (p_ 5 22),?_,?_,trivial⟩
     ·refine O1_ (p_ 2 19) λA0 w2 K e0 hS hK=>?_;have aJ:w2.rangeAt b (o+k*3) [a1,a2,a3]:=(AT1.o.fr (Fr.ofBelow hS)).range;have aI:=cK;refine wp_load_mid 60 (.tmp 19) rfl _ _ (v_ e0) _ _ aJ Tryz.underlying60 rfl aI ?_;exact kq hK hS rfl
     ·refine O1_ (p_ 6 23) λA0 w2 K e0 hS hK=>?_;have aJ:w2.rangeAt b4 (o4+k*3) [b1,b2,b3]:=(AT2.o.fr (Fr.ofBelow hS)).range;have aI:=cK;refine wp_load_mid 60 (.tmp 23) rfl _ _ (v_ e0) _ _ aJ Tryz.underlying60 rfl aI ?_;exact kq hK hS rfl
     ·refine O2_ (p_ 3 20) (p_ 7 24) λA0 w2 K e0 e1 hS hK=>?_;have bT:=adZ.o;go_simp;by_cases e1:a1=b1
      ·by_cases e2:a2=b2
       ·by_cases e3:a3=b3
        ·exact absurd ⟨e1,e2,e3⟩ bT
        ·rw[if_pos e1,if_pos e2,if_neg e3];exact kq hK hS rfl
       ·rw[if_pos e1,if_neg e2];exact kq hK hS rfl
      ·rw[if_neg e1];exact kq hK hS rfl
    ·intro _ A0 w2 hI hall;have hS:=hI.world;have c9:=hI.ch hall [17,18,19,20,21,22,23,24,25];obtain⟨x0,x1,x2,x3,x4,x5,x6,x7,x8,hA,hV⟩:=c9;obtain rfl:x8=.bool true:=hV 8 _ _ rfl _ rfl;clear hV hI hall;simp only[ba,List.foldl,List.setIfInBounds_toArray,List.set_cons_zero,List.set_cons_succ]at hA;rw[hA];clear hA;go_wp2_with fail;go_ret;exact⟨hf.o.symm▸rfl,hb.trans (hS.mono hb.size)⟩
   case pos=>
    subst he;obtain⟨a1,a2,a3⟩:=x
    try simp only at AT1 AT2
    go_wp2_with fail;refine bk (Ks wr [.val (.slice (some ⟨b,o,none⟩) n c),(k:Int),.val (.pointer (some ⟨b,o+k*3,none⟩)),.val (.agg #[a1,a2,a3]),.val (.slice (some ⟨b4,o4,none⟩) n c4),(k:Int),.val (.pointer (some ⟨b4,o4+k*3,none⟩)),.val (.agg #[a1,a2,a3]),false])
     (λw'=>Below wr.heap.size wr w') K_ K_ K_ (Below.refl _ _).drew ?_ ?_
    ·refine⟨b_ (q_ 0),b_ (q_ 5),c_ (p_ 0 17) (p_ 1 18),?_,b_ (q_ 1),b_ (q_ 5),c_ (p_ 4 21) (p_ 5 22),?_,c_ (p_ 3 20) (p_ 7 24),trivial⟩
     ·refine O1_ (p_ 2 19) λA0 w2 K e0 hS hK=>?_;have aJ:w2.rangeAt b (o+k*3) [a1,a2,a3]:=(AT1.o.fr (Fr.ofBelow hS)).range;have aI:=cK;refine wp_load_mid 60 (.tmp 19) rfl _ _ (v_ e0) _ _ aJ Tryz.underlying60 rfl aI ?_;exact kq hK hS rfl
     ·refine O1_ (p_ 6 23) λA0 w2 K e0 hS hK=>?_;have aJ:w2.rangeAt b4 (o4+k*3) [a1,a2,a3]:=(AT2.o.fr (Fr.ofBelow hS)).range;have aI:=cK;refine wp_load_mid 60 (.tmp 23) rfl _ _ (v_ e0) _ _ aJ Tryz.underlying60 rfl aI ?_;exact kq hK hS rfl
    ·intro _ A0 w2 hI hall;have hS:=hI.world;have c9:=hI.ch hall [17,18,19,20,21,22,23,24,25];obtain⟨x0,x1,x2,x3,x4,x5,x6,x7,x8,hA,hV⟩:=c9;obtain rfl:x8=.bool false:=hV 8 _ _ rfl _ rfl;clear hV hI hall;simp only[ba,List.foldl,List.setIfInBounds_toArray,List.set_cons_zero,List.set_cons_succ]at hA;rw[hA];clear hA;have Rl:=hb.trans (hS.mono hb.size);clear hS;go_wp2_with fail;go_roundw
     case rel=>exact⟨k+1,by omega,by go_num,Rl,λj hj=>by
      rcases Nat.lt_or_ge j k with h|h
      ·exact eY.o j h
      ·have:j=k:=by omega
       subst this;rw[HX.o,HY.o]⟩
     case measure=>first|exact aQ aU|(simp only[intOf];omega)
  case neg=>
   have bq:¬(k:Int)< (n:Int):=by omega
   have hf:=H_ (show r=true by
    rw[<-HR.o];refine decide_eq_true (List.ext_getElem? (λi=>?_));rcases Nat.lt_or_ge i k with h|h
    ·exact eY.o i h
    ·rw[List.getElem?_eq_none (by rw[HN.o];omega),List.getElem?_eq_none (by rw[HM.o];omega)])
   go_wp2_with fail;go_ret;exact⟨hf.o.symm▸rfl,hb⟩
theorem Pi {l:List bG} {k:Nat} (hk:k<l.length):((l.take (k+1)).map nu).flatMap iH=((l.take k).map nu).flatMap iH++iH (nu l[k]):=by
 rw[List.take_add_one,List.getElem?_eq_getElem hk,List.map_append,List.flatMap_append];simp
end Go.Proofs.YtibiddakakgakaaGreat
