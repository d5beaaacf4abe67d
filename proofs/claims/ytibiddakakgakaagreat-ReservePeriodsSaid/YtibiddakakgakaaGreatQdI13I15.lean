/- The walk of journal.reverses. Written by gen_i13.py. -/
import Derived.Test.YtibiddakakgakaaGreatQdI12
set_option linter.unusedVariables false
set_option linter.unusedSimpArgs false
set_option maxRecDepth 4000
attribute [local go_sem ↓] Go.wp_at_zero Go.wp_at_succ
set_option maxHeartbeats 16000000
namespace Go.Proofs.YtibiddakakgakaaGreat
open Go Go.RowKit
theorem JAt.below {w w':World} {D O:Nat->Prop} {J:Nat} {g:au} {es:List ak} {gl:List Value} {css:List (List Value)} {v:Value} {bi br:Nat} (h:JAt w D O J g es gl css v bi br) (hb:Below w.heap.size w w'):JAt w' D O J g es gl css v bi br:=
 h.fr ((Fr.ofBelow hb).mono λq hq=>hq.elim (h.ltD q) (h.ltO q))
theorem JAt.cell {w:World} {D O:Nat->Prop} {J:Nat} {g:au} {es:List ak} {gl:List Value} {css:List (List Value)} {v:Value} {bi br:Nat} (h:JAt w D O J g es gl css v bi br):w.cell? ⟨J,21,none⟩=some v/\w.cell? ⟨J,22,none⟩=some (.map (some bi))/\w.cell? ⟨J,23,none⟩=some (.map (some br)):=by
 have hl:=h.glen;refine⟨(ab h.blk 21).trans ?_,(ab h.blk 22).trans ?_,(ab h.blk 23).trans ?_⟩<;>simp[List.getElem?_append,hl]
theorem LZ {es:List ak} {id:Int}:((eJ es id=0)/\qd es id=none)\/(eJ es id≠0/\qd es id=some (eJ es id)):=by
 unfold qd;by_cases h:eJ es id=0
 ·exact .inl ⟨h,by rw[if_pos h]⟩
 ·exact .inr ⟨h,by rw[if_neg h]⟩
theorem Hw (D O:Nat->Prop) (J:Nat) (g:au) (es:List ak) (gl:List Value) (css:List (List Value)) (v:Value) (bi br:Nat) (x:ak) (ex:List Value) (w:World) (hj:JAt w D O J g es gl css v bi br) (hx:ax w (·<w.heap.size) ex x):
 Calls Tryz.prog 151 #[.pointer (some ⟨J,0,none⟩),.agg ex.toArray] w (ap w (.int .i64 (qg es x))):=by
 obtain⟨r,hr⟩:=x_ (qg es x);rw[hr];have HR:=H_ hr;have HJ:=H_ hj;obtain⟨Al,cl,YX,oY,TM⟩:=hx.lit;subst YX;have Rh:=H_ TM;obtain⟨xi,xe,xd,xk,xo,xt,ls⟩:=x;simp only at oY Rh |-;have HXO:=H_ oY.2.2.2.2;obtain⟨nl,nC⟩:∃n,ls.length=n:=⟨_,rfl⟩;have jz:=H_ nC;rw[nC];clear hx hr TM oY nC hj;show Calls Tryz.prog 151 #[.pointer (some ⟨J,0,none⟩),.agg #[xi,xe,xd,xk,xo,xt,.slice Al nl cl]] w (ap w (.int .i64 r));go_enter Tryz.func151,Tryz.ntmps151;go_upto_region 1 with fail;obtain⟨W,cS,H1,bC,dr,ewx⟩:=B_ w (.cells #[xi,xe,xd,xk,xo,xt,.slice Al nl cl] 51);rw[cS];clear ewx;clear cS;have HK:=H_ H1;clear H1;have Fp:=HJ.o.below bC;have HJ1:=H_ Fp;have Da:=H_ Fp.idx;have RZ:=H_ Fp.cell.2.1;have X8:=H_ (show W.cell? ⟨w.heap.size,4,none⟩=some (.int .i64 xo)from ab HK.o 4);have gT:=H_ bC;clear Fp;cases ja:eH es xo with
 |none=>
  have pE:=H_ (show(eH es xo).map (λk:Nat=>(k:Int))=none by rw[ja];rfl);have hf:=H_ (show r=8 from HR.o.symm.trans (AR ja));clear ja;refine bp (Ks W [.val (.pointer (some ⟨J,0,none⟩)),.val (.pointer (some ⟨J,0,none⟩)),.val (.pointer (some ⟨J,22,none⟩)),.val (.map (some bi)),.val (.pointer (some ⟨w.heap.size,4,none⟩)),xo,.val (.tuple #[(),false]),.val (.tuple #[(),false]),(),false,(),false])
   (λw'=>w'=W.drew) K_ K_ K_ rfl ?_ ?_
  ·refine⟨b_ (q_ 0),b_ (p_ 0 11),b_ (p_ 1 12),?_,b_ (q_ 3),?_,?_,b_ (p_ 6 17),b_ (p_ 7 10),b_ (p_ 7 10),b_ (p_ 8 18),b_ (p_ 9 19),trivial⟩
   ·intro _ A0 w2 hI hd hnd K hK;have e0:=hI.p hd 2 13;have hS:=H_ (show w2=W.drew from hI.world);have cI:w2.cell? ⟨J,22,none⟩=some (.map (some bi)):=by rw[hS.o];exact RZ.o
    exact hI.z hK
   ·intro _ A0 w2 hI hd hnd K hK;have e0:=hI.p hd 4 15;have hS:=H_ (show w2=W.drew from hI.world);have cI:w2.cell? ⟨w.heap.size,4,none⟩=some (.int .i64 xo):=by rw[hS.o];exact X8.o
    exact hI.z hK
   ·intro _ A0 w2 hI hd hnd K hK;have e0:=hI.p hd 3 14;have e1:=hI.p hd 5 16;have hS:=H_ (show w2=W.drew from hI.world);have Kx:(Instr.lookup 193 (.map (some bi)) (.int .i64 xo) true).run Tryz.prog w2=.ok (.tuple #[(),false]) w2:=by
     have h:=(Da.o.same (w':=w2) (by rw[hS.o];rfl)).look HXO.o;simp only[pE.o]at h;exact h
    exact hI.z hK
  ·intro _ A0 w2 hI hall;obtain⟨x0,g0,h0⟩:=hI.got 0 _ 11 rfl rfl (hall 0 (by decide));obtain⟨x1,g1,h1⟩:=hI.got 1 _ 12 rfl rfl (hall 1 (by decide));obtain⟨x2,g2,h2⟩:=hI.got 2 _ 13 rfl rfl (hall 2 (by decide));obtain⟨x3,g3,h3⟩:=hI.got 3 _ 14 rfl rfl (hall 3 (by decide));obtain⟨x4,g4,h4⟩:=hI.got 4 _ 15 rfl rfl (hall 4 (by decide));obtain⟨x5,g5,h5⟩:=hI.got 5 _ 16 rfl rfl (hall 5 (by decide));obtain⟨x6,g6,h6⟩:=hI.got 6 _ 17 rfl rfl (hall 6 (by decide));obtain⟨x7,g7,h7⟩:=hI.got 7 _ 10 rfl rfl (hall 7 (by decide));obtain⟨x8,g8,h8⟩:=hI.got 8 _ 18 rfl rfl (hall 8 (by decide));obtain⟨x9,g9,h9⟩:=hI.got 9 _ 19 rfl rfl (hall 9 (by decide));obtain⟨dN,cR,dl⟩:=hI.got 10 _ 5 rfl rfl (hall 10 (by decide));obtain⟨ef,dm,dx⟩:=hI.got 11 _ 6 rfl rfl (hall 11 (by decide));obtain rfl:w2=W.drew:=hI.world;have hA:A0=_:=hI.tmps [(11,x0),(12,x1),(13,x2),(14,x3),(15,x4),(16,x5),(17,x6),(10,x7),(18,x8),(19,x9),(5,dN),(6,ef)] (by simp only[List.mem_cons,List.not_mem_nil,or_false,forall_eq_or_imp,forall_eq];exact⟨g0,g1,g2,g3,g4,g5,g6,g7,g8,g9,cR,dm⟩) K_;obtain rfl:dN=.int .i64 0:=dl _ rfl;obtain rfl:ef=.bool false:=dx _ rfl;clear h0 g0 h1 g1 h2 g2 h3 g3 h4 g4 h5 g5 h6 g6 h7 g7 h8 g8 h9 g9 dl cR dx dm hI hall;simp only[ba,List.foldl,List.setIfInBounds_toArray,List.set_cons_zero,List.set_cons_succ]at hA;rw[hA];clear hA;have kT:Below w.heap.size w W.drew:=gT.o.drew;go_wp2_with fail;go_ret;exact⟨hf.o.symm▸rfl,kT⟩
 |some k=>
  have pE:=H_ (show(eH es xo).map (λk:Nat=>(k:Int))=some (k:Int) by rw[ja];rfl);have aaT:=H_ ja;clear ja;refine bp (Ks W [.val (.pointer (some ⟨J,0,none⟩)),.val (.pointer (some ⟨J,0,none⟩)),.val (.pointer (some ⟨J,22,none⟩)),.val (.map (some bi)),.val (.pointer (some ⟨w.heap.size,4,none⟩)),xo,.val (.tuple #[(k:Int),true]),.val (.tuple #[(k:Int),true]),(k:Int),true,(k:Int),true])
   (λw'=>w'=W.drew) K_ K_ K_ rfl ?_ ?_
  ·refine⟨b_ (q_ 0),b_ (p_ 0 11),b_ (p_ 1 12),?_,b_ (q_ 3),?_,?_,b_ (p_ 6 17),b_ (p_ 7 10),b_ (p_ 7 10),b_ (p_ 8 18),b_ (p_ 9 19),trivial⟩
   ·intro _ A0 w2 hI hd hnd K hK;have e0:=hI.p hd 2 13;have hS:=H_ (show w2=W.drew from hI.world);have cI:w2.cell? ⟨J,22,none⟩=some (.map (some bi)):=by rw[hS.o];exact RZ.o
    exact hI.z hK
   ·intro _ A0 w2 hI hd hnd K hK;have e0:=hI.p hd 4 15;have hS:=H_ (show w2=W.drew from hI.world);have cI:w2.cell? ⟨w.heap.size,4,none⟩=some (.int .i64 xo):=by rw[hS.o];exact X8.o
    exact hI.z hK
   ·intro _ A0 w2 hI hd hnd K hK;have e0:=hI.p hd 3 14;have e1:=hI.p hd 5 16;have hS:=H_ (show w2=W.drew from hI.world);have Kx:(Instr.lookup 193 (.map (some bi)) (.int .i64 xo) true).run Tryz.prog w2=.ok (.tuple #[(k:Int),true]) w2:=by
     have h:=(Da.o.same (w':=w2) (by rw[hS.o];rfl)).look HXO.o;simp only[pE.o]at h;exact h
    exact hI.z hK
  ·intro _ A0 w2 hI hall;obtain⟨x0,g0,h0⟩:=hI.got 0 _ 11 rfl rfl (hall 0 (by decide));obtain⟨x1,g1,h1⟩:=hI.got 1 _ 12 rfl rfl (hall 1 (by decide));obtain⟨x2,g2,h2⟩:=hI.got 2 _ 13 rfl rfl (hall 2 (by decide));obtain⟨x3,g3,h3⟩:=hI.got 3 _ 14 rfl rfl (hall 3 (by decide));obtain⟨x4,g4,h4⟩:=hI.got 4 _ 15 rfl rfl (hall 4 (by decide));obtain⟨x5,g5,h5⟩:=hI.got 5 _ 16 rfl rfl (hall 5 (by decide));obtain⟨x6,g6,h6⟩:=hI.got 6 _ 17 rfl rfl (hall 6 (by decide));obtain⟨x7,g7,h7⟩:=hI.got 7 _ 10 rfl rfl (hall 7 (by decide));obtain⟨x8,g8,h8⟩:=hI.got 8 _ 18 rfl rfl (hall 8 (by decide));obtain⟨x9,g9,h9⟩:=hI.got 9 _ 19 rfl rfl (hall 9 (by decide));obtain⟨dN,cR,dl⟩:=hI.got 10 _ 5 rfl rfl (hall 10 (by decide));obtain⟨ef,dm,dx⟩:=hI.got 11 _ 6 rfl rfl (hall 11 (by decide));obtain rfl:w2=W.drew:=hI.world;have hA:A0=_:=hI.tmps [(11,x0),(12,x1),(13,x2),(14,x3),(15,x4),(16,x5),(17,x6),(10,x7),(18,x8),(19,x9),(5,dN),(6,ef)] (by simp only[List.mem_cons,List.not_mem_nil,or_false,forall_eq_or_imp,forall_eq];exact⟨g0,g1,g2,g3,g4,g5,g6,g7,g8,g9,cR,dm⟩) K_;obtain rfl:dN=.int .i64 (k:Int):=dl _ rfl;obtain rfl:ef=.bool true:=dx _ rfl;clear h0 g0 h1 g1 h2 g2 h3 g3 h4 g4 h5 g5 h6 g6 h7 g7 h8 g8 h9 g9 dl cR dx dm hI hall;simp only[ba,List.foldl,List.setIfInBounds_toArray,List.set_cons_zero,List.set_cons_succ]at hA;rw[hA];clear hA;clear pE;have tP:=HJ1.o.below ((Below.refl W.heap.size W).drew);have aH:Below w.heap.size w W.drew:=gT.o.drew;have Ro:=H_ (show W.drew.heap[w.heap.size]? =some (.cells #[xi,xe,xd,xk,xo,xt,.slice Al nl cl] 51 (0,0))from HK.o);have aby:w.heap.size<W.drew.heap.size:=dr;generalize W.drew=W2 at*;obtain⟨bI,YR⟩:=sg aaT.o;obtain⟨Av,nv,cv,rfl⟩:=bS tP.row;obtain rfl:=fV tP.row;obtain⟨b,o,cs,dj,ed,bL,aS⟩:=aj.get tP.list k bI;subst dj;obtain⟨y,hy⟩:=x_ (es[k]);have mG:=mn tP.ok (List.getElem_mem bI);rw[hy]at bL mG;have NM:=H_ (AS (x:=⟨xi,xe,xd,xk,xo,xt,ls⟩) aaT.o ((List.getElem?_eq_getElem bI).trans (congrArg some hy)));have Fu:=H_ (vU mG);obtain⟨Rb,Q9,ft,_,hly⟩:=ax.lit bL;subst ft;have RL:=H_ (aj.mono hly (λh=>bc.mono h (λq hq=>hq.elim (tP.ltD q) (tP.ltO q))) (λq hq=>hq.elim (tP.ltD q) (tP.ltO q)));obtain⟨yi,ye,yd,yk,yo,yt,ly⟩:=y;simp only at aS NM Fu RL;obtain⟨Yn,Gu⟩:∃n,ly.length=n:=⟨_,rfl⟩;have YS:=H_ Gu;rw[Gu]at aS;have yM:=H_ aS.range;have Kz:k<es.length:=bI;obtain⟨n,hn⟩:=x_ (es.length);have HN:=H_ hn;have qx:=tP.cell.1;rw[hn]at Kz qx;have acx:(k:Int)< (n:Int):=by omega
   have TN:0<n:=by omega
   have HJ2:=H_ tP;clear tP bL aS hy hly Gu mG YR bI hn ed;go_upto_region 5 with(first|(refine w_ 28 51 27 b (o+k*7) [yi,ye,yd,yk,yo,yt,.slice Rb Yn Q9] yM.o aY Tryz.underlying51 ?_)|(show wpList _ _ _ (Oper.mk none (Op.store _ (Operand.tmp 7) _) _ _ _ _::_) _ _;refine aO rfl 51 (.tmp 7) (.tmp 28) rfl rfl W2 #[(),(),(),(),(),.string ⟨#[]⟩,.slice none 0 0] 51 #[yi,ye,yd,yk,yo,yt,.slice Rb Yn Q9] rfl rfl rfl aY rfl (by simp[Value.oneCell']) ?_;intro W3 H3 eA rE))
   have aZ:=aH.trans (eA.mono aH.size);have Vk:=HJ2.o.below eA;have HJ3:=H_ Vk;have HRX:=H_ Vk.rev;have F23:=H_ Vk.cell.2.2;have zH:=k_ eA Ro;have X8:=H_ (show W3.cell? ⟨w.heap.size,4,none⟩=some (.int .i64 xo)from ab zH.o 4);have HY3:=H_ H3;have Ol:=H_ aZ;have acY:w.heap.size<W3.heap.size:=Nat.lt_of_lt_of_le aby eA.size;clear Vk H3 qx;rcases LZ (es:=es) (id:=xo)with⟨zL,IB⟩|⟨zL,IB⟩
   case inr=>
    have pE:=H_ IB;obtain⟨rv,aal⟩:=x_ (eJ es xo);rw[aal]at pE zL NM;have hf:=H_ (show r=7 from HR.o.symm.trans (NM.o.trans (if_pos (.inr zL))));clear zL IB aal;refine bp (Ks W3 [.val (.pointer (some ⟨J,0,none⟩)),.val (.pointer (some ⟨J,0,none⟩)),.val (.pointer (some ⟨J,23,none⟩)),.val (.map (some br)),.val (.pointer (some ⟨w.heap.size,4,none⟩)),xo,.val (.tuple #[rv,true]),.val (.tuple #[rv,true]),rv,true,rv,true])
     (λw'=>w'=W3.drew) K_ K_ K_ rfl ?_ ?_
    ·refine⟨b_ (q_ 0),b_ (p_ 0 30),b_ (p_ 1 31),?_,b_ (q_ 3),?_,?_,b_ (p_ 6 36),b_ (p_ 7 29),b_ (p_ 7 29),b_ (p_ 8 37),b_ (p_ 9 38),trivial⟩
     ·intro _ A0 w2 hI hd hnd K hK;have e0:=hI.p hd 2 32;have hS:=H_ (show w2=W3.drew from hI.world);have cI:w2.cell? ⟨J,23,none⟩=some (.map (some br)):=by rw[hS.o];exact F23.o
      exact hI.z hK
     ·intro _ A0 w2 hI hd hnd K hK;have e0:=hI.p hd 4 34;have hS:=H_ (show w2=W3.drew from hI.world);have cI:w2.cell? ⟨w.heap.size,4,none⟩=some (.int .i64 xo):=by rw[hS.o];exact X8.o
      exact hI.z hK
     ·intro _ A0 w2 hI hd hnd K hK;have e0:=hI.p hd 3 33;have e1:=hI.p hd 5 35;have hS:=H_ (show w2=W3.drew from hI.world);have Kx:(Instr.lookup 193 (.map (some br)) (.int .i64 xo) true).run Tryz.prog w2=.ok (.tuple #[rv,true]) w2:=by
       have h:=(HRX.o.same (w':=w2) (by rw[hS.o];rfl)).look HXO.o;simp only[pE.o]at h;exact h
      exact hI.z hK
    ·intro _ A0 w2 hI hall;obtain⟨x0,g0,h0⟩:=hI.got 0 _ 30 rfl rfl (hall 0 (by decide));obtain⟨x1,g1,h1⟩:=hI.got 1 _ 31 rfl rfl (hall 1 (by decide));obtain⟨x2,g2,h2⟩:=hI.got 2 _ 32 rfl rfl (hall 2 (by decide));obtain⟨x3,g3,h3⟩:=hI.got 3 _ 33 rfl rfl (hall 3 (by decide));obtain⟨x4,g4,h4⟩:=hI.got 4 _ 34 rfl rfl (hall 4 (by decide));obtain⟨x5,g5,h5⟩:=hI.got 5 _ 35 rfl rfl (hall 5 (by decide));obtain⟨x6,g6,h6⟩:=hI.got 6 _ 36 rfl rfl (hall 6 (by decide));obtain⟨x7,g7,h7⟩:=hI.got 7 _ 29 rfl rfl (hall 7 (by decide));obtain⟨x8,g8,h8⟩:=hI.got 8 _ 37 rfl rfl (hall 8 (by decide));obtain⟨x9,g9,h9⟩:=hI.got 9 _ 38 rfl rfl (hall 9 (by decide));obtain⟨dN,cR,dl⟩:=hI.got 10 _ 8 rfl rfl (hall 10 (by decide));obtain⟨ef,dm,dx⟩:=hI.got 11 _ 9 rfl rfl (hall 11 (by decide));obtain rfl:w2=W3.drew:=hI.world;have hA:A0=_:=hI.tmps [(30,x0),(31,x1),(32,x2),(33,x3),(34,x4),(35,x5),(36,x6),(29,x7),(37,x8),(38,x9),(8,dN),(9,ef)] (by simp only[List.mem_cons,List.not_mem_nil,or_false,forall_eq_or_imp,forall_eq];exact⟨g0,g1,g2,g3,g4,g5,g6,g7,g8,g9,cR,dm⟩) K_;obtain rfl:dN=.int .i64 rv:=dl _ rfl;obtain rfl:ef=.bool true:=dx _ rfl;clear h0 g0 h1 g1 h2 g2 h3 g3 h4 g4 h5 g5 h6 g6 h7 g7 h8 g8 h9 g9 dl cR dx dm hI hall;simp only[ba,List.foldl,List.setIfInBounds_toArray,List.set_cons_zero,List.set_cons_succ]at hA;rw[hA];clear hA;have kT:Below w.heap.size w W3.drew:=Ol.o.drew;go_wp2_with fail;go_ret;exact⟨hf.o.symm▸rfl,kT⟩
   case inl=>
    have pE:=H_ IB;have Mw:=H_ zL;clear zL IB;refine bp (Ks W3 [.val (.pointer (some ⟨J,0,none⟩)),.val (.pointer (some ⟨J,0,none⟩)),.val (.pointer (some ⟨J,23,none⟩)),.val (.map (some br)),.val (.pointer (some ⟨w.heap.size,4,none⟩)),xo,.val (.tuple #[(),false]),.val (.tuple #[(),false]),(),false,(),false])
     (λw'=>w'=W3.drew) K_ K_ K_ rfl ?_ ?_
    ·refine⟨b_ (q_ 0),b_ (p_ 0 30),b_ (p_ 1 31),?_,b_ (q_ 3),?_,?_,b_ (p_ 6 36),b_ (p_ 7 29),b_ (p_ 7 29),b_ (p_ 8 37),b_ (p_ 9 38),trivial⟩
     ·intro _ A0 w2 hI hd hnd K hK;have e0:=hI.p hd 2 32;have hS:=H_ (show w2=W3.drew from hI.world);have cI:w2.cell? ⟨J,23,none⟩=some (.map (some br)):=by rw[hS.o];exact F23.o
      exact hI.z hK
     ·intro _ A0 w2 hI hd hnd K hK;have e0:=hI.p hd 4 34;have hS:=H_ (show w2=W3.drew from hI.world);have cI:w2.cell? ⟨w.heap.size,4,none⟩=some (.int .i64 xo):=by rw[hS.o];exact X8.o
      exact hI.z hK
     ·intro _ A0 w2 hI hd hnd K hK;have e0:=hI.p hd 3 33;have e1:=hI.p hd 5 35;have hS:=H_ (show w2=W3.drew from hI.world);have Kx:(Instr.lookup 193 (.map (some br)) (.int .i64 xo) true).run Tryz.prog w2=.ok (.tuple #[(),false]) w2:=by
       have h:=(HRX.o.same (w':=w2) (by rw[hS.o];rfl)).look HXO.o;simp only[pE.o]at h;exact h
      exact hI.z hK
    ·intro _ A0 w2 hI hall;obtain⟨x0,g0,h0⟩:=hI.got 0 _ 30 rfl rfl (hall 0 (by decide));obtain⟨x1,g1,h1⟩:=hI.got 1 _ 31 rfl rfl (hall 1 (by decide));obtain⟨x2,g2,h2⟩:=hI.got 2 _ 32 rfl rfl (hall 2 (by decide));obtain⟨x3,g3,h3⟩:=hI.got 3 _ 33 rfl rfl (hall 3 (by decide));obtain⟨x4,g4,h4⟩:=hI.got 4 _ 34 rfl rfl (hall 4 (by decide));obtain⟨x5,g5,h5⟩:=hI.got 5 _ 35 rfl rfl (hall 5 (by decide));obtain⟨x6,g6,h6⟩:=hI.got 6 _ 36 rfl rfl (hall 6 (by decide));obtain⟨x7,g7,h7⟩:=hI.got 7 _ 29 rfl rfl (hall 7 (by decide));obtain⟨x8,g8,h8⟩:=hI.got 8 _ 37 rfl rfl (hall 8 (by decide));obtain⟨x9,g9,h9⟩:=hI.got 9 _ 38 rfl rfl (hall 9 (by decide));obtain⟨dN,cR,dl⟩:=hI.got 10 _ 8 rfl rfl (hall 10 (by decide));obtain⟨ef,dm,dx⟩:=hI.got 11 _ 9 rfl rfl (hall 11 (by decide));obtain rfl:w2=W3.drew:=hI.world;have hA:A0=_:=hI.tmps [(30,x0),(31,x1),(32,x2),(33,x3),(34,x4),(35,x5),(36,x6),(29,x7),(37,x8),(38,x9),(8,dN),(9,ef)] (by simp only[List.mem_cons,List.not_mem_nil,or_false,forall_eq_or_imp,forall_eq];exact⟨g0,g1,g2,g3,g4,g5,g6,g7,g8,g9,cR,dm⟩) K_;obtain rfl:dN=.int .i64 0:=dl _ rfl;obtain rfl:ef=.bool false:=dx _ rfl;clear h0 g0 h1 g1 h2 g2 h3 g3 h4 g4 h5 g5 h6 g6 h7 g7 h8 g8 h9 g9 dl cR dx dm hI hall;simp only[ba,List.foldl,List.setIfInBounds_toArray,List.set_cons_zero,List.set_cons_succ]at hA;rw[hA];clear hA;clear pE;have bU:Below w.heap.size w W3.drew:=Ol.o.drew;have JY:=H_ (show W3.drew.heap[w.heap.size]? =some (.cells #[xi,xe,xd,xk,xo,xt,.slice Al nl cl] 51 (0,0))from zH.o);have HY4:=H_ (show W3.drew.heap[W2.heap.size]? =some (.cells #[yi,ye,yd,yk,yo,yt,.slice Rb Yn Q9] 51 (0,0))from HY3.o);have NF:w.heap.size<W3.drew.heap.size:=acY;have afc:W2.heap.size<=W3.drew.heap.size:=eA.size;have T7:Below W2.heap.size W2 W3.drew:=eA.drew;have aaV:=H_ T7;clear T7;generalize W3.drew=W4 at*;have y3:=ab HY4.o 3;by_cases J6:yk=3
     case pos=>
      have R9:(yk==3)=true:=by simpa using J6
      have hf:=H_ (show r=7 from HR.o.symm.trans (NM.o.trans (if_pos (.inl J6))));clear J6;go_wp2_with fail;go_ret;exact⟨hf.o.symm▸rfl,bU⟩
     case neg=>
     have R9:(yk==3)=false:=by simpa using J6
     have tE:=H_ (NM.o.trans (if_neg (λh=>h.elim J6 (λh=>h Mw.o))));clear J6;have y1:=ab HY4.o 1;have e1:=ab JY.o 1;by_cases JW:ye=xe
     case neg=>
      have YF:(ye !=xe)=true:=by simpa using JW
      have hf:=H_ (show r=18 from HR.o.symm.trans (tE.o.trans (if_pos (.inl JW))));clear JW;go_wp2_with fail;go_ret;exact⟨hf.o.symm▸rfl,bU⟩
     case pos=>
     have YF:(ye !=xe)=false:=by simpa using JW
     have HYE:=H_ JW;clear JW;have y2:=ab HY4.o 2;have e2:=ab JY.o 2;by_cases M6:xd<yd
     case pos=>
      have XT:decide (xd<yd)=true:=decide_eq_true M6;have hf:=H_ (show r=18 from HR.o.symm.trans (tE.o.trans (if_pos (.inr (.inl M6)))));clear M6;go_wp2_with fail;go_ret;exact⟨hf.o.symm▸rfl,bU⟩
     case neg=>
     have XT:decide (xd<yd)=false:=decide_eq_false M6;have HYD:=H_ M6;clear M6;have y6:=ab HY4.o 6;have e6:=ab JY.o 6;go_wp2_with fail;have pC:=ach ls ly Al Rb cl Q9 W4 (eR Rh.o bU) (eR RL.o aaV.o) Fu.o;rw[jz.o,YS.o]at pC;obtain⟨ob,JS⟩:=x_ (xM ls ly);rw[JS]at pC tE;have HOB:=H_ pC;clear JS pC y1 y2 y3 y6 e1 e2 e6;refine HOB.o.mono ?_;rintro e w5 ⟨rfl,cP⟩;have fG:=bU.trans (cP.mono bU.size);cases ob with
     |false=>
      have hf:=H_ (show r=18 from HR.o.symm.trans (tE.o.trans (if_pos (.inr (.inr rfl)))));go_wp2_with fail;go_ret;exact⟨hf.o.symm▸rfl,fG⟩
     |true=>
      have hf:=H_ (show r=0 from HR.o.symm.trans (tE.o.trans (if_neg (λh=>by
       rcases h with h|h|h
       ·exact h HYE.o
       ·have:=HYD.o;omega
       ·cases h))))
      go_wp2_with fail;go_ret;exact⟨hf.o.symm▸rfl,fG⟩
theorem Inv.stepW {md:Region.Mode} {ops:Array Oper} {V:Nat->Value->World->Prop} {S:World->Prop} {a0:Act} {listed:Array Bool} {a:Act} {w w':World} {i:Nat} {o:Oper} {v:Value} (hI:Inv md ops V S a0 listed a w)
 (jW:∀(i j:Nat) (oi oj:Oper) (d:Nat),ops[i]? =some oi->ops[j]? =some oj->oi.dst=some d->oj.dst=some d->i=j)
 (aU:∀(i:Nat) (o:Oper) (d:Nat),ops[i]? =some o->o.dst=some d->d<a0.tmps.size)
 (h2:ops[i]? =some o) (h3:∀e∈o.after,Region.binds md e=true->aW listed e.on) (hS:S w') (hv:V i v w') (kW:∀j u,j≠i->V j u w->V j u w'):
 Inv md ops V S a0 (listed.setIfInBounds i true) (a.put o.dst v) w':=by
 have bP:i<ops.size:=(Array.getElem?_eq_some_iff.1 h2).1;refine⟨by simpa using hI.lsize,hS,?_,?_,?_,?_,?_⟩
 ·cases o.dst<;>exact hI.defers
 ·cases ho:o.dst<;>simp[Act.put,hI.size]
 ·intro j oj hj hd e he hb;rcases hd.inv with rfl|hd
  ·rw[h2]at hj;cases hj;exact aW.set (h3 e he hb)
  ·exact aW.set (hI.closed j oj hj hd e he hb)
 ·intro j oj d hj jx hd;by_cases CF:j=i
  ·subst CF;rw[h2]at hj;cases hj;refine⟨v,?_,hv⟩;have:=aU j o d h2 jx;simp[Act.put,jx,hI.size,this]
  ·rcases hd.inv with h|hd
   ·exact absurd h CF
   ·obtain⟨u,hu,hV⟩:=hI.got j oj d hj jx hd;refine⟨u,?_,kW j u CF hV⟩;cases ho:o.dst with
    |none=>simpa[Act.put,ho]using hu
    |some d'=>
     have bT:d'≠d:=λe=>CF (jW j i oj o d hj h2 jx (by rw[ho,e]))
     simpa[Act.put,Array.getElem?_setIfInBounds,bT]using hu
 ·intro j hj;have h4:=hI.old j (λk ok hk yS hd=>hj k ok hk yS hd.set);cases ho:o.dst with
  |none=>simpa[Act.put]using h4
  |some d'=>
   have bT:d'≠j:=λe=>hj i o h2 (by rw[ho,e]) (aW.new (by rw[hI.lsize];exact bP))
   simpa[Act.put,Array.getElem?_setIfInBounds,bT]using h4
def IY (P:Program) (md:Region.Mode) (ops:Array Oper) (Q:Exit->Act->World->Prop) (V:Nat->Value->World->Prop) (S:World->Prop) (a0:Act) (i:Nat) (o:Oper):Prop:=
 ∀listed a w,Inv md ops V S a0 listed a w->(∀e∈o.after,Region.binds md e=true->aW listed e.on)->¬aW listed i->
  ∀K:Act->World->Prop,Shut (∀v w',S w'->V i v w'->(∀j u,j≠i->V j u w->V j u w')->K (a.put o.dst v) w')->if Region.wanted o (yielded ops a.tmps)=true then o.wp P a w K Q else K (a.put o.dst undef) w
theorem It {P:Program} {md:Region.Mode} {ops:Array Oper} {Q:Exit->Act->World->Prop} {V:Nat->Value->World->Prop} {S:World->Prop} {a0:Act} {m:Nat}
 (fQ:∀(i:Nat) (o:Oper),ops[i]? =some o->∀e∈o.after,Region.binds md e=true->e.on<i)
 (jW:∀(i j:Nat) (oi oj:Oper) (d:Nat),ops[i]? =some oi->ops[j]? =some oj->oi.dst=some d->oj.dst=some d->i=j)
 (aU:∀(i:Nat) (o:Oper) (d:Nat),ops[i]? =some o->o.dst=some d->d<a0.tmps.size)
 (nz:m<ops.size) (jd:jN md ops m=true) (lD:eQ md ops m=true)
 (dy:∀i o,i<m->ops[i]? =some o->∀listed a w,Inv md ops V S a0 listed a w->(∀e∈o.after,Region.binds md e=true->aW listed e.on)->¬aW listed i->
  ∀K:Act->World->Prop,(∀v w',S w'->V i v w'->(∀j u,j≠i->V j u w->V j u w')->K (a.put o.dst v) w')->if Region.wanted o (yielded ops a.tmps)=true then o.wp P a w K Q else K (a.put o.dst undef) w)
 (kA:∀f a w,Inv md ops V S a0 (bz m ops.size) a w->wpAny P md ops Q (f+(ops.size- m)) (bz m ops.size) a w):
 ∀bZ listed a w,Inv md ops V S a0 listed a w->(∀i,m<=i->i<ops.size->¬aW listed i)->left ops.size listed<=bZ->wpAny P md ops Q bZ listed a w:=by
 intro bZ
 induction bZ with
 |zero=>
  intro listed a w hI fg hf;have hr:Region.ready md ops listed=[]:=by
   rw[List.eq_nil_iff_forall_not_mem];intro i hi;obtain⟨h1,o,h2,_⟩:=mem_ready.1 hi;have:=dL hI.lsize (Array.getElem?_eq_some_iff.1 h2).1 h1;omega
  exact absurd (dT hI.lsize fQ hr (m+1) m (by omega) nz) (fg m (by omega) nz)
 |succ bZ ih=>
  intro listed a w hI fg hf;by_cases hall:∀i,i<m->aW listed i
  ·have hl:=nT hI.lsize (λi hi _=>hall i hi) fg;subst hl;have h1:=oC m ops.size ops.size (Nat.le_refl _);unfold left at hf;have h2:=kA (bZ+1- (ops.size- m)) a w hI
   rwa[show bZ+1- (ops.size- m)+(ops.size- m)=bZ+1 from by omega]at h2
  ·refine⟨λhr=>absurd (dT hI.lsize fQ hr (m+1) m (by omega) nz) (fg m (by omega) nz),λi hi=>?_⟩;obtain⟨h1,o,h2,h3⟩:=mem_ready.1 hi;have bP:i<ops.size:=(Array.getElem?_eq_some_iff.1 h2).1;have sO:i<m:=by
    refine Nat.lt_of_not_le λrJ=>?_
    by_cases he:i=m
    ·subst he;exact hall λj hj=>mX hI jd h2 h3 (i- j) j hj (Nat.le_refl _)
    ·simp only[eQ,List.all_eq_true]at lD;have h4:=lD i (by rw[List.mem_drop_iff_getElem];exact⟨i- (m+1),by simp;omega,by simp;omega⟩);rw[h2]at h4;simp only[List.any_eq_true,Bool.and_eq_true,decide_eq_true_eq]at h4;obtain⟨e,QB,⟨hb,YV⟩,hei⟩:=h4;exact fg e.on YV (by omega) (h3 e (by simpa using QB) hb)
   have hnd:¬aW listed i:=by
    unfold aW;rw[<-iU (by rw[hI.lsize];exact bP),h1];simp
   refine wpOp_step h2 (λK hK=>dy i o sO h2 listed a w hI h3 hnd K (λv w' hS hv kW=>hK _ _ ?_));refine ih _ _ _ (hI.stepW jW aU h2 h3 hS hv kW) (λj hj RE rA=>?_) ?_
   ·rcases rA.inv with rfl|rA
    ·omega
    ·exact fg j hj RE rA
   ·have:=dL hI.lsize bP h1;omega
theorem tL {P:Program} {ops:Array Oper} {Q:Exit->Act->World->Prop} (m:Nat) (V:Nat->Value->World->Prop) (S:World->Prop) {id:Nat} {a:Act} {w:World}
 (hm:P.follows .mixedOrders=true) (ho:rj .any ops=true) (hd:v8 ops a.tmps.size=true) (nz:m<ops.size) (jd:jN .any ops m=true) (lD:eQ .any ops m=true) (hS:S w.drew)
 (dy:ei (IY P .any ops Q V S a) 0 (ops.toList.take m))
 (kA:∀f a' w',Inv .any ops V S a (bz m ops.size) a' w'->wpAny P .any ops Q (f+(ops.size- m)) (bz m ops.size) a' w'):(Code.region id ops true).wp P Q a w:=by
 have fg:∀i,¬aW (Array.replicate ops.size false) i:=λi h=>by
  unfold aW at h;by_cases hi:i<ops.size<;>simp[Array.getD_eq_getD_getElem?,hi]at h
 refine wp_region_any hm (It (V:=V) (S:=S) (a0:=a) (m:=m) (kN ho) (λi j oi oj d hi hj mA jx=>(dD hd i oi d hi mA).2 j oj hj jx) (λi o d hi mA=>(dD hd i o d hi mA).1) nz jd lD
  (λi o sO hi listed a' w' hI ns hnd K hK=>?_) kA _ _ _ _ ?_ (λi _ _=>fg i) ?_)
 ·have:=ei.get dy (i:=i) (o:=o) (by rw[List.getElem?_take_of_lt sO];simpa using hi);rw[Nat.zero_add]at this;exact this listed a' w' hI ns hnd K hK
 ·exact⟨by simp,hS,rfl,rfl,λi _ _ h=>absurd h (fg i),λi _ _ _ _ h=>absurd h (fg i),λ_ _=>rfl⟩
 ·unfold left;exact Nat.le_trans (List.length_filter_le _ _) (by simp)
theorem kR {P:Program} {ops:Array Oper} {Q:Exit->Act->World->Prop} (m:Nat) (V:Nat->Value->World->Prop) (S:World->Prop) {id:Nat} {a:Act} {w:World}
 (hm:P.follows .mixedOrders=true) (ho:rj .any ops=true) (hd:v8 ops a.tmps.size=true) (nz:m<ops.size) (jd:jN .any ops m=true) (lD:eQ .any ops m=true) (ee:vQ .any ops m=true) (hS:S w.drew)
 (dy:ei (IY P .any ops Q V S a) 0 (ops.toList.take m))
 (kA:∀a' w',Inv .any ops V S a (bz m ops.size) a' w'->wpList P ops Q (ops.toList.drop m) a' w'):(Code.region id ops true).wp P Q a w:=
 tL m V S hm ho hd nz jd lD hS dy (λf a' w' hI=>oh ee nz (kA a' w' hI))
theorem Ks.keepW {W w w':World} {ks:List VV} {i:Nat} (hb:Below w.heap.size w w') (j:Nat) (v:Value) (_:j≠i) (h:Ks W ks j v w):Ks W ks j v w':=Ks.keep hb j v h
section
variable {P:Program} (w:World)
theorem ET (base:Nat) (t ty e:TypeId) (i:TypeInfo) (z:Value) (size fF:Nat) (ht:P.underlying t=some (.slice e)) (hi:P.info? e=some i) (hz:i.zero=some z)
 (lf:i.size=size) (MM:i.bytes=fF) (Ns:z.cells.size=size) (bP:0<size)
 (v:Value) (n:Nat) (xs:List Value) (bv:w.ownsRow base e size v n xs)
 (Q:Nat->Prop) (A:Option Addr) (m c:Nat) (gd:List Value) (hr:Rd w Q A m size gd) (h1:∀u∈gd,u.oneCell'=true)
 (Mu:n+m<=maxLen) (jF:(n+m)*fF<=140737488355328) (jR:base<=w.heap.size) (hm:0<m) {v':Value} {w':World} (eC:(Builtin.append_ #[t,t] ty #[v,.slice A m c]).run P w=.ok v' w'):w'.ownsRow base e size v n xs:=by
 obtain⟨ad,rfl,hc⟩:=hr.2 hm;rcases bv.2 with⟨rfl,rfl⟩|⟨g,cap,aw,rfl,Va,hg,Rc,KD,ft,IA⟩
 ·have hx:xs=[]:=List.eq_nil_of_length_eq_zero (by simpa using bv.1);subst hx;exact World.ownsRow_nil _ _ _ _
 ·by_cases aah:n+m<=cap
  ·obtain⟨w2,zV,h2,_⟩:=run_append_fits (P:=P) w base t ty e i size ht hi lf g n cap xs bv ad m c gd hr.1 (λj u hu=>(hc.2 j u hu).1) h1 aah;rw[eC]at zV;simp only[Result.ok.injEq]at zV;obtain⟨rfl,rfl⟩:=zV;rcases h2.2 with⟨h3,_⟩|⟨g',abp,VY,h3,_,rG,_,_,ado,ac7⟩
   ·simp at h3
   ·simp only[Value.slice.injEq,Option.some.injEq,Addr.mk.injEq,and_true,true_and]at h3;obtain⟨rfl,rfl⟩:=h3;refine⟨bv.1,.inr ⟨g,cap,VY,rfl,Va,rG,Rc,KD,ado,?_⟩⟩;have eV:=bv.1;have:VY.toList.take (n*size)=(VY.toList.take ((n+m)*size)).take (n*size):=by
     rw[List.take_take,Nat.min_eq_left (Nat.mul_le_mul_right _ (by omega))]
    rw[this,ac7,<-eV,List.take_left]
  ·have aaI:=run_append_grow (P:=P) w t ty e i z ht hi hz ⟨g,0,none⟩ n cap xs (by rw[lf];exact bv.1) (λj u hu=>bv.cells (g:=g) rfl j u hu) ad m c gd (by rw[lf];exact hr.1) (λj u hu=>(hc.2 j u hu).1) (by omega) (by unfold maxLen at Mu;omega) (by rw[MM];exact growslice_fits (by omega) (by simpa using jF));obtain⟨ob,hw⟩:∃ob,w'=w.drew.alloc ob:=by
    have:=eC.symm.trans aaI;simp only[Result.ok.injEq]at this;exact⟨_,this.2⟩
   have hb:Below w.heap.size w w':=by rw[hw];exact((Below.refl _ _).drew).alloc (Nat.le_refl _) _
   exact bb bv hb
theorem Cr {o:Oper} {a:Act} {K:Act->World->Prop} {Q':Exit->Act->World->Prop} (s x:Operand) (t:TypeId)
 (ho:o.op=.call {callee:=.builtin .append,args:=#[s,x],argTypes:=#[t,t]})
 (base:Nat) (e:TypeId) (i:TypeInfo) (z:Value) (size fF:Nat) (ht:P.underlying t=some (.slice e)) (hi:P.info? e=some i) (hz:i.zero=some z)
 (lf:i.size=size) (MM:i.bytes=fF) (Ns:z.cells.size=size) (bP:0<size)
 (v:Value) (n:Nat) (xs:List Value) (hs:a.eval s=v) (bv:w.ownsRow base e size v n xs)
 (Q:Nat->Prop) (A:Option Addr) (m c:Nat) (gd:List Value) (hx:a.eval x=.slice A m c) (hr:Rd w Q A m size gd) (h1:∀u∈gd,u.oneCell'=true)
 (Mu:n+m<=maxLen) (jF:(n+m)*fF<=140737488355328) (jR:base<=w.heap.size) (hm:0<m)
 (h:∀v' w',w'.ownsRow base e size v' (n+m) (xs++gd)->w'.ownsRow base e size v n xs->w.grownBy w' v.ownBlock->(v'.ownBlock=v.ownBlock\/v'.ownBlock=some w.heap.size)->K (a.put o.dst v') w'):o.wp P a w K Q':=by
 obtain⟨v',w',eC,h2,h3,h4⟩:=JF (P:=P) w base t o.type e i z size fF ht hi hz lf MM Ns bP v n xs bv Q A m c gd hr h1 Mu jF jR;have h5:=ET (P:=P) w base t o.type e i z size fF ht hi hz lf MM Ns bP v n xs bv Q A m c gd hr h1 Mu jF jR hm eC;unfold Oper.wp execOp;simp only[ho,resolve,invoke,builtin,Sem.run_bind,Sem.run_pure,Result.andThen_ok,List.map_toArray,List.map_cons,List.map_nil,hs,hx,eC];exact h v' w' h2 h5 h3 h4
end
theorem JAt.mono {w:World} {D O D' O':Nat->Prop} {J:Nat} {g:au} {es:List ak} {gl:List Value} {css:List (List Value)} {v:Value} {bi br:Nat} (h:JAt w D O J g es gl css v bi br) (hD:∀q,D q->D' q) (hO:∀q,O q->O' q) (adR:∀q,D' q->¬O' q) (hD2:∀q,D' q->q<w.heap.size) (hO2:∀q,O' q->q<w.heap.size):JAt w D' O' J g es gl css v bi br where
 blk:=h.blk
 grp:=aL.mono h.grp hD
 len:=h.len
 row:=h.row
 ent:=λi x hx=>by
  obtain⟨cs,h1,h2⟩:=h.ent i x hx;exact⟨cs,h1,ax.mono h2 hD⟩
 idx:=h.idx
 rev:=h.rev
 oj:=hO _ h.oj
 oi:=hO _ h.oi
 orr:=hO _ h.orr
 ov:=λq hq=>hO _ (h.ov q hq)
 ne1:=h.ne1
 ne2:=h.ne2
 ne3:=h.ne3
 ne4:=h.ne4
 dis:=adR
 ltD:=hD2
 ltO:=hO2
 ok:=h.ok
theorem JAt.same {w w':World} {D O:Nat->Prop} {J:Nat} {g:au} {es:List ak} {gl:List Value} {css:List (List Value)} {v:Value} {bi br:Nat} (h:JAt w D O J g es gl css v bi br) (hb:Below w.heap.size w w'):sX D O J g es es w w':=by
 have h2:=h.below hb;refine⟨w'.heap.size,hb.size,Nat.le_refl _,⟨gl,css,v,bi,br,h2.mono (λq hq=> .inl hq) (λq hq=> .inl hq) (λq hq=>?_) (λq hq=>?_) (λq hq=>?_)⟩,(Fr.ofBelow hb).mono (λq hq=>hq.1)⟩
 ·rintro(ho|ho)
  ·rcases hq with hq|hq
   ·exact h.dis q hq ho
   ·have:=h.ltO q ho;omega
  ·omega
 ·rcases hq with hq|hq
  ·exact h2.ltD q hq
  ·exact hq.2
 ·rcases hq with hq|hq
  ·exact h2.ltO q hq
  ·exact hq.2
theorem ack {gl:List Value} (hl:gl.length=21) (a b c d:Value):(gl++[a,b,c]).toArray.setIfInBounds 21 d=(gl++[d,b,c]).toArray:=by
 simp[List.set_append,hl]
theorem JAt.post_ok {V V2 W3 W4 W5:World} {D O:Nat->Prop} {J:Nat} {g:au} {es:List ak} {gl:List Value} {css:List (List Value)} {v v9:Value} {bi br:Nat} {x:ak} {cs:List Value} (h:JAt V D O J g es gl css v bi br) (hp:eF g es x=0)
 (jC:Fr (λq=>q≠bi/\q≠br) V V2) (hi:eM V2 bi (es.length+1) (λid=>if id=x.id then some (es.length:Int)else Option.map (λk:Nat=>(k:Int)) (eH es id))) (hr:eM V2 br (es.length+1) (qd (es++[x])))
 (l6:Fr (λq=>q<V2.heap.size/\v.ownBlock≠some q) V2 W3) (hx:ax W3 (λq=>V2.heap.size<=q/\q<W3.heap.size) cs x)
 (jJ:W4.ownsRow 0 51 7 v9 (es.length+1) (css.flatten++cs)) (hg:W3.grownBy W4 v.ownBlock) (aS:v9.ownBlock=v.ownBlock\/v9.ownBlock=some W3.heap.size)
 (XI:W5=W4.setCell ⟨J,21,none⟩ v9):
 JAt W5 (λq=>D q\/(V.heap.size<=q/\q<W3.heap.size)) (λq=>O q\/(W3.heap.size<=q/\q<W5.heap.size)) J g (es++[x]) gl (css++[cs]) v9 bi br/\Fr (λq=>q<V.heap.size/\¬O q) V W5/\V.heap.size<=W3.heap.size/\W3.heap.size<=W5.heap.size:=by
 have s2:=jC.size;have s3:=l6.size;have s4:=hg.size;have s5:W5.heap.size=W4.heap.size:=by rw[XI];simp
 have f5:Fr (λq=>q≠J) W4 W5:=by rw[XI];exact(Fr.refl _ _).setCell (p:=⟨J,21,none⟩) (by simp) _
 have hJ:=h.ltO J h.oj;have m4:=h.ltO bi h.oi;have QA:=h.ltO br h.orr;have f4:∀q,q<W3.heap.size->v.ownBlock≠some q->W4.heap[q]? =W3.heap[q]? :=λq h1 h2=>hg.block q h1 (λe=>h2 e.symm)
 have aeg:∀q,q<V.heap.size->q≠bi->q≠br->v.ownBlock≠some q->q≠J->W5.heap[q]? =V.heap[q]? :=λq h1 h2 h3 h4 h5=>
  (f5.block q h5).trans ((f4 q (by omega) h4).trans ((l6.block q ⟨by omega,h4⟩).trans (jC.block q ⟨h2,h3⟩)))
 have hos:W5.os=V.os:=f5.os.trans (hg.os.trans (l6.os.trans jC.os));have MD:W5.tape=V.tape:=f5.tape.trans (hg.tape.trans (l6.tape.trans jC.tape));have hou:W5.output=V.output:=f5.output.trans (hg.output.trans (l6.output.trans jC.output));have hO:∀q,q<V.heap.size->¬O q->W5.heap[q]? =V.heap[q]? :=λq h1 h2=>aeg q h1 (λe=>h2 (e▸h.oi)) (λe=>h2 (e▸h.orr)) (λe=>h2 (h.ov q e)) (λe=>h2 (e▸h.oj))
 have hD:Fr D V W5:=⟨hos,MD,hou,by omega,λq hq=>hO q (h.ltD q hq) (h.dis q hq)⟩;have cj:∀q,v9.ownBlock=some q->q≠J/\q≠bi/\q≠br:=λq hq=>by
  rcases aS with e|e
  ·exact h.ne4 q (by rw[<-e];exact hq)
  ·rw[e]at hq
   injection hq with hq
   omega
 have Vt:∀q,q=bi\/q=br->W5.heap[q]? =V2.heap[q]? :=λq hq=>by
  have h1:q<V.heap.size:=by rcases hq with rfl|rfl<;>assumption
  have h2:v.ownBlock≠some q:=λe=>by
   have:=h.ne4 q e;rcases hq with rfl|rfl
   ·exact this.2.1 rfl
   ·exact this.2.2 rfl
  have h3:q≠J:=by
   rcases hq with rfl|rfl
   ·exact λe=>h.ne1 e.symm
   ·exact λe=>h.ne2 e.symm
  exact(f5.block q h3).trans ((f4 q (by omega) h2).trans (l6.block q ⟨by omega,h2⟩))
 have eX:(es++[x]).length=es.length+1:=by simp
 have hp2:=rp hp;refine⟨?_,⟨hos,MD,hou,by omega,λq hq=>hO q hq.1 hq.2⟩,by omega,by omega⟩;exact {
  blk:=by
   have e2:=(jC.block J ⟨h.ne1,h.ne2⟩).trans h.blk;have hvJ:v.ownBlock≠some J:=λe=>(h.ne4 J e).1 rfl
   have e3:=(f4 J (by omega) hvJ).trans ((l6.block J ⟨by omega,hvJ⟩).trans e2);have e4:=aG e3 21 v9;rw[XI,e4,ack h.glen]
  grp:=aL.mono (aL.fr h.grp hD) (λq hq=> .inl hq)
  len:=by simp[h.len]
  row:=by
   rw[eX,List.flatten_append,List.flatten_singleton];exact cU jJ (λq hq=>f5.block q (cj q hq).1)
  ent:=λi y hy=>by
   rcases Nat.lt_or_ge i es.length with h1|h1
   ·rw[List.getElem?_append_left h1]at hy;obtain⟨c,h2,h3⟩:=h.ent i y hy;exact⟨c,by rw[List.getElem?_append_left (by rw[h.len];exact h1)];exact h2,ax.mono (ax.fr h3 hD) (λq hq=> .inl hq)⟩
   ·have h2:i=es.length:=by
     have:=(List.getElem?_eq_some_iff.1 hy).1;simp at this;omega
    subst h2;simp at hy;subst hy;refine⟨cs,by rw[<-h.len];simp,ax.mono (ax.fr hx ⟨f5.os.trans hg.os,f5.tape.trans hg.tape,f5.output.trans hg.output,by omega,λq hq=>(f5.block q (by omega)).trans (f4 q hq.2 (λe=>by have:=h.ltO q (h.ov q e);omega))⟩) (λq hq=> .inr ⟨by omega,hq.2⟩)⟩
  idx:=by
   rw[eX];exact(hi.same (Vt bi (.inl rfl))).eqv (λc=>by
    rw[zt hp2.2.1];by_cases hc:c=x.id
    ·rw[if_pos hc,if_pos hc];rfl
    ·rw[if_neg hc,if_neg hc])
  rev:=by rw[eX];exact hr.same (Vt br (.inr rfl))
  oj:=.inl h.oj
  oi:=.inl h.oi
  orr:=.inl h.orr
  ov:=λq hq=>by
   rcases aS with e|e
   ·exact .inl (h.ov q (by rw[<-e];exact hq))
   ·have h2:=(jJ.lt _ hq).2;rw[e]at hq
    injection hq with hq
    exact .inr ⟨by omega,by omega⟩
  ne1:=h.ne1
  ne2:=h.ne2
  ne3:=h.ne3
  ne4:=cj
  dis:=λq h1 h2=>by
   rcases h1 with h1|h1
   ·rcases h2 with h2|h2
    ·exact h.dis q h1 h2
    ·have:=h.ltD q h1;omega
   ·rcases h2 with h2|h2
    ·have:=h.ltO q h2;omega
    ·omega
  ltD:=λq h1=>by
   rcases h1 with h1|h1
   ·have:=h.ltD q h1;omega
   ·omega
  ltO:=λq h1=>by
   rcases h1 with h1|h1
   ·have:=h.ltO q h1;omega
   ·exact h1.2
  ok:=EA h.ok hp}
end Go.Proofs.YtibiddakakgakaaGreat
