/- The fields of an entry, in the reference. Written by gen_e4.py. -/
import Derived.Test.YtibiddakakgakaaGreatQdC4E3
set_option linter.unusedVariables false
set_option linter.unusedSimpArgs false
set_option maxRecDepth 4000
attribute [local go_sem ↓] Go.wp_at_zero Go.wp_at_succ
set_option maxHeartbeats 16000000
namespace Go.Proofs.YtibiddakakgakaaGreat
open Go Go.RowKit
theorem Jz (G:Array Value) (Ae:Option Addr) (ne ce:Nat) (ent la lm lp:Int) (w:World) (Yo:G.size=21) (CM:G[20]? =some (.slice Ae ne ce)) (h0:0<=ent) (hlp:cx lp):Calls Tryz.prog 124 #[.agg G,ent,.agg #[la,lm,lp]] w (ap w (.bool (lu ne ent ⟨la,lm,lp⟩))):=by
 obtain⟨r,hr⟩:=x_ (lu ne ent ⟨la,lm,lp⟩);have jD:=H_ (λh:r=true=>(kj ne ent ⟨la,lm,lp⟩).1 (hr.trans h));have Bp:=H_ (λh=>hr.symm.trans ((kj ne ent ⟨la,lm,lp⟩).2 h));rw[hr];have rU:=H_ CM;obtain⟨QQ,hp2⟩:=hlp;clear hr CM Yo;go_enter Tryz.func124,Tryz.ntmps124;go_upto_region 1 with fail;obtain⟨W,hW,H,HB,HS,ewx⟩:=B_ w (.cells G 29);rw[hW];clear ewx;obtain⟨W2,fR,H2,dz,jK,ewx⟩:=B_ W (.cells #[la,lm,lp] 60);rw[fR];replace H:=(dz.block _ (ag H)).trans H;clear ewx;clear fR;have eW:W.heap.size=w.heap.size+1:=by rw[<-hW];simp
 rw[eW]at H2;clear hW;have aH:=HB.trans (dz.mono HB.size);have dW:=dz.size;have lV:=ag H2;have nf:w.heap.size<W2.heap.size:=by omega
 have HH:=H_ H;have HZ:=H_ H2;have EW:=H_ eW;clear H H2 eW;have aF:=aH;have ku:=nf;have kt:=lV;have dn:=HH;have qN:=HZ;have e1:=ab HZ.o 1;have e2:=ab HZ.o 2;by_cases ha:lm=0
 case pos=>
  have ha1:(lm==0)=true:=by simpa using ha
  have hf:=H_ (show r=false by exact Bool.eq_false_iff.2 (λh0=>absurd (jD.o h0).1 (λh=>h ha)));clear ha;go_wp2_with fail;go_ret;exact⟨hf.o.symm▸rfl,aF⟩
 case neg=>
 have ha1:(lm==0)=false:=by simpa using ha
 obtain⟨mv,Yb⟩:∃v,sw lm=v:=⟨_,rfl⟩;have aM:=PF lm W2;rw[Yb]at aM;have Fj:=H_ Yb;have eE:=H_ aM;clear Yb aM;go_wp2_with fail;refine eE.o.mono ?_;rintro e w3 ⟨rfl,aZ⟩;have aR:=aF.trans (aZ.mono aF.size);have lE:=aZ.size;have nD:=Nat.lt_of_lt_of_le ku lE;have nK:=Nat.lt_of_lt_of_le kt lE;have kS:=k_ aZ dn;have l7:=k_ aZ qN;clear e1 e2;cases mv with
 |false=>
  have hf:=H_ (show r=false by exact Bool.eq_false_iff.2 (λh0=>absurd (jD.o h0).2.1 (by rw[Fj.o];decide)));go_wp2_with fail;go_ret;exact⟨hf.o.symm▸rfl,aR⟩
 |true=>
 have e2:=ab l7.o 2;have iJ:=(ab kS.o 20).trans rU.o;by_cases hm:lp= -1
 case pos=>
  have nx:(lp== -1)=true:=by simpa using hm
  have hf:=H_ (show r=true from Bp.o ⟨ha,Fj.o,by omega,by omega,by omega⟩);clear hm;go_wp2_with fail;go_ret;exact⟨hf.o.symm▸rfl,aR⟩
 case neg=>
 have nx:(lp== -1)=false:=by simpa using hm
 by_cases mF:0<=lp
 case neg=>
  have hq1':¬lp≥0:=mF;have hf:=H_ (show r=false by exact Bool.eq_false_iff.2 (λh0=>absurd (jD.o h0).2.2.1 (by omega)));go_wp2_with fail;go_ret;exact⟨hf.o.symm▸rfl,aR⟩
 case pos=>
 have hq1':lp≥0:=mF;by_cases lc:lp< (ne:Int)
 case neg=>
  have afd:decide (lp< (ne:Int))=false:=decide_eq_false lc;have hf:=H_ (show r=false by exact Bool.eq_false_iff.2 (λh0=>absurd (jD.o h0).2.2.2.1 lc));go_wp2_with fail;go_ret;exact⟨hf.o.symm▸rfl,aR⟩
 case pos=>
 by_cases Dj:lp=ent
 case pos=>
  have hq3':(lp !=ent)=false:=by simpa using Dj
  have HQ3:=H_ Dj;clear Dj;have hf:=H_ (show r=false by exact Bool.eq_false_iff.2 (λh0=>absurd (jD.o h0).2.2.2.2 (λh=>h HQ3.o)));go_wp2_with fail;go_ret;exact⟨hf.o.symm▸rfl,aR⟩
 case neg=>
  have hq3':(lp !=ent)=true:=by simpa using Dj
  have hf:=H_ (show r=true from Bp.o ⟨ha,Fj.o,by omega,lc,Dj⟩);go_wp2_with fail;go_ret;exact⟨hf.o.symm▸rfl,aR⟩
theorem P2 (G:Array Value) (Ae:Option Addr) (ne ce:Nat) (gv:Bool) (xi xe xd xk xo:Int) (xt:ByteArray) (ls:List bG) (Al:Option Addr) (cl:Nat) (w:World) (Yo:G.size=21) (CM:G[20]? =some (.slice Ae ne ce)) (bT:ne<=1000)
 (hv:∀w2:World,Below w.heap.size w w2->Calls Tryz.prog 122 #[.agg G] w2 (ap w2 (.bool gv))) (hx:cx xi/\cx xe/\cx xd/\cx xk/\cx xo) (ry:xt.size<=140737488355327) (hl:aj bc 3 w (·<w.heap.size) [.slice Al ls.length cl] ls):Calls Tryz.prog 87 #[.agg G,.agg #[xi,xe,xd,xk,xo,xt,.slice Al ls.length cl]] w (ap w (.bool (agS gv ne ⟨xi,xe,xd,xk,xo,xt,ls⟩))):=by
 obtain⟨gl,rfl⟩:∃gl:List Value,G=gl.toArray:=⟨G.toList,by simp⟩;obtain⟨r,hr⟩:=x_ (agS gv ne ⟨xi,xe,xd,xk,xo,xt,ls⟩);have Rp:r=true->mI gv ne ⟨xi,xe,xd,xk,xo,xt,ls⟩:=λh=>(en _ _ _).1 (hr.trans h)
 have Rf:mI gv ne ⟨xi,xe,xd,xk,xo,xt,ls⟩->r=true:=λh=>hr.symm.trans ((en _ _ _).2 h)
 rw[hr];unfold mI at Rp Rf;simp only at Rp Rf;have oN:=H_ Rp;have HFT:=H_ Rf;have jw:=hl.cap;obtain⟨nl,bj⟩:∃n,ls.length=n:=⟨_,rfl⟩;have HL:=H_ hl;have HN:=H_ bj;have rU:=H_ CM;have fu:=H_ Yo;have HV:=H_ hv;rw[bj]at jw |-;unfold maxLen at jw;have Sb:nl<=9223372036854775807:=by omega
 obtain⟨⟨R4,aem⟩,⟨rQ,acV⟩,_,⟨hxk,adb⟩,⟨hxo,adi⟩⟩:=hx;clear hr Rp Rf hl bj Yo CM hv jw;have CW:=H_ (show(Tryz.prog.info? 29).map (·.size)=some gl.length by rw[ay];have:=fu.o;simp at this;rw[this]);go_enter Tryz.func87,Tryz.ntmps87;go_upto_region 1 with fail;obtain⟨W,hW,H,HB,HS,ewx⟩:=B_ w (.cells gl.toArray 29);rw[hW];clear ewx;obtain⟨W2,fR,H2,dz,jK,ewx⟩:=B_ W (.cells #[xi,xe,xd,xk,xo,xt,.slice Al nl cl] 51);rw[fR];replace H:=(dz.block _ (ag H)).trans H;clear ewx;clear fR;have eW:W.heap.size=w.heap.size+1:=by rw[<-hW];simp
 rw[eW]at H2;clear hW;have aH:=HB.trans (dz.mono HB.size);have dW:=dz.size;have lV:=ag H2;have nf:w.heap.size<W2.heap.size:=by omega
 have HH:=H_ H;have HZ:=H_ H2;have EW:=H_ eW;clear H H2 eW;have aF:=aH;have ku:=nf;have kt:=lV;have dn:=HH;have qN:=HZ;go_wp2_with (refine W_ 6 29 2 (w.heap.size) dn.o (by rw[ay];exact congrArg some fu.o.symm) Tryz.underlying29 ?_);refine(HV.o W2 aH).mono ?_;rintro e w3 ⟨rfl,aZ⟩;have aR:=aF.trans (aZ.mono aF.size);have lE:=aZ.size;have nD:=Nat.lt_of_lt_of_le ku lE;have nK:=Nat.lt_of_lt_of_le kt lE;have kS:=k_ aZ dn;have l7:=k_ aZ qN;have e0:=ab l7.o 0;have e1:=ab l7.o 1;have e3:=ab l7.o 3;have e4:=ab l7.o 4;have e5:=ab l7.o 5;have iJ:=(ab kS.o 20).trans rU.o;cases gv with
 |false=>
  have hf:=H_ (show r=false from Bool.eq_false_iff.2 (λh0=>absurd (oN.o h0).1 (by decide)));go_wp2_with fail;go_ret;exact⟨hf.o.symm▸rfl,aR⟩
 |true=>
 by_cases mA:1<=xi
 case neg=>
  have yZ:decide (xi<1)=true:=decide_eq_true (by omega);have hf:=H_ (show r=false from Bool.eq_false_iff.2 (λh0=>absurd (oN.o h0).2.1 mA));go_wp2_with fail;go_ret;exact⟨hf.o.symm▸rfl,aR⟩
 case pos=>
 have yZ:decide (xi<1)=false:=decide_eq_false (by omega);by_cases TU:0<=xe
 case neg=>
  have tV:decide (xe<0)=true:=decide_eq_true (by omega);have hf:=H_ (show r=false from Bool.eq_false_iff.2 (λh0=>absurd (oN.o h0).2.2.1 TU));go_wp2_with fail;go_ret;exact⟨hf.o.symm▸rfl,aR⟩
 case pos=>
 have tV:decide (xe<0)=false:=decide_eq_false (by omega);by_cases iu:xe< (ne:Int)
 case neg=>
  have Ky:decide ((ne:Int)<=xe)=true:=decide_eq_true (by omega);have hf:=H_ (show r=false from Bool.eq_false_iff.2 (λh0=>absurd (oN.o h0).2.2.2.1 iu));go_wp2_with fail;go_ret;exact⟨hf.o.symm▸rfl,aR⟩
 case pos=>
 have Ky:decide ((ne:Int)<=xe)=false:=decide_eq_false (by omega);by_cases Dm:1<=xk
 case neg=>
  have hi4:decide (xk<1)=true:=decide_eq_true (by omega);have hf:=H_ (show r=false from Bool.eq_false_iff.2 (λh0=>absurd (oN.o h0).2.2.2.2.1 Dm));go_wp2_with fail;go_ret;exact⟨hf.o.symm▸rfl,aR⟩
 case pos=>
 have hi4:decide (xk<1)=false:=decide_eq_false (by omega);by_cases lO:xk<=3
 case neg=>
  have aeR:decide (3<xk)=true:=decide_eq_true (by omega);have hf:=H_ (show r=false from Bool.eq_false_iff.2 (λh0=>absurd (oN.o h0).2.2.2.2.2.1 lO));go_wp2_with fail;go_ret;exact⟨hf.o.symm▸rfl,aR⟩
 case pos=>
 have aeL:decide (3<xk)=false:=decide_eq_false (by omega);by_cases hk:xk=3
 case pos=>
  have Iv:(xk==3)=true:=by simpa using hk
  have Sc:(xk !=3)=false:=by simp[hk]
  have HK:=H_ hk;clear hk;by_cases ho:1<=xo
  case neg=>
   have CC:decide (xo<1)=true:=decide_eq_true (by omega);have Ka:=H_ (show ¬(xk=3->1<=xo)from λh=>ho (h HK.o));have hf:=H_ (show r=false from Bool.eq_false_iff.2 (λh0=>absurd (oN.o h0).2.2.2.2.2.2.1 Ka.o));go_wp2_with fail;go_ret;exact⟨hf.o.symm▸rfl,aR⟩
  case pos=>
  have CC:decide (xo<1)=false:=decide_eq_false (by omega);have IS:=H_ (show(xk=3->1<=xo)/\(xk≠3->xo=0)from⟨λ_=>ho,λh=>absurd HK.o h⟩);clear ho;obtain⟨pt,N6⟩:∃v,iP xt=v:=⟨_,rfl⟩;have rD:=H_ (λw2:World=>EP xt w2 ry);rw[N6]at rD;have Vz:=H_ N6;clear N6;go_wp2_with fail;refine(rD.o w3).mono ?_;rintro e w4 ⟨rfl,bU⟩;clear Iv Sc CC;have bD:=aR.trans (bU.mono aR.size);have yJ:=bU.size;have tx:=Nat.lt_of_lt_of_le nD yJ;have rR:=Nat.lt_of_lt_of_le nK yJ;have oW:=k_ bU kS;have kX:=k_ bU l7;have d6:=ab kX.o 6;cases pt with
  |false=>
   have hf:=H_ (show r=false from Bool.eq_false_iff.2 (λh0=>absurd (oN.o h0).2.2.2.2.2.2.2.2.1 (by rw[Vz.o];decide)));go_wp2_with fail;go_ret;exact⟨hf.o.symm▸rfl,bD⟩
  |true=>
  by_cases vl:2<=nl
  case neg=>
   have Gh:decide ((nl:Int)<2)=true:=decide_eq_true (by omega);have hf:=H_ (show r=false from Bool.eq_false_iff.2 (λh0=>absurd (oN.o h0).2.2.2.2.2.2.2.2.2.1 (λh=>vl (by rw[<-HN.o];exact h))));go_wp2_with fail;go_ret;exact⟨hf.o.symm▸rfl,bD⟩
  case pos=>
  have Gh:decide ((nl:Int)<2)=false:=decide_eq_false (by omega);by_cases Fg:nl<=40
  case neg=>
   have M7:decide (40< (nl:Int))=true:=decide_eq_true (by omega);have hf:=H_ (show r=false from Bool.eq_false_iff.2 (λh0=>absurd (oN.o h0).2.2.2.2.2.2.2.2.2.2.1 (λh=>Fg (by rw[<-HN.o];exact h))));go_wp2_with fail;go_ret;exact⟨hf.o.symm▸rfl,bD⟩
  case pos=>
  have M7:decide (40< (nl:Int))=false:=decide_eq_false (by omega);go_wp2_with fail;clear d6 M7 Gh
  go_loopw [5] (λi wr=>∃k:Nat,k<=nl/\i=.int .i64 (k:Int)/\Below w4.heap.size w4 wr/\∀j (hj:j<ls.length),j<k->lu ne xe ls[j]=true) (λi _=>nl- (intOf i).toNat)
  case atStart=>exact⟨0,by omega,rfl,Below.refl _ _,λj hj h=>by omega⟩
  case round=>
  obtain⟨k,Fi,rfl,hb,hall⟩:=hrel;have HA:=H_ hall;clear hall;have J3:=(hb.block _ tx).trans oW.o;have Cw:=(hb.block _ rR).trans kX.o;have vo:=H_ (Nat.lt_of_lt_of_le rR hb.size);have Mw:=H_ (Nat.lt_of_lt_of_le tx hb.size);have tw:=H_ (dO (cs:=gl) J3);have d1:=ab Cw 1;have d6:=ab Cw 6;clear J3 Cw;by_cases aU:k<nl
  case pos=>
   have bq:(k:Int)< (nl:Int):=by omega
   have bI:k<ls.length:=by rw[HN.o];exact aU
   obtain⟨b,o,es,dj,ed,bL,aS⟩:=aj.get HL.o k bI;subst dj;have bE:=(bc.lit bL).1;have jE:=(bc.lit bL).2;rw[bE]at aS;have ld:=H_ (List.getElem_mem bI);obtain⟨x,hx⟩:=x_ (ls[k]);rw[hx]at aS jE ld;have HX:=H_ hx;obtain⟨la,lm,lp⟩:=x
   try simp only at aS
   have HLP:=H_ (show cx lp from jE.2.2);obtain⟨lv,hlv⟩:∃v,lu ne xe ⟨la,lm,lp⟩=v:=⟨_,rfl⟩;have qu:=H_ hlv;have lY:=(aS.fr (Fr.ofBelow bD)).fr (Fr.ofBelow (hb.mono bD.size));have Fh:=Nat.le_trans bD.size hb.size;have XL:=H_ (lY.mono (λq (hq:q<w.heap.size)=>show q<wr.heap.size by omega));have D1:=H_ d1;have D6:=H_ d6;clear bL bE aS lY hx hlv jE d1;go_wp2_with fail;refine bk (Ks wr [.val (.agg gl.toArray),.val (.pointer (some ⟨(w.heap.size+1),1,none⟩)),xe,.val (.pointer (some ⟨(w.heap.size+1),6,none⟩)),.val (.slice (some ⟨b,o,none⟩) nl cl),(k:Int),.val (.pointer (some ⟨b,o+k*3,none⟩)),.val (.agg #[la,lm,lp]),lv,.val (.bool (!lv))])
    (λw'=>Below wr.heap.size wr w') K_ K_ K_ (Below.refl _ _).drew ?_ ?_
   ·refine⟨?_,b_ (q_ 3),e_ (p_ 1 81) λ_ h=>l_ h vo.o D1.o,b_ (q_ 3),e_ (p_ 3 83) λ_ h=>l_ h vo.o D6.o,b_ (q_ 5),c_ (p_ 4 84) (p_ 5 85),?_,?_,b_ (p_ 8 88),trivial⟩
    ·refine O1_ (q_ 2) λA0 w2 K e0 hS hK=>?_;have aJ:w2.rangeAt w.heap.size 0 gl:=(tw.o.fr (Fr.ofBelow hS)).range;have aI:=CW.o;refine wp_load_mid 29 (.tmp 2) rfl _ _ (v_ e0) _ _ aJ Tryz.underlying29 rfl aI ?_;exact kq hK hS rfl
    ·refine O1_ (p_ 6 86) λA0 w2 K e0 hS hK=>?_;have aJ:w2.rangeAt b (o+k*3) [la,lm,lp]:=(XL.o.fr (Fr.ofBelow hS)).range;have aI:=cK;refine wp_load_mid 60 (.tmp 86) rfl _ _ (v_ e0) _ _ aJ Tryz.underlying60 rfl aI ?_;exact kq hK hS rfl
    ·refine O3_ (p_ 0 80) (p_ 2 82) (p_ 7 87) λA0 w2 K e0 e1 e2 hS hK=>?_;go_simp
     go_at_call 124
     refine(Jz gl.toArray Ae ne ce xe la lm lp w2 fu.o rU.o TU HLP.o).mono ?_;rintro e w3 ⟨rfl,h3⟩;exact hK.out _ _ (hS.trans (h3.mono hS.size)) (Ks.of rfl (congrArg Value.bool qu.o)) (Ks.keep h3)
   ·intro _ A0 w2 hI hall;have hS:=hI.world;have c9:=hI.ch hall [80,81,82,83,84,85,86,87,88,89];obtain⟨x0,x1,x2,x3,x4,x5,x6,x7,x8,x9,hA,hV⟩:=c9;obtain rfl:x9=.bool (!lv):=hV 9 _ _ rfl _ rfl;clear hV hI hall;simp only[ba,List.foldl,List.setIfInBounds_toArray,List.set_cons_zero,List.set_cons_succ]at hA;rw[hA];clear hA;have hb2':=hb.trans (hS.mono hb.size);have d6':=(hS.cell (p:=⟨w.heap.size+1,6,none⟩) vo.o).trans D6.o;clear d6;cases lv with
    |false=>
     have hf:=H_ (show r=false from Bool.eq_false_iff.2 (λh0=>absurd (oN.o h0).2.2.2.2.2.2.2.2.2.2.2 (λh=>absurd (h _ ld.o) (by rw[qu.o];decide))));go_wp2_with fail;go_ret;exact⟨hf.o.symm▸rfl,bD.trans (hb2'.mono bD.size)⟩
    |true=>
    clear hS;go_wp2_with fail;go_roundw
    case rel=>exact⟨k+1,by omega,by go_num,hb2',λj hj m7=>by
     rcases Nat.lt_or_ge j k with h|h
     ·exact HA.o j hj h
     ·have:j=k:=by omega
      subst this;rw[HX.o];exact qu.o⟩
    case measure=>first|exact aQ aU|(simp only[intOf];omega)
  case neg=>
   have bq:¬(k:Int)< (nl:Int):=by omega
   have eY:=H_ (show ∀l∈ls,lu ne xe l=true from λx hx=>by
    obtain⟨j,hj,rfl⟩:=List.getElem_of_mem hx;exact HA.o j hj (by have:=HN.o;omega))
   have hf:=H_ (show r=true from HFT.o ⟨by first|trivial|rfl,mA,TU,iu,Dm,lO,IS.o.1,IS.o.2,Vz.o,by rw[HN.o];exact vl,by rw[HN.o];exact Fg,eY.o⟩);go_wp2_with fail;go_ret;exact⟨hf.o.symm▸rfl,bD.trans (hb.mono bD.size)⟩
 case neg=>
  have Iv:(xk==3)=false:=by simpa using hk
  have Sc:(xk !=3)=true:=by simpa using hk
  have HK:=H_ hk;clear hk;by_cases ho:xo=0
  case neg=>
   have CC:(xo !=0)=true:=by simpa using ho
   have Ka:=H_ (show ¬(xk≠3->xo=0)from λh=>ho (h HK.o));have hf:=H_ (show r=false from Bool.eq_false_iff.2 (λh0=>absurd (oN.o h0).2.2.2.2.2.2.2.1 Ka.o));go_wp2_with fail;go_ret;exact⟨hf.o.symm▸rfl,aR⟩
  case pos=>
  have CC:(xo !=0)=false:=by simpa using ho
  have IS:=H_ (show(xk=3->1<=xo)/\(xk≠3->xo=0)from⟨λh=>absurd h HK.o,λ_=>ho⟩);clear ho;obtain⟨pt,N6⟩:∃v,iP xt=v:=⟨_,rfl⟩;have rD:=H_ (λw2:World=>EP xt w2 ry);rw[N6]at rD;have Vz:=H_ N6;clear N6;go_wp2_with fail;refine(rD.o w3).mono ?_;rintro e w4 ⟨rfl,bU⟩;clear Iv Sc CC;have bD:=aR.trans (bU.mono aR.size);have yJ:=bU.size;have tx:=Nat.lt_of_lt_of_le nD yJ;have rR:=Nat.lt_of_lt_of_le nK yJ;have oW:=k_ bU kS;have kX:=k_ bU l7;have d6:=ab kX.o 6;cases pt with
  |false=>
   have hf:=H_ (show r=false from Bool.eq_false_iff.2 (λh0=>absurd (oN.o h0).2.2.2.2.2.2.2.2.1 (by rw[Vz.o];decide)));go_wp2_with fail;go_ret;exact⟨hf.o.symm▸rfl,bD⟩
  |true=>
  by_cases vl:2<=nl
  case neg=>
   have Gh:decide ((nl:Int)<2)=true:=decide_eq_true (by omega);have hf:=H_ (show r=false from Bool.eq_false_iff.2 (λh0=>absurd (oN.o h0).2.2.2.2.2.2.2.2.2.1 (λh=>vl (by rw[<-HN.o];exact h))));go_wp2_with fail;go_ret;exact⟨hf.o.symm▸rfl,bD⟩
  case pos=>
  have Gh:decide ((nl:Int)<2)=false:=decide_eq_false (by omega);by_cases Fg:nl<=40
  case neg=>
   have M7:decide (40< (nl:Int))=true:=decide_eq_true (by omega);have hf:=H_ (show r=false from Bool.eq_false_iff.2 (λh0=>absurd (oN.o h0).2.2.2.2.2.2.2.2.2.2.1 (λh=>Fg (by rw[<-HN.o];exact h))));go_wp2_with fail;go_ret;exact⟨hf.o.symm▸rfl,bD⟩
  case pos=>
  have M7:decide (40< (nl:Int))=false:=decide_eq_false (by omega);go_wp2_with fail;clear d6 M7 Gh
  go_loopw [5] (λi wr=>∃k:Nat,k<=nl/\i=.int .i64 (k:Int)/\Below w4.heap.size w4 wr/\∀j (hj:j<ls.length),j<k->lu ne xe ls[j]=true) (λi _=>nl- (intOf i).toNat)
  case atStart=>exact⟨0,by omega,rfl,Below.refl _ _,λj hj h=>by omega⟩
  case round=>
  obtain⟨k,Fi,rfl,hb,hall⟩:=hrel;have HA:=H_ hall;clear hall;have J3:=(hb.block _ tx).trans oW.o;have Cw:=(hb.block _ rR).trans kX.o;have vo:=H_ (Nat.lt_of_lt_of_le rR hb.size);have Mw:=H_ (Nat.lt_of_lt_of_le tx hb.size);have tw:=H_ (dO (cs:=gl) J3);have d1:=ab Cw 1;have d6:=ab Cw 6;clear J3 Cw;by_cases aU:k<nl
  case pos=>
   have bq:(k:Int)< (nl:Int):=by omega
   have bI:k<ls.length:=by rw[HN.o];exact aU
   obtain⟨b,o,es,dj,ed,bL,aS⟩:=aj.get HL.o k bI;subst dj;have bE:=(bc.lit bL).1;have jE:=(bc.lit bL).2;rw[bE]at aS;have ld:=H_ (List.getElem_mem bI);obtain⟨x,hx⟩:=x_ (ls[k]);rw[hx]at aS jE ld;have HX:=H_ hx;obtain⟨la,lm,lp⟩:=x
   try simp only at aS
   have HLP:=H_ (show cx lp from jE.2.2);obtain⟨lv,hlv⟩:∃v,lu ne xe ⟨la,lm,lp⟩=v:=⟨_,rfl⟩;have qu:=H_ hlv;have lY:=(aS.fr (Fr.ofBelow bD)).fr (Fr.ofBelow (hb.mono bD.size));have Fh:=Nat.le_trans bD.size hb.size;have XL:=H_ (lY.mono (λq (hq:q<w.heap.size)=>show q<wr.heap.size by omega));have D1:=H_ d1;have D6:=H_ d6;clear bL bE aS lY hx hlv jE d1;go_wp2_with fail;refine bk (Ks wr [.val (.agg gl.toArray),.val (.pointer (some ⟨(w.heap.size+1),1,none⟩)),xe,.val (.pointer (some ⟨(w.heap.size+1),6,none⟩)),.val (.slice (some ⟨b,o,none⟩) nl cl),(k:Int),.val (.pointer (some ⟨b,o+k*3,none⟩)),.val (.agg #[la,lm,lp]),lv,.val (.bool (!lv))])
    (λw'=>Below wr.heap.size wr w') K_ K_ K_ (Below.refl _ _).drew ?_ ?_
   ·refine⟨?_,b_ (q_ 3),e_ (p_ 1 81) λ_ h=>l_ h vo.o D1.o,b_ (q_ 3),e_ (p_ 3 83) λ_ h=>l_ h vo.o D6.o,b_ (q_ 5),c_ (p_ 4 84) (p_ 5 85),?_,?_,b_ (p_ 8 88),trivial⟩
    ·refine O1_ (q_ 2) λA0 w2 K e0 hS hK=>?_;have aJ:w2.rangeAt w.heap.size 0 gl:=(tw.o.fr (Fr.ofBelow hS)).range;have aI:=CW.o;refine wp_load_mid 29 (.tmp 2) rfl _ _ (v_ e0) _ _ aJ Tryz.underlying29 rfl aI ?_;exact kq hK hS rfl
    ·refine O1_ (p_ 6 86) λA0 w2 K e0 hS hK=>?_;have aJ:w2.rangeAt b (o+k*3) [la,lm,lp]:=(XL.o.fr (Fr.ofBelow hS)).range;have aI:=cK;refine wp_load_mid 60 (.tmp 86) rfl _ _ (v_ e0) _ _ aJ Tryz.underlying60 rfl aI ?_;exact kq hK hS rfl
    ·refine O3_ (p_ 0 80) (p_ 2 82) (p_ 7 87) λA0 w2 K e0 e1 e2 hS hK=>?_;go_simp
     go_at_call 124
     refine(Jz gl.toArray Ae ne ce xe la lm lp w2 fu.o rU.o TU HLP.o).mono ?_;rintro e w3 ⟨rfl,h3⟩;exact hK.out _ _ (hS.trans (h3.mono hS.size)) (Ks.of rfl (congrArg Value.bool qu.o)) (Ks.keep h3)
   ·intro _ A0 w2 hI hall;have hS:=hI.world;have c9:=hI.ch hall [80,81,82,83,84,85,86,87,88,89];obtain⟨x0,x1,x2,x3,x4,x5,x6,x7,x8,x9,hA,hV⟩:=c9;obtain rfl:x9=.bool (!lv):=hV 9 _ _ rfl _ rfl;clear hV hI hall;simp only[ba,List.foldl,List.setIfInBounds_toArray,List.set_cons_zero,List.set_cons_succ]at hA;rw[hA];clear hA;have hb2':=hb.trans (hS.mono hb.size);have d6':=(hS.cell (p:=⟨w.heap.size+1,6,none⟩) vo.o).trans D6.o;clear d6;cases lv with
    |false=>
     have hf:=H_ (show r=false from Bool.eq_false_iff.2 (λh0=>absurd (oN.o h0).2.2.2.2.2.2.2.2.2.2.2 (λh=>absurd (h _ ld.o) (by rw[qu.o];decide))));go_wp2_with fail;go_ret;exact⟨hf.o.symm▸rfl,bD.trans (hb2'.mono bD.size)⟩
    |true=>
    clear hS;go_wp2_with fail;go_roundw
    case rel=>exact⟨k+1,by omega,by go_num,hb2',λj hj m7=>by
     rcases Nat.lt_or_ge j k with h|h
     ·exact HA.o j hj h
     ·have:j=k:=by omega
      subst this;rw[HX.o];exact qu.o⟩
    case measure=>first|exact aQ aU|(simp only[intOf];omega)
  case neg=>
   have bq:¬(k:Int)< (nl:Int):=by omega
   have eY:=H_ (show ∀l∈ls,lu ne xe l=true from λx hx=>by
    obtain⟨j,hj,rfl⟩:=List.getElem_of_mem hx;exact HA.o j hj (by have:=HN.o;omega))
   have hf:=H_ (show r=true from HFT.o ⟨by first|trivial|rfl,mA,TU,iu,Dm,lO,IS.o.1,IS.o.2,Vz.o,by rw[HN.o];exact vl,by rw[HN.o];exact Fg,eY.o⟩);go_wp2_with fail;go_ret;exact⟨hf.o.symm▸rfl,bD.trans (hb.mono bD.size)⟩
end Go.Proofs.YtibiddakakgakaaGreat
