/- The fields of an entry, in the reference. Written by gen_e4.py. -/
import Derived.Test.YtibiddakakgakaaGreatQcC4E3
set_option linter.unusedVariables false
set_option linter.unusedSimpArgs false
set_option maxRecDepth 4000
attribute [local go_sem ↓] Go.wp_at_zero Go.wp_at_succ
set_option maxHeartbeats 16000000
namespace Go.Proofs.YtibiddakakgakaaGreat
open Go Go.RowKit
theorem Jz (G:Array Value) (Ae:Option Addr) (ne ce:Nat) (ent la lm lp:Int) (w:World) (Yo:G.size=21) (CM:G[20]? =some (.slice Ae ne ce)) (h0:0<=ent) (hlp:am lp):Calls Tryz.prog 124 #[.agg G,ent,.agg #[la,lm,lp]] w (ap w (.bool (lu ne ent ⟨la,lm,lp⟩))):=by
 obtain⟨r,hr⟩:=x_ (lu ne ent ⟨la,lm,lp⟩);have jD:=H_ (λh:r=true=>(kj ne ent ⟨la,lm,lp⟩).1 (hr.trans h));have Bp:=H_ (λh=>hr.symm.trans ((kj ne ent ⟨la,lm,lp⟩).2 h));rw[hr];have rU:=H_ CM;obtain⟨QQ,hp2⟩:=hlp;clear hr CM Yo;go_enter Tryz.func124,Tryz.ntmps124;go_upto_region 1 with fail;obtain⟨W,hW,H,HB,HS,ewx⟩:=B_ w (.cells G 29);rw[hW];clear ewx;obtain⟨W2,fR,H2,dz,jK,ewx⟩:=B_ W (.cells #[la,lm,lp] 60);rw[fR];replace H:=(dz.block _ (ag H)).trans H;clear ewx;clear fR;have eW:W.heap.size=w.heap.size+1:=by rw[<-hW];simp
 rw[eW]at H2;clear hW;have aH:=HB.trans (dz.mono HB.size);have dW:=dz.size;have lV:=ag H2;have nf:w.heap.size<W2.heap.size:=by omega
 have HH:=H_ H;have HZ:=H_ H2;have EW:=H_ eW;clear H H2 eW;have aF:=aH;have ku:=nf;have kt:=lV;have dn:=HH;have qN:=HZ;have e1:=ab HZ.o 1;have e2:=ab HZ.o 2;by_cases ha:lm=0
 case pos=>
  have ha1:(lm==0)=true:=by simpa using ha
  have hf:=H_ (show r=false by exact Bool.eq_false_iff.2 (λh0=>absurd (jD.o h0).1 (λh=>h ha)));clear ha;go_wp2_with fail;go_ret;exact⟨hf.o.symm▸rfl,aF⟩
 case neg=>
 have ha1:(lm==0)=false:=by simpa using ha
 obtain⟨mv,Yb⟩:∃v,sw lm=v:=⟨_,rfl⟩;have aM:=PF lm W2;rw[Yb]at aM;have Fj:=H_ Yb;have eE:=H_ aM;clear Yb aM;go_wp2_with fail;refine eE.o.mono ?_;rintro e w3 ⟨rfl,aZ⟩;have aR:=aF.trans (aZ.mono aF.size);have lE:=aZ.size;have nD:=Nat.lt_of_lt_of_le ku lE;have nK:=Nat.lt_of_lt_of_le kt lE;have kS:=k_ aZ dn;have l7:=k_ aZ qN;clear e1 e2;cases mv with
 |false=>
  have hf:=H_ (show r=false by exact Bool.eq_false_iff.2 (λh0=>absurd (jD.o h0).2.1 (by rw[Fj.o];decide)));go_wp2_with fail;go_ret;exact⟨hf.o.symm▸rfl,aR⟩
 |true=>
 have e2:=ab l7.o 2;have iJ:=(ab kS.o 20).trans rU.o;by_cases hm:lp= -1
 case pos=>
  have nx:(lp== -1)=true:=by simpa using hm
  have hf:=H_ (show r=true from Bp.o ⟨ha,Fj.o,by omega,by omega,by omega⟩);clear hm;go_wp2_with fail;go_ret;exact⟨hf.o.symm▸rfl,aR⟩
 case neg=>
 have nx:(lp== -1)=false:=by simpa using hm
 by_cases mF:0<=lp
 case neg=>
  have hq1':¬lp≥0:=mF;have hf:=H_ (show r=false by exact Bool.eq_false_iff.2 (λh0=>absurd (jD.o h0).2.2.1 (by omega)));go_wp2_with fail;go_ret;exact⟨hf.o.symm▸rfl,aR⟩
 case pos=>
 have hq1':lp≥0:=mF;by_cases lc:lp< (ne:Int)
 case neg=>
  have afd:decide (lp< (ne:Int))=false:=decide_eq_false lc;have hf:=H_ (show r=false by exact Bool.eq_false_iff.2 (λh0=>absurd (jD.o h0).2.2.2.1 lc));go_wp2_with fail;go_ret;exact⟨hf.o.symm▸rfl,aR⟩
 case pos=>
 by_cases Dj:lp=ent
 case pos=>
  have hq3':(lp !=ent)=false:=by simpa using Dj
  have HQ3:=H_ Dj;clear Dj;have hf:=H_ (show r=false by exact Bool.eq_false_iff.2 (λh0=>absurd (jD.o h0).2.2.2.2 (λh=>h HQ3.o)));go_wp2_with fail;go_ret;exact⟨hf.o.symm▸rfl,aR⟩
 case neg=>
  have hq3':(lp !=ent)=true:=by simpa using Dj
  have hf:=H_ (show r=true from Bp.o ⟨ha,Fj.o,by omega,lc,Dj⟩);go_wp2_with fail;go_ret;exact⟨hf.o.symm▸rfl,aR⟩
theorem P2 (G:Array Value) (Ae:Option Addr) (ne ce:Nat) (gv:Bool) (xi xe xd xk xo:Int) (xt:ByteArray) (ls:List bG) (Al:Option Addr) (cl:Nat) (w:World) (Yo:G.size=21) (CM:G[20]? =some (.slice Ae ne ce)) (bT:ne<=1000)
 (hv:∀w2:World,Below w.heap.size w w2->Calls Tryz.prog 122 #[.agg G] w2 (ap w2 (.bool gv))) (hx:am xi/\am xe/\am xd/\am xk/\am xo) (ry:xt.size<=140737488355327) (hl:aj bc 3 w (·<w.heap.size) [.slice Al ls.length cl] ls):Calls Tryz.prog 87 #[.agg G,.agg #[xi,xe,xd,xk,xo,xt,.slice Al ls.length cl]] w (ap w (.bool (agS gv ne ⟨xi,xe,xd,xk,xo,xt,ls⟩))):=by
 obtain⟨gl,rfl⟩:∃gl:List Value,G=gl.toArray:=⟨G.toList,by simp⟩;obtain⟨r,hr⟩:=x_ (agS gv ne ⟨xi,xe,xd,xk,xo,xt,ls⟩);have Rp:r=true->mI gv ne ⟨xi,xe,xd,xk,xo,xt,ls⟩:=λh=>(en _ _ _).1 (hr.trans h)
 have Rf:mI gv ne ⟨xi,xe,xd,xk,xo,xt,ls⟩->r=true:=λh=>hr.symm.trans ((en _ _ _).2 h)
 rw[hr];unfold mI at Rp Rf;simp only at Rp Rf;have oN:=H_ Rp;have HFT:=H_ Rf;have jw:=hl.cap;obtain⟨nl,bj⟩:∃n,ls.length=n:=⟨_,rfl⟩;have HL:=H_ hl;have HN:=H_ bj;have rU:=H_ CM;have fu:=H_ Yo;have HV:=H_ hv;rw[bj]at jw |-;unfold maxLen at jw;have Sb:nl<=9223372036854775807:=by omega
 obtain⟨⟨R4,aem⟩,⟨rQ,acV⟩,_,⟨hxk,adb⟩,⟨hxo,adi⟩⟩:=hx;clear hr Rp Rf hl bj Yo CM hv jw;have CW:=H_ (show(Tryz.prog.info? 29).map (·.size)=some gl.length by rw[ay];have:=fu.o;simp at this;rw[this]);go_enter Tryz.func87,Tryz.ntmps87;go_upto_region 1 with fail;obtain⟨W,hW,H,HB,HS,ewx⟩:=B_ w (.cells gl.toArray 29);rw[hW];clear ewx;obtain⟨W2,fR,H2,dz,jK,ewx⟩:=B_ W (.cells #[xi,xe,xd,xk,xo,xt,.slice Al nl cl] 51);rw[fR];replace H:=(dz.block _ (ag H)).trans H;clear ewx;clear fR;have eW:W.heap.size=w.heap.size+1:=by rw[<-hW];simp
 rw[eW]at H2;clear hW;have aH:=HB.trans (dz.mono HB.size);have dW:=dz.size;have lV:=ag H2;have nf:w.heap.size<W2.heap.size:=by omega
 have HH:=H_ H;have HZ:=H_ H2;have EW:=H_ eW;clear H H2 eW;have aF:=aH;have ku:=nf;have kt:=lV;have dn:=HH;have qN:=HZ;go_wp2_with (refine W_ 6 29 2 (w.heap.size) dn.o (by rw[ay];exact congrArg some fu.o.symm) Tryz.underlying29 ?_);refine(HV.o W2 aH).mono ?_;rintro e w3 ⟨rfl,aZ⟩;have aR:=aF.trans (aZ.mono aF.size);have lE:=aZ.size;have nD:=Nat.lt_of_lt_of_le ku lE;have nK:=Nat.lt_of_lt_of_le kt lE;have kS:=k_ aZ dn;have l7:=k_ aZ qN;have e0:=ab l7.o 0;have e1:=ab l7.o 1;have e3:=ab l7.o 3;have e4:=ab l7.o 4;have e5:=ab l7.o 5;have iJ:=(ab kS.o 20).trans rU.o;cases gv with
 |false=>
  have hf:=H_ (show r=false from Bool.eq_false_iff.2 (λh0=>absurd (oN.o h0).1 (by decide)));go_wp2_with fail;go_ret;exact⟨hf.o.symm▸rfl,aR⟩
 |true=>
 by_cases mA:1<=xi
 case neg=>
  have yZ:decide (xi<1)=true:=decide_eq_true (by omega);have hf:=H_ (show r=false from Bool.eq_false_iff.2 (λh0=>absurd (oN.o h0).2.1 mA));go_wp2_with fail;go_ret;exact⟨hf.o.symm▸rfl,aR⟩
 case pos=>
 have yZ:decide (xi<1)=false:=decide_eq_false (by omega);by_cases TU:0<=xe
 case neg=>
  have tV:decide (xe<0)=true:=decide_eq_true (by omega);have hf:=H_ (show r=false from Bool.eq_false_iff.2 (λh0=>absurd (oN.o h0).2.2.1 TU));go_wp2_with fail;go_ret;exact⟨hf.o.symm▸rfl,aR⟩
 case pos=>
 have tV:decide (xe<0)=false:=decide_eq_false (by omega);by_cases iu:xe< (ne:Int)
 case neg=>
  have Ky:decide ((ne:Int)<=xe)=true:=decide_eq_true (by omega);have hf:=H_ (show r=false from Bool.eq_false_iff.2 (λh0=>absurd (oN.o h0).2.2.2.1 iu));go_wp2_with fail;go_ret;exact⟨hf.o.symm▸rfl,aR⟩
 case pos=>
 have Ky:decide ((ne:Int)<=xe)=false:=decide_eq_false (by omega);by_cases Dm:1<=xk
 case neg=>
  have XE:decide (xk<1)=true:=decide_eq_true (by omega);have hf:=H_ (show r=false from Bool.eq_false_iff.2 (λh0=>absurd (oN.o h0).2.2.2.2.1 Dm));go_wp2_with fail;go_ret;exact⟨hf.o.symm▸rfl,aR⟩
 case pos=>
 have XE:decide (xk<1)=false:=decide_eq_false (by omega);by_cases lO:xk<=3
 case neg=>
  have aeR:decide (3<xk)=true:=decide_eq_true (by omega);have hf:=H_ (show r=false from Bool.eq_false_iff.2 (λh0=>absurd (oN.o h0).2.2.2.2.2.1 lO));go_wp2_with fail;go_ret;exact⟨hf.o.symm▸rfl,aR⟩
 case pos=>
 have aeL:decide (3<xk)=false:=decide_eq_false (by omega);by_cases hk:xk=3
 case pos=>
  have Iv:(xk==3)=true:=by simpa using hk
  have Sc:(xk !=3)=false:=by simp[hk]
  have HK:=H_ hk;clear hk;by_cases ho:1<=xo
  case neg=>
   have CC:decide (xo<1)=true:=decide_eq_true (by omega);have Ka:=H_ (show ¬(xk=3->1<=xo)from λh=>ho (h HK.o));have hf:=H_ (show r=false from Bool.eq_false_iff.2 (λh0=>absurd (oN.o h0).2.2.2.2.2.2.1 Ka.o));go_wp2_with fail;go_ret;exact⟨hf.o.symm▸rfl,aR⟩
  case pos=>
  have CC:decide (xo<1)=false:=decide_eq_false (by omega);have IS:=H_ (show(xk=3->1<=xo)/\(xk≠3->xo=0)from⟨λ_=>ho,λh=>absurd HK.o h⟩);clear ho;obtain⟨pt,N6⟩:∃v,iP xt=v:=⟨_,rfl⟩;have rD:=H_ (λw2:World=>EP xt w2 ry);rw[N6]at rD;have Vz:=H_ N6;clear N6;go_wp2_with fail;refine(rD.o w3).mono ?_;rintro e w4 ⟨rfl,bU⟩;clear Iv Sc CC;have bD:=aR.trans (bU.mono aR.size);have yJ:=bU.size;have tx:=Nat.lt_of_lt_of_le nD yJ;have rR:=Nat.lt_of_lt_of_le nK yJ;have oW:=k_ bU kS;have kX:=k_ bU l7;have d6:=ab kX.o 6;cases pt with
  |false=>
   have hf:=H_ (show r=false from Bool.eq_false_iff.2 (λh0=>absurd (oN.o h0).2.2.2.2.2.2.2.2.1 (by rw[Vz.o];decide)));go_wp2_with fail;go_ret;exact⟨hf.o.symm▸rfl,bD⟩
  |true=>
  by_cases vl:2<=nl
  case neg=>
   have Gh:decide ((nl:Int)<2)=true:=decide_eq_true (by omega);have hf:=H_ (show r=false from Bool.eq_false_iff.2 (λh0=>absurd (oN.o h0).2.2.2.2.2.2.2.2.2.1 (λh=>vl (by rw[<-HN.o];exact h))));go_wp2_with fail;go_ret;exact⟨hf.o.symm▸rfl,bD⟩
  case pos=>
  have Gh:decide ((nl:Int)<2)=false:=decide_eq_false (by omega);by_cases Fg:nl<=40
  case neg=>
   have M7:decide (40< (nl:Int))=true:=decide_eq_true (by omega);have hf:=H_ (show r=false from Bool.eq_false_iff.2 (λh0=>absurd (oN.o h0).2.2.2.2.2.2.2.2.2.2.1 (λh=>Fg (by rw[<-HN.o];exact h))));go_wp2_with fail;go_ret;exact⟨hf.o.symm▸rfl,bD⟩
  case pos=>
  have M7:decide (40< (nl:Int))=false:=decide_eq_false (by omega);go_wp2_with fail;clear d6 M7 Gh
  go_loopw [5] (λi wr=>∃k:Nat,k<=nl/\i=.int .i64 (k:Int)/\Below w4.heap.size w4 wr/\∀j (hj:j<ls.length),j<k->lu ne xe ls[j]=true) (λi _=>nl- (intOf i).toNat)
  case atStart=>exact⟨0,by omega,rfl,Below.refl _ _,λj hj h=>by omega⟩
  case round=>
  obtain⟨k,Fi,rfl,hb,hall⟩:=hrel;have HA:=H_ hall;clear hall;have J3:=(hb.block _ tx).trans oW.o;have Cw:=(hb.block _ rR).trans kX.o;have vo:=H_ (Nat.lt_of_lt_of_le rR hb.size);have Mw:=H_ (Nat.lt_of_lt_of_le tx hb.size);have tw:=H_ (dO (cs:=gl) J3);have d1:=ab Cw 1;have d6:=ab Cw 6;clear J3 Cw;by_cases aU:k<nl
  case pos=>
   have bq:(k:Int)< (nl:Int):=by omega
   have bI:k<ls.length:=by rw[HN.o];exact aU
   obtain⟨b,o,es,dj,ed,bL,aS⟩:=aj.get HL.o k bI;subst dj;have bE:=(bc.lit bL).1;have jE:=(bc.lit bL).2;rw[bE]at aS;have ld:=H_ (List.getElem_mem bI);obtain⟨x,hx⟩:=x_ (ls[k]);rw[hx]at aS jE ld;have HX:=H_ hx;obtain⟨la,lm,lp⟩:=x
   try simp only at aS
   have HLP:=H_ (show am lp from jE.2.2);obtain⟨lv,hlv⟩:∃v,lu ne xe ⟨la,lm,lp⟩=v:=⟨_,rfl⟩;have qu:=H_ hlv;have lY:=(aS.fr (Fr.ofBelow bD)).fr (Fr.ofBelow (hb.mono bD.size));have Fh:=Nat.le_trans bD.size hb.size;have XL:=H_ (lY.mono (λq (hq:q<w.heap.size)=>show q<wr.heap.size by omega));have D1:=H_ d1;have D6:=H_ d6;clear bL bE aS lY hx hlv jE d1;go_wp2_with fail;refine bk (Ks wr [.val (.agg gl.toArray),.val (.pointer (some ⟨(w.heap.size+1),1,none⟩)),xe,.val (.pointer (some ⟨(w.heap.size+1),6,none⟩)),.val (.slice (some ⟨b,o,none⟩) nl cl),(k:Int),.val (.pointer (some ⟨b,o+k*3,none⟩)),.val (.agg #[la,lm,lp]),lv,.val (.bool (!lv))])
    (λw'=>Below wr.heap.size wr w') K_ K_ K_ (Below.refl _ _).drew ?_ ?_
   ·refine⟨?_,b_ (q_ 3),e_ (p_ 1 81) λ_ h=>l_ h vo.o D1.o,b_ (q_ 3),e_ (p_ 3 83) λ_ h=>l_ h vo.o D6.o,b_ (q_ 5),c_ (p_ 4 84) (p_ 5 85),?_,?_,b_ (p_ 8 88),trivial⟩
    ·refine O1_ (q_ 2) λA0 w2 K e0 hS hK=>?_;have aJ:w2.rangeAt w.heap.size 0 gl:=(tw.o.fr (Fr.ofBelow hS)).range;have aI:=CW.o;refine wp_load_mid 29 (.tmp 2) rfl _ _ (v_ e0) _ _ aJ Tryz.underlying29 rfl aI ?_;exact kq hK hS rfl
    ·refine O1_ (p_ 6 86) λA0 w2 K e0 hS hK=>?_;have aJ:w2.rangeAt b (o+k*3) [la,lm,lp]:=(XL.o.fr (Fr.ofBelow hS)).range;have aI:=cK;refine wp_load_mid 60 (.tmp 86) rfl _ _ (v_ e0) _ _ aJ Tryz.underlying60 rfl aI ?_;exact kq hK hS rfl
    ·refine O3_ (p_ 0 80) (p_ 2 82) (p_ 7 87) λA0 w2 K e0 e1 e2 hS hK=>?_;go_simp
     go_at_call 124
     refine(Jz gl.toArray Ae ne ce xe la lm lp w2 fu.o rU.o TU HLP.o).mono ?_;rintro e w3 ⟨rfl,h3⟩;exact hK.out _ _ (hS.trans (h3.mono hS.size)) (Ks.of rfl (congrArg Value.bool qu.o)) (Ks.keep h3)
   ·intro _ A0 w2 hI hall;have hS:=hI.world;have c9:=hI.ch hall [80,81,82,83,84,85,86,87,88,89];obtain⟨x0,x1,x2,x3,x4,x5,x6,x7,x8,x9,hA,hV⟩:=c9;obtain rfl:x9=.bool (!lv):=hV 9 _ _ rfl _ rfl;clear hV hI hall;simp only[ba,List.foldl,List.setIfInBounds_toArray,List.set_cons_zero,List.set_cons_succ]at hA;rw[hA];clear hA;have hb2':=hb.trans (hS.mono hb.size);have d6':=(hS.cell (p:=⟨w.heap.size+1,6,none⟩) vo.o).trans D6.o;clear d6;cases lv with
    |false=>
     have hf:=H_ (show r=false from Bool.eq_false_iff.2 (λh0=>absurd (oN.o h0).2.2.2.2.2.2.2.2.2.2.2 (λh=>absurd (h _ ld.o) (by rw[qu.o];decide))));go_wp2_with fail;go_ret;exact⟨hf.o.symm▸rfl,bD.trans (hb2'.mono bD.size)⟩
    |true=>
    clear hS;go_wp2_with fail;go_roundw
    case rel=>exact⟨k+1,by omega,by go_num,hb2',λj hj m7=>by
     rcases Nat.lt_or_ge j k with h|h
     ·exact HA.o j hj h
     ·have:j=k:=by omega
      subst this;rw[HX.o];exact qu.o⟩
    case measure=>first|exact aQ aU|(simp only[intOf];omega)
  case neg=>
   have bq:¬(k:Int)< (nl:Int):=by omega
   have eY:=H_ (show ∀l∈ls,lu ne xe l=true from λx hx=>by
    obtain⟨j,hj,rfl⟩:=List.getElem_of_mem hx;exact HA.o j hj (by have:=HN.o;omega))
   have hf:=H_ (show r=true from HFT.o ⟨by first|trivial|rfl,mA,TU,iu,Dm,lO,IS.o.1,IS.o.2,Vz.o,by rw[HN.o];exact vl,by rw[HN.o];exact Fg,eY.o⟩);go_wp2_with fail;go_ret;exact⟨hf.o.symm▸rfl,bD.trans (hb.mono bD.size)⟩
 case neg=>
  have Iv:(xk==3)=false:=by simpa using hk
  have Sc:(xk !=3)=true:=by simpa using hk
  have HK:=H_ hk;clear hk;by_cases ho:xo=0
  case neg=>
   have CC:(xo !=0)=true:=by simpa using ho
   have Ka:=H_ (show ¬(xk≠3->xo=0)from λh=>ho (h HK.o));have hf:=H_ (show r=false from Bool.eq_false_iff.2 (λh0=>absurd (oN.o h0).2.2.2.2.2.2.2.1 Ka.o));go_wp2_with fail;go_ret;exact⟨hf.o.symm▸rfl,aR⟩
  case pos=>
  have CC:(xo !=0)=false:=by simpa using ho
  have IS:=H_ (show(xk=3->1<=xo)/\(xk≠3->xo=0)from⟨λh=>absurd h HK.o,λ_=>ho⟩);clear ho;obtain⟨pt,N6⟩:∃v,iP xt=v:=⟨_,rfl⟩;have rD:=H_ (λw2:World=>EP xt w2 ry);rw[N6]at rD;have Vz:=H_ N6;clear N6;go_wp2_with fail;refine(rD.o w3).mono ?_;rintro e w4 ⟨rfl,bU⟩;clear Iv Sc CC;have bD:=aR.trans (bU.mono aR.size);have yJ:=bU.size;have tx:=Nat.lt_of_lt_of_le nD yJ;have rR:=Nat.lt_of_lt_of_le nK yJ;have oW:=k_ bU kS;have kX:=k_ bU l7;have d6:=ab kX.o 6;cases pt with
  |false=>
   have hf:=H_ (show r=false from Bool.eq_false_iff.2 (λh0=>absurd (oN.o h0).2.2.2.2.2.2.2.2.1 (by rw[Vz.o];decide)));go_wp2_with fail;go_ret;exact⟨hf.o.symm▸rfl,bD⟩
  |true=>
  by_cases vl:2<=nl
  case neg=>
   have Gh:decide ((nl:Int)<2)=true:=decide_eq_true (by omega);have hf:=H_ (show r=false from Bool.eq_false_iff.2 (λh0=>absurd (oN.o h0).2.2.2.2.2.2.2.2.2.1 (λh=>vl (by rw[<-HN.o];exact h))));go_wp2_with fail;go_ret;exact⟨hf.o.symm▸rfl,bD⟩
  case pos=>
  have Gh:decide ((nl:Int)<2)=false:=decide_eq_false (by omega);by_cases Fg:nl<=40
  case neg=>
   have M7:decide (40< (nl:Int))=true:=decide_eq_true (by omega);have hf:=H_ (show r=false from Bool.eq_false_iff.2 (λh0=>absurd (oN.o h0).2.2.2.2.2.2.2.2.2.2.1 (λh=>Fg (by rw[<-HN.o];exact h))));go_wp2_with fail;go_ret;exact⟨hf.o.symm▸rfl,bD⟩
  case pos=>
  have M7:decide (40< (nl:Int))=false:=decide_eq_false (by omega);go_wp2_with fail;clear d6 M7 Gh
  go_loopw [5] (λi wr=>∃k:Nat,k<=nl/\i=.int .i64 (k:Int)/\Below w4.heap.size w4 wr/\∀j (hj:j<ls.length),j<k->lu ne xe ls[j]=true) (λi _=>nl- (intOf i).toNat)
  case atStart=>exact⟨0,by omega,rfl,Below.refl _ _,λj hj h=>by omega⟩
  case round=>
  obtain⟨k,Fi,rfl,hb,hall⟩:=hrel;have HA:=H_ hall;clear hall;have J3:=(hb.block _ tx).trans oW.o;have Cw:=(hb.block _ rR).trans kX.o;have vo:=H_ (Nat.lt_of_lt_of_le rR hb.size);have Mw:=H_ (Nat.lt_of_lt_of_le tx hb.size);have tw:=H_ (dO (cs:=gl) J3);have d1:=ab Cw 1;have d6:=ab Cw 6;clear J3 Cw;by_cases aU:k<nl
  case pos=>
   have bq:(k:Int)< (nl:Int):=by omega
   have bI:k<ls.length:=by rw[HN.o];exact aU
   obtain⟨b,o,es,dj,ed,bL,aS⟩:=aj.get HL.o k bI;subst dj;have bE:=(bc.lit bL).1;have jE:=(bc.lit bL).2;rw[bE]at aS;have ld:=H_ (List.getElem_mem bI);obtain⟨x,hx⟩:=x_ (ls[k]);rw[hx]at aS jE ld;have HX:=H_ hx;obtain⟨la,lm,lp⟩:=x
   try simp only at aS
   have HLP:=H_ (show am lp from jE.2.2);obtain⟨lv,hlv⟩:∃v,lu ne xe ⟨la,lm,lp⟩=v:=⟨_,rfl⟩;have qu:=H_ hlv;have lY:=(aS.fr (Fr.ofBelow bD)).fr (Fr.ofBelow (hb.mono bD.size));have Fh:=Nat.le_trans bD.size hb.size;have XL:=H_ (lY.mono (λq (hq:q<w.heap.size)=>show q<wr.heap.size by omega));have D1:=H_ d1;have D6:=H_ d6;clear bL bE aS lY hx hlv jE d1;go_wp2_with fail;refine bk (Ks wr [.val (.agg gl.toArray),.val (.pointer (some ⟨(w.heap.size+1),1,none⟩)),xe,.val (.pointer (some ⟨(w.heap.size+1),6,none⟩)),.val (.slice (some ⟨b,o,none⟩) nl cl),(k:Int),.val (.pointer (some ⟨b,o+k*3,none⟩)),.val (.agg #[la,lm,lp]),lv,.val (.bool (!lv))])
    (λw'=>Below wr.heap.size wr w') K_ K_ K_ (Below.refl _ _).drew ?_ ?_
   ·refine⟨?_,b_ (q_ 3),e_ (p_ 1 81) λ_ h=>l_ h vo.o D1.o,b_ (q_ 3),e_ (p_ 3 83) λ_ h=>l_ h vo.o D6.o,b_ (q_ 5),c_ (p_ 4 84) (p_ 5 85),?_,?_,b_ (p_ 8 88),trivial⟩
    ·refine O1_ (q_ 2) λA0 w2 K e0 hS hK=>?_;have aJ:w2.rangeAt w.heap.size 0 gl:=(tw.o.fr (Fr.ofBelow hS)).range;have aI:=CW.o;refine wp_load_mid 29 (.tmp 2) rfl _ _ (v_ e0) _ _ aJ Tryz.underlying29 rfl aI ?_;exact kq hK hS rfl
    ·refine O1_ (p_ 6 86) λA0 w2 K e0 hS hK=>?_;have aJ:w2.rangeAt b (o+k*3) [la,lm,lp]:=(XL.o.fr (Fr.ofBelow hS)).range;have aI:=cK;refine wp_load_mid 60 (.tmp 86) rfl _ _ (v_ e0) _ _ aJ Tryz.underlying60 rfl aI ?_;exact kq hK hS rfl
    ·refine O3_ (p_ 0 80) (p_ 2 82) (p_ 7 87) λA0 w2 K e0 e1 e2 hS hK=>?_;go_simp
     go_at_call 124
     refine(Jz gl.toArray Ae ne ce xe la lm lp w2 fu.o rU.o TU HLP.o).mono ?_;rintro e w3 ⟨rfl,h3⟩;exact hK.out _ _ (hS.trans (h3.mono hS.size)) (Ks.of rfl (congrArg Value.bool qu.o)) (Ks.keep h3)
   ·intro _ A0 w2 hI hall;have hS:=hI.world;have c9:=hI.ch hall [80,81,82,83,84,85,86,87,88,89];obtain⟨x0,x1,x2,x3,x4,x5,x6,x7,x8,x9,hA,hV⟩:=c9;obtain rfl:x9=.bool (!lv):=hV 9 _ _ rfl _ rfl;clear hV hI hall;simp only[ba,List.foldl,List.setIfInBounds_toArray,List.set_cons_zero,List.set_cons_succ]at hA;rw[hA];clear hA;have hb2':=hb.trans (hS.mono hb.size);have d6':=(hS.cell (p:=⟨w.heap.size+1,6,none⟩) vo.o).trans D6.o;clear d6;cases lv with
    |false=>
     have hf:=H_ (show r=false from Bool.eq_false_iff.2 (λh0=>absurd (oN.o h0).2.2.2.2.2.2.2.2.2.2.2 (λh=>absurd (h _ ld.o) (by rw[qu.o];decide))));go_wp2_with fail;go_ret;exact⟨hf.o.symm▸rfl,bD.trans (hb2'.mono bD.size)⟩
    |true=>
    clear hS;go_wp2_with fail;go_roundw
    case rel=>exact⟨k+1,by omega,by go_num,hb2',λj hj m7=>by
     rcases Nat.lt_or_ge j k with h|h
     ·exact HA.o j hj h
     ·have:j=k:=by omega
      subst this;rw[HX.o];exact qu.o⟩
    case measure=>first|exact aQ aU|(simp only[intOf];omega)
  case neg=>
   have bq:¬(k:Int)< (nl:Int):=by omega
   have eY:=H_ (show ∀l∈ls,lu ne xe l=true from λx hx=>by
    obtain⟨j,hj,rfl⟩:=List.getElem_of_mem hx;exact HA.o j hj (by have:=HN.o;omega))
   have hf:=H_ (show r=true from HFT.o ⟨by first|trivial|rfl,mA,TU,iu,Dm,lO,IS.o.1,IS.o.2,Vz.o,by rw[HN.o];exact vl,by rw[HN.o];exact Fg,eY.o⟩);go_wp2_with fail;go_ret;exact⟨hf.o.symm▸rfl,bD.trans (hb.mono bD.size)⟩
theorem aL.view {w:World} {Q:Nat->Prop} {cs:List Value} {g:au} (h:aL w Q cs g):∃Ac cc Ae ce,cs.length=21/\cs[20]? =some (.slice Ae g.entities.length ce)/\cs[4]? =some (.slice Ac g.chart.length cc)/\
 cs[1]? =some (.int .i64 g.calendar.year)/\cs[2]? =some (.int .i64 g.calendar.month)/\cs[3]? =some (.int .i64 g.calendar.periods)/\aj ar 4 w Q [.slice Ac g.chart.length cc] g.chart/\aj aN 5 w Q [.slice Ae g.entities.length ce] g.entities:=by
 have hl:=h.len;obtain⟨Ac,cc,Ae,ce,e,h1,h2,_⟩:=h.lit;subst e;exact⟨Ac,cc,Ae,ce,hl,rfl,rfl,rfl,rfl,rfl,h1,h2⟩
def dY (ch:List ah) (ls:List bG):Bool:=ls.all (λl=>(aK ch l.account).isSome)
theorem vS {ch:List ah} {ls:List bG} {x:bG} (hx:x∈ls) (h:(aK ch x.account).isSome=false):dY ch ls=false:=by
 unfold dY;rw[List.all_eq_false];exact⟨x,hx,by rw[h];decide⟩
theorem KX (g:au) (gl:List Value) (q:Nat) (xi xd xk xo:Int) (xt:ByteArray) (ls:List bG) (Al:Option Addr) (cl:Nat) (w:World) (hg:aL w (·<w.heap.size) gl g) (ci:dQ g) (hq:q<g.entities.length) (hl:aj bc 3 w (·<w.heap.size) [.slice Al ls.length cl] ls) (lP:ls.length<=40):Calls Tryz.prog 192 #[.agg gl.toArray,.agg #[xi,(q:Int),xd,xk,xo,xt,.slice Al ls.length cl]] w (ap w (.int .i64 (if dY g.entities[q].chart ls=true then 0 else 17))):=by
 obtain⟨r,hr⟩:=x_ (dY g.entities[q].chart ls);rw[hr];obtain⟨Ac,cc,Ae,ce,Gs,h20,_,_,_,_,_,iu⟩:=hg.view;obtain⟨be,oe,es,dj,oQ,bL,aS⟩:=aj.get iu q hq;subst dj;obtain⟨Ec,c2,Cu,Kb,bE,ee,_⟩:=aN.lit bL;have oO:=(ci.2.2.2 _ (List.getElem_mem hq)).1;obtain⟨ec,sN⟩:=x_ (g.entities[q].chart);rw[sN]at hr bE ee oO;obtain⟨n2,Gc⟩:∃n,ec.length=n:=⟨_,rfl⟩;rw[Gc]at bE;subst bE;obtain⟨ne,bT⟩:∃n,g.entities.length=n:=⟨_,rfl⟩;rw[bT]at h20 hq;have zi:ne<=1000:=by rw[<-bT];exact ci.2.1
 have HR:=H_ hr;have rN:=H_ Gc;have HN3:=H_ oO;have Ow:=H_ ee;have HDE:=H_ (aS.c (j:=2) rfl);have Gf:=H_ oQ;have HL:=H_ hl;obtain⟨nl,bj⟩:∃n,ls.length=n:=⟨_,rfl⟩;have HN:=H_ bj;have Z8:nl<=40:=by rw[<-bj];exact lP
 rw[bj];have rU:=H_ (show gl.toArray[20]? =some (.slice (some ⟨be,oe,none⟩) ne ce) by simpa using h20);have fu:=H_ (show gl.toArray.size=21 by simpa using Gs);clear hr Gc oO ee aS oQ hl bj h20 Gs iu bL bT sN lP ci hg;obtain⟨R,hR⟩:=x_ ((if r=true then(0:Int)else 17));rw[hR];have HE:=H_ hR.symm;clear hR;go_enter Tryz.func192,Tryz.ntmps192;go_upto_region 1 with fail;obtain⟨W,hW,H,HB,HS,ewx⟩:=B_ w (.cells gl.toArray 29);rw[hW];clear ewx;obtain⟨W2,fR,H2,dz,jK,ewx⟩:=B_ W (.cells #[xi,(q:Int),xd,xk,xo,xt,.slice Al nl cl] 51);rw[fR];replace H:=(dz.block _ (ag H)).trans H;clear ewx;clear fR;have eW:W.heap.size=w.heap.size+1:=by rw[<-hW];simp
 rw[eW]at H2;clear hW;have aH:=HB.trans (dz.mono HB.size);have dW:=dz.size;have lV:=ag H2;have nf:w.heap.size<W2.heap.size:=by omega
 have HH:=H_ H;have HZ:=H_ H2;have EW:=H_ eW;clear H H2 eW;have e6:=ab HZ.o 6;go_wp2_with fail;clear e6
 go_loopw [12] (λi wr=>∃k:Nat,k<=nl/\i=.int .i64 (k:Int)/\Below W2.heap.size W2 wr/\∀j (hj:j<ls.length),j<k->(aK ec ls[j].account).isSome=true) (λi _=>nl- (intOf i).toNat)
 case atStart=>exact⟨0,by omega,rfl,Below.refl _ _,λj hj h=>by omega⟩
 case round=>
  obtain⟨k,Fi,rfl,hb,hall⟩:=hrel;have HA:=H_ hall;clear hall;by_cases aU:k<nl
  case pos=>
   have bq:(k:Int)< (nl:Int):=by omega
   have bI:k<ls.length:=by rw[HN.o];exact aU
   obtain⟨b,o,es,dj,ed,bL,aS⟩:=aj.get HL.o k bI;subst dj;have bE:=(bc.lit bL).1;have jE:=(bc.lit bL).2;rw[bE]at aS;have ld:=H_ (List.getElem_mem bI);obtain⟨x,hx⟩:=x_ (ls[k]);rw[hx]at aS jE ld;have HX:=H_ hx;obtain⟨la,lm,lp⟩:=x
   try simp only at aS
   have vw:=H_ (show am la from jE.1);have lY:=(aS.fr (Fr.ofBelow aH)).fr (Fr.ofBelow (hb.mono aH.size));have J3:=(hb.block _ nf).trans HH.o;have Cw:=(hb.block _ lV).trans HZ.o;have abW:=H_ (Nat.lt_of_lt_of_le nf hb.size);have aaj:=H_ (Nat.lt_of_lt_of_le lV hb.size);have rV:=aH.trans (hb.mono aH.size);obtain⟨ao,hao⟩:∃a,gH (aK ec la)=a:=⟨_,rfl⟩;obtain⟨p1,p2,p3,p4⟩:=ao;have Bm:=H_ hao;obtain⟨fs,hfs⟩:∃s,(aK ec la).isSome=s:=⟨_,rfl⟩;have Sg:=H_ hfs;clear hao hfs;have eZ:=H_ lY.range;have abb:=(rV.cell (p:=⟨be,oe+q*5+2,none⟩) Gf.o).trans HDE.o;clear bL bE aS lY hx jE;go_upto_region 4 with(refine w_ 15 60 14 b (o+k*3) [la,lm,lp] eZ.o cK Tryz.underlying60 ?_);obtain⟨W6,mC,H6,dK,my,ewx⟩:=B_ wr (.cells #[la,lm,lp] 60);rw[mC];clear ewx;clear mC;have C0:=H_ (ab H6 0);clear H6;have go:=H_ (rV.trans (dK.mono rV.size));have Mw:=H_ (Nat.lt_of_lt_of_le abW.o dK.size);have vo:=H_ (Nat.lt_of_lt_of_le aaj.o dK.size);have HVE:=H_ (show be<W6.heap.size by have:=go.o.size;have:=Gf.o;omega);have Nd:=H_ ((dK.cell (p:=⟨w.heap.size,20,none⟩) abW.o).trans ((ab J3 20).trans rU.o));have D1:=H_ ((dK.cell (p:=⟨w.heap.size+1,1,none⟩) aaj.o).trans (ab Cw 1));have DE:=H_ ((dK.cell (p:=⟨be,oe+q*5+2,none⟩) (show be<wr.heap.size by have:=rV.size;have:=Gf.o;omega)).trans abb);have dd:=hb.trans (dK.mono hb.size);clear J3 Cw abb;have IR:(q:Int)< (ne:Int):=by omega
   cases fs with
   |false=>
    have hf:=H_ (show r=false from HR.o.symm.trans (vS ld.o Sg.o));refine cV 14 (λi=>i==12) (Ks W6 [.val (.pointer (some ⟨w.heap.size,20,none⟩)),.val (.slice (some ⟨be,oe,none⟩) ne ce),.val (.pointer (some ⟨(w.heap.size+1),1,none⟩)),(q:Int),.val (.pointer (some ⟨be,oe+q*5,none⟩)),.val (.pointer (some ⟨be,oe+q*5+2,none⟩)),.val (.slice Ec n2 c2),.val (.pointer (some ⟨wr.heap.size,0,none⟩)),la,.val (.tuple #[.agg #[p1,p2,p3,p4],false]),.val (.tuple #[.agg #[p1,p2,p3,p4],false]),.val (.agg #[p1,p2,p3,p4]),false,.own (cM W6 #[.int .i64 0,.int .i64 0,.int .i64 0,.int .i64 0] 78) (cM.keep _ _ _)])
     (λw'=>Below W6.heap.size W6 w') (Ks W6 [.val (.pointer (some ⟨w.heap.size,20,none⟩)),.val (.slice (some ⟨be,oe,none⟩) ne ce),.val (.pointer (some ⟨(w.heap.size+1),1,none⟩)),(q:Int),.val (.pointer (some ⟨be,oe+q*5,none⟩)),.val (.pointer (some ⟨be,oe+q*5+2,none⟩)),.val (.slice Ec n2 c2),.val (.pointer (some ⟨wr.heap.size,0,none⟩)),la,.val (.tuple #[.agg #[p1,p2,p3,p4],false]),.val (.tuple #[.agg #[p1,p2,p3,p4],false]),.val (.agg #[p1,p2,p3,p4]),false,.own (cM W6 #[.int .i64 p1,.int .i64 p2,.int .i64 p3,.int .i64 p4] 78) (cM.keep _ _ _)])
     (λw'=>Below W6.heap.size W6 w') K_ K_ K_ (by decide) K_ K_ K_ K_ rfl K_ _ rfl rfl (Below.refl _ _).drew ?_ ?_ ?_ ?_
    ·refine⟨b_ (q_ 2),e_ (p_ 0 17) λ_ h=>l_ h Mw.o Nd.o,b_ (q_ 3),e_ (p_ 2 19) λ_ h=>l_ h vo.o D1.o,c_ (p_ 1 18) (p_ 3 20),b_ (p_ 4 21),e_ (p_ 5 22) λ_ h=>l_ h HVE.o DE.o,b_ (q_ 6),e_ (p_ 7 24) (p:=⟨wr.heap.size,0,none⟩) λ_ h=>l_ h my C0.o,?_,b_ (p_ 9 26),b_ (p_ 10 16),b_ (p_ 10 16),?_,trivial⟩
     ·refine O2_ (p_ 6 23) (p_ 8 25) λA0 w2 K e0 e1 hS hK=>?_;go_simp
      go_at_call 94
      refine(BR rN.o (az Ow.o (go.o.trans (hS.mono go.o.size))) HN3.o la vw.o Bm.o Sg.o).mono ?_;rintro e w3 ⟨rfl,h3⟩;exact hK.out _ _ (hS.trans (h3.mono hS.size)) (Ks.of rfl rfl) (Ks.keep h3)
     ·refine O0_ λA0 w2 K hS hK=>?_;go_simp;exact hK.out _ _ (hS.alloc hS.size _) (Ks.of rfl (cM.made hS.size _ _)) (Ks.keep (ai w2 _))
    ·intro _ A0 w2 hI hall K hK;obtain⟨xp,gp,hp⟩:=hI.got 13 _ 7 rfl rfl (hall 13 (by decide) rfl);obtain⟨xv,gv,hv⟩:=hI.got 11 _ 27 rfl rfl (hall 11 (by decide) rfl);obtain⟨g,rfl,jy,hg2⟩:=hp _ rfl;obtain rfl:xv=.agg #[p1,p2,p3,p4]:=hv _ rfl;have hS:=hI.world;refine aa rfl ?_;refine wp_store_row 78 (.tmp 7) (.tmp 27) rfl g #[p1,p2,p3,p4] (by simp[Act.eval,Array.getD_eq_getD_getElem?,gp]) (by simp[Act.eval,Array.getD_eq_getD_getElem?,gv]) 78 #[(),(),(),()] hg2 (bX ⟨p1,p2,p3,p4⟩) rfl (by simp[Value.oneCell']) ?_;refine hK _ (aD hS jy _) ?_;intro i o d u hi ho hd hu hV;refine Ks.store (p:=13) (kn:=_) rfl hV (λDl=>?_);subst Dl;obtain rfl:_=o:=Option.some.inj ho;obtain rfl:_=d:=Option.some.inj hd;obtain rfl:_=u:=Option.some.inj (gp.symm.trans hu);exact⟨g,rfl,jy,aB hg2 _⟩
    ·refine⟨o_,o_,o_,o_,o_,o_,o_,o_,o_,o_,o_,o_,?_,o_,o_,trivial⟩
     ·intro _;intro _ A0 w2 hI hd hnd K hK;have e0:=hI.p hd 10 16;exact hI.z hK
    ·intro A0 w2 hI;have hS:=hI.world;have c9:=hI.cg [(0,17),(1,18),(2,19),(3,20),(4,21),(5,22),(6,23),(7,24),(8,25),(9,26),(10,16),(11,27),(12,28),(13,7)] [8] j_;obtain⟨x0,x1,x2,x3,x4,x5,x6,x7,x8,x9,dN,ef,fh,gU,y8,hA,hV⟩:=c9;obtain rfl:ef=.agg #[p1,p2,p3,p4]:=hV 11 _ _ _ rfl rfl _ rfl;obtain rfl:fh=.bool false:=hV 12 _ _ _ rfl rfl _ rfl;obtain⟨g,rfl,jy,hg2⟩:=hV 13 _ _ _ rfl rfl _ rfl;clear hV hI;simp only[ba,List.foldl,List.setIfInBounds_toArray,List.set_cons_zero,List.set_cons_succ]at hA;rw[hA];clear hA;simp only[List.drop_succ_cons,List.drop_zero];have zJ:=aH.trans ((dd.trans (hS.mono dd.size)).mono aH.size);clear hg2;go_wp2_with fail;go_ret;exact⟨by rw[HE.o,hf.o];first|done|rfl,zJ⟩
   |true=>
    refine cV 14 (λi=>i==12) (Ks W6 [.val (.pointer (some ⟨w.heap.size,20,none⟩)),.val (.slice (some ⟨be,oe,none⟩) ne ce),.val (.pointer (some ⟨(w.heap.size+1),1,none⟩)),(q:Int),.val (.pointer (some ⟨be,oe+q*5,none⟩)),.val (.pointer (some ⟨be,oe+q*5+2,none⟩)),.val (.slice Ec n2 c2),.val (.pointer (some ⟨wr.heap.size,0,none⟩)),la,.val (.tuple #[.agg #[p1,p2,p3,p4],true]),.val (.tuple #[.agg #[p1,p2,p3,p4],true]),.val (.agg #[p1,p2,p3,p4]),true,.own (cM W6 #[.int .i64 0,.int .i64 0,.int .i64 0,.int .i64 0] 78) (cM.keep _ _ _)])
     (λw'=>Below W6.heap.size W6 w') (Ks W6 [.val (.pointer (some ⟨w.heap.size,20,none⟩)),.val (.slice (some ⟨be,oe,none⟩) ne ce),.val (.pointer (some ⟨(w.heap.size+1),1,none⟩)),(q:Int),.val (.pointer (some ⟨be,oe+q*5,none⟩)),.val (.pointer (some ⟨be,oe+q*5+2,none⟩)),.val (.slice Ec n2 c2),.val (.pointer (some ⟨wr.heap.size,0,none⟩)),la,.val (.tuple #[.agg #[p1,p2,p3,p4],true]),.val (.tuple #[.agg #[p1,p2,p3,p4],true]),.val (.agg #[p1,p2,p3,p4]),true,.own (cM W6 #[.int .i64 p1,.int .i64 p2,.int .i64 p3,.int .i64 p4] 78) (cM.keep _ _ _)])
     (λw'=>Below W6.heap.size W6 w') K_ K_ K_ (by decide) K_ K_ K_ K_ rfl K_ _ rfl rfl (Below.refl _ _).drew ?_ ?_ ?_ ?_
    ·refine⟨b_ (q_ 2),e_ (p_ 0 17) λ_ h=>l_ h Mw.o Nd.o,b_ (q_ 3),e_ (p_ 2 19) λ_ h=>l_ h vo.o D1.o,c_ (p_ 1 18) (p_ 3 20),b_ (p_ 4 21),e_ (p_ 5 22) λ_ h=>l_ h HVE.o DE.o,b_ (q_ 6),e_ (p_ 7 24) (p:=⟨wr.heap.size,0,none⟩) λ_ h=>l_ h my C0.o,?_,b_ (p_ 9 26),b_ (p_ 10 16),b_ (p_ 10 16),?_,trivial⟩
     ·refine O2_ (p_ 6 23) (p_ 8 25) λA0 w2 K e0 e1 hS hK=>?_;go_simp
      go_at_call 94
      refine(BR rN.o (az Ow.o (go.o.trans (hS.mono go.o.size))) HN3.o la vw.o Bm.o Sg.o).mono ?_;rintro e w3 ⟨rfl,h3⟩;exact hK.out _ _ (hS.trans (h3.mono hS.size)) (Ks.of rfl rfl) (Ks.keep h3)
     ·refine O0_ λA0 w2 K hS hK=>?_;go_simp;exact hK.out _ _ (hS.alloc hS.size _) (Ks.of rfl (cM.made hS.size _ _)) (Ks.keep (ai w2 _))
    ·intro _ A0 w2 hI hall K hK;obtain⟨xp,gp,hp⟩:=hI.got 13 _ 7 rfl rfl (hall 13 (by decide) rfl);obtain⟨xv,gv,hv⟩:=hI.got 11 _ 27 rfl rfl (hall 11 (by decide) rfl);obtain⟨g,rfl,jy,hg2⟩:=hp _ rfl;obtain rfl:xv=.agg #[p1,p2,p3,p4]:=hv _ rfl;have hS:=hI.world;refine aa rfl ?_;refine wp_store_row 78 (.tmp 7) (.tmp 27) rfl g #[p1,p2,p3,p4] (by simp[Act.eval,Array.getD_eq_getD_getElem?,gp]) (by simp[Act.eval,Array.getD_eq_getD_getElem?,gv]) 78 #[(),(),(),()] hg2 (bX ⟨p1,p2,p3,p4⟩) rfl (by simp[Value.oneCell']) ?_;refine hK _ (aD hS jy _) ?_;intro i o d u hi ho hd hu hV;refine Ks.store (p:=13) (kn:=_) rfl hV (λDl=>?_);subst Dl;obtain rfl:_=o:=Option.some.inj ho;obtain rfl:_=d:=Option.some.inj hd;obtain rfl:_=u:=Option.some.inj (gp.symm.trans hu);exact⟨g,rfl,jy,aB hg2 _⟩
    ·refine⟨o_,o_,o_,o_,o_,o_,o_,o_,o_,o_,o_,o_,?_,o_,o_,trivial⟩
     ·intro _;intro _ A0 w2 hI hd hnd K hK;have e0:=hI.p hd 10 16;exact hI.z hK
    ·intro A0 w2 hI;have hS:=hI.world;have c9:=hI.cg [(0,17),(1,18),(2,19),(3,20),(4,21),(5,22),(6,23),(7,24),(8,25),(9,26),(10,16),(11,27),(12,28),(13,7)] [8] j_;obtain⟨x0,x1,x2,x3,x4,x5,x6,x7,x8,x9,dN,ef,fh,gU,y8,hA,hV⟩:=c9;obtain rfl:ef=.agg #[p1,p2,p3,p4]:=hV 11 _ _ _ rfl rfl _ rfl;obtain rfl:fh=.bool true:=hV 12 _ _ _ rfl rfl _ rfl;obtain⟨g,rfl,jy,hg2⟩:=hV 13 _ _ _ rfl rfl _ rfl;clear hV hI;simp only[ba,List.foldl,List.setIfInBounds_toArray,List.set_cons_zero,List.set_cons_succ]at hA;rw[hA];clear hA;simp only[List.drop_succ_cons,List.drop_zero];have zJ:=dd.trans (hS.mono dd.size);clear hg2;go_wp2_with fail;go_roundw
     case rel=>exact⟨k+1,by omega,by go_num,zJ,λj hj m7=>by
      rcases Nat.lt_or_ge j k with h|h
      ·exact HA.o j hj h
      ·have:j=k:=by omega
       subst this;rw[HX.o];exact Sg.o⟩
     case measure=>first|exact aQ aU|(simp only[intOf];omega)
  case neg=>
   have bq:¬(k:Int)< (nl:Int):=by omega
   have hf:=H_ (show r=true from HR.o.symm.trans (by
    unfold dY;rw[List.all_eq_true];intro x hx;obtain⟨j,hj,rfl⟩:=List.getElem_of_mem hx;exact HA.o j hj (by have:=HN.o;omega)))
   go_wp2_with fail;go_ret;exact⟨by rw[HE.o,hf.o];first|done|rfl,aH.trans (hb.mono aH.size)⟩
theorem sd {w:World} {b:Nat} {gl:List Value} {T:TypeId} {y m n:Int} (h:w.heap[b]? =some (.cells gl.toArray T (0,0))) (e1:gl[1]? =some (.int .i64 y)) (e2:gl[2]? =some (.int .i64 m)) (e3:gl[3]? =some (.int .i64 n)):w.rangeAt b 1 [y,m,n]:=λj v hj=>by
 match j,hj with
 |0,hj=>rw[ab h];simp at hj;subst hj;simpa using e1
 |1,hj=>rw[ab h];simp at hj;subst hj;simpa using e2
 |2,hj=>rw[ab h];simp at hj;subst hj;simpa using e3
 |j+3,hj=>simp at hj
theorem eR {w w':World} {cs:List Value} {l:List bG} (h:aj bc 3 w (·<w.heap.size) cs l) (hb:Below w.heap.size w w'):aj bc 3 w' (·<w'.heap.size) cs l:=
 (h.fr (λh=>bc.fr h (Fr.ofBelow hb)) (Fr.ofBelow hb)).mono (λh=>bc.mono h (λk hk=>by have:=hb.size;omega)) (λk hk=>by have:=hb.size;omega)
theorem ax.lit {w:World} {Q:Nat->Prop} {cs:List Value} {x:ak} (h:ax w Q cs x):∃Al cl,cs=[.int .i64 x.id,.int .i64 x.entity,.int .i64 x.date,.int .i64 x.kind,.int .i64 x.of_,.string x.text,.slice Al x.lines.length cl]/\(am x.id/\am x.entity/\am x.date/\am x.kind/\am x.of_)/\aj bc 3 w Q [.slice Al x.lines.length cl] x.lines:=by
 obtain⟨c0,c1,c2,c3,c4,c5,c6,rfl,⟨rfl,h0⟩,⟨rfl,h1⟩,⟨rfl,h2⟩,⟨rfl,h3⟩,⟨rfl,h4⟩,h5,h6⟩:=h;have e5:c5=_:=h5;subst e5;obtain⟨A,c,e,_⟩:=h6.form;subst e;exact⟨A,c,rfl,⟨h0,h1,h2,h3,h4⟩,h6⟩
theorem BT {g:au} {gl:List Value} {w:World} (hg:aL w (·<w.heap.size) gl g) (ci:dQ g):∀w2:World,Below w.heap.size w w2->Calls Tryz.prog 103 #[.agg gl.toArray] w2 (ap w2 (.bool (bh g))):=λw2 hb=>by
 rw[<-Lr];exact SS g gl w2 (hg.keep hb) ci
theorem xY {g:au} {gl:List Value} {w:World} (hg:aL w (·<w.heap.size) gl g) (ci:dQ g):∀w2:World,Below w.heap.size w w2->Calls Tryz.prog 122 #[.agg gl.toArray] w2 (ap w2 (.bool (bh g))):=λw2 hb=>
 PV g gl w2 (hg.keep hb) ci
theorem xl {gv:Bool} {ne:Int} {x:ak} (h:agS gv ne x=true):Pw x.lines:=by
 have h':=(en _ _ _).1 h;have hl:=h'.2.2.2.2.2.2.2.2.2.2;refine Ii.pre ⟨λl hm=>?_,by omega⟩;have:=((kj _ _ _).1 (hl.2 l hm)).2.1;have:=of_decide_eq_true this;omega
theorem xh {g:au} {ne:Int} {x:ak} (h:agS (bh g) ne x=true):du g.calendar.year g.calendar.month g.calendar.periods=true:=by
 have h':=((en _ _ _).1 h).1;cases hc:du g.calendar.year g.calendar.month g.calendar.periods with
 |true=>rfl
 |false=>
  unfold bh at h';simp[hc]at h'
def dh (g:au) (x:ak):Int:=
 if agS (bh g) g.entities.length x=true then(if dY (g.entities.getD x.entity.toNat {}).chart x.lines=true then(if jL g.calendar.year g.calendar.month g.calendar.periods x.date=true then(if iS x.lines=0 then 0 else 11)else 2)else 17)else 1
theorem SK (gl:List Value) (y m n:Int) (xi xe xd xk xo:Int) (xt:ByteArray) (nl:Nat) (Al:Option Addr) (cl:Nat) (w:World) (h1:gl[1]? =some (.int .i64 y)) (h2:gl[2]? =some (.int .i64 m)) (h3:gl[3]? =some (.int .i64 n)) (hc:du y m n=true) (hd:am xd):Calls Tryz.prog 193 #[.agg gl.toArray,.agg #[xi,xe,xd,xk,xo,xt,.slice Al nl cl]] w (ap w (.int .i64 (if jL y m n xd=true then 0 else 2))):=by
 obtain⟨R,hR⟩:=x_ ((if jL y m n xd=true then(0:Int)else 2));have HPI:=H_ ((Pu (d:=xd) hc).trans hR);have rD:=H_ (λw2:World=>xP y m n xd w2 hc hd);have h0:=H_ (show R=0\/R=2 by rw[<-hR];split<;>simp);rw[hR];obtain⟨⟨pp,pe⟩,Gp⟩:∃p,cT y m n xd=p:=⟨_,rfl⟩;rw[Gp]at HPI rD;have Gg:=H_ h1;have CD:=H_ h2;have IG:=H_ h3;clear h1 h2 h3 hc hd hR Gp;go_enter Tryz.func193,Tryz.ntmps193;go_upto_region 1 with fail;obtain⟨W,hW,H,HB,HS,ewx⟩:=B_ w (.cells gl.toArray 29);rw[hW];clear ewx;obtain⟨W2,fR,H2,dz,jK,ewx⟩:=B_ W (.cells #[xi,xe,xd,xk,xo,xt,.slice Al nl cl] 51);rw[fR];replace H:=(dz.block _ (ag H)).trans H;clear ewx;clear fR;have eW:W.heap.size=w.heap.size+1:=by rw[<-hW];simp
 rw[eW]at H2;clear hW;have aH:=HB.trans (dz.mono HB.size);have dW:=dz.size;have lV:=ag H2;have nf:w.heap.size<W2.heap.size:=by omega
 have HH:=H_ H;have HZ:=H_ H2;have EW:=H_ eW;clear H H2 eW;have Cv:=H_ (sd HH.o Gg.o CD.o IG.o);have e2:=ab HZ.o 2;go_wp2_with (refine w_ 9 23 8 w.heap.size 1 [y,m,n] Cv.o bV Tryz.underlying23 ?_);refine(rD.o W2).mono ?_;rintro e w3 ⟨rfl,aZ⟩;have aR:=aH.trans (aZ.mono aH.size);clear e2;by_cases hz:pe=0
 case pos=>
  subst hz;have hf:=H_ (show R=0 by exact HPI.o.symm);go_wp2_with fail;go_ret;exact⟨hf.o.symm▸rfl,aR⟩
 case neg=>
  have IU:(pe !=0)=true:=by simpa using hz
  have QH:¬(pe=0):=hz;have HP2:=H_ (show R=2 by
   have h:=HPI.o
   try simp only at h
   have hR2:=h0.o;rcases hR2 with h'|h'
   ·exact absurd (h.trans h') hz
   ·exact h')
  clear hz QH;have hf:=H_ (show R=2 by exact HP2.o);go_wp2_with fail;go_ret;exact⟨hf.o.symm▸rfl,aR⟩
theorem GB (gl:List Value) (xi xe xd xk xo:Int) (xt:ByteArray) (ls:List bG) (Al:Option Addr) (cl:Nat) (w:World) (hl:aj bc 3 w (·<w.heap.size) [.slice Al ls.length cl] ls) (hp:Pw ls):Calls Tryz.prog 194 #[.agg gl.toArray,.agg #[xi,xe,xd,xk,xo,xt,.slice Al ls.length cl]] w (ap w (.int .i64 (if iS ls=0 then 0 else 11))):=by
 have HSC:=H_ (λ(w2:World) (hb:Below w.heap.size w w2)=>ZV ls Al cl w2 (eR hl hb) hp);obtain⟨S,hS⟩:=x_ (iS ls);rw[hS]at HSC |-;obtain⟨nl,bj⟩:∃n,ls.length=n:=⟨_,rfl⟩;rw[bj]at HSC |-;obtain⟨R,hR⟩:=x_ ((if S=0 then(0:Int)else 11));rw[hR];have HR:=H_ hR;clear hS bj hl hp hR;go_enter Tryz.func194,Tryz.ntmps194;go_upto_region 1 with fail;obtain⟨W,hW,H,HB,HS,ewx⟩:=B_ w (.cells gl.toArray 29);rw[hW];clear ewx;obtain⟨W2,fR,H2,dz,jK,ewx⟩:=B_ W (.cells #[xi,xe,xd,xk,xo,xt,.slice Al nl cl] 51);rw[fR];replace H:=(dz.block _ (ag H)).trans H;clear ewx;clear fR;have eW:W.heap.size=w.heap.size+1:=by rw[<-hW];simp
 rw[eW]at H2;clear hW;have aH:=HB.trans (dz.mono HB.size);have dW:=dz.size;have lV:=ag H2;have nf:w.heap.size<W2.heap.size:=by omega
 have HH:=H_ H;have HZ:=H_ H2;have EW:=H_ eW;clear H H2 eW;have e6:=ab HZ.o 6;go_wp2_with fail;refine(HSC.o W2 aH).mono ?_;rintro e w3 ⟨rfl,aZ⟩;have aR:=aH.trans (aZ.mono aH.size);clear e6;by_cases hz:S=0
 case pos=>
  have hf:=H_ (show R=0 by rw[<-HR.o,if_pos hz]);have IU:(S !=0)=false:=by simpa using hz
  clear hz;go_wp2_with fail;go_ret;exact⟨hf.o.symm▸rfl,aR⟩
 case neg=>
  have IU:(S !=0)=true:=by simpa using hz
  have hf:=H_ (show R=11 by rw[<-HR.o,if_neg hz]);clear hz;go_wp2_with fail;go_ret;exact⟨hf.o.symm▸rfl,aR⟩
set_option maxRecDepth 100000 in
theorem vg (w:World):Sem.run Tryz.prog (Instr.index 230 (.agg #[.func (Fn.func 191) #[] #[],.func (Fn.func 192) #[] #[],.func (Fn.func 193) #[] #[],.func (Fn.func 194) #[] #[]]) (.int .i64 0)) w=.ok (.func (Fn.func 191) #[] #[]) w/\Sem.run Tryz.prog (Instr.index 230 (.agg #[.func (Fn.func 191) #[] #[],.func (Fn.func 192) #[] #[],.func (Fn.func 193) #[] #[],.func (Fn.func 194) #[] #[]]) (.int .i64 1)) w=.ok (.func (Fn.func 192) #[] #[]) w/\Sem.run Tryz.prog (Instr.index 230 (.agg #[.func (Fn.func 191) #[] #[],.func (Fn.func 192) #[] #[],.func (Fn.func 193) #[] #[],.func (Fn.func 194) #[] #[]]) (.int .i64 2)) w=.ok (.func (Fn.func 193) #[] #[]) w/\Sem.run Tryz.prog (Instr.index 230 (.agg #[.func (Fn.func 191) #[] #[],.func (Fn.func 192) #[] #[],.func (Fn.func 193) #[] #[],.func (Fn.func 194) #[] #[]]) (.int .i64 3)) w=.ok (.func (Fn.func 194) #[] #[]) w:=⟨rfl,rfl,rfl,rfl⟩
theorem vT {g:au} {x:ak} (h:agS (bh g) g.entities.length x=false):dh g x=1:=by unfold dh;rw[if_neg (by rw[h];decide)]
theorem DK {g:au} {x:ak} (h:agS (bh g) g.entities.length x=true) (h2:dY (g.entities.getD x.entity.toNat {}).chart x.lines=false):dh g x=17:=by unfold dh;rw[if_pos h,if_neg (by rw[h2];decide)]
theorem DM {g:au} {x:ak} (h:agS (bh g) g.entities.length x=true) (h2:dY (g.entities.getD x.entity.toNat {}).chart x.lines=true) (h3:jL g.calendar.year g.calendar.month g.calendar.periods x.date=false):dh g x=2:=by unfold dh;rw[if_pos h,if_pos h2,if_neg (by rw[h3];decide)]
theorem qR {g:au} {x:ak} (h:agS (bh g) g.entities.length x=true) (h2:dY (g.entities.getD x.entity.toNat {}).chart x.lines=true) (h3:jL g.calendar.year g.calendar.month g.calendar.periods x.date=true):dh g x=if iS x.lines=0 then 0 else 11:=by unfold dh;rw[if_pos h,if_pos h2,if_pos h3]
theorem Zt {g:au} {x:ak} {gl ex:List Value} {w:World} (hg:aL w (·<w.heap.size) gl g) (ci:dQ g) (hx:ax w (·<w.heap.size) ex x) (ry:x.text.size<=140737488355327) (w2:World) (hb:Below w.heap.size w w2):Calls Tryz.prog 191 #[.agg gl.toArray,.agg ex.toArray] w2 (ap w2 (.int .i64 (if agS (bh g) g.entities.length x=true then 0 else 1))):=by
 obtain⟨Al,cl,rfl,jE,hl⟩:=(ax.keep hx hb).lit;obtain⟨Ac,cc,Ae,ce,Gs,h20,_⟩:=(aL.keep hg hb).view;exact O4 gl.toArray Ae g.entities.length ce (bh g) _ _ _ _ _ _ x.lines Al cl w2 (by simpa using Gs) (by simpa using h20) ci.2.1 (BT (hg.keep hb) ci) jE ry hl
theorem SD {g:au} {x:ak} {gl ex:List Value} {w:World} (hg:aL w (·<w.heap.size) gl g) (ci:dQ g) (hx:ax w (·<w.heap.size) ex x) (hf:agS (bh g) g.entities.length x=true) (w2:World) (hb:Below w.heap.size w w2):Calls Tryz.prog 192 #[.agg gl.toArray,.agg ex.toArray] w2 (ap w2 (.int .i64 (if dY (g.entities.getD x.entity.toNat {}).chart x.lines=true then 0 else 17))):=by
 obtain⟨Al,cl,rfl,jE,hl⟩:=(ax.keep hx hb).lit;have h':=(en _ _ _).1 hf;have hq:x.entity.toNat<g.entities.length:=by have:=h'.2.2.1;have:=h'.2.2.2.1;omega
 have zT:x.entity=(x.entity.toNat:Int):=by have:=h'.2.2.1;omega
 have:=KX g gl x.entity.toNat x.id x.date x.kind x.of_ x.text x.lines Al cl w2 (hg.keep hb) ci hq hl h'.2.2.2.2.2.2.2.2.2.2.1;rw[<-zT]at this;rw[List.getD_eq_getElem?_getD,List.getElem?_eq_getElem hq,Option.getD_some];exact this
theorem Zq {g:au} {x:ak} {gl ex:List Value} {w:World} (hg:aL w (·<w.heap.size) gl g) (hx:ax w (·<w.heap.size) ex x) (hf:agS (bh g) g.entities.length x=true) (w2:World) (hb:Below w.heap.size w w2):Calls Tryz.prog 193 #[.agg gl.toArray,.agg ex.toArray] w2 (ap w2 (.int .i64 (if jL g.calendar.year g.calendar.month g.calendar.periods x.date=true then 0 else 2))):=by
 obtain⟨Al,cl,rfl,jE,hl⟩:=(ax.keep hx hb).lit;obtain⟨Ac,cc,Ae,ce,Gs,h20,h4,h1,h2,h3,_⟩:=(aL.keep hg hb).view;exact SK gl _ _ _ _ _ _ _ _ _ _ Al cl w2 h1 h2 h3 (xh hf) jE.2.2.1
theorem ab4 {g:au} {x:ak} {gl ex:List Value} {w:World} (hx:ax w (·<w.heap.size) ex x) (hf:agS (bh g) g.entities.length x=true) (w2:World) (hb:Below w.heap.size w w2):Calls Tryz.prog 194 #[.agg gl.toArray,.agg ex.toArray] w2 (ap w2 (.int .i64 (if iS x.lines=0 then 0 else 11))):=by
 obtain⟨Al,cl,rfl,jE,hl⟩:=(ax.keep hx hb).lit;exact GB gl _ _ _ _ _ _ x.lines Al cl w2 hl (xl hf)
theorem SE (g:au) (x:ak) (gl ex:List Value) (w:World) (hg:aL w (·<w.heap.size) gl g) (ci:dQ g) (hx:ax w (·<w.heap.size) ex x) (ry:x.text.size<=140737488355327):Calls Tryz.prog 150 #[.agg gl.toArray,.agg ex.toArray] w (ap w (.int .i64 (dh g x))):=by
 obtain⟨r,hr⟩:=x_ (dh g x);rw[hr];have HR:=H_ hr;have H1:=H_ (Zt hg ci hx ry);have dn:=H_ (λhf=>SD hg ci hx hf);have H3:=H_ (λhf=>Zq hg hx hf);have H4:=H_ (λhf=>ab4 (g:=g) (gl:=gl) hx hf);obtain⟨f1,yL⟩:∃b,agS (bh g) g.entities.length x=b:=⟨_,rfl⟩;obtain⟨f2,jC⟩:∃b,dY (g.entities.getD x.entity.toNat {}).chart x.lines=b:=⟨_,rfl⟩;obtain⟨f3,l6⟩:∃b,jL g.calendar.year g.calendar.month g.calendar.periods x.date=b:=⟨_,rfl⟩;have kU:=H_ yL;have kV:=H_ jC;have IH:=H_ l6;obtain⟨S,hS⟩:=x_ (iS x.lines);have CB:=H_ hS;rw[yL]at H1 dn H3 H4;rw[jC]at dn;rw[l6]at H3;rw[hS]at H4;have fZ:gl.toArray.size=21:=by have:=hg.len;simpa using this
 have kZ:ex.toArray.size=7:=by have:=hx.len;simpa using this
 obtain⟨G,hG⟩:=x_ (gl.toArray);obtain⟨E,hE⟩:=x_ (ex.toArray);rw[hG]at H1 dn H3 H4 fZ |-;rw[hE]at H1 dn H3 H4 kZ |-;have fu:=H_ fZ;have Db:=H_ kZ;clear hr hg ci hx ry yL jC l6 hS fZ kZ hG hE;go_enter Tryz.func150,Tryz.ntmps150;go_upto_region 1 with fail;obtain⟨W,hW,H,HB,HS,ewx⟩:=B_ w (.cells G 29);rw[hW];clear ewx;obtain⟨W2,fR,RA,dz,jK,ewx⟩:=B_ W (.cells E 51);rw[fR];replace H:=(dz.block _ (ag H)).trans H;clear ewx;clear fR;have eW:W.heap.size=w.heap.size+1:=by rw[<-hW];simp
 rw[eW]at RA;clear hW;have aH:=HB.trans (dz.mono HB.size);have dW:=dz.size;have lV:=ag RA;have nf:w.heap.size<W2.heap.size:=by omega
 have HHG:=H_ H;have HZ:=H_ RA;have EW:=H_ eW;clear H RA eW;have HHR:=H_ (λ(b:Bool) (h:b=true)=>h);go_wp2_with fail
 go_loopw [9] (λi wr=>∃q:Int,i=.int .i64 q/\0<=q/\q<=4/\Below W2.heap.size W2 wr/\(1<=q->f1=true)/\(2<=q->f2=true)/\(3<=q->f3=true)/\(4<=q->S=0)) (λi _=>(4- intOf i).toNat)
 case atStart=>exact⟨0,rfl,by omega,by omega,Below.refl _ _,by omega,by omega,by omega,by omega⟩
 case round=>
  obtain⟨q,rfl,zG,hq4,hb,k1,k2,k3,k4⟩:=hrel;have K1:=H_ k1;have K2:=H_ k2;have K3:=H_ k3;have K4:=H_ k4;clear k1 k2 k3 k4;have ed:=aH.trans (hb.mono aH.size);have HGr:=k_ hb HHG;have HEr:=k_ hb HZ;by_cases aU:q<4
  case neg=>
   have hf:=H_ (show r=0 by rw[<-HR.o,qR (kU.o.trans (K1.o (by omega))) (kV.o.trans (K2.o (by omega))) (IH.o.trans (K3.o (by omega))),CB.o,if_pos (K4.o (by omega))]);go_wp2_with fail;go_ret;exact⟨hf.o.symm▸rfl,ed⟩
  case pos=>
  obtain rfl|rfl|rfl|rfl:q=0\/q=1\/q=2\/q=3:=by omega
  case inl=>
   have aM:=H1.o wr ed;have ja:=(vg wr).1;go_wp2_with (first|(refine W_ 13 29 2 (w.heap.size) HGr.o (by rw[ay];exact congrArg some fu.o.symm) Tryz.underlying29 ?_)|(refine W_ 14 51 3 (w.heap.size+1) HEr.o (by rw[aY];exact congrArg some Db.o.symm) Tryz.underlying51 ?_));refine aM.mono ?_;clear aM ja;rintro e w3 ⟨rfl,aZ⟩;have zJ:=ed.trans (aZ.mono ed.size);have Rl:=hb.trans (aZ.mono hb.size);by_cases hz:f1=true
   case neg=>
    have hf:=H_ (show r=1 by rw[<-HR.o];exact vT (kU.o.trans (by cases f1 with|false=>rfl|true=>exact absurd rfl hz)));rw[if_neg hz];clear hz;go_wp2_with fail;go_ret;exact⟨hf.o.symm▸rfl,zJ⟩
   case pos=>
    rw[if_pos hz];have XY:=H_ hz;clear hz;go_wp2_with fail;go_roundw
    case rel=>exact⟨1,rfl,by omega,by omega,Rl,λ_=>XY.o,by omega,by omega,by omega⟩
    case measure=>simp only[intOf];omega
  case inr.inl=>
   have aM:=dn.o (K1.o (by omega)) wr ed;have ja:=(vg wr).2.1;go_wp2_with (first|(refine W_ 13 29 2 (w.heap.size) HGr.o (by rw[ay];exact congrArg some fu.o.symm) Tryz.underlying29 ?_)|(refine W_ 14 51 3 (w.heap.size+1) HEr.o (by rw[aY];exact congrArg some Db.o.symm) Tryz.underlying51 ?_));refine aM.mono ?_;clear aM ja;rintro e w3 ⟨rfl,aZ⟩;have zJ:=ed.trans (aZ.mono ed.size);have Rl:=hb.trans (aZ.mono hb.size);by_cases hz:f2=true
   case neg=>
    have hf:=H_ (show r=17 by rw[<-HR.o];exact DK (kU.o.trans (K1.o (by omega))) (kV.o.trans (by cases f2 with|false=>rfl|true=>exact absurd rfl hz)));rw[if_neg hz];clear hz;go_wp2_with fail;go_ret;exact⟨hf.o.symm▸rfl,zJ⟩
   case pos=>
    rw[if_pos hz];have XY:=H_ hz;clear hz;go_wp2_with fail;go_roundw
    case rel=>exact⟨2,rfl,by omega,by omega,Rl,λ_=>K1.o (by omega),λ_=>XY.o,by omega,by omega⟩
    case measure=>simp only[intOf];omega
  case inr.inr.inl=>
   have aM:=H3.o (K1.o (by omega)) wr ed;have ja:=(vg wr).2.2.1;go_wp2_with (first|(refine W_ 13 29 2 (w.heap.size) HGr.o (by rw[ay];exact congrArg some fu.o.symm) Tryz.underlying29 ?_)|(refine W_ 14 51 3 (w.heap.size+1) HEr.o (by rw[aY];exact congrArg some Db.o.symm) Tryz.underlying51 ?_));refine aM.mono ?_;clear aM ja;rintro e w3 ⟨rfl,aZ⟩;have zJ:=ed.trans (aZ.mono ed.size);have Rl:=hb.trans (aZ.mono hb.size);by_cases hz:f3=true
   case neg=>
    have hf:=H_ (show r=2 by rw[<-HR.o];exact DM (kU.o.trans (K1.o (by omega))) (kV.o.trans (K2.o (by omega))) (IH.o.trans (by cases f3 with|false=>rfl|true=>exact absurd rfl hz)));rw[if_neg hz];clear hz;go_wp2_with fail;go_ret;exact⟨hf.o.symm▸rfl,zJ⟩
   case pos=>
    rw[if_pos hz];have XY:=H_ hz;clear hz;go_wp2_with fail;go_roundw
    case rel=>exact⟨3,rfl,by omega,by omega,Rl,λ_=>K1.o (by omega),λ_=>K2.o (by omega),λ_=>XY.o,by omega⟩
    case measure=>simp only[intOf];omega
  case inr.inr.inr=>
   have aM:=H4.o (K1.o (by omega)) wr ed;have ja:=(vg wr).2.2.2;go_wp2_with (first|(refine W_ 13 29 2 (w.heap.size) HGr.o (by rw[ay];exact congrArg some fu.o.symm) Tryz.underlying29 ?_)|(refine W_ 14 51 3 (w.heap.size+1) HEr.o (by rw[aY];exact congrArg some Db.o.symm) Tryz.underlying51 ?_));refine aM.mono ?_;clear aM ja;rintro e w3 ⟨rfl,aZ⟩;have zJ:=ed.trans (aZ.mono ed.size);have Rl:=hb.trans (aZ.mono hb.size);by_cases hz:S=0
   case neg=>
    have hf:=H_ (show r=11 by rw[<-HR.o,qR (kU.o.trans (K1.o (by omega))) (kV.o.trans (K2.o (by omega))) (IH.o.trans (K3.o (by omega))),CB.o];exact if_neg hz);rw[if_neg hz];clear hz;go_wp2_with fail;go_ret;exact⟨hf.o.symm▸rfl,zJ⟩
   case pos=>
    rw[if_pos hz];have XY:=H_ hz;clear hz;go_wp2_with fail;go_roundw
    case rel=>exact⟨4,rfl,by omega,by omega,Rl,λ_=>K1.o (by omega),λ_=>K2.o (by omega),λ_=>K3.o (by omega),λ_=>XY.o⟩
    case measure=>simp only[intOf];omega
end Go.Proofs.YtibiddakakgakaaGreat
