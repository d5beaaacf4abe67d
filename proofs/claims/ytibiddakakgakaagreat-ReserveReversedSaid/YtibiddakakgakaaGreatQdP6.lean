/- The law ReserveReversed. Written by gen_p6.py. -/
import Derived.Test.YtibiddakakgakaaGreatQdR5P1
import Derived.Test.YtibiddakakgakaaGreatQdR13Z8
set_option linter.unusedVariables false
set_option linter.unusedSimpArgs false
set_option maxRecDepth 4000
attribute [local go_sem ↓] Go.wp_at_zero Go.wp_at_succ
set_option maxHeartbeats 16000000
namespace Go.Proofs.YtibiddakakgakaaGreat
open Go Go.RowKit
theorem alb {α:Type} {El:World->(Nat->Prop)->List Value->α->Prop} {size:Nat} {w w':World} {Q Q':Nat->Prop} {base T:Nat} {v:Value} {l m:List α} {css cms:List (List Value)}
 (h1:css.length=l.length) (h2:∀cs∈css,cs.length=size) (h3:∀(i:Nat) y,l[i]? =some y->∃cs,css[i]? =some cs/\El w Q cs y)
 (g1:cms.length=m.length) (g2:∀cs∈cms,cs.length=size) (g3:∀(i:Nat) y,m[i]? =some y->∃cs,cms[i]? =some cs/\El w Q cs y)
 (aiW:∀cs y,El w Q cs y->El w' Q' cs y) (bv:w'.ownsRow base T size v (l.length+m.length) (css.flatten++cms.flatten)) (hQ:∀g,v.ownBlock=some g->Q' g):aj El size w' Q' [v] (l++m):=by
 refine kO (css:=css++cms) (base:=base) (e:=T) (λcs hc=>?_) ?_ (λi y hy=>?_) hQ
 ·rcases List.mem_append.1 hc with hc|hc
  ·exact h2 cs hc
  ·exact g2 cs hc
 ·rw[List.length_append,List.flatten_append];exact bv
 ·rcases Nat.lt_or_ge i l.length with hi|hi
  ·rw[List.getElem?_append_left hi]at hy;obtain⟨cs,k1,k2⟩:=h3 i y hy;exact⟨cs,by rw[List.getElem?_append_left (by omega)];exact k1,aiW _ _ k2⟩
  ·rw[List.getElem?_append_right hi]at hy;obtain⟨cs,k1,k2⟩:=g3 _ y hy;exact⟨cs,by rw[List.getElem?_append_right (by omega),h1];exact k1,aiW _ _ k2⟩
theorem ak3 {g:au} {es:List ak} {x:ak} (h:eF g es x=0):1<=x.id/\x.lines.length<=40/\∀y∈x.lines,-1000000000000<=y.amount/\y.amount<=1000000000000:=by
 obtain⟨_,a1,_,_,_,_,_,_,_,_,a10,a11⟩:=(en _ _ _).1 (alc (rp h).1).1;refine⟨a1,by omega,λy hy=>?_⟩;have h2:=((kj _ _ _).1 (a11 y hy)).2.1;unfold sw at h2;simpa using h2
def akH (B:Nat) (cs:List Value) (v:Value) (w:World):Prop:=∃g,v=.slice (some ⟨g,0,none⟩) 2 2/\B<=g/\w.heap[g]? =some (.cells cs.toArray 51 (0,0))
theorem alp {B:Nat} {cs:List Value}:∀v w w',Below w.heap.size w w'->akH B cs v w->akH B cs v w':=λv w w' hb ⟨g,e,h1,h2⟩=>⟨g,e,h1,(hb.block g (ag h2)).trans h2⟩
theorem alO {cs:List Value} {g:Nat} {w:World} (hc:cs.length=14) (h:w.heap[g]? =some (.cells cs.toArray 51 (0,0))) {Q:Nat->Prop} (hQ:Q g):Rd w Q (some ⟨g,0,none⟩) 2 7 cs:=⟨by omega,λ_=>⟨_,rfl,hQ,(dO (cs:=cs) h).2⟩⟩
set_option maxRecDepth 100000 in
theorem akj (b:XBk) (bl gl tl:List Value) (Ae Ar:Option Addr) (ce cr:Nat) (xl:List Value) (x:ak) (p:Int) (w:World) (hk:BkC w (·<w.heap.size) bl b gl Ae ce Ar cr tl) (bP:Fb b) (hx:ax w (·<w.heap.size) xl x) (hxz:Co x) (hpp:cx p):Calls Tryz.prog 13 #[.agg bl.toArray,.agg xl.toArray,p] w (ap w (.bool true)):=by
 have hx0:=hx;obtain⟨Al,cl,YJ,oY,lP⟩:=ax.lit hx;subst YJ;have HXB:=H_ oY;have alG:=H_ lP;obtain⟨XE,hXE⟩:∃y,x=y:=⟨_,rfl⟩;have alH:=H_ hx0;obtain⟨xi,xe,xd,xk,xo,xt,ls⟩:=x;have HXE:=H_ (show(⟨xi,xe,xd,xk,xo,xt,ls⟩:ak)=XE from hXE);simp only at HXB alG alH;obtain⟨nl,bj⟩:∃n,ls.length=n:=⟨_,rfl⟩;have jz:=H_ bj;rw[bj]at alG alH;have sV:=H_ (show aj bc 3 w (·<w.heap.size) [.slice Al nl cl] ls from alG.o);have MB:=H_ (show ax w (·<w.heap.size) [xi,xe,xd,xk,xo,xt,.slice Al nl cl] XE from hXE▸alH.o);have HXZ:=H_ (show Co ⟨xi,xe,xd,xk,xo,xt,ls⟩from hxz);simp only[bj];clear hx hx0 oY lP alG alH hXE bj hxz;have CZ:=H_ (λ(w2:World) (hb:Below w.heap.size w w2)=>BQ b bl gl tl Ae Ar ce cr w2 (hk.keep hb) bP.1 bP.2.1);have kY:=H_ (show bl.toArray.size=27 by have:=hk.len;simpa using this);have HK:=H_ hk;have N2:=H_ bP;have HVA:=H_ (λ(w2:World) (hb:Below w.heap.size w w2) (hf:pI b)=>Mm b bl gl tl Ae Ar ce cr w2 (hk.keep hb) (j9 hf bP));have ais:=H_ hpp;have HON:=H_ (show bl.toArray.all (·.oneCell')=true by have:=hk.ones;simpa using this);obtain⟨n,hn⟩:=x_ (b.es.length);have HN:=H_ hn;have ahr:=H_ (show bl.toArray[21]? =some (.slice Ae n ce) by rw[List.getElem?_toArray,<-hn];exact hk.at_e.1);have yO:=H_ (show gl.length=21 from hk.g.len);have lF:=H_ (λ(W2:World) (B:Nat) (h:W2.heap[B]? =some (.cells bl.toArray 36 (0,0)))=>nQ h (λi hi=>by rw[List.getElem?_toArray];exact hk.at_g hi) hk.g.len);obtain⟨ib,hib,X7,Xu,XU⟩:=info_parts ll;obtain⟨ia,oR,ge,gg,gh⟩:=info_parts xu;obtain⟨fw,Od⟩:∃q:Prop,pI b=q:=⟨_,rfl⟩;rw[Od]at CZ;have Og:=H_ Od;clear hk bP Od hpp hn;go_enter Tryz.func13,Tryz.ntmps13;go_upto_region 1 with fail;obtain⟨W1,cS,H1,bC,dr,ewx⟩:=B_ w (.cells bl.toArray 36);rw[cS];clear ewx;have yN:=H_ (show W1.heap.size=w.heap.size+1 by rw[<-cS];simp);clear cS;obtain⟨W2,fR,H2,dz,jK,ewx⟩:=B_ W1 (.cells #[xi,xe,xd,xk,xo,xt,.slice Al nl cl] 51);rw[fR];clear ewx;have Xo:=H_ (show W2.heap.size=W1.heap.size+1 by rw[<-fR];simp);clear fR;have NV:=H_ bC;have Vr:=t_ NV dz;have rP:=H_ (show W2.heap[w.heap.size]? =some (.cells bl.toArray 36 (0,0))from((dz.block _ (ag (H1))).trans (H1)));have Fv:=H_ (show W2.heap[w.heap.size+1]? =some (.cells #[xi,xe,xd,xk,xo,xt,.slice Al nl cl] 51 (0,0)) by have h:=H2;rw[show W1.heap.size=w.heap.size+1 by rw[yN.o]]at h;exact h);clear H1 bC dr H2 dz jK;go_wp2_with fail;refine(akI W2).mono ?_;rintro e w3 ⟨rfl,aZ⟩;have Dq:=t_ Vr aZ;have sL:=k_ aZ rP;have al3:=k_ aZ Fv;clear aZ rP Fv;have NO:=Dq;have iY:=sL;have TQ:=al3;clear Dq sL al3;go_wp2_with (refine W_ 16 36 3 (w.heap.size) iY.o (by rw[bF];exact congrArg some kY.o.symm) Tryz.underlying36 ?_);refine(CZ.o w3 NO.o).mono ?_;rintro e w4 ⟨bf,rfl,hf,bU⟩;have zn:=t_ NO bU;have i9:=k_ bU iY;have HX4:=k_ bU TQ;clear bU;cases bf with
 |false=>
  clear hf;go_wp2_with fail;go_ret;exact⟨rfl,zn.o⟩
 |true=>
 have Ov:=H_ (show pI b from Og.o▸hf rfl);have ML:=H_ (j9 Ov.o N2.o);clear hf;go_wp2_with (refine W_ 20 36 3 (w.heap.size) i9.o (by rw[bF];exact congrArg some kY.o.symm) Tryz.underlying36 ?_);refine(HVA.o w4 zn.o Ov.o).mono ?_;rintro e w5 ⟨rfl,cP⟩;have QT:=t_ zn cP;have lW:=k_ cP i9;have HX5:=k_ cP HX4;clear cP;by_cases hv:cE b
 case neg=>
  have hvd:decide (cE b)=false:=decide_eq_false hv;rw[hvd];clear hv hvd;go_wp2_with fail;go_ret;exact⟨rfl,QT.o⟩
 case pos=>
 have hvd:decide (cE b)=true:=decide_eq_true hv;rw[hvd];have HV:=H_ hv;have qx:=(ab lW.o 21).trans ahr.o;have l21:=ag lW.o;clear hv hvd;by_cases h58:58<n
 case pos=>
  have aml:decide ((n:Int)>58)=true:=decide_eq_true (by omega);have alP:decide (58< (n:Int))=true:=decide_eq_true (by omega);clear h58;go_wp2_with fail;go_ret;exact⟨rfl,QT.o⟩
 case neg=>
 have aml:decide ((n:Int)>58)=false:=decide_eq_false (by omega);have alP:decide (58< (n:Int))=false:=decide_eq_false (by omega);have H58:=H_ (show n<=58 by omega);have adl:=H_ (lF.o _ _ lW.o);obtain⟨r,hr⟩:=x_ (eF b.g b.es XE);have HR:=H_ hr;have HPO:=H_ (show Calls Tryz.prog 23 #[.agg gl.toArray,.slice Ae n ce,.agg #[xi,xe,xd,xk,xo,xt,.slice Al nl cl]] w5 (ap w5 (.int .i64 r))from by
  have h:=Tr b.g b.es XE gl [xi,xe,xd,xk,xo,xt,.slice Al nl cl] Ae ce w5 (HK.o.keep QT.o).g ML.o.1 (HK.o.keep QT.o).es (MB.o.keep QT.o) (by rw[<-HXE.o];exact HXZ.o) HV.o.2.1;rw[HN.o,hr]at h;exact h)
 have x3:=ab HX5.o 3;clear h58 hr;go_wp2_with (first|(show wpList _ _ _ (Oper.mk (some 32) _ _ _ _ _::_) _ _;refine cO (by rfl) 29 (.tmp 31) rfl w.heap.size (0) rfl gl _ adl.o Tryz.underlying29 rfl (by rw[ay];exact congrArg some yO.o.symm) ?_)|(refine W_ 35 51 4 (w.heap.size+1) HX5.o aY Tryz.underlying51 ?_));refine HPO.o.mono ?_;rintro e w6 ⟨rfl,dd⟩;have TR:=t_ QT dd;have px:=k_ dd lW;have Y9:=k_ dd HX5;clear dd;clear qx l21 aml alP x3;by_cases hr0:r=0
 case neg=>
  have hrb:(r !=0)=true:=by simpa using hr0
  clear hr0;go_wp2_with fail;go_ret;exact⟨rfl,TR.o⟩
 case pos=>
 subst hr0;have Gp:=ak3 HR.o;rw[<-HXE.o]at Gp;have HPE:=H_ Gp;have x3:=ab Y9.o 3;have x0:=ab Y9.o 0;clear Gp;by_cases lO:xk=3
 case pos=>
  have hkb:(xk==3)=true:=by simpa using lO
  clear lO;go_wp2_with fail;go_ret;exact⟨rfl,TR.o⟩
 case neg=>
 have hkb:(xk==3)=false:=by simpa using lO
 clear lO;by_cases mA:1099511627776<xi
 case pos=>
  have Sf:decide (xi>1099511627776)=true:=decide_eq_true mA;have amd:decide (1099511627776<xi)=true:=decide_eq_true mA;clear mA;go_wp2_with fail;go_ret;exact⟨rfl,TR.o⟩
 case neg=>
 have Sf:decide (xi>1099511627776)=false:=decide_eq_false mA;have amd:decide (1099511627776<xi)=false:=decide_eq_false mA;have HID:=H_ (show 1<=xi/\xi<=1099511627776 from⟨HPE.o.1,by omega⟩);have amo:=H_ (show nl<=40 by rw[<-jz.o];exact HPE.o.2.1);have hwx:IntKind.i64.wrap (xi+1)=xi+1:=by rw[IntKind.wrap_i64];have:=HID.o;omega
 have x1:=ab Y9.o 1;have x2:=ab Y9.o 2;have x5:=ab Y9.o 5;clear mA;go_upto_region 6 with(show wpList _ _ _ (Oper.mk none (Op.store _ (Operand.tmp 7) _) _ _ _ _::_) _ _;refine aO rfl 51 (.tmp 7) (.tmp 60) rfl rfl w6 #[(),(),(),(),(),.string ⟨#[]⟩,.slice none 0 0] 51 #[(xi+1:Int),xe,xd,(3:Int),xi,xt,.slice none 0 0] rfl rfl rfl aY rfl (by simp[Value.oneCell']) ?_;intro w7 H7 em HS7)
 have HY7:=H_ H7;have fC:=em;have ajY:=H_ em;clear H7 em HS7 x0 x1 x2 x3 x5 hkb Sf amd hwx;have HW7:=t_ TR fC;have pB:=k_ fC px;have XP:=k_ fC Y9;clear fC;have LY7:=H_ (ag HY7.o);go_wp2_with fail
 go_loopw [8] (λi wr=>∃(k:Nat) (A:Option Addr) (c:Nat),k<=nl/\i=.int .i64 (k:Int)/\Below w6.heap.size w6 wr/\wr.heap[w6.heap.size]? =some (.cells #[(xi+1:Int),xe,xd,(3:Int),xi,xt,.slice A k c] 51 (0,0))/\wr.ownsRow w7.heap.size 60 3 (.slice A k c) k (((ls.take k).map nu).flatMap iH)/\w7.heap.size<=wr.heap.size) (λi _=>nl- (intOf i).toNat)
 case atStart=>exact⟨0,none,0,by omega,rfl,ajY.o,HY7.o,World.ownsRow_nil _ _ _ _,Nat.le_refl _⟩
 case round=>
  obtain⟨k,A,c,hk,rfl,hb,hy,ho,hs⟩:=hrel;have zI:=H_ hb;have HYR:=H_ hy;have HOR:=H_ ho;have HSR:=H_ hs;have HWR:=t_ TR hb;have HXR:=k_ hb Y9;have agM:=k_ hb px;have x6:=ab HXR.o 6;clear hb hy ho hs;by_cases aU:k<nl
  case neg=>
   have bq:¬(k:Int)< (nl:Int):=by omega
   obtain rfl:nl=k:=by omega
   generalize wr=w8 at*;have HW8:=HWR;have HX8:=HXR;have NJ:=agM;have HY8:=HYR;clear HWR HXR agM HYR aU hk;obtain⟨YE,hYE⟩:∃y,agW XE (xi+1) xd=y:=⟨_,rfl⟩;have HYE:=H_ hYE;have amt:=H_ (λy (hy:y∈ls)=>Ek sV.o y hy);have HYC:=H_ (show ax w8 (·<w8.heap.size) [(xi+1:Int),xe,xd,(3:Int),xi,xt,.slice A nl c] YE from by
    rw[<-hYE,<-HXE.o];have h:=ax.mk (w:=w8) (Q:=λq=>q<w8.heap.size) (x:=agW ⟨xi,xe,xd,xk,xo,xt,ls⟩ (xi+1) xd) (A:=A) (c:=c) ⟨by show cx (xi+1);unfold cx;have:=HID.o;omega,HXB.o.2.1,HXB.o.2.2.1,by show cx 3;unfold cx;omega,HXB.o.1⟩ (by
     show aj bc 3 w8 _ [.slice A (ls.map nu).length c] (ls.map nu);have QF:(ls.map nu).length=nl:=by rw[List.length_map];exact jz.o
     have hal:ls.take nl=ls:=List.take_of_length_le (by rw[jz.o];exact Nat.le_refl _);refine AF (base:=w7.heap.size) (by rw[QF];have h:=HOR.o;rw[hal]at h;exact h) (λy hy=>?_) (λq hq=>by rw[QF]at hq;exact(HOR.o.lt q hq).2);obtain⟨z,hz,rfl⟩:=List.mem_map.1 hy;have hb:=amt.o z hz;have hm:=HPE.o.2.2 z hz;exact⟨hb.1,by show cx (-z.amount);unfold cx;omega,hb.2.2⟩)
    have e:(agW ⟨xi,xe,xd,xk,xo,xt,ls⟩ (xi+1) xd).lines.length=nl:=by rw[<-jz.o];exact List.length_map ..
    rw[e]at h;exact h)
   have amD:=H_ (MB.o.keep HW8.o);clear hYE;go_upto_region 11 with(first|(refine W_ 93 36 3 (w.heap.size) NJ.o (by rw[bF];exact congrArg some kY.o.symm) Tryz.underlying36 ?_)|(show wpList _ _ _ (Oper.mk none (Op.store _ (Operand.tmp 9) _) _ _ _ _::_) _ _;go_loud (refine aO rfl 36 (.tmp 9) (.tmp 93) rfl rfl w8 #[.string ⟨#[]⟩,(),(),(),.slice none 0 0,(),(),(),(),(),(),(),(),(),(),(),(),(),(),(),.slice none 0 0,.slice none 0 0,.slice none 0 0,.slice none 0 0,.slice none 0 0,.slice none 0 0,.string ⟨#[]⟩] 36 bl.toArray rfl rfl rfl (by rw[bF];exact congrArg some kY.o.symm) kY.o.symm HON.o ?_);intro w9 H9 CG HS9))
   have HD9:=H_ H9;have aak:=H_ CG;have kT:=CG;clear H9 CG HS9 x6 bq;have HW9:=t_ HW8 kT;have ad2:=k_ kT NJ;have HX9:=k_ kT HX8;have HY9:=k_ kT HY8;clear kT;obtain⟨css,mH,hc7,hcE,hrd⟩:=PT (λcs x h=>ax.len h) (by omega) (HK.o.keep HW8.o).es;have XA:=H_ (And.intro mH (And.intro hc7 hcE));have aht:=H_ (SJ (λ_ _ h=>aic h) mH hcE);rw[HN.o]at hrd;obtain⟨F9,hF9⟩:∃F,css.flatten=F:=⟨_,rfl⟩;rw[hF9]at aht hrd;have aiI:=H_ hrd;have HF9:=H_ hF9;have KE:=H_ ((ab ad2.o 21).trans ahr.o);have LTB:=H_ (ag ad2.o);clear mH hc7 hcE hrd hF9;refine dC 7 (Ks w9 [.own (ahI 51 w9.heap.size) ahM,.val (.pointer (some ⟨w.heap.size,21,none⟩)),.val (.slice Ae n ce),.own (ahu 51 7 w9.heap.size n F9) ahQ,.val (.agg #[xi,xe,xd,xk,xo,xt,.slice Al nl cl]),.val (.agg #[(xi+1:Int),xe,xd,(3:Int),xi,xt,.slice A nl c]),.own (akH w9.heap.size [.int .i64 xi,.int .i64 xe,.int .i64 xd,.int .i64 xk,.int .i64 xo,.string xt,.slice Al nl cl,.int .i64 (xi+1),.int .i64 xe,.int .i64 xd,.int .i64 3,.int .i64 xi,.string xt,.slice A nl c]) alp])
    (λw'=>Below w9.heap.size w9 w') K_ K_ K_ (by decide) K_ K_ K_ (Below.refl _ _).drew ?_ ?_
   ·refine⟨?_,b_ (q_ 3),e_ (p_ 1 95) λ_ h=>l_ h LTB.o KE.o,?_,?_,?_,?_,trivial⟩
    ·refine O0_ λA0 w2 K hS hK=>?_;go_simp;exact hK.out _ _ (hS.alloc hS.size _) (Ks.of rfl (ahN hS.size)) (Ks.keep (ai w2 _))
    ·intro _ A0 w2 hI hd hnd K hK;obtain⟨x0,e0,h0⟩:=hI.dep hd 0 94 rfl rfl rfl K_;have e1:=hI.p hd 2 96;have hS:=hI.world;obtain⟨g5,rfl,jy,f8⟩:=h0;refine aa rfl ?_;clear hI hd hnd;refine ahc (w:=w2) (.tmp 94) (.tmp 96) 30 rfl w9.heap.size 51 ib _ 7 80 jp hib X7 Xu XU rfl (by decide) g5 (v_ e0) f8 jy (·<w8.heap.size) Ae n ce F9 (v_ e1) (aiI.o.fr (Fr.ofBelow (aak.o.trans (hS.mono aak.o.size)))) aht.o (by simp only[maxLen];have:=H58.o;omega) (by have:=H58.o;omega) hS.size ?_;intro v9 wx cj kT;exact hK.out _ _ (hS.trans (kT.mono hS.size)) (Ks.of rfl cj) (Ks.keep kT)
    ·refine O1_ (q_ 4) λA0 w2 K e0 hS hK=>?_;have aJ:w2.rangeAt (w.heap.size+1) 0 [xi,xe,xd,xk,xo,xt,.slice Al nl cl]:=ag3 ((hS.block _ (ag HX9.o)).trans HX9.o) 0 _ (λj v hj=>by rw[Nat.zero_add];exact hj);have aI:=aY;refine wp_load_mid 51 (.tmp 4) rfl _ _ (v_ e0) _ _ aJ Tryz.underlying51 rfl aI ?_;exact kq hK hS rfl
    ·refine O1_ (q_ 7) λA0 w2 K e0 hS hK=>?_;have aJ:w2.rangeAt (w6.heap.size) 0 [(xi+1:Int),xe,xd,(3:Int),xi,xt,.slice A nl c]:=ag3 ((hS.block _ (ag HY9.o)).trans HY9.o) 0 _ (λj v hj=>by rw[Nat.zero_add];exact hj);have aI:=aY;refine wp_load_mid 51 (.tmp 7) rfl _ _ (v_ e0) _ _ aJ Tryz.underlying51 rfl aI ?_;exact kq hK hS rfl
    ·refine O2_ (p_ 4 98) (p_ 5 99) λA0 w2 K e0 e1 hS hK=>?_;go_simp;exact hK.out _ _ (hS.alloc hS.size _) (Ks.of rfl ⟨_,rfl,hS.size,heap_alloc_new _ _⟩) (Ks.keep (ai w2 _))
   ·intro A0 w2 hI;have hS:=hI.world;have c9:=hI.cg [(0,94),(1,95),(2,96),(3,97),(4,98),(5,99),(6,100)] [101,102] j_;obtain⟨x0,x1,x2,x3,x4,x5,x6,amC,amB,hA,hV⟩:=c9;have k3:(ahu 51 7 w9.heap.size n F9) x3 w2:=hV 3 _ _ _ rfl rfl _ rfl;have k6:(akH w9.heap.size [xi,xe,xd,xk,xo,xt,.slice Al nl cl,(xi+1:Int),xe,xd,(3:Int),xi,xt,.slice A nl c]) x6 w2:=hV 6 _ _ _ rfl rfl _ rfl;clear hV hI;simp only[ba,List.foldl,List.setIfInBounds_toArray,List.set_cons_zero,List.set_cons_succ]at hA;rw[hA];clear hA;simp only[List.drop_succ_cons,List.drop_zero];obtain⟨gO,rfl,aja,ain⟩:=k6;have K2:=H_ (show w2.ownsRow w9.heap.size 51 7 x3 n F9 from k3);clear k3;refine cq _ rfl (.tmp 97) (.tmp 100) 30 rfl w9.heap.size 51 ib _ 7 80 jp hib X7 Xu XU rfl (by decide) x3 n F9 rfl K2.o (λ_=>True) (some ⟨gO,0,none⟩) 2 2 [xi,xe,xd,xk,xo,xt,.slice Al nl cl,(xi+1:Int),xe,xd,(3:Int),xi,xt,.slice A nl c] rfl (alO rfl ain trivial) (by simp[Value.oneCell']) (by simp only[maxLen];have:=H58.o;omega) (by have:=H58.o;omega) hS.size ?_;intro v9 w10 NP aba _;have abV:Below w9.heap.size w9 w10:=bK hS aba (λq hq=>(K2.o.lt _ hq).1) (Nat.le_refl _);have alu:=t_ aak abV;have aiH:=k_ abV HD9;have h89:=ag HD9.o;have amp:aj ax 7 w10 (λq=>q<w10.heap.size/\q≠w8.heap.size) [v9] (b.es++[XE,YE]):=alb (Q:=(·<w8.heap.size)) (w:=w8) (base:=w9.heap.size) (T:=51) (cms:=[[.int .i64 xi,.int .i64 xe,.int .i64 xd,.int .i64 xk,.int .i64 xo,.string xt,.slice Al nl cl],[.int .i64 (xi+1),.int .i64 xe,.int .i64 xd,.int .i64 3,.int .i64 xi,.string xt,.slice A nl c]]) XA.o.1 XA.o.2.1 XA.o.2.2 rfl (λcs hc=>by
     simp only[List.mem_cons,List.not_mem_nil,or_false]at hc;rcases hc with rfl|rfl<;>rfl) (λi y hy=>by
     match i with
     |0=>simp at hy;subst hy;exact⟨_,rfl,amD.o⟩
     |1=>simp at hy;subst hy;exact⟨_,rfl,HYC.o⟩
     |i+2=>simp at hy) (λcs y h=>ax.mono (h.fr (Fr.ofBelow alu.o)) (λq hq=>⟨Nat.lt_of_lt_of_le hq alu.o.size,λe=>by omega⟩)) (by rw[HF9.o,HN.o];exact NP) (λq hq=>⟨(NP.lt q hq).2,λe=>by have:=(NP.lt q hq).1;omega⟩)
    obtain⟨A2,n2,c2,rfl⟩:=bS NP;obtain rfl:=fV NP;have ajZ:=H_ amp;have d21:=(ab aiH.o 21).trans ahr.o;have z21:=bB aiH.o 21;clear hS aja ain NP aba abV amp h89;go_upto_region 12 with fail;have aay:=H_ (show(w10.setCell ⟨w8.heap.size,21,none⟩ (.slice A2 (n+2) c2)).heap[w8.heap.size]? =some (.cells (bl.set 21 (.slice A2 (n+2) c2)).toArray 36 (0,0)) by
     have h:=aG aiH.o 21 (.slice A2 (n+2) c2)
     rwa[List.setIfInBounds_toArray]at h)
    have amj:=H_ (show Below w8.heap.size w8 (w10.setCell ⟨w8.heap.size,21,none⟩ (.slice A2 (n+2) c2))from((Fr.ofBelow alu.o).setCell (p:=⟨w8.heap.size,21,none⟩) (λh=>Nat.lt_irrefl _ h) _).below);have aji:=H_ (show aj ax 7 (w10.setCell ⟨w8.heap.size,21,none⟩ (.slice A2 (n+2) c2)) (·< (w10.setCell ⟨w8.heap.size,21,none⟩ (.slice A2 (n+2) c2)).heap.size) [.slice A2 (n+2) c2] (b.es++[XE,YE])from by
     have hf:Fr (λq=>q<w10.heap.size/\q≠w8.heap.size) w10 (w10.setCell ⟨w8.heap.size,21,none⟩ (.slice A2 (n+2) c2)):=((Fr.refl (λq=>q<w10.heap.size/\q≠w8.heap.size) w10).setCell (p:=⟨w8.heap.size,21,none⟩) (λh=>h.2 rfl) _);exact(aj.fr ajZ.o (λh=>ax.fr h hf) hf).mono (λh=>ax.mono h (λq hq=>Nat.lt_of_lt_of_le hq.1 hf.size)) (λq hq=>Nat.lt_of_lt_of_le hq.1 hf.size))
    generalize w10.setCell ⟨w8.heap.size,21,none⟩ (.slice A2 (n+2) c2)=w11 at*;have Np:=amj.o;clear d21 z21;have ahi:=t_ HW8 Np;have ahG:=k_ Np NJ;have aiM:=k_ Np HX8;have aiE:=k_ Np HY8;clear Np;have aje:=H_ (show(b.es++[XE,YE]).length=n+2 by rw[List.length_append,HN.o];rfl);have al1:=H_ (show BkC w11 (·<w11.heap.size) (bl.set 21 (.slice A2 (n+2) c2)) ⟨b.g,b.es++[XE,YE],b.rs⟩ gl A2 c2 Ar cr tl from by
     have h:=ahJ (HK.o.keep ahi.o) (es:=b.es++[XE,YE]) (A2:=A2) (c2:=c2) (by rw[aje.o];exact aji.o)
     rwa[aje.o]at h)
    have alX:=H_ (show Fb ⟨b.g,b.es++[XE,YE],b.rs⟩from⟨N2.o.1,λx hx=>by
     rcases List.mem_append.1 hx with hx|hx
     ·exact N2.o.2.1 x hx
     ·simp only[List.mem_cons,List.not_mem_nil,or_false]at hx;rcases hx with rfl|rfl
      ·rw[<-HXE.o];exact HXZ.o
      ·rw[<-HYE.o,<-HXE.o];exact HXZ.o,N2.o.2.2⟩)
    have HDS:=H_ (show(bl.set 21 (.slice A2 (n+2) c2)).toArray.size=27 by simpa using kY.o);have Od:=BQ ⟨b.g,b.es++[XE,YE],b.rs⟩ (bl.set 21 (.slice A2 (n+2) c2)) gl tl A2 Ar c2 cr w11 al1.o alX.o.1 alX.o.2.1;obtain⟨fm,hfm⟩:∃q:Prop,pI ⟨b.g,b.es++[XE,YE],b.rs⟩=q:=⟨_,rfl⟩;rw[hfm]at Od;have oN:=H_ hfm;have IK:=H_ Od;have hiq:=λ(w2:World) (hb:Below w11.heap.size w11 w2)=>Qn b bl gl tl Ae Ar ce cr xe p w2 (HK.o.keep (ahi.o.trans (hb.mono ahi.o.size))) ML.o ais.o
    have hiv:=te Ov.o xe p;have IB:=λh1 h2=>akU (b:=b) (x:=XE) (id:=xi+1) (p:=p) (ent:=xe) h1 h2
    rw[show agW XE (xi+1) XE.date=YE by rw[<-HYE.o,<-HXE.o]]at IB;obtain⟨I1,I2,RN⟩:∃I1 I2,pQ b xe p=(I1,I2):=⟨_,_,rfl⟩;obtain⟨J1,J2,hjt⟩:∃J1 J2,pQ ⟨b.g,b.es++[XE,YE],b.rs⟩ xe p=(J1,J2):=⟨_,_,rfl⟩;unfold rX at hiq;simp only[RN]at hiq hiv;simp only[RN,hjt]at IB;have HIQ:=H_ hiq;have HIV:=H_ hiv;have ME:=H_ IB;have HJT:=H_ hjt;obtain⟨qi,hqi⟩:∃q,I1.length=q:=⟨_,rfl⟩;obtain⟨qj,hqj⟩:∃q,J1.length=q:=⟨_,rfl⟩;rw[hqi]at HIQ;have HQI:=H_ hqi;have HQJ:=H_ hqj;clear Od hfm hiq hiv IB RN hjt hqi hqj;go_wp2_with (refine W_ 103 36 9 (w8.heap.size) aay.o (by rw[bF];exact congrArg some HDS.o.symm) Tryz.underlying36 ?_);refine IK.o.mono ?_;rintro e w12 ⟨bm,rfl,hfe,adC⟩;have ahA:=H_ adC;have ajb:=k_ adC aay;have ah8:=t_ ahi adC;have aiY:=k_ adC ahG;have aj7:=k_ adC aiM;clear adC;cases bm with
    |false=>
     clear hfe;go_wp2_with fail;go_ret;exact⟨rfl,ah8.o⟩
    |true=>
    have amn:=H_ (show pI ⟨b.g,b.es++[XE,YE],b.rs⟩from oN.o▸hfe rfl);have HSN:=H_ (j9 amn.o alX.o);have hva:=Mm ⟨b.g,b.es++[XE,YE],b.rs⟩ (bl.set 21 (.slice A2 (n+2) c2)) gl tl A2 Ar c2 cr w12 (al1.o.keep ahA.o) HSN.o;obtain⟨vm,hvm⟩:∃z,decide (cE ⟨b.g,b.es++[XE,YE],b.rs⟩)=z:=⟨_,rfl⟩;rw[hvm]at hva;have HVM:=H_ hva;clear hfe hvm hva;go_wp2_with (refine W_ 107 36 9 (w8.heap.size) ajb.o (by rw[bF];exact congrArg some HDS.o.symm) Tryz.underlying36 ?_);refine HVM.o.mono ?_;rintro e w13 ⟨rfl,ahx⟩;have ahV:=t_ ahA ahx;have ajc:=k_ ahx ajb;have aiG:=t_ ah8 ahx;have als:=k_ ahx aiY;have alU:=k_ ahx aj7;clear ahx;cases vm with
    |false=>
     go_wp2_with fail;go_ret;exact⟨rfl,aiG.o⟩
    |true=>
    have x1:=ab alU.o 1;go_wp2_with (refine W_ 112 36 3 (w.heap.size) als.o (by rw[bF];exact congrArg some kY.o.symm) Tryz.underlying36 ?_);refine(HIQ.o w13 ahV.o).mono ?_;rintro e w14 ⟨A14,c14,rfl,amq,ahy⟩;have ajB:=H_ amq;have ajd:=t_ ahV ahy;have aju:=k_ ahy ajc;clear amq x1;have aio:=t_ aiG ahy;have aj4:=k_ ahy als;have ajk:=k_ ahy alU;clear ahy;have x1:=ab ajk.o 1;have hjq:=Qn ⟨b.g,b.es++[XE,YE],b.rs⟩ (bl.set 21 (.slice A2 (n+2) c2)) gl tl A2 Ar c2 cr xe p w14 (al1.o.keep ajd.o) HSN.o ais.o;have hjv:=te amn.o xe p;unfold rX at hjq;simp only[HJT.o]at hjq hjv;rw[HQJ.o]at hjq;have HJQ:=H_ hjq;have iw:=H_ hjv;clear hjq hjv;go_wp2_with (refine W_ 120 36 9 (w8.heap.size) aju.o (by rw[bF];exact congrArg some HDS.o.symm) Tryz.underlying36 ?_);refine HJQ.o.mono ?_;rintro e w15 ⟨A15,c15,rfl,ams,aiK⟩;have amx:=H_ ams;have amg:=H_ (ajB.o.keep aiK);have alJ:=t_ aio aiK;clear ams aiK x1;by_cases h1:I2=0
    case neg=>
     have h1b:(I2 !=0)=true:=by simpa using h1
     clear h1;go_wp2_with fail;go_ret;exact⟨rfl,alJ.o⟩
    case pos=>
    by_cases h2:J2=0
    case neg=>
     have h1b:(I2 !=0)=false:=by simpa using h1
     have h2b:(J2 !=0)=true:=by simpa using h2
     clear h1 h2;go_wp2_with fail;go_ret;exact⟨rfl,alJ.o⟩
    case pos=>
    have Fk:=ME.o h1 h2;have hj:=akg amx.o HQJ.o iw.o;rw[Fk]at hj;obtain⟨s,hs⟩:=x_ (-f9 I1);rw[hs]at hj;have HAJ:=H_ hj;have hi:=akg amg.o HQI.o HIV.o;rw[hs]at hi;have Qy:=H_ hi;subst h1 h2;clear Fk hj hi hs;go_wp2_with fail;refine(Qy.o w15 (Below.refl _ _)).mono ?_;rintro e w16 ⟨rfl,alW⟩;have alT:=H_ alW;have amf:=t_ alJ alW;clear alW;go_wp2_with fail;refine(HAJ.o w16 alT.o).mono ?_;rintro e w17 ⟨rfl,ai4⟩;have amw:=t_ amf ai4;clear ai4;go_wp2_with fail;go_ret;exact⟨rfl,amw.o⟩
  case pos=>
   have bq:(k:Int)< (nl:Int):=by omega
   have Bp:=H_ aU;have HKI:=H_ bq;have bI:k<ls.length:=by rw[jz.o];exact aU
   obtain⟨eb,eo,es,dj,ed,bL,aS⟩:=aj.get sV.o k bI;subst dj;have bE:=(bc.lit bL).1;rw[bE]at aS;have Mz:=HPE.o.2.2 _ (List.getElem_mem bI);have tA:=H_ (Pi bI);obtain⟨x,hx⟩:=x_ (ls[k]);rw[hx]at aS Mz tA;obtain⟨la,lm,lp⟩:=x;have dt:=aS.fr (Fr.ofBelow HWR.o);have KL0:=H_ (show wr.cell? ⟨eb,eo+k*3,none⟩=some (.int .i64 la)from dt.c (j:=0) rfl);have KL1:=H_ (show wr.cell? ⟨eb,eo+k*3+1,none⟩=some (.int .i64 lm)from dt.c (j:=1) rfl);have KL2:=H_ (show wr.cell? ⟨eb,eo+k*3+2,none⟩=some (.int .i64 lp)from dt.c (j:=2) rfl);have LTE:=H_ (show eb<wr.heap.size from Nat.lt_of_lt_of_le ed HWR.o.size);have Xw:=H_ (show IntKind.i64.wrap (-lm)= -lm by simp only at Mz;rw[IntKind.wrap_i64];omega);have K6:=H_ x6;have LTX:=H_ (ag HXR.o);have KY:=H_ (ab HYR.o 6);have LTY:=H_ (ag HYR.o);clear bI ed bL bE aS Mz hx dt;go_upto_region 9 with fail;clear x6;refine dC 23 (Ks wr [.val (.pointer (some ⟨w6.heap.size,6,none⟩)),.val (.slice A k c),.val (.pointer (some ⟨w.heap.size+1,6,none⟩)),.val (.slice (some ⟨eb,eo,none⟩) nl cl),(k:Int),.val (.pointer (some ⟨eb,eo+k*3,none⟩)),.val (.pointer (some ⟨eb,eo+k*3,none⟩)),la,.val (.pointer (some ⟨w.heap.size+1,6,none⟩)),.val (.slice (some ⟨eb,eo,none⟩) nl cl),(k:Int),.val (.pointer (some ⟨eb,eo+k*3,none⟩)),.val (.pointer (some ⟨eb,eo+k*3+1,none⟩)),lm,(-lm:Int),.val (.pointer (some ⟨w.heap.size+1,6,none⟩)),.val (.slice (some ⟨eb,eo,none⟩) nl cl),(k:Int),.val (.pointer (some ⟨eb,eo+k*3,none⟩)),.val (.pointer (some ⟨eb,eo+k*3+2,none⟩)),lp,.val (.agg #[la,(-lm:Int),lp]),.own (ahe 60 wr.heap.size [.int .i64 la,.int .i64 (-lm),.int .i64 lp]) ahv])
    (λw'=>Below wr.heap.size wr w') K_ K_ K_ (by decide) K_ K_ K_ (Below.refl _ _).drew ?_ ?_
   ·refine⟨b_ (q_ 7),e_ (p_ 0 68) λ_ h=>l_ h LTY.o KY.o,b_ (q_ 4),e_ (p_ 2 70) λ_ h=>l_ h LTX.o K6.o,b_ (q_ 8),?_,b_ (p_ 5 73),e_ (p_ 6 74) (p:=⟨eb,eo+k*3,none⟩) λ_ h=>l_ h LTE.o KL0.o,b_ (q_ 4),e_ (p_ 8 76) λ_ h=>l_ h LTX.o K6.o,b_ (q_ 8),?_,b_ (p_ 11 79),e_ (p_ 12 80) λ_ h=>l_ h LTE.o KL1.o,?_,b_ (q_ 4),e_ (p_ 15 83) λ_ h=>l_ h LTX.o K6.o,b_ (q_ 8),?_,b_ (p_ 18 86),e_ (p_ 19 87) λ_ h=>l_ h LTE.o KL2.o,?_,?_,trivial⟩
    ·intro _ A0 w2 hI hd hnd K hK;have hki:=HKI.o;have e0:=hI.p hd 3 71;have e1:=hI.p hd 4 72;exact hI.z hK
    ·intro _ A0 w2 hI hd hnd K hK;have hki:=HKI.o;have e0:=hI.p hd 9 77;have e1:=hI.p hd 10 78;exact hI.z hK
    ·intro _ A0 w2 hI hd hnd K hK;have e0:=hI.p hd 13 81;have hS:=hI.world;have Xa:=Xw.o;exact hI.z hK
    ·intro _ A0 w2 hI hd hnd K hK;have hki:=HKI.o;have e0:=hI.p hd 16 84;have e1:=hI.p hd 17 85;exact hI.z hK
    ·intro _ A0 w2 hI hd hnd K hK;have e0:=hI.p hd 7 75;have e1:=hI.p hd 14 82;have e2:=hI.p hd 20 88;exact hI.z hK
    ·refine O1_ (p_ 21 89) λA0 w2 K e0 hS hK=>?_;go_simp;exact hK.out _ _ (hS.alloc hS.size _) (Ks.of rfl ⟨_,rfl,hS.size,heap_alloc_new _ _⟩) (Ks.keep (ai w2 _))
   ·intro A0 w2 hI;have hS:=hI.world;have c9:=hI.cg [(0,68),(1,69),(2,70),(3,71),(4,72),(5,73),(6,74),(7,75),(8,76),(9,77),(10,78),(11,79),(12,80),(13,81),(14,82),(15,83),(16,84),(17,85),(18,86),(19,87),(20,88),(21,89),(22,90)] [91,92] j_;obtain⟨x0,x1,x2,x3,x4,x5,x6,x7,x8,x9,dN,ef,fh,gU,LR,jH,jZ,kv,lR,kh,rB,vz,vr,y91,y92,hA,hV⟩:=c9;obtain rfl:x1=.slice A k c:=hV 1 _ _ _ rfl rfl _ rfl;have k22:(ahe 60 wr.heap.size [la,(-lm:Int),lp]) vr w2:=hV 22 _ _ _ rfl rfl _ rfl;clear hV hI;simp only[ba,List.foldl,List.setIfInBounds_toArray,List.set_cons_zero,List.set_cons_succ]at hA;rw[hA];clear hA;simp only[List.drop_succ_cons,List.drop_zero];obtain⟨gO,rfl,aja,ain⟩:=k22;have h40:=amo.o;refine cq _ rfl (.tmp 69) (.tmp 90) 49 rfl w7.heap.size 60 ia _ 3 24 sq oR ge gg gh rfl (by decide) (.slice A k c) k (((ls.take k).map nu).flatMap iH) rfl (bb HOR.o hS) (λ_=>True) (some ⟨gO,0,none⟩) 1 1 [la,(-lm:Int),lp] rfl (ahD (K:=3) rfl ain trivial) (by simp[Value.oneCell']) (by simp only[maxLen];omega) (by omega) (Nat.le_trans HSR.o hS.size) ?_;intro v9 wa cj gk _;have hba:Below w7.heap.size wr wa:=bK (hS.mono HSR.o) gk (λq hq=>((bb HOR.o hS).lt q hq).1) HSR.o;obtain⟨A2,n2,c2,rfl⟩:=bS cj;obtain rfl:=fV cj;have HBa:=H_ hba;have HOa:=H_ cj;have HYa:=H_ ((hba.block _ LY7.o).trans HYR.o);have d6:=ab HYa.o 6;have z6:=bB HYa.o 6;clear hS aja ain cj gk hba;go_wp2_with fail;have HYs:=H_ (show(wa.setCell ⟨w6.heap.size,6,none⟩ (.slice A2 (k+1) c2)).heap[w6.heap.size]? =some (.cells #[(xi+1:Int),xe,xd,(3:Int),xi,xt,.slice A2 (k+1) c2] 51 (0,0))from aG HYa.o 6 _);have HOs:=H_ (show(wa.setCell ⟨w6.heap.size,6,none⟩ (.slice A2 (k+1) c2)).ownsRow w7.heap.size 60 3 (.slice A2 (k+1) c2) (k+1) ((((ls.take k).map nu).flatMap iH)++[.int .i64 la,.int .i64 (-lm),.int .i64 lp])from cU HOa.o (λg hg=>Below.heap_setCell wa ⟨w6.heap.size,6,none⟩ _ g (by show g≠w6.heap.size;have:=(HOa.o.lt _ hg).1;have:=LY7.o;omega)));have HBs:=H_ (show Below w6.heap.size w6 (wa.setCell ⟨w6.heap.size,6,none⟩ (.slice A2 (k+1) c2))from((Fr.ofBelow (zI.o.trans (HBa.o.mono (Nat.le_of_lt LY7.o)))).setCell (p:=⟨w6.heap.size,6,none⟩) (λh=>Nat.lt_irrefl _ h) _).below);have HSs:=H_ (show w7.heap.size<=(wa.setCell ⟨w6.heap.size,6,none⟩ (.slice A2 (k+1) c2)).heap.size by have h1:=HBa.o.size;have h2:=HSR.o;have h3:(wa.setCell ⟨w6.heap.size,6,none⟩ (.slice A2 (k+1) c2)).heap.size=wa.heap.size:=(by simp);omega);generalize wa.setCell ⟨w6.heap.size,6,none⟩ (.slice A2 (k+1) c2)=w10 at*;clear d6 z6;have aU:=Bp.o;go_wp2_with fail;go_roundw
    case rel=>exact⟨k+1,A2,c2,by omega,by go_num,HBs.o,HYs.o,by rw[tA.o];exact HOs.o,HSs.o⟩
    case measure=>first|exact aQ aU|(simp only[intOf];omega)
end Go.Proofs.YtibiddakakgakaaGreat
