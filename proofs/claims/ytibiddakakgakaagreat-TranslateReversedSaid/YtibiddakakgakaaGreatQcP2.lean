/- The law TranslateReversed. Written by gen_p2.py. -/
import Derived.Test.YtibiddakakgakaaGreatQcW4
import Derived.Test.YtibiddakakgakaaGreatQcZ2P1
set_option linter.unusedVariables false
set_option linter.unusedSimpArgs false
set_option maxRecDepth 4000
attribute [local go_sem ↓] Go.wp_at_zero Go.wp_at_succ
set_option maxHeartbeats 16000000
namespace Go.Proofs.YtibiddakakgakaaGreat
open Go Go.RowKit
theorem aid (b:XBk) (x:ak) (k:Nat) (p:Int): -1000000000000<=(jr b x k p).1.amount/\(jr b x k p).1.amount<=1000000000000:=by
 unfold jr;simp only;split
 ·exact⟨by show(-1000000000000:Int)<=0;decide,by show(0:Int)<=1000000000000;decide⟩
 ·split
  ·exact⟨by show(-1000000000000:Int)<=0;decide,by show(0:Int)<=1000000000000;decide⟩
  ·exact OQ _ _
theorem aif (b:XBk) (e l p:Int): -1000000000000<=(pm b e l p).1.amount/\(pm b e l p).1.amount<=1000000000000:=by
 unfold pm;split
 ·split
  ·exact⟨by show(-1000000000000:Int)<=0;decide,by show(0:Int)<=1000000000000;decide⟩
  ·split
   ·exact⟨by show(-1000000000000:Int)<=0;decide,by show(0:Int)<=1000000000000;decide⟩
   ·exact aid _ _ _ _
 ·exact⟨by show(-1000000000000:Int)<=0;decide,by show(0:Int)<=1000000000000;decide⟩
theorem aiU {m n:Nat} (h:m<=n) (h2:n<=61):n+2- (intOf (.int .i64 ((m:Int)+1+1))).toNat<n+2- (intOf (.int .i64 ((m:Int)+1))).toNat:=by
 simp only[intOf];omega
set_option maxRecDepth 100000 in
theorem ag1 (b:XBk) (bl gl tl:List Value) (Ae Ar:Option Addr) (ce cr:Nat) (pe pa pd pp k:Int) (w:World) (hk:BkC w (·<w.heap.size) bl b gl Ae ce Ar cr tl) (bP:Fb b) (hpp:am pp) (hkb:0<=k/\k<=255):Calls Tryz.prog 4 #[.agg bl.toArray,.agg #[pe,pa,pd,pp],.int .u8 k] w (ap w (.bool true)):=by
 have CZ:=H_ (λ(w2:World) (hb:Below w.heap.size w w2)=>BQ b bl gl tl Ae Ar ce cr w2 (hk.keep hb) bP.1 bP.2.1);have kY:=H_ (show bl.toArray.size=27 by have:=hk.len;simpa using this);have HK:=H_ hk;have N2:=H_ bP;have HVA:=H_ (λ(w2:World) (hb:Below w.heap.size w w2) (hf:pI b)=>Mm b bl gl tl Ae Ar ce cr w2 (hk.keep hb) (j9 hf bP));have HKB:=H_ hkb;have ais:=H_ hpp;have HON:=H_ (show bl.toArray.all (·.oneCell')=true by have:=hk.ones;simpa using this);obtain⟨n,hn⟩:=x_ (b.es.length);have HN:=H_ hn;have ahr:=H_ (show bl.toArray[21]? =some (.slice Ae n ce) by rw[List.getElem?_toArray,<-hn];exact hk.at_e.1);have yO:=H_ (show gl.length=21 from hk.g.len);have lF:=H_ (λ(W2:World) (B:Nat) (h:W2.heap[B]? =some (.cells bl.toArray 36 (0,0)))=>nQ h (λi hi=>by rw[List.getElem?_toArray];exact hk.at_g hi) hk.g.len);obtain⟨ib,hib,X7,Xu,XU⟩:=info_parts ll;obtain⟨fw,Od⟩:∃q:Prop,pI b=q:=⟨_,rfl⟩;rw[Od]at CZ;have Og:=H_ Od;clear hk bP Od hpp hkb hn;go_enter Tryz.func4,Tryz.ntmps4;go_upto_region 1 with fail;obtain⟨W1,cS,H1,bC,dr,ewx⟩:=B_ w (.cells bl.toArray 36);rw[cS];clear ewx;have yN:=H_ (show W1.heap.size=w.heap.size+1 by rw[<-cS];simp);clear cS;obtain⟨W2,fR,H2,dz,jK,ewx⟩:=B_ W1 (.cells #[pe,pa,pd,pp] 48);rw[fR];clear ewx;have Xo:=H_ (show W2.heap.size=W1.heap.size+1 by rw[<-fR];simp);clear fR;have NV:=H_ bC;have Vr:=t_ NV dz;have rP:=H_ (show W2.heap[w.heap.size]? =some (.cells bl.toArray 36 (0,0))from((dz.block _ (ag (H1))).trans (H1)));have ahU:=H_ (show W2.heap[w.heap.size+1]? =some (.cells #[pe,pa,pd,pp] 48 (0,0)) by have h:=H2;rw[show W1.heap.size=w.heap.size+1 by rw[yN.o]]at h;exact h);clear H1 bC dr H2 dz jK;go_wp2_with fail;refine(sa W2).mono ?_;rintro e w3 ⟨rfl,aZ⟩;have Dq:=t_ Vr aZ;have sL:=k_ aZ rP;have ahf:=k_ aZ ahU;clear aZ rP ahU;have NO:=Dq;have iY:=sL;have ahh:=ahf;clear Dq sL ahf;go_wp2_with (refine W_ 18 36 3 (w.heap.size) iY.o (by rw[bF];exact congrArg some kY.o.symm) Tryz.underlying36 ?_);refine(CZ.o w3 NO.o).mono ?_;rintro e w4 ⟨bf,rfl,hf,bU⟩;have zn:=t_ NO bU;have i9:=k_ bU iY;have ahF:=k_ bU ahh;clear bU;cases bf with
 |false=>
  clear hf;go_wp2_with fail;go_ret;exact⟨rfl,zn.o⟩
 |true=>
 have Ov:=H_ (show pI b from Og.o▸hf rfl);have ML:=H_ (j9 Ov.o N2.o);clear hf;go_wp2_with (refine W_ 22 36 3 (w.heap.size) i9.o (by rw[bF];exact congrArg some kY.o.symm) Tryz.underlying36 ?_);refine(HVA.o w4 zn.o Ov.o).mono ?_;rintro e w5 ⟨rfl,cP⟩;have QT:=t_ zn cP;have lW:=k_ cP i9;have aha:=k_ cP ahF;clear cP;by_cases hv:cE b
 case neg=>
  have hvd:decide (cE b)=false:=decide_eq_false hv;rw[hvd];clear hv hvd;go_wp2_with fail;go_ret;exact⟨rfl,QT.o⟩
 case pos=>
 have hvd:decide (cE b)=true:=decide_eq_true hv;rw[hvd];have HV:=H_ hv;have qx:=(ab lW.o 21).trans ahr.o;have l21:=ag lW.o;clear hv hvd;by_cases VI:n=0
 case pos=>
  have aaX:((n:Int)==0)=true:=by simp[VI]
  clear VI;go_wp2_with fail;go_ret;exact⟨rfl,QT.o⟩
 case neg=>
 have aaX:((n:Int)==0)=false:=by simp[VI]
 have H61:=H_ (show n<=61 by rw[<-HN.o];exact Ov.o.1.2.1);obtain⟨m,hm⟩:∃m:Nat,k% (n:Int)=(m:Int):=⟨(k% (n:Int)).toNat,by have:=Int.emod_nonneg k (show(n:Int)≠0 by omega);omega⟩;have HRM:=H_ hm;have ai6:=H_ (show n≠0 by omega);have HMN:=H_ (show(m:Int)< (n:Int) by have:=Int.emod_lt_of_pos k (show 0< (n:Int) by omega);omega);have HMI:=H_ (show Int.tmod k (n:Int)=(m:Int) by rw[Int.tmod_eq_emod_of_nonneg HKB.o.1];exact hm);have HWK:=H_ (show IntKind.i64.wrap k=k by rw[IntKind.wrap_i64];have:=HKB.o;omega);clear VI hm;have QF:m<b.es.length:=by rw[HN.o];have:=HMN.o;omega
 have ajs:=(HK.o.keep QT.o).es;obtain⟨eb,eo,ex0,dj,oQ,Be,TW⟩:=aj.get ajs m QF;subst dj;have QJ:b.es[m]∈b.es:=List.getElem_mem QF;obtain⟨x,hx⟩:=x_ (b.es[m]);rw[hx]at Be QJ;have HXM:=H_ QJ;have HFX:=H_ (Ov.o.1.1 x QJ);obtain⟨Al,cl,YJ,oY,lP⟩:=ax.lit Be;subst YJ;have HXB:=H_ oY;have sV:=H_ lP;obtain⟨xi,xe,xd,xk,xo,xt,ls⟩:=x;simp only at TW HXB sV HFX HXM;obtain⟨nl,bj⟩:∃n,ls.length=n:=⟨_,rfl⟩;have jz:=H_ bj;rw[bj]at TW;have rM:=H_ TW;have KE:=H_ qx;have LTB:=H_ l21;have Gf:=H_ oQ;clear Be lP oY TW bj hx QJ QF ajs oQ;go_upto_region 5 with fail;clear aaX;refine dC 11 (Ks w5 [.val (.pointer (some ⟨w.heap.size,21,none⟩)),.val (.slice (some ⟨eb,eo,none⟩) n ce),.val (.int .u8 k),k,.val (.pointer (some ⟨w.heap.size,21,none⟩)),.val (.slice (some ⟨eb,eo,none⟩) n ce),(n:Int),(m:Int),.val (.pointer (some ⟨eb,eo+m*7,none⟩)),.val (.agg #[xi,xe,xd,xk,xo,xt,.slice Al nl cl]),.own (cM w5 #[.int .i64 0,.int .i64 0,.int .i64 0,.int .i64 0,.int .i64 0,.string ⟨#[]⟩,.slice none 0 0] 51) (cM.keep _ _ _)])
  (λw'=>Below w5.heap.size w5 w') K_ K_ K_ (by decide) K_ K_ K_ (Below.refl _ _).drew ?_ ?_
 ·refine⟨b_ (q_ 3),e_ (p_ 0 32) λ_ h=>l_ h LTB.o KE.o,b_ (q_ 2),?_,b_ (q_ 3),e_ (p_ 4 36) λ_ h=>l_ h LTB.o KE.o,b_ (p_ 5 37),?_,?_,?_,?_,trivial⟩
  ·intro _ A0 w2 hI hd hnd K hK;have e0:=hI.p hd 2 34;have hS:=hI.world;have hwk:=HWK.o;exact hI.z hK
  ·intro _ A0 w2 hI hd hnd K hK;have e0:=hI.p hd 3 35;have e1:=hI.p hd 6 38;have hS:=hI.world;have hrm:=HRM.o;have bT:=ai6.o;have hmI:=HMI.o;exact hI.z hK
  ·intro _ A0 w2 hI hd hnd K hK;have nz:=HMN.o;have e0:=hI.p hd 1 33;have e1:=hI.p hd 7 39;exact hI.z hK
  ·refine O1_ (p_ 8 40) λA0 w2 K e0 hS hK=>?_;have aJ:w2.rangeAt eb (eo+m*7) [xi,xe,xd,xk,xo,xt,.slice Al nl cl]:=(rM.o.fr (Fr.ofBelow hS)).range;have aI:=aY;refine wp_load_mid 51 (.tmp 40) rfl _ _ (v_ e0) _ _ aJ Tryz.underlying51 rfl aI ?_;exact kq hK hS rfl
  ·refine O0_ λA0 w2 K hS hK=>?_;go_simp;exact hK.out _ _ (hS.alloc hS.size _) (Ks.of rfl (cM.made hS.size _ _)) (Ks.keep (ai w2 _))
 ·intro A0 w2 hI;have hS:=hI.world;have c9:=hI.cg [(0,32),(1,33),(2,34),(3,35),(4,36),(5,37),(6,38),(7,39),(8,40),(9,41),(10,7)] [] j_;obtain⟨x0,x1,x2,x3,x4,x5,x6,x7,x8,x9,dN,hA,hV⟩:=c9;obtain rfl:x9=.agg #[xi,xe,xd,xk,xo,xt,.slice Al nl cl]:=hV 9 _ _ _ rfl rfl _ rfl;have k10:(cM w5 #[(),(),(),(),(),.string ⟨#[]⟩,.slice none 0 0] 51) dN w2:=hV 10 _ _ _ rfl rfl _ rfl;clear hV hI;simp only[ba,List.foldl,List.setIfInBounds_toArray,List.set_cons_zero,List.set_cons_succ]at hA;rw[hA];clear hA;simp only[List.drop_succ_cons,List.drop_zero];obtain⟨g,rfl,jy,hg2⟩:=k10;refine wpList_store_row rfl 51 (.tmp 7) (.tmp 41) rfl g #[xi,xe,xd,xk,xo,xt,.slice Al nl cl] rfl rfl 51 #[(),(),(),(),(),.string ⟨#[]⟩,.slice none 0 0] hg2 aY rfl (by simp[Value.oneCell']) ?_;have h6x:=aB hg2 #[xi,xe,xd,xk,xo,xt,.slice Al nl cl];have h6b:=aD hS jy #[xi,xe,xd,xk,xo,xt,.slice Al nl cl];generalize w2.setRow g #[xi,xe,xd,xk,xo,xt,.slice Al nl cl]=w6 at*;have Y9:=H_ h6x;have dd:=h6b;have ajJ:=H_ h6b;clear jy hg2 hS qx l21 h6x h6b;have TR:=t_ QT dd;have px:=k_ dd lW;have ag4:=k_ dd aha;clear dd;go_wp2_with fail
  go_loopw [8] (λi wr=>∃q:Nat,i=.int .i64 ((q:Int)+1)/\Below w6.heap.size w6 wr/\∀j:Nat,1<=j->j<=q->∃y∈b.es,y.id=(j:Int)) (λi _=>n+2- (intOf i).toNat)
  case atStart=>exact⟨0,rfl,Below.refl _ _,λj h1 h2=>by omega⟩
  case round=>
   obtain⟨q,rfl,fC,hall⟩:=hrel;have hqn:q<=n:=by rw[<-HN.o];exact aiy 0 q b.es (λj h1 h2=>hall j (by omega) (by omega))
   have eY:=H_ hall;have h61:=H61.o;have Gt:=PU b.es (some ⟨eb,eo,none⟩) ce ((q:Int)+1) wr (j8 (HK.o.keep TR.o).es fC);rw[HN.o]at Gt;obtain⟨gi,YY⟩:=x_ (zs b.es ((q:Int)+1));have yQ:=H_ (aiR (es:=b.es) (id:=(q:Int)+1));rw[YY]at Gt yQ;have HGT:=H_ Gt;have qx:=(ab ((fC.block _ (ag px.o)).trans px.o) 21).trans ahr.o;clear Gt YY hall;go_wp2_with fail;refine HGT.o.mono ?_;rintro e w8 ⟨rfl,jX⟩;replace jX:=fC.trans (jX.mono fC.size);rcases yQ.o with⟨h1,hy⟩|⟨h1,ajV⟩
   case inl=>
    have HY:=H_ hy;have tR:decide (gi≥0)=true:=decide_eq_true h1;have h1e:decide (0<=gi)=true:=decide_eq_true h1;clear h1 hy qx;go_wp2_with fail;go_roundw
    case rel=>
     refine⟨q+1,congrArg (Value.int IntKind.i64) (show(q:Int)+1+1=((q+1:Nat):Int)+1 by omega),jX,λj h1 h2=>?_⟩;rcases Nat.lt_or_ge j (q+1)with h3|h3
     ·exact eY.o j h1 (by omega)
     ·have:j=q+1:=by omega
      subst this;obtain⟨y,hy,M6⟩:=HY.o;exact⟨y,hy,by rw[M6];omega⟩
    case measure=>exact aiU hqn h61
   case inr=>
   have tR:decide (gi≥0)=false:=decide_eq_false (by omega);have h1e:decide (0<=gi)=false:=decide_eq_false (by omega);obtain⟨nid,ai5⟩:∃z:Int,(q:Int)+1=z:=⟨_,rfl⟩;rw[ai5];have HIB:=H_ (show am nid by rw[<-ai5];unfold am;omega);have aiN:=H_ jX;have HX8:=k_ jX Y9;clear h1 ajV qx fC hqn h61 ai5;have HW8:=t_ TR jX;have NJ:=k_ jX px;have ai1:=k_ jX ag4;clear jX;have HLN:=H_ (show nl<=60 by rw[<-jz.o];exact HFX.o.1);have ME:=H_ (show Calls Tryz.prog 22 #[.agg #[xi,xe,xd,xk,xo,xt,.slice Al nl cl],nid,xd] w8 (ahB nid xd ⟨xi,xe,xd,xk,xo,xt,ls⟩ w8)from by
    have h:=ah0 xi xe xd xk xo xt ls Al cl nid xd w8 (eR sV.o (ajJ.o.trans (aiN.o.mono ajJ.o.size))) (λy hy=>by have:=HFX.o.2.2 y hy;unfold Hf;omega) (by have h:ls.length<=60:=HFX.o.1;omega);rw[jz.o]at h;exact h)
   unfold ahB at ME;simp only[jz.o]at ME;have x2:=ab HX8.o 2;go_wp2_with (refine W_ 49 51 7 (g) HX8.o aY Tryz.underlying51 ?_);clear tR h1e x2;refine ME.o.mono ?_;rintro e w9 ⟨Ay,cy,rfl,hly,kT⟩;have RL:=H_ hly;have aak:=H_ kT;clear hly;have HW9:=t_ HW8 kT;have ad2:=k_ kT NJ;have aiO:=k_ kT ai1;have HX9:=k_ kT HX8;clear kT;go_upto_region 10 with(show wpList _ _ _ (Oper.mk none (Op.store _ (Operand.tmp 9) _) _ _ _ _::_) _ _;refine aO rfl 51 (.tmp 9) (.tmp 53) rfl rfl w9 #[(),(),(),(),(),.string ⟨#[]⟩,.slice none 0 0] 51 #[nid,xe,xd,(3:Int),xi,xt,.slice Ay nl cy] rfl rfl rfl aY rfl (by simp[Value.oneCell']) ?_;intro w10 H10 Ox ae7)
   have ai2:=H_ H10;have ajo:=H_ Ox;have abV:=Ox;clear H10 Ox ae7;have ahj:=t_ HW9 abV;have ag5:=k_ abV ad2;have ahk:=k_ abV aiO;have ajE:=k_ abV HX9;clear abV;obtain⟨YE,hYE⟩:∃y,agW ⟨xi,xe,xd,xk,xo,xt,ls⟩ nid xd=y:=⟨_,rfl⟩;have HYE:=H_ hYE;have HYC:=H_ (show ax w10 (·<w10.heap.size) [nid,xe,xd,(3:Int),xi,xt,.slice Ay nl cy] YE from by
    rw[<-hYE];have h:=ax.mk (w:=w10) (Q:=λq=>q<w10.heap.size) (x:=agW ⟨xi,xe,xd,xk,xo,xt,ls⟩ nid xd) (A:=Ay) (c:=cy) ⟨HIB.o,HXB.o.2.1,HXB.o.2.2.1,by show am 3;unfold am;omega,HXB.o.1⟩ (by
     show aj bc 3 w10 _ [.slice Ay (ls.map nu).length cy] (ls.map nu);rw[show(ls.map nu).length=nl by rw[List.length_map];exact jz.o];exact eR (RL.o.mono (λh=>bc.mono h (λq hq=>hq.2)) (λq hq=>hq.2)) ajo.o)
    have e:(agW ⟨xi,xe,xd,xk,xo,xt,ls⟩ nid xd).lines.length=nl:=by rw[<-jz.o];exact List.length_map ..
    rw[e]at h;exact h)
   obtain⟨r,hr⟩:=x_ (eF b.g b.es YE);have HR:=H_ hr;have HPO:=H_ (show Calls Tryz.prog 23 #[.agg gl.toArray,.slice (some ⟨eb,eo,none⟩) n ce,.agg #[nid,xe,xd,(3:Int),xi,xt,.slice Ay nl cy]] w10 (ap w10 (.int .i64 r))from by
    have h:=Tr b.g b.es YE gl [nid,xe,xd,(3:Int),xi,xt,.slice Ay nl cy] (some ⟨eb,eo,none⟩) ce w10 (HK.o.keep ahj.o).g ML.o.1 (HK.o.keep ahj.o).es HYC.o (by rw[<-HYE.o];have:=HFX.o.2.1;show xt.size<=_;exact Nat.le_trans this (by decide)) HV.o.2.1;rw[HN.o,hr]at h;exact h)
   have ajz:=H_ (lF.o _ _ ag5.o);have qx:=(ab ag5.o 21).trans ahr.o;clear hYE hr;go_wp2_with (first|(refine w_ 55 29 54 w.heap.size (0) gl ajz.o (by rw[ay];exact congrArg some yO.o.symm) Tryz.underlying29 ?_)|(refine W_ 58 51 9 (w9.heap.size) ai2.o aY Tryz.underlying51 ?_));refine HPO.o.mono ?_;rintro e w11 ⟨rfl,Np⟩;have ai3:=H_ Np;have ahi:=t_ ahj Np;have ahG:=k_ Np ag5;have ag6:=k_ Np ahk;have aiM:=k_ Np ajE;have aiE:=k_ Np ai2;clear Np;clear qx;by_cases hr0:r=0
   case neg=>
    have zb:(r !=0)=true:=by simpa using hr0
    clear hr0;go_wp2_with fail;go_ret;exact⟨rfl,ahi.o⟩
   case pos=>
   subst hr0;go_upto_region 13 with(first|(refine W_ 61 36 3 (w.heap.size) ahG.o (by rw[bF];exact congrArg some kY.o.symm) Tryz.underlying36 ?_)|(show wpList _ _ _ (Oper.mk none (Op.store _ (Operand.tmp 10) _) _ _ _ _::_) _ _;go_loud (refine aO rfl 36 (.tmp 10) (.tmp 61) rfl rfl w11 #[.string ⟨#[]⟩,(),(),(),.slice none 0 0,(),(),(),(),(),(),(),(),(),(),(),(),(),(),(),.slice none 0 0,.slice none 0 0,.slice none 0 0,.slice none 0 0,.slice none 0 0,.slice none 0 0,.string ⟨#[]⟩] 36 bl.toArray rfl rfl rfl (by rw[bF];exact congrArg some kY.o.symm) kY.o.symm HON.o ?_);intro w12 H12 RJ adr))
   have ajb:=H_ H12;have ahA:=H_ RJ;have adC:=RJ;clear H12 RJ adr;have ah8:=t_ ahi adC;have aiY:=k_ adC ahG;have aj3:=k_ adC ag6;have aj7:=k_ adC aiM;have ajG:=k_ adC aiE;clear adC;have ajp:=HK.o.keep ahi.o;obtain⟨css,mH,hc7,hcE,hrd⟩:=PT (λcs x h=>ax.len h) (by omega) ajp.es;have XA:=H_ (And.intro mH (And.intro hc7 hcE));have aht:=H_ (SJ (λ_ _ h=>aic h) mH hcE);rw[HN.o]at hrd;obtain⟨F9,hF9⟩:∃F,css.flatten=F:=⟨_,rfl⟩;rw[hF9]at aht hrd;have aiI:=H_ hrd;have HF9:=H_ hF9;have KE:=H_ ((ab aiY.o 21).trans ahr.o);have LTB:=H_ (ag aiY.o);clear ajp mH hc7 hcE hrd hF9;refine dC 6 (Ks w12 [.own (ahI 51 w12.heap.size) ahM,.val (.pointer (some ⟨w.heap.size,21,none⟩)),.val (.slice (some ⟨eb,eo,none⟩) n ce),.own (ahu 51 7 w12.heap.size n F9) ahQ,.val (.agg #[nid,xe,xd,(3:Int),xi,xt,.slice Ay nl cy]),.own (ahe 51 w12.heap.size [.int .i64 nid,.int .i64 xe,.int .i64 xd,.int .i64 3,.int .i64 xi,.string xt,.slice Ay nl cy]) ahv])
    (λw'=>Below w12.heap.size w12 w') K_ K_ K_ (by decide) K_ K_ K_ (Below.refl _ _).drew ?_ ?_
   ·refine⟨?_,b_ (q_ 3),e_ (p_ 1 63) λ_ h=>l_ h LTB.o KE.o,?_,?_,?_,trivial⟩
    ·refine O0_ λA0 w2 K hS hK=>?_;go_simp;exact hK.out _ _ (hS.alloc hS.size _) (Ks.of rfl (ahN hS.size)) (Ks.keep (ai w2 _))
    ·intro _ A0 w2 hI hd hnd K hK;obtain⟨x0,e0,h0⟩:=hI.dep hd 0 62 rfl rfl rfl K_;have e1:=hI.p hd 2 64;have hS:=hI.world;obtain⟨g5,rfl,jy,hg2⟩:=h0;refine aa rfl ?_;clear hI hd hnd;refine ahc (w:=w2) (.tmp 62) (.tmp 64) 30 rfl w12.heap.size 51 ib _ 7 80 jp hib X7 Xu XU rfl (by decide) g5 (v_ e0) hg2 jy (·<w11.heap.size) (some ⟨eb,eo,none⟩) n ce F9 (v_ e1) (aiI.o.fr (Fr.ofBelow (ahA.o.trans (hS.mono ahA.o.size)))) aht.o (by simp only[maxLen];have:=H61.o;omega) (by have:=H61.o;omega) hS.size ?_;intro v9 w9 cj kT;exact hK.out _ _ (hS.trans (kT.mono hS.size)) (Ks.of rfl cj) (Ks.keep kT)
    ·refine O1_ (q_ 9) λA0 w2 K e0 hS hK=>?_;have aJ:w2.rangeAt w9.heap.size 0 [nid,xe,xd,(3:Int),xi,xt,.slice Ay nl cy]:=ag3 ((hS.block _ (ag ajG.o)).trans ajG.o) 0 _ (λj v hj=>by rw[Nat.zero_add];exact hj);have aI:=aY;refine wp_load_mid 51 (.tmp 9) rfl _ _ (v_ e0) _ _ aJ Tryz.underlying51 rfl aI ?_;exact kq hK hS rfl
    ·refine O1_ (p_ 4 66) λA0 w2 K e0 hS hK=>?_;go_simp;exact hK.out _ _ (hS.alloc hS.size _) (Ks.of rfl ⟨_,rfl,hS.size,heap_alloc_new _ _⟩) (Ks.keep (ai w2 _))
   ·intro A0 w2 hI;have hS:=hI.world;have c9:=hI.cg [(0,62),(1,63),(2,64),(3,65),(4,66),(5,67)] [68,69] j_;obtain⟨x0,x1,x2,x3,x4,x5,y68,y69,hA,hV⟩:=c9;have k3:(ahu 51 7 w12.heap.size n F9) x3 w2:=hV 3 _ _ _ rfl rfl _ rfl;have k5:(ahe 51 w12.heap.size [nid,xe,xd,(3:Int),xi,xt,.slice Ay nl cy]) x5 w2:=hV 5 _ _ _ rfl rfl _ rfl;clear hV hI;simp only[ba,List.foldl,List.setIfInBounds_toArray,List.set_cons_zero,List.set_cons_succ]at hA;rw[hA];clear hA;simp only[List.drop_succ_cons,List.drop_zero];obtain⟨gO,rfl,aja,ain⟩:=k5;have K2:=H_ (show w2.ownsRow w12.heap.size 51 7 x3 n F9 from k3);clear k3;refine cq _ rfl (.tmp 65) (.tmp 67) 30 rfl w12.heap.size 51 ib _ 7 80 jp hib X7 Xu XU rfl (by decide) x3 n F9 rfl K2.o (λ_=>True) (some ⟨gO,0,none⟩) 1 1 [nid,xe,xd,(3:Int),xi,xt,.slice Ay nl cy] rfl (ahD (K:=7) rfl ain trivial) (by simp[Value.oneCell']) (by simp only[maxLen];have:=H61.o;omega) (by have:=H61.o;omega) hS.size ?_;intro v9 w13 ahd ajq _;have ahx:Below w12.heap.size w12 w13:=bK hS ajq (λq hq=>(K2.o.lt _ hq).1) (Nat.le_refl _);have ahV:=t_ ahA ahx;have ajc:=k_ ahx ajb;have ajx:=ag ajb.o;have ajK:aj ax 7 w13 (λq=>q<w13.heap.size/\q≠w11.heap.size) [v9] (b.es++[YE]):=ahq (Q:=(·<w11.heap.size)) (w:=w11) (base:=w12.heap.size) (T:=51) XA.o.1 XA.o.2.1 XA.o.2.2 (HYC.o.keep ai3.o) rfl (λcs y h=>ax.mono (h.fr (Fr.ofBelow ahV.o)) (λq hq=>⟨Nat.lt_of_lt_of_le hq ahV.o.size,λe=>by omega⟩)) (by rw[HF9.o,HN.o];exact ahd) (λq hq=>⟨(ahd.lt q hq).2,λe=>by have:=(ahd.lt q hq).1;omega⟩);obtain⟨A2,n2,c2,rfl⟩:=bS ahd;obtain rfl:=fV ahd;have ajm:=H_ ajK;have d21:=(ab ajc.o 21).trans ahr.o;have z21:=bB ajc.o 21;clear hS aja ain ahd ajq ahx ajK ajx;go_upto_region 14 with fail;have aju:=H_ (show(w13.setCell ⟨w11.heap.size,21,none⟩ (.slice A2 (n+1) c2)).heap[w11.heap.size]? =some (.cells (bl.set 21 (.slice A2 (n+1) c2)).toArray 36 (0,0)) by
     have h:=aG ajc.o 21 (.slice A2 (n+1) c2)
     rwa[List.setIfInBounds_toArray]at h)
    have ajd:=H_ (show Below w11.heap.size w11 (w13.setCell ⟨w11.heap.size,21,none⟩ (.slice A2 (n+1) c2))from((Fr.ofBelow ahV.o).setCell (p:=⟨w11.heap.size,21,none⟩) (λh=>Nat.lt_irrefl _ h) _).below);have ajB:=H_ (show aj ax 7 (w13.setCell ⟨w11.heap.size,21,none⟩ (.slice A2 (n+1) c2)) (·< (w13.setCell ⟨w11.heap.size,21,none⟩ (.slice A2 (n+1) c2)).heap.size) [.slice A2 (n+1) c2] (b.es++[YE])from by
     have hf:Fr (λq=>q<w13.heap.size/\q≠w11.heap.size) w13 (w13.setCell ⟨w11.heap.size,21,none⟩ (.slice A2 (n+1) c2)):=((Fr.refl (λq=>q<w13.heap.size/\q≠w11.heap.size) w13).setCell (p:=⟨w11.heap.size,21,none⟩) (λh=>h.2 rfl) _);exact(aj.fr ajm.o (λh=>ax.fr h hf) hf).mono (λh=>ax.mono h (λq hq=>Nat.lt_of_lt_of_le hq.1 hf.size)) (λq hq=>Nat.lt_of_lt_of_le hq.1 hf.size))
    generalize w13.setCell ⟨w11.heap.size,21,none⟩ (.slice A2 (n+1) c2)=w14 at*;have ahy:=ajd.o;have aio:=t_ ahi ahy;have aj4:=k_ ahy ahG;have aiZ:=k_ ahy ag6;have ajk:=k_ ahy aiM;have aj6:=k_ ahy aiE;clear ahy;have aje:=H_ (show(b.es++[YE]).length=n+1 by rw[List.length_append,HN.o];rfl);have ajl:=H_ (show BkC w14 (·<w14.heap.size) (bl.set 21 (.slice A2 (n+1) c2)) ⟨b.g,b.es++[YE],b.rs⟩ gl A2 c2 Ar cr tl from by
     have h:=ahJ (HK.o.keep aio.o) (es:=b.es++[YE]) (A2:=A2) (c2:=c2) (by rw[aje.o];exact ajB.o)
     rwa[aje.o]at h)
    have HSN:=H_ (show okB ⟨b.g,b.es++[YE],b.rs⟩from⟨ML.o.1,⟨λx hx=>by
     rcases List.mem_append.1 hx with hx|hx
     ·exact ML.o.2.1.1 x hx
     ·rw[List.mem_singleton]at hx;rw[hx,<-HYE.o];refine⟨by have:=HFX.o.2.1;show xt.size<=_;exact Nat.le_trans this (by decide),?_⟩;show(ls.map nu).length<=_;rw[List.length_map];exact Nat.le_trans HFX.o.1 (by decide),by show(b.es++[YE]).length<=_;rw[aje.o];have:=H61.o;omega⟩,ML.o.2.2⟩)
    have HMO:=H_ (λ(w2:World) (hb:Below w14.heap.size w14 w2) (e l:Int) (he:am e)=>JK ⟨b.g,b.es++[YE],b.rs⟩ (bl.set 21 (.slice A2 (n+1) c2)) gl tl A2 Ar c2 cr e l pp w2 (ajl.o.keep hb) HSN.o ais.o he);have abg:=H_ (λ(j:Nat) (hj:j<nl)=>aig HV.o HXM.o (id:=nid) (by rw[HYE.o];exact HR.o) (j:=j) (by show j<ls.length;rw[jz.o];exact hj) pp ⟨b.g,b.es++[YE],b.rs⟩ (by rw[HYE.o]));have HDS:=H_ (show(bl.set 21 (.slice A2 (n+1) c2)).toArray.size=27 by simpa using kY.o);have VA:=H_ (show am xi from HXB.o.1);clear ajm ajB ajl HSN XA aiI aht;go_wp2_with fail
    go_loopw [11] (λi wr=>∃j:Nat,j<=nl/\i=.int .i64 (j:Int)/\Below w14.heap.size w14 wr) (λi _=>nl- (intOf i).toNat)
    case atStart=>exact⟨0,by omega,rfl,Below.refl _ _⟩
    case round=>
     obtain⟨j,hj,rfl,hb⟩:=hrel;have zI:=H_ hb;have HWR:=t_ aio hb;have HXR:=k_ hb ajk;have ajf:=k_ hb aiZ;have HDR:=k_ hb aju;have x6:=ab HXR.o 6;clear hb;by_cases aU:j<nl
     case neg=>
      have bq:¬(j:Int)< (nl:Int):=by omega
      go_wp2_with fail;go_ret;exact⟨rfl,HWR.o⟩
     case pos=>
      have bq:(j:Int)< (nl:Int):=by omega
      have aj5:j<=60:=by have:=HLN.o;omega
      obtain⟨⟨⟨⟨i1,i2⟩,i3,i4,i5,i6,i7⟩,e1⟩,hi⟩:∃r,pm ⟨b.g,b.es++[YE],b.rs⟩ xi (j:Int) pp=r:=⟨_,rfl⟩;obtain⟨⟨⟨⟨k1,k2⟩,k3,k4,k5,k6,k7⟩,e2⟩,hk⟩:∃r,pm ⟨b.g,b.es++[YE],b.rs⟩ nid (j:Int) pp=r:=⟨_,rfl⟩;have IB:=abg.o j aU;have nx:=HMO.o wr zI.o xi (j:Int) VA.o;have jA:=λ(w2:World) (hb:Below wr.heap.size wr w2)=>HMO.o w2 (zI.o.trans (hb.mono zI.o.size)) nid (j:Int) HIB.o
      have jE:=aif ⟨b.g,b.es++[YE],b.rs⟩ xi (j:Int) pp;simp only[hi,hk]at IB nx jA jE;obtain⟨rfl,rfl,rfl,rfl,rfl⟩:=IB;have hwn:IntKind.i64.wrap i7=i7:=by rw[IntKind.wrap_i64];omega
      have HM1:=H_ nx;have Oh:=H_ jA;have x0:=ab HXR.o 0;have p3:=ab ajf.o 3;clear hi hk nx jA jE;go_wp2_with (refine W_ 78 36 10 (w11.heap.size) HDR.o (by rw[bF];exact congrArg some HDS.o.symm) Tryz.underlying36 ?_);refine HM1.o.mono ?_;rintro e w15 ⟨rfl,aiK⟩;have ajL:=H_ aiK;have ajt:=k_ aiK HDR;have aha:=k_ aiK ajf;clear aiK x0 p3 x6 bq;go_upto_region 18 with(show wpList _ _ _ (Oper.mk none (Op.store _ (Operand.tmp 12) _) _ _ _ _::_) _ _;refine aO rfl 42 (.tmp 12) (.tmp 86) rfl rfl w15 #[(),(),(),(),(),(),()] 42 #[i1,i2,i3,k4,k5,k6,i7] rfl rfl rfl aP rfl (by simp[Value.oneCell']) ?_;intro w16 H16 aiQ ajX)
      have ajF:=H_ H16;have HB16':=t_ ajL aiQ;have aj0:=k_ aiQ ajt;have HPL6':=k_ aiQ aha;have p3:=ab HPL6'.o 3;clear H16 aiQ ajX;go_wp2_with (refine W_ 89 36 10 (w11.heap.size) aj0.o (by rw[bF];exact congrArg some HDS.o.symm) Tryz.underlying36 ?_);refine(Oh.o w16 HB16'.o).mono ?_;rintro e w17 ⟨rfl,ai4⟩;have ajO:=k_ ai4 ajF;have HB17':=t_ HB16' ai4;clear ai4 p3;go_upto_region 19 with(show wpList _ _ _ (Oper.mk none (Op.store _ (Operand.tmp 14) _) _ _ _ _::_) _ _;refine aO rfl 42 (.tmp 14) (.tmp 96) rfl rfl w17 #[(),(),(),(),(),(),()] 42 #[k1,k2,k3,k4,k5,k6,(-i7:Int)] rfl rfl rfl aP rfl (by simp[Value.oneCell']) ?_;intro w18 H18 ajg ajS)
      have aiD:=k_ ajg ajO;have HB18':=t_ HB17' ajg;have m3:=ab aiD.o 3;have m4:=ab aiD.o 4;have m5:=ab aiD.o 5;have m6:=ab aiD.o 6;have n3:=ab H18 3;have n4:=ab H18 4;have n5:=ab H18 5;have n6:=ab H18 6;clear H18 ajg ajS;go_wp2_with fail;go_roundw
      case rel=>exact⟨j+1,by omega,by go_num,zI.o.trans (HB18'.o.mono zI.o.size)⟩
      case measure=>first|exact aQ aU|(simp only[intOf];omega)
end Go.Proofs.YtibiddakakgakaaGreat
