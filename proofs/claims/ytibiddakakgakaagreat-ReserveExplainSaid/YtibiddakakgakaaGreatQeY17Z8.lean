/- Explain of the program. Written by gen_y17.py. -/
import Derived.Test.YtibiddakakgakaaGreatQeR12Z7
set_option linter.unusedVariables false
set_option linter.unusedSimpArgs false
set_option maxRecDepth 4000
attribute [local go_sem ↓] Go.wp_at_zero Go.wp_at_succ
set_option maxHeartbeats 16000000
namespace Go.Proofs.YtibiddakakgakaaGreat
open Go Go.RowKit
theorem akR {b:XBk} {ent p:Int} {L B0 B:List bW} {le be:Int} (hL:pQ b ent p=(L,le)) (hB0:pQ b ent (p- 1)=(B0,be)) (h:le=0) (hB:(p=0/\B=[])\/(1<=p/\(B0,be)=(B,0))):
 B.length<=L.length/\(∀i (h1:i<B.length) (h2:i<L.length),L[i].date<lJ b.g p/\L[i].ref=B[i].ref)/\∀i (h2:i<L.length),B.length<=i->lJ b.g p<=L[i].date:=by
 subst h;rw[<-hB0]at hB;have h:=akZ (b:=b) (ent:=ent) (p:=p) (B:=B) (by rw[hL]) hB;rw[hL]at h;exact h
theorem alC {g:au} (h:bh g=true) {p:Int} (hp:0<=p/\p<g.calendar.periods):(aX g.calendar.year g.calendar.month g.calendar.periods p).2=0:=by
 have hc:du g.calendar.year g.calendar.month g.calendar.periods=true:=by
  unfold bh at h;simp only[Bool.and_eq_true]at h;exact h.1.1.1.1.2
 unfold aX bo;rw[if_pos hc,if_pos hp];rfl
theorem fm:(Tryz.prog.info? 88).map (·.size)=some 4:=by kernel_rfl
theorem akg {l:List bW} {A:Option Addr} {n c:Nat} {w:World} (hl:ItV w (·<w.heap.size) (.slice A n c) l) (hn:l.length=n) (hs:aks l):∀w2,Below w.heap.size w w2->Calls Tryz.prog 38 #[.slice A n c] w2 (ap w2 (.int .i64 (-f9 l))):=λw2 hb=>by
 subst hn;exact ala l A c w2 (hl.keep hb) hs
theorem ak8 (b:XBk) (bl gl tl:List Value) (Ae Ar:Option Addr) (ce cr:Nat) (ent p:Int) (w:World) (hk:BkC w (·<w.heap.size) bl b gl Ae ce Ar cr tl) (ci:okB b) (lX:cx p) (Od:pI b):Calls Tryz.prog 39 #[.agg bl.toArray,ent,p] w (ap w (.tuple #[.agg (exC (akh b ent p).1).toArray,.int .i64 (akh b ent p).2])):=by
 have HIT:=H_ (λ(w2:World) (hb:Below w.heap.size w w2)=>Qn b bl gl tl Ae Ar ce cr ent p w2 (hk.keep hb) ci lX);have alF:=H_ (λ(hp:0<p) (w2:World) (hb:Below w.heap.size w w2)=>Qn b bl gl tl Ae Ar ce cr ent (p- 1) w2 (hk.keep hb) ci (by unfold cx at lX |-;omega));have kY:=H_ (show bl.toArray.size=27 by have:=hk.len;simpa using this);have KY:=λ(i:Nat) (hi:i<21)=>(show bl.toArray[i]? =gl.toArray[i]? by rw[List.getElem?_toArray,List.getElem?_toArray];exact hk.at_g hi)
 obtain⟨h0,h1,h2,h3,_⟩:=hk.g.cellsA;have jG:=H_ ((KY 1 (by omega)).trans h1);have jv:=H_ ((KY 2 (by omega)).trans h2);have kB:=H_ ((KY 3 (by omega)).trans h3);have VC:=H_ (te Od ent p);have al2:=H_ (te Od ent (p- 1));have alY:=H_ (λ(h:(pQ b ent p).2=0) (w2:World)=>show Calls Tryz.prog 72 #[.agg #[b.g.calendar.year,b.g.calendar.month,b.g.calendar.periods],p] w2 (ap w2 (.tuple #[(lJ b.g p),()])) by
  obtain⟨eU,_,iA⟩:=vN (rl h).1;have h:=vP b.g.calendar.year b.g.calendar.month b.g.calendar.periods p w2
  rwa[show(aX b.g.calendar.year b.g.calendar.month b.g.calendar.periods p).2=0 from alC eU.1 iA]at h)
 have Yf:=H_ lX;have amk:=H_ (λ(h:(pQ b ent p).2=0)=>(vN (rl h).1).2.2);obtain⟨R,hR⟩:=x_ (akh b ent p);rw[hR];have hRE:=hR;unfold akh at hRE;unfold rX at HIT alF;obtain⟨L,le,hL⟩:∃L le,pQ b ent p=(L,le):=⟨_,_,rfl⟩;simp only[hL]at HIT VC alY amk hRE;obtain⟨B0,be,hB⟩:∃B be,pQ b ent (p- 1)=(B,be):=⟨_,_,rfl⟩;simp only[hB]at alF al2 hRE;have alZ:=H_ (λ(B:List bW) (h:le=0) hBB=>akR hL hB (B:=B) h hBB);obtain⟨fd,hfd⟩:∃x,lJ b.g p=x:=⟨_,rfl⟩;rw[hfd]at alZ alY;have yP:=H_ hRE;obtain⟨q,hq⟩:=x_ (L.length);rw[hq]at HIT;have HQ:=H_ hq;clear hk ci lX Od KY h0 h1 h2 h3 hR hRE hL hB hfd hq;go_enter Tryz.func39,Tryz.ntmps39;go_upto_region 1 with fail;obtain⟨W1,cS,H1,bC,dr,ewx⟩:=B_ w (.cells bl.toArray 36);rw[cS];clear ewx;have yN:=H_ (show W1.heap.size=w.heap.size+1 by rw[<-cS];simp);clear cS;obtain⟨W2,fR,H2,dz,jK,ewx⟩:=B_ W1 (.cells #[(),(),(),()] 88);rw[fR];clear ewx;clear fR;have Vr:=H_ (bC.trans (dz.mono bC.size));have rP:=H_ ((dz.block _ dr).trans H1);have qN:=H_ (show W2.heap[w.heap.size+1]? =some (.cells #[(),(),(),()] 88 (0,0)) by rw[<-yN.o];exact H2);clear H1 H2 bC dz dr jK;go_wp2_with (refine W_ 18 36 3 (w.heap.size) rP.o (by rw[bF];exact congrArg some kY.o.symm) Tryz.underlying36 ?_);refine(HIT.o W2 Vr.o).mono ?_;rintro e w3 ⟨A3,c3,rfl,za,aZ⟩;have Bw:=H_ za;have NO:=t_ Vr aZ;have iY:=k_ aZ rP;have l7:=k_ aZ qN;clear aZ za;by_cases h0:le=0
 case neg=>
  have h0b:(le !=0)=true:=by simpa using h0
  have hf:=H_ (show R=(([0,0,0,0]:List Int),le) by rw[<-yP.o,if_pos h0]);clear h0;go_wp2_with (show wpList _ _ _ (Oper.mk none (Op.store _ (Operand.tmp 6) _) _ _ _ _::_) _ _;go_loud (refine wpList_store_row rfl 88 (.tmp 6) (.tmp 26) rfl (w.heap.size+1) #[(),(),(),()] rfl rfl 88 #[(),(),(),()] l7.o fm rfl (by simp[Value.oneCell']) ?_));refine bodyPost_ret (v:=.tuple #[.agg #[(),(),(),()],le]) (aA rfl _ _ (w.heap.size+1) 88 #[(),(),(),()] (0,0) _ rfl (aB l7.o _) Tryz.underlying88 rfl fm _ rfl) rfl ?_;exact⟨by rw[hf.o];rfl,aD NO.o (by omega) _⟩
 case pos=>
 subst h0;have ny:=H_ (alY.o rfl);have HPK:=H_ (amk.o rfl);have hre:=yP.o;rw[if_neg (by simp)]at hre;have h0p:=HPK.o.1;have sU:=H_ hre;clear hre yP
 go_upto_if 29 with fail
 go_cut [9,10]from 29 to 41 (λv9 v10 wx=>∃(AB:Option Addr) (m cB:Nat) (B:List bW),v10=.slice AB m cB/\ItV wx (·<wx.heap.size) (.slice AB m cB) B/\B.length=m/\aks B/\((p=0/\B=[])\/(1<=p/\(B0,be)=(B,0)))/\R=akn B L/\Below w3.heap.size w3 wx)
 case first=>
  by_cases hp:0<p
  case neg=>
   have hpz:p=0:=by have:=HPK.o.1;omega
   have HRN:=H_ (show R=akn [] L by
    have h:=sU.o;rw[if_neg (λh=>hp h.1),if_neg hp]at h;exact h.symm)
   have HPZ:=H_ hpz;clear hpz h0p;go_wp2_with fail;go_meet;exact⟨none,0,0,[],rfl,sr _ _ _ _,rfl,⟨λx h=>(by cases h),by simp⟩,.inl ⟨HPZ.o,rfl⟩,HRN.o,Below.refl _ _⟩
  case pos=>
   have hwp:IntKind.i64.wrap (p- 1)=p- 1:=by rw[IntKind.wrap_i64];have:=HPK.o;have:=Yf.o;unfold cx at*;omega
   have HPP:=H_ hp;clear h0p;go_wp2_with (refine W_ 31 36 3 (w.heap.size) iY.o (by rw[bF];exact congrArg some kY.o.symm) Tryz.underlying36 ?_);refine(alF.o HPP.o w3 NO.o).mono ?_;rintro e w4 ⟨A4,c4,rfl,Fg,bU⟩;have Z5:=H_ Fg;have zn:=t_ NO bU;have i9:=k_ bU iY;have kX:=k_ bU l7;have gw:=H_ bU;clear bU Fg;by_cases h1:be=0
   case neg=>
    have h1b:(be !=0)=true:=by simpa using h1
    have hf:=H_ (show R=(([0,0,0,0]:List Int),be) by rw[<-sU.o,if_pos ⟨HPP.o,h1⟩]);clear h1;go_wp2_with (show wpList _ _ _ (Oper.mk none (Op.store _ (Operand.tmp 6) _) _ _ _ _::_) _ _;go_loud (refine wpList_store_row rfl 88 (.tmp 6) (.tmp 40) rfl (w.heap.size+1) #[(),(),(),()] rfl rfl 88 #[(),(),(),()] kX.o fm rfl (by simp[Value.oneCell']) ?_));refine bodyPost_ret (v:=.tuple #[.agg #[(),(),(),()],be]) (aA rfl _ _ (w.heap.size+1) 88 #[(),(),(),()] (0,0) _ rfl (aB kX.o _) Tryz.underlying88 rfl fm _ rfl) rfl ?_;exact⟨by rw[hf.o];rfl,aD zn.o (by omega) _⟩
   case pos=>
    subst h1;have HRN:=H_ (show R=akn B0 L by
     have h:=sU.o;rw[if_neg (λh=>h.2 rfl),if_pos HPP.o]at h;exact h.symm)
    go_wp2_with fail;go_meet;exact⟨A4,_,c4,B0,rfl,Z5.o,rfl,al2.o,.inr ⟨by have:=HPP.o;omega,rfl⟩,HRN.o,gw.o⟩
 case rest=>
 obtain⟨AB,m,cB,B,rfl,gm,hm,Bi,hBB,hre,Vs⟩:=hcut;have HM:=H_ hm;have Dd:=H_ Bi;have jD:=H_ gm;have Kq:=H_ hre;obtain⟨s1,s2,s3⟩:=alZ.o B (by trivial) hBB;have HSP:=H_ (And.intro s2 s3);have HMQ:=H_ (show m<=q by rw[<-HM.o,<-HQ.o];exact s1);have Bw:=H_ (Bw.o.keep Vs);have HWc:=t_ NO Vs;have ajR:=k_ Vs iY;have HZc:=k_ Vs l7;clear hm Bi gm hre s1 s2 s3 hBB Vs sU alF al2 alZ h0p;have lT:=H_ (dg ajR.o jG.o jv.o kB.o);go_wp2_with (refine w_ 45 23 44 w.heap.size (1) _ lT.o bV Tryz.underlying23 ?_);refine(ny.o wc).mono ?_;rintro e w8 ⟨rfl,jX⟩;have al4:=H_ (jD.o.keep jX);have amh:=H_ (Bw.o.keep jX);have HW8:=t_ HWc jX;have NJ:=k_ jX ajR;have Nv:=k_ jX HZc;clear jX;go_wp2_with fail
 go_loopw [12,13,14,56] (λva vb vk vi wr=>∃i k:Nat,i<=q/\(i<=m->k=i)/\(m<=i->k=m)/\vi=.int .i64 (i:Int)/\vk=.int .i64 (k:Int)/\va=.int .i64 (f9 (B.take k) - f9 (L.take k))/\vb=.int .i64 (-(f9 (L.take i) - f9 (L.take k)))/\Below w8.heap.size w8 wr) (λ_ _ _ i _=>q- (intOf i).toNat)
 case atStart=>exact⟨0,0,by omega,λ_=>rfl,λh=>by omega,rfl,rfl,by simp[f9],by simp[f9],Below.refl _ _⟩
 case round=>
  obtain⟨i,k,hi,Dm,Iv,rfl,rfl,rfl,rfl,hb⟩:=hrel;have zI:=H_ hb;have hsr:=hb.size;clear hb;by_cases aU:i<q
  case neg=>
   have bq:¬(i:Int)< (q:Int):=by omega
   have hiq:i=L.length:=by rw[HQ.o];omega
   have yW:k=m:=Iv (by have:=HMQ.o;omega);have Dd:=H_ (akg al4.o HM.o Dd.o);have VC:=H_ (akg amh.o HQ.o VC.o);obtain⟨s1,tC⟩:∃s,f9 (B.take k) - f9 (L.take k)=s:=⟨_,rfl⟩;obtain⟨s2,dW⟩:∃s,-(f9 (L.take i) - f9 (L.take k))=s:=⟨_,rfl⟩;obtain⟨s3,lE⟩:∃s,-f9 B=s:=⟨_,rfl⟩;obtain⟨s4,yJ⟩:∃s,-f9 L=s:=⟨_,rfl⟩;have HV:=H_ (show akn B L=([s3,s1,s2,s4],0) by
    unfold akn;rw[<-tC,<-dW,<-lE,<-yJ,hiq,yW,List.take_length,<-HM.o,List.take_length])
   rw[tC,dW];rw[lE]at Dd;rw[yJ]at VC;clear Dm Iv hiq yW tC dW lE yJ;have HW9:=t_ HW8 zI.o;have ad2:=k_ zI.o NJ;have HZ9:=k_ zI.o Nv;go_wp2_with fail;refine(Dd.o wr zI.o).mono ?_;rintro e nd ⟨rfl,abV⟩;have al7:=H_ (zI.o.trans (abV.mono hsr));have ahj:=t_ HW9 abV;have ag5:=k_ abV ad2;have amm:=k_ abV HZ9;clear abV;go_wp2_with fail;refine(VC.o nd al7.o).mono ?_;rintro e w11 ⟨rfl,Np⟩;have ahi:=t_ ahj Np;have ahG:=k_ Np ag5;have ami:=k_ Np amm;clear Np;go_wp2_with (show wpList _ _ _ (Oper.mk none (Op.store _ (Operand.tmp 6) _) _ _ _ _::_) _ _;go_loud (refine wpList_store_row rfl 88 (.tmp 6) (.tmp 102) rfl (w.heap.size+1) #[s3,s1,s2,s4] rfl rfl 88 #[(),(),(),()] ami.o fm rfl (by simp[Value.oneCell']) ?_));refine bodyPost_ret (v:=.tuple #[.agg #[s3,s1,s2,s4],()]) (aA rfl _ _ (w.heap.size+1) 88 #[s3,s1,s2,s4] (0,0) _ rfl (aB ami.o _) Tryz.underlying88 rfl fm _ rfl) rfl ?_;exact⟨by rw[Kq.o,HV.o];rfl,aD ahi.o (by omega) _⟩
  case pos=>
  have bq:(i:Int)< (q:Int):=by omega
  have hiL:i<L.length:=by rw[HQ.o];exact aU
  have TM:=amh.o;obtain⟨b1,o1,VD,YU,hQ1,aaH,yT⟩:=aj.get TM i hiL;rw[GI aaH]at yT;have IV:=ake hiL;obtain⟨hx1,qi⟩:(∀h:i<B.length,L[i].date<fd/\L[i].ref=B[i].ref)/\(B.length<=i->fd<=L[i].date):=⟨λh=>HSP.o.1 i h hiL,λh=>HSP.o.2 i hiL h⟩;have zD:=KG VC.o i (by omega);have alI:=KG VC.o (i+1) (by omega);have hbk:=KG VC.o k (by have:=HMQ.o;have:=HQ.o;omega);have dA:=KG Dd.o k (by have:=HM.o;omega);have m4:=VC.o.1 _ (List.getElem_mem hiL);have hq6:L.length<=1000000:=VC.o.2;have hm6:B.length<=1000000:=Dd.o.2;obtain⟨x,hx⟩:=x_ (L[i]);rw[hx]at yT IV hx1 qi m4;subst YU;obtain⟨⟨i1,i2⟩,i3,i4,i5,i6,i7⟩:=x;simp only at IV qi m4;have eZ:=H_ (show wr.rangeAt b1 (o1+i*7) [i1,i2,i3,i4,i5,i6,i7]from gC yT ((Fr.ofBelow zI.o)));clear TM aaH yT hQ1 hx;go_upto_region 16 with(first|(refine w_ 59 42 58 b1 (o1+i*7) [i1,i2,i3,i4,i5,i6,i7] eZ.o aP Tryz.underlying42 ?_)|(show wpList _ _ _ (Oper.mk none (Op.store _ (Operand.tmp 16) _) _ _ _ _::_) _ _;refine aO rfl 42 (.tmp 16) (.tmp 59) rfl rfl wr #[(),(),(),(),(),(),()] 42 #[i1,i2,i3,i4,i5,i6,i7] rfl rfl rfl aP rfl (by simp[Value.oneCell']) ?_;intro W3 H3 eA rE))
  have TQ:=H_ H3;have eA:=H_ eA;have x5:=ab H3 5;have x6:=ab H3 6;clear H3 rE;by_cases sO:i<m
  case neg=>
   have yW:k=m:=Iv (by omega);have Fs:fd<=i6:=qi (by rw[HM.o];omega);have amA:decide (i6≥fd)=true:=decide_eq_true Fs;obtain⟨S1,xl⟩:∃S,f9 (L.take i)=S:=⟨_,rfl⟩;obtain⟨S2,hS2⟩:∃S,f9 (L.take k)=S:=⟨_,rfl⟩;obtain⟨S3,F9⟩:∃S,f9 (L.take (i+1))=S:=⟨_,rfl⟩;obtain⟨S0,hS0⟩:∃S,f9 (B.take k) - S2=S:=⟨_,rfl⟩;rw[xl,F9]at IV;rw[xl]at zD;rw[hS2]at hbk;rw[F9]at alI;rw[xl,hS2,hS0];have CB:=H_ (show f9 (L.take k)=S2/\f9 (L.take (i+1))=S3/\f9 (B.take k) - S2=S0 from⟨hS2,F9,hS0⟩);have Fh:IntKind.i64.wrap (-(S1- S2) - i7)= -(S3- S2):=by rw[IntKind.wrap_i64];omega
   have HKK:=H_ yW;clear hx1 qi Fs m4 xl hS2 F9 hS0 IV zD alI hbk dA Dm Iv;clear yW;go_wp2_with fail;go_roundw
   case rel=>exact⟨i+1,k,by omega,λh=>by omega,λ_=>HKK.o,by go_num,rfl,by rw[CB.o.1,CB.o.2.2],by rw[CB.o.1,CB.o.2.1],zI.o.trans (eA.o.mono hsr)⟩
   case measure=>first|exact aQ aU|(simp only[intOf];omega)
  case pos=>
   have hki:k=i:=Dm (by omega);subst hki;have hkB:k<B.length:=by rw[HM.o];exact sO
   obtain⟨Fq,Re⟩:=hx1 hkB;have Fq:i6<fd:=Fq;have amA:decide (i6≥fd)=false:=decide_eq_false (by omega);have Bi:=ake hkB;have al5:=KG Dd.o (k+1) (by omega);have gm:=al4.o;obtain⟨b2,o2,cs2,hA2,hQ2,agv,dt⟩:=aj.get gm k hkB;rw[GI agv]at dt;obtain⟨y,hy⟩:=x_ (B[k]);rw[hy]at dt Bi Re;obtain⟨⟨j1,j2⟩,j3,j4,j5,j6,j7⟩:=y;simp only[DC.mk.injEq]at Bi Re;obtain⟨rfl,rfl⟩:=Re;subst hA2;have ak9:=H_ (zI.o.trans (eA.o.mono hsr));have Ki:=H_ (λ(w2:World) (hS:Below W3.heap.size W3 w2)=>show w2.rangeAt b2 (o2+k*7) [i1,i2]from λj v hj=>gC dt (Fr.ofBelow (ak9.o.trans (hS.mono ak9.o.size))) j v (by
    rcases j with _|_|j
    ·exact hj
    ·exact hj
    ·simp at hj))
   have HRX:=H_ (λ(w2:World) (hS:Below W3.heap.size W3 w2)=>show w2.rangeAt wr.heap.size 0 [i1,i2]from ag3 ((hS.block _ (ag TQ.o)).trans TQ.o) 0 _ (λj v hj=>by
    rw[Nat.zero_add];rcases j with _|_|j
    ·exact hj
    ·exact hj
    ·simp at hj))
   have dK:=H_ (λ(w2:World) (hS:Below W3.heap.size W3 w2)=>show w2.cell? ⟨b2,o2+k*7+6,none⟩=some (.int .i64 j7)from(dt.fr (Fr.ofBelow (ak9.o.trans (hS.mono ak9.o.size)))).c (j:=6) rfl);obtain⟨S1,xl⟩:∃S,f9 (L.take k)=S:=⟨_,rfl⟩;obtain⟨T1,hT1⟩:∃S,f9 (B.take k)=S:=⟨_,rfl⟩;obtain⟨S3,F9⟩:∃S,f9 (L.take (k+1))=S:=⟨_,rfl⟩;obtain⟨T3,hT3⟩:∃S,f9 (B.take (k+1))=S:=⟨_,rfl⟩;rw[xl,F9]at IV;rw[hT1,hT3]at Bi;rw[xl]at zD;rw[hT1]at dA;rw[F9]at alI;rw[hT3]at al5;have hbj: -1000000000000<=i7/\i7<=1000000000000:=m4;rw[xl,hT1];have CB:=H_ (show f9 (L.take (k+1))=S3/\f9 (B.take (k+1))=T3 from⟨F9,hT3⟩);have amv:IntKind.i64.wrap (T1- S1- i7)=T1- S1- i7:=by rw[IntKind.wrap_i64];omega
   have amy:=H_ (show IntKind.i64.wrap (T1- S1- i7+j7)=T3- S3 by rw[IntKind.wrap_i64];omega);have HKM:=H_ (show decide ((k:Int)< (m:Int))=true from decide_eq_true (by omega));have HKL:=H_ (show(k:Int)< (m:Int) by omega);have amK:(k:Int)< (m:Int):=by omega
   have QV:=H_ (show IntKind.i64.wrap ((k:Int)+1)=(k:Int)+1 by rw[IntKind.wrap_i64];omega);have hz: -(S1- S1)=(0:Int):=by omega
   rw[hz];clear hx1 qi Fq m4 xl F9 hT1 hT3 IV Bi zD alI hbk dA al5 Dm Iv gm agv dt hQ2 hy hbj hkB hz;go_upto_region 19 with fail;refine bk (Ks W3 [(k:Int),.val (.slice (some ⟨b2,o2,none⟩) m cB),(m:Int),true,true,.val (.slice (some ⟨b2,o2,none⟩) m cB),(k:Int),.val (.pointer (some ⟨b2,o2+k*7,none⟩)),.val (.pointer (some ⟨b2,o2+k*7,none⟩)),.val (.agg #[i1,i2]),.val (.pointer (some ⟨wr.heap.size,0,none⟩)),.val (.agg #[i1,i2]),true,true])
    (λw'=>Below W3.heap.size W3 w') K_ K_ K_ (Below.refl _ _).drew ?_ ?_
   ·refine⟨b_ (q_ 14),b_ (q_ 10),b_ (p_ 1 73),?_,b_ (p_ 3 75),f_ (q_ 10),f_ (q_ 14),g_ (p_ 5 77) (p_ 6 78),f_ (p_ 7 79),?_,f_ (q_ 16),?_,g_ (p_ 9 81) (p_ 11 83),c_ (p_ 4 76) (p_ 12 84),trivial⟩
    ·intro _ A0 w2 hI hd hnd K hK;have e0:=hI.p hd 0 72;have e1:=hI.p hd 2 74;have hS:=hI.world;have yW:=HKM.o;exact hI.z hK
    ·refine P1_ (p_ 8 80) λA0 w2 K e0 hS hK=>?_;have aJ:w2.rangeAt b2 (o2+k*7) [i1,i2]:=Ki.o _ hS;have aI:=Eg;refine wp_load_mid 38 (.tmp 80) rfl _ _ (v_ e0) _ _ aJ Tryz.underlying38 rfl aI ?_;exact kq hK hS rfl
    ·refine P1_ (p_ 10 82) λA0 w2 K e0 hS hK=>?_;have aJ:w2.rangeAt wr.heap.size 0 [i1,i2]:=HRX.o _ hS;have aI:=Eg;refine wp_load_mid 38 (.tmp 82) rfl _ _ (v_ e0) _ _ aJ Tryz.underlying38 rfl aI ?_;exact kq hK hS rfl
   ·intro _ A0 w2 hI hall;have hS:=hI.world;have c9:=hI.ch hall [72,73,74,75,76,77,78,79,80,81,82,83,84,85];obtain⟨x0,x1,x2,x3,x4,x5,x6,x7,x8,x9,dN,ef,fh,gU,hA,hV⟩:=c9;obtain rfl:gU=.bool true:=hV 13 _ _ rfl _ rfl;clear hV hI hall;simp only[ba,List.foldl,List.setIfInBounds_toArray,List.set_cons_zero,List.set_cons_succ]at hA;rw[hA];clear hA;have c6:=dK.o _ hS;have HBN:=t_ ak9 hS;have amJ:=amy.o;clear hS amv;go_wp2_with fail;go_roundw
    case rel=>exact⟨k+1,k+1,by omega,λ_=>rfl,λh=>by omega,by go_num,by go_num,by rw[CB.o.1,CB.o.2],by rw[CB.o.1];simp,HBN.o⟩
    case measure=>first|exact aQ aU|(simp only[intOf];omega)
theorem ey:(Tryz.prog.info? 91).map (·.size)=some 4:=by kernel_rfl
theorem vm {l:List bW} {A:Option Addr} {n c:Nat} {w:World} (hl:ItV w (·<w.heap.size) (.slice A n c) l) (hn:l.length=n) (hs:aks l):∀w2,Below w.heap.size w w2->Calls Tryz.prog 73 #[.slice A n c] w2 (ap w2 (.int .i64 (-f9 l))):=λw2 hb=>by
 subst hn;exact amP l A c w2 (hl.keep hb) hs
theorem amS (b:XBk) (bl gl tl:List Value) (Ae Ar:Option Addr) (ce cr:Nat) (ent p:Int) (w:World) (hk:BkC w (·<w.heap.size) bl b gl Ae ce Ar cr tl) (ci:okB b) (lX:cx p) (Od:pI b):Calls Tryz.prog 40 #[.agg bl.toArray,ent,p] w (ap w (.tuple #[.agg (exC (akh b ent p).1).toArray,.int .i64 (akh b ent p).2])):=by
 have HIT:=H_ (λ(w2:World) (hb:Below w.heap.size w w2)=>Hy b bl gl tl Ae Ar ce cr ent p w2 (hk.keep hb) ci lX);have alF:=H_ (λ(hp:0<p) (w2:World) (hb:Below w.heap.size w w2)=>Hy b bl gl tl Ae Ar ce cr ent (p- 1) w2 (hk.keep hb) ci (by unfold cx at lX |-;omega));have kY:=H_ (show bl.toArray.size=27 by have:=hk.len;simpa using this);have KY:=λ(i:Nat) (hi:i<21)=>(show bl.toArray[i]? =gl.toArray[i]? by rw[List.getElem?_toArray,List.getElem?_toArray];exact hk.at_g hi)
 obtain⟨h0,h1,h2,h3,_⟩:=hk.g.cellsA;have jG:=H_ ((KY 1 (by omega)).trans h1);have jv:=H_ ((KY 2 (by omega)).trans h2);have kB:=H_ ((KY 3 (by omega)).trans h3);have VC:=H_ (te Od ent p);have al2:=H_ (te Od ent (p- 1));have alY:=H_ (λ(h:(pQ b ent p).2=0) (w2:World)=>show Calls Tryz.prog 64 #[.agg #[b.g.calendar.year,b.g.calendar.month,b.g.calendar.periods],p] w2 (ap w2 (.tuple #[(lJ b.g p),()])) by
  obtain⟨eU,_,iA⟩:=vN (rl h).1;have h:=ju b.g.calendar.year b.g.calendar.month b.g.calendar.periods p w2
  rwa[show(aX b.g.calendar.year b.g.calendar.month b.g.calendar.periods p).2=0 from alC eU.1 iA]at h)
 have Yf:=H_ lX;have amk:=H_ (λ(h:(pQ b ent p).2=0)=>(vN (rl h).1).2.2);obtain⟨R,hR⟩:=x_ (akh b ent p);rw[hR];have hRE:=hR;unfold akh at hRE;unfold rX at HIT alF;obtain⟨L,le,hL⟩:∃L le,pQ b ent p=(L,le):=⟨_,_,rfl⟩;simp only[hL]at HIT VC alY amk hRE;obtain⟨B0,be,hB⟩:∃B be,pQ b ent (p- 1)=(B,be):=⟨_,_,rfl⟩;simp only[hB]at alF al2 hRE;have alZ:=H_ (λ(B:List bW) (h:le=0) hBB=>akR hL hB (B:=B) h hBB);obtain⟨fd,hfd⟩:∃x,lJ b.g p=x:=⟨_,rfl⟩;rw[hfd]at alZ alY;have yP:=H_ hRE;obtain⟨q,hq⟩:=x_ (L.length);rw[hq]at HIT;have HQ:=H_ hq;clear hk ci lX Od KY h0 h1 h2 h3 hR hRE hL hB hfd hq;go_enter Tryz.func40,Tryz.ntmps40;go_upto_region 1 with fail;obtain⟨W1,cS,H1,bC,dr,ewx⟩:=B_ w (.cells bl.toArray 36);rw[cS];clear ewx;have yN:=H_ (show W1.heap.size=w.heap.size+1 by rw[<-cS];simp);clear cS;obtain⟨W2,fR,H2,dz,jK,ewx⟩:=B_ W1 (.cells #[(),(),(),()] 91);rw[fR];clear ewx;clear fR;have Vr:=H_ (bC.trans (dz.mono bC.size));have rP:=H_ ((dz.block _ dr).trans H1);have qN:=H_ (show W2.heap[w.heap.size+1]? =some (.cells #[(),(),(),()] 91 (0,0)) by rw[<-yN.o];exact H2);clear H1 H2 bC dz dr jK;go_wp2_with (refine W_ 16 36 3 (w.heap.size) rP.o (by rw[bF];exact congrArg some kY.o.symm) Tryz.underlying36 ?_);refine(HIT.o W2 Vr.o).mono ?_;rintro e w3 ⟨A3,c3,rfl,za,aZ⟩;have Bw:=H_ za;have NO:=t_ Vr aZ;have iY:=k_ aZ rP;have l7:=k_ aZ qN;clear aZ za;by_cases h0:le=0
 case neg=>
  have h0b:(le !=0)=true:=by simpa using h0
  have hf:=H_ (show R=(([0,0,0,0]:List Int),le) by rw[<-yP.o,if_pos h0]);clear h0;go_wp2_with (show wpList _ _ _ (Oper.mk none (Op.store _ (Operand.tmp 6) _) _ _ _ _::_) _ _;go_loud (refine wpList_store_row rfl 91 (.tmp 6) (.tmp 24) rfl (w.heap.size+1) #[(),(),(),()] rfl rfl 91 #[(),(),(),()] l7.o ey rfl (by simp[Value.oneCell']) ?_));refine bodyPost_ret (v:=.tuple #[.agg #[(),(),(),()],le]) (aA rfl _ _ (w.heap.size+1) 91 #[(),(),(),()] (0,0) _ rfl (aB l7.o _) Tryz.underlying91 rfl ey _ rfl) rfl ?_;exact⟨by rw[hf.o];rfl,aD NO.o (by omega) _⟩
 case pos=>
 subst h0;have ny:=H_ (alY.o rfl);have HPK:=H_ (amk.o rfl);have hre:=yP.o;rw[if_neg (by simp)]at hre;have h0p:=HPK.o.1;have sU:=H_ hre;clear hre yP
 go_upto_if 27 with fail
 go_cut [9,10]from 27 to 39 (λv9 v10 wx=>∃(AB:Option Addr) (m cB:Nat) (B:List bW),v10=.slice AB m cB/\ItV wx (·<wx.heap.size) (.slice AB m cB) B/\B.length=m/\aks B/\((p=0/\B=[])\/(1<=p/\(B0,be)=(B,0)))/\R=akn B L/\Below w3.heap.size w3 wx)
 case first=>
  by_cases hp:0<p
  case neg=>
   have hpz:p=0:=by have:=HPK.o.1;omega
   have HRN:=H_ (show R=akn [] L by
    have h:=sU.o;rw[if_neg (λh=>hp h.1),if_neg hp]at h;exact h.symm)
   have HPZ:=H_ hpz;clear hpz h0p;go_wp2_with fail;go_meet;exact⟨none,0,0,[],rfl,sr _ _ _ _,rfl,⟨λx h=>(by cases h),by simp⟩,.inl ⟨HPZ.o,rfl⟩,HRN.o,Below.refl _ _⟩
  case pos=>
   have hwp:IntKind.i64.wrap (p- 1)=p- 1:=by rw[IntKind.wrap_i64];have:=HPK.o;have:=Yf.o;unfold cx at*;omega
   have HPP:=H_ hp;clear h0p;go_wp2_with (refine W_ 29 36 3 (w.heap.size) iY.o (by rw[bF];exact congrArg some kY.o.symm) Tryz.underlying36 ?_);refine(alF.o HPP.o w3 NO.o).mono ?_;rintro e w4 ⟨A4,c4,rfl,Fg,bU⟩;have Z5:=H_ Fg;have zn:=t_ NO bU;have i9:=k_ bU iY;have kX:=k_ bU l7;have gw:=H_ bU;clear bU Fg;by_cases h1:be=0
   case neg=>
    have h1b:(be !=0)=true:=by simpa using h1
    have hf:=H_ (show R=(([0,0,0,0]:List Int),be) by rw[<-sU.o,if_pos ⟨HPP.o,h1⟩]);clear h1;go_wp2_with (show wpList _ _ _ (Oper.mk none (Op.store _ (Operand.tmp 6) _) _ _ _ _::_) _ _;go_loud (refine wpList_store_row rfl 91 (.tmp 6) (.tmp 38) rfl (w.heap.size+1) #[(),(),(),()] rfl rfl 91 #[(),(),(),()] kX.o ey rfl (by simp[Value.oneCell']) ?_));refine bodyPost_ret (v:=.tuple #[.agg #[(),(),(),()],be]) (aA rfl _ _ (w.heap.size+1) 91 #[(),(),(),()] (0,0) _ rfl (aB kX.o _) Tryz.underlying91 rfl ey _ rfl) rfl ?_;exact⟨by rw[hf.o];rfl,aD zn.o (by omega) _⟩
   case pos=>
    subst h1;have HRN:=H_ (show R=akn B0 L by
     have h:=sU.o;rw[if_neg (λh=>h.2 rfl),if_pos HPP.o]at h;exact h.symm)
    go_wp2_with fail;go_meet;exact⟨A4,_,c4,B0,rfl,Z5.o,rfl,al2.o,.inr ⟨by have:=HPP.o;omega,rfl⟩,HRN.o,gw.o⟩
 case rest=>
 obtain⟨AB,m,cB,B,rfl,gm,hm,Bi,hBB,hre,Vs⟩:=hcut;have HM:=H_ hm;have Dd:=H_ Bi;have jD:=H_ gm;have Kq:=H_ hre;obtain⟨s1,s2,s3⟩:=alZ.o B (by trivial) hBB;have HSP:=H_ (And.intro s2 s3);have HMQ:=H_ (show m<=q by rw[<-HM.o,<-HQ.o];exact s1);have Bw:=H_ (Bw.o.keep Vs);have HWc:=t_ NO Vs;have ajR:=k_ Vs iY;have HZc:=k_ Vs l7;clear hm Bi gm hre s1 s2 s3 hBB Vs sU alF al2 alZ h0p;have lT:=H_ (dg ajR.o jG.o jv.o kB.o);go_wp2_with (refine w_ 43 23 42 w.heap.size (1) _ lT.o bV Tryz.underlying23 ?_);refine(ny.o wc).mono ?_;rintro e w8 ⟨rfl,jX⟩;have al4:=H_ (jD.o.keep jX);have amh:=H_ (Bw.o.keep jX);have HW8:=t_ HWc jX;have NJ:=k_ jX ajR;have Nv:=k_ jX HZc;clear jX;have amW:=H_ (vm al4.o HM.o Dd.o);have amX:=H_ (vm amh.o HQ.o VC.o);obtain⟨s3,lE⟩:∃s,-f9 B=s:=⟨_,rfl⟩;obtain⟨s4,yJ⟩:∃s,-f9 L=s:=⟨_,rfl⟩;rw[lE]at amW;rw[yJ]at amX;have amZ:=H_ (And.intro lE yJ);clear lE yJ;go_wp2_with fail;refine(amW.o w8 (Below.refl _ _)).mono ?_;rintro e w9 ⟨rfl,kT⟩;have aak:=H_ kT;have HW9:=t_ HW8 kT;have ad2:=k_ kT NJ;have HZ9:=k_ kT Nv;clear kT;go_wp2_with fail;refine(amX.o w9 aak.o).mono ?_;rintro e nd ⟨rfl,abV⟩;have am0:=t_ aak abV;have ahj:=t_ HW9 abV;have ag5:=k_ abV ad2;have amm:=k_ abV HZ9;clear abV;have amY:=H_ (al4.o.keep am0.o);have amV:=H_ (amh.o.keep am0.o);go_wp2_with (show wpList _ _ _ (Oper.mk none (Op.store _ (Operand.tmp 13) _) _ _ _ _::_) _ _;refine aO rfl 91 (.tmp 13) (.tmp 52) rfl rfl nd #[(),(),(),()] 91 #[s3,(),(),s4] rfl rfl rfl ey rfl (by simp[Value.oneCell']) ?_;intro W3 H3 eA rE);have yO:=H_ H3;have tN:=H_ eA;clear H3 eA rE
 go_loopw [14] (λvi wr=>∃i k:Nat,i<=q/\(i<=m->k=i)/\(m<=i->k=m)/\vi=.int .i64 (i:Int)/\wr.heap[nd.heap.size]? =some (.cells #[s3,(f9 (B.take k) - f9 (L.take k):Int),(-(f9 (L.take i) - f9 (L.take k)):Int),s4] 91 (0,0))/\Below nd.heap.size nd wr) (λi _=>q- (intOf i).toNat)
 case atStart=>exact⟨0,0,by omega,λ_=>rfl,λh=>by omega,rfl,by rw[yO.o];simp[f9],tN.o⟩
 case round=>
  obtain⟨i,k,hi,Dm,Iv,rfl,hg,hb⟩:=hrel;have zI:=H_ hb;have HGR:=H_ hg;have hsr:=hb.size;clear hb hg;by_cases aU:i<q
  case neg=>
   have bq:¬(i:Int)< (q:Int):=by omega
   have hiq:i=L.length:=by rw[HQ.o];omega
   have yW:k=m:=Iv (by have:=HMQ.o;omega);obtain⟨s1,tC⟩:∃s,f9 (B.take k) - f9 (L.take k)=s:=⟨_,rfl⟩;obtain⟨s2,dW⟩:∃s,-(f9 (L.take i) - f9 (L.take k))=s:=⟨_,rfl⟩;have HV:=H_ (show akn B L=([s3,s1,s2,s4],0) by
    unfold akn;rw[<-tC,<-dW,<-amZ.o.1,<-amZ.o.2,hiq,yW,List.take_length,<-HM.o,List.take_length])
   rw[tC,dW]at HGR;clear Dm Iv hiq yW tC dW;have HWR:=t_ ahj zI.o;have agM:=k_ zI.o ag5;have QW:=k_ zI.o amm;go_wp2_with (first|(refine W_ 90 91 13 (nd.heap.size) HGR.o ey Tryz.underlying91 ?_)|(show wpList _ _ _ (Oper.mk none (Op.store _ (Operand.tmp 6) _) _ _ _ _::_) _ _;go_loud (refine wpList_store_row rfl 91 (.tmp 6) (.tmp 90) rfl (w.heap.size+1) #[s3,s1,s2,s4] rfl rfl 91 #[(),(),(),()] QW.o ey rfl (by simp[Value.oneCell']) ?_)));refine bodyPost_ret (v:=.tuple #[.agg #[s3,s1,s2,s4],()]) (aA rfl _ _ (w.heap.size+1) 91 #[s3,s1,s2,s4] (0,0) _ rfl (aB QW.o _) Tryz.underlying91 rfl ey _ rfl) rfl ?_;exact⟨by rw[Kq.o,HV.o];rfl,aD HWR.o (by omega) _⟩
  case pos=>
  have bq:(i:Int)< (q:Int):=by omega
  have hiL:i<L.length:=by rw[HQ.o];exact aU
  have TM:=amV.o;obtain⟨b1,o1,VD,YU,hQ1,aaH,yT⟩:=aj.get TM i hiL;rw[GI aaH]at yT;have IV:=ake hiL;obtain⟨hx1,qi⟩:(∀h:i<B.length,L[i].date<fd/\L[i].ref=B[i].ref)/\(B.length<=i->fd<=L[i].date):=⟨λh=>HSP.o.1 i h hiL,λh=>HSP.o.2 i hiL h⟩;have zD:=KG VC.o i (by omega);have alI:=KG VC.o (i+1) (by omega);have hbk:=KG VC.o k (by have:=HMQ.o;have:=HQ.o;omega);have dA:=KG Dd.o k (by have:=HM.o;omega);have m4:=VC.o.1 _ (List.getElem_mem hiL);have hq6:L.length<=1000000:=VC.o.2;have hm6:B.length<=1000000:=Dd.o.2;obtain⟨x,hx⟩:=x_ (L[i]);rw[hx]at yT IV hx1 qi m4;subst YU;obtain⟨⟨i1,i2⟩,i3,i4,i5,i6,i7⟩:=x;simp only at IV qi m4;have amT:=yT.fr (Fr.ofBelow zI.o);have c5:=amT.c (j:=5) rfl;have C6:=H_ (amT.c (j:=6) rfl);clear TM aaH yT hQ1 hx amT;by_cases sO:i<m
  case neg=>
   have yW:k=m:=Iv (by omega);have Fs:fd<=i6:=qi (by rw[HM.o];omega);have amA:decide (i6≥fd)=true:=decide_eq_true Fs;obtain⟨S1,xl⟩:∃S,f9 (L.take i)=S:=⟨_,rfl⟩;obtain⟨S2,hS2⟩:∃S,f9 (L.take k)=S:=⟨_,rfl⟩;obtain⟨S3,F9⟩:∃S,f9 (L.take (i+1))=S:=⟨_,rfl⟩;obtain⟨S0,hS0⟩:∃S,f9 (B.take k) - S2=S:=⟨_,rfl⟩;rw[xl,F9]at IV;rw[xl]at zD;rw[hS2]at hbk;rw[F9]at alI;rw[xl,hS2,hS0]at HGR;have CB:=H_ (show f9 (L.take k)=S2/\f9 (L.take (i+1))=S3/\f9 (B.take k) - S2=S0 from⟨hS2,F9,hS0⟩);have HWR:=H_ (show IntKind.i64.wrap (-(S1- S2) - i7)= -(S3- S2) by rw[IntKind.wrap_i64];omega);have HKK:=H_ yW;have C2:=H_ (ab HGR.o 2);have d2:wr.drew.cell? ⟨nd.heap.size,2,none⟩=some (.int .i64 (-(S1- S2))):=ab HGR.o 2;have z2:wr.drew.frozen? ⟨nd.heap.size,2,none⟩=false:=bB HGR.o 2;clear hx1 qi Fs m4 xl hS2 F9 hS0 IV zD alI hbk dA Dm Iv;clear yW;go_upto_region 15 with fail;refine dC 9 (Ks wr [.val (.pointer (some ⟨nd.heap.size,2,none⟩)),(-(S1- S2):Int),.val (.slice (some ⟨b1,o1,none⟩) q c3),(i:Int),.val (.pointer (some ⟨b1,o1+i*7,none⟩)),.val (.pointer (some ⟨b1,o1+i*7+6,none⟩)),i7,(-(S3- S2):Int),.val (.pointer (some ⟨nd.heap.size,2,none⟩))])
    (λw'=>w'=wr.drew) K_ K_ K_ (by decide) K_ K_ K_ rfl ?_ ?_
   ·refine⟨b_ (q_ 13),?_,b_ (q_ 8),b_ (q_ 14),c_ (p_ 2 68) (p_ 3 69),b_ (p_ 4 70),?_,?_,b_ (q_ 13),trivial⟩
    ·intro _ A0 w2 hI hd hnd K hK;have e0:=hI.p hd 0 66;have hS:=H_ (show w2=wr.drew from hI.world);have cI:w2.cell? ⟨nd.heap.size,2,none⟩=some (.int .i64 (-(S1- S2))):=by rw[hS.o];exact C2.o
     exact hI.z hK
    ·intro _ A0 w2 hI hd hnd K hK;have e0:=hI.p hd 5 71;have hS:=H_ (show w2=wr.drew from hI.world);have cI:w2.cell? ⟨b1,o1+i*7+6,none⟩=some (.int .i64 i7):=by rw[hS.o];exact C6.o
     exact hI.z hK
    ·intro _ A0 w2 hI hd hnd K hK;have e0:=hI.p hd 1 67;have e1:=hI.p hd 6 72;have hS:=H_ (show w2=wr.drew from hI.world);have hw:=HWR.o;exact hI.z hK
   ·intro A0 w2 hI;obtain⟨x0,g0,h0⟩:=hI.got 0 _ 66 rfl rfl rfl;obtain⟨x1,g1,h1⟩:=hI.got 1 _ 67 rfl rfl rfl;obtain⟨x2,g2,h2⟩:=hI.got 2 _ 68 rfl rfl rfl;obtain⟨x3,g3,h3⟩:=hI.got 3 _ 69 rfl rfl rfl;obtain⟨x4,g4,h4⟩:=hI.got 4 _ 70 rfl rfl rfl;obtain⟨x5,g5,h5⟩:=hI.got 5 _ 71 rfl rfl rfl;obtain⟨x6,g6,h6⟩:=hI.got 6 _ 72 rfl rfl rfl;obtain⟨x7,g7,h7⟩:=hI.got 7 _ 73 rfl rfl rfl;obtain⟨x8,g8,h8⟩:=hI.got 8 _ 74 rfl rfl rfl;obtain rfl:w2=wr.drew:=hI.world;have hA:A0=_:=hI.tmps [(66,x0),(67,x1),(68,x2),(69,x3),(70,x4),(71,x5),(72,x6),(73,x7),(74,x8)] (by simp only[List.mem_cons,List.not_mem_nil,or_false,forall_eq_or_imp,forall_eq];exact⟨g0,g1,g2,g3,g4,g5,g6,g7,g8⟩) K_;obtain rfl:x7=.int .i64 (-(S3- S2)):=h7 _ rfl;obtain rfl:x8=.pointer (some ⟨nd.heap.size,2,none⟩):=h8 _ rfl;clear h0 g0 h1 g1 h2 g2 h3 g3 h4 g4 h5 g5 h6 g6 h7 g7 h8 g8 hI;simp only[ba,List.foldl,List.setIfInBounds_toArray,List.set_cons_zero,List.set_cons_succ]at hA;rw[hA];clear hA;simp only[List.drop_succ_cons,List.drop_zero];go_wp2_with fail;go_roundw
    case rel=>exact⟨i+1,k,by omega,λh=>by omega,λ_=>HKK.o,by go_num,by rw[CB.o.1,CB.o.2.1,CB.o.2.2];exact aG HGR.o 2 _,(((Fr.ofBelow zI.o).setCell (p:=⟨nd.heap.size,2,none⟩) (λh=>Nat.lt_irrefl _ h) _).below).drew⟩
    case measure=>first|exact aQ aU|(simp only[intOf];omega)
  case pos=>
   have hki:k=i:=Dm (by omega);subst hki;have hkB:k<B.length:=by rw[HM.o];exact sO
   obtain⟨Fq,Re⟩:=hx1 hkB;have Fq:i6<fd:=Fq;have amA:decide (i6≥fd)=false:=decide_eq_false (by omega);have Bi:=ake hkB;have al5:=KG Dd.o (k+1) (by omega);have hbj:=Dd.o.1 _ (List.getElem_mem hkB);have gm:=amY.o;obtain⟨b2,o2,cs2,hA2,hQ2,agv,dt⟩:=aj.get gm k hkB;rw[GI agv]at dt;obtain⟨y,hy⟩:=x_ (B[k]);rw[hy]at dt Bi Re hbj;obtain⟨⟨j1,j2⟩,j3,j4,j5,j6,j7⟩:=y;simp only[DC.mk.injEq]at Bi Re hbj;subst hA2;have D6:=H_ ((dt.fr (Fr.ofBelow zI.o)).c (j:=6) rfl);obtain⟨S1,xl⟩:∃S,f9 (L.take k)=S:=⟨_,rfl⟩;obtain⟨T1,hT1⟩:∃S,f9 (B.take k)=S:=⟨_,rfl⟩;obtain⟨S3,F9⟩:∃S,f9 (L.take (k+1))=S:=⟨_,rfl⟩;obtain⟨T3,hT3⟩:∃S,f9 (B.take (k+1))=S:=⟨_,rfl⟩;rw[xl,F9]at IV;rw[hT1,hT3]at Bi;rw[xl]at zD;rw[hT1]at dA;rw[F9]at alI;rw[hT3]at al5;have hz: -(S1- S1)=(0:Int):=by omega
   rw[xl,hT1,hz]at HGR;have CB:=H_ (show f9 (L.take (k+1))=S3/\f9 (B.take (k+1))=T3 from⟨F9,hT3⟩);have am1:=H_ (show IntKind.i64.wrap (i7- j7)=i7- j7 by rw[IntKind.wrap_i64];omega);have amy:=H_ (show IntKind.i64.wrap (T1- S1- (i7- j7))=T3- S3 by rw[IntKind.wrap_i64];omega);have am2:(k:Int)< (m:Int):=by omega
   have C1:=H_ (ab HGR.o 1);have d1:wr.drew.cell? ⟨nd.heap.size,1,none⟩=some (.int .i64 (T1- S1)):=ab HGR.o 1;have z1:wr.drew.frozen? ⟨nd.heap.size,1,none⟩=false:=bB HGR.o 1;clear hx1 qi Fq Re m4 hbj xl F9 hT1 hT3 IV Bi zD alI hbk dA al5 Dm Iv gm agv dt hQ2 hy hkB hz;go_upto_region 16 with fail;refine dC 15 (Ks wr [.val (.pointer (some ⟨nd.heap.size,1,none⟩)),(T1- S1:Int),.val (.slice (some ⟨b1,o1,none⟩) q c3),(k:Int),.val (.pointer (some ⟨b1,o1+k*7,none⟩)),.val (.pointer (some ⟨b1,o1+k*7+6,none⟩)),i7,.val (.slice (some ⟨b2,o2,none⟩) m cB),(k:Int),.val (.pointer (some ⟨b2,o2+k*7,none⟩)),.val (.pointer (some ⟨b2,o2+k*7+6,none⟩)),j7,(i7- j7:Int),(T3- S3:Int),.val (.pointer (some ⟨nd.heap.size,1,none⟩))])
    (λw'=>w'=wr.drew) K_ K_ K_ (by decide) K_ K_ K_ rfl ?_ ?_
   ·refine⟨b_ (q_ 13),?_,b_ (q_ 8),b_ (q_ 14),c_ (p_ 2 77) (p_ 3 78),b_ (p_ 4 79),?_,b_ (q_ 10),b_ (q_ 14),c_ (p_ 7 82) (p_ 8 83),b_ (p_ 9 84),?_,?_,?_,b_ (q_ 13),trivial⟩
    ·intro _ A0 w2 hI hd hnd K hK;have e0:=hI.p hd 0 75;have hS:=H_ (show w2=wr.drew from hI.world);have cI:w2.cell? ⟨nd.heap.size,1,none⟩=some (.int .i64 (T1- S1)):=by rw[hS.o];exact C1.o
     exact hI.z hK
    ·intro _ A0 w2 hI hd hnd K hK;have e0:=hI.p hd 5 80;have hS:=H_ (show w2=wr.drew from hI.world);have cI:w2.cell? ⟨b1,o1+k*7+6,none⟩=some (.int .i64 i7):=by rw[hS.o];exact C6.o
     exact hI.z hK
    ·intro _ A0 w2 hI hd hnd K hK;have e0:=hI.p hd 10 85;have hS:=H_ (show w2=wr.drew from hI.world);have cI:w2.cell? ⟨b2,o2+k*7+6,none⟩=some (.int .i64 j7):=by rw[hS.o];exact D6.o
     exact hI.z hK
    ·intro _ A0 w2 hI hd hnd K hK;have e0:=hI.p hd 6 81;have e1:=hI.p hd 11 86;have hS:=H_ (show w2=wr.drew from hI.world);have hw:=am1.o;exact hI.z hK
    ·intro _ A0 w2 hI hd hnd K hK;have e0:=hI.p hd 1 76;have e1:=hI.p hd 12 87;have hS:=H_ (show w2=wr.drew from hI.world);have hw:=amy.o;exact hI.z hK
   ·intro A0 w2 hI;obtain⟨x0,g0,h0⟩:=hI.got 0 _ 75 rfl rfl rfl;obtain⟨x1,g1,h1⟩:=hI.got 1 _ 76 rfl rfl rfl;obtain⟨x2,g2,h2⟩:=hI.got 2 _ 77 rfl rfl rfl;obtain⟨x3,g3,h3⟩:=hI.got 3 _ 78 rfl rfl rfl;obtain⟨x4,g4,h4⟩:=hI.got 4 _ 79 rfl rfl rfl;obtain⟨x5,g5,h5⟩:=hI.got 5 _ 80 rfl rfl rfl;obtain⟨x6,g6,h6⟩:=hI.got 6 _ 81 rfl rfl rfl;obtain⟨x7,g7,h7⟩:=hI.got 7 _ 82 rfl rfl rfl;obtain⟨x8,g8,h8⟩:=hI.got 8 _ 83 rfl rfl rfl;obtain⟨x9,g9,h9⟩:=hI.got 9 _ 84 rfl rfl rfl;obtain⟨dN,cR,dl⟩:=hI.got 10 _ 85 rfl rfl rfl;obtain⟨ef,dm,dx⟩:=hI.got 11 _ 86 rfl rfl rfl;obtain⟨fh,dR,et⟩:=hI.got 12 _ 87 rfl rfl rfl;obtain⟨gU,eK,fA⟩:=hI.got 13 _ 88 rfl rfl rfl;obtain⟨LR,fX,gQ⟩:=hI.got 14 _ 89 rfl rfl rfl;obtain rfl:w2=wr.drew:=hI.world;have hA:A0=_:=hI.tmps [(75,x0),(76,x1),(77,x2),(78,x3),(79,x4),(80,x5),(81,x6),(82,x7),(83,x8),(84,x9),(85,dN),(86,ef),(87,fh),(88,gU),(89,LR)] (by simp only[List.mem_cons,List.not_mem_nil,or_false,forall_eq_or_imp,forall_eq];exact⟨g0,g1,g2,g3,g4,g5,g6,g7,g8,g9,cR,dm,dR,eK,fX⟩) K_;obtain rfl:gU=.int .i64 (T3- S3):=fA _ rfl;obtain rfl:LR=.pointer (some ⟨nd.heap.size,1,none⟩):=gQ _ rfl;clear h0 g0 h1 g1 h2 g2 h3 g3 h4 g4 h5 g5 h6 g6 h7 g7 h8 g8 h9 g9 dl cR dx dm et dR fA eK gQ fX hI;simp only[ba,List.foldl,List.setIfInBounds_toArray,List.set_cons_zero,List.set_cons_succ]at hA;rw[hA];clear hA;simp only[List.drop_succ_cons,List.drop_zero];go_wp2_with fail;go_roundw
    case rel=>exact⟨k+1,k+1,by omega,λ_=>rfl,λh=>by omega,by go_num,by rw[CB.o.1,CB.o.2,show -(S3- S3)=(0:Int) by omega];exact aG HGR.o 1 _,(((Fr.ofBelow zI.o).setCell (p:=⟨nd.heap.size,1,none⟩) (λh=>Nat.lt_irrefl _ h) _).below).drew⟩
    case measure=>first|exact aQ aU|(simp only[intOf];omega)
theorem akD (b:XBk) (ent p:Int):∃x0 x1 x2 x3 c,akh b ent p=([x0,x1,x2,x3],c):=by
 unfold akh akn;split
 ·exact⟨_,_,_,_,_,rfl⟩
 ·split
  ·exact⟨_,_,_,_,_,rfl⟩
  ·exact⟨_,_,_,_,_,rfl⟩
theorem amR {l:List bW} (h:aks l) (k:Nat): -1000000000000000000<=f9 (l.take k)/\f9 (l.take k)<=1000000000000000000:=by
 have h1:=KG h (min k l.length) (by omega);have h2:=h.2;rw[<-List.take_eq_take_min]at h1;omega
theorem amQ {b:XBk} (hf:pI b) {ent p x0 x1 x2 x3 c:Int} (h:akh b ent p=([x0,x1,x2,x3],c)):IntKind.i64.wrap (x0+x1)=x0+x1/\IntKind.i64.wrap (x0+x1+x2)=x3:=by
 have hs:=te hf ent p;unfold akh at h;split at h
 ·simp only[Prod.mk.injEq,List.cons.injEq,and_true]at h;obtain⟨⟨rfl,rfl,rfl,rfl⟩,_⟩:=h;exact⟨rfl,rfl⟩
 ·split at h
  ·simp only[Prod.mk.injEq,List.cons.injEq,and_true]at h;obtain⟨⟨rfl,rfl,rfl,rfl⟩,_⟩:=h;exact⟨rfl,rfl⟩
  ·unfold akn at h;simp only[Prod.mk.injEq,List.cons.injEq,and_true]at h;obtain⟨⟨rfl,rfl,rfl,rfl⟩,_⟩:=h;generalize (if 0<p then(pQ b ent (p- 1)).1 else[])=B;have h1:=amR hs B.length;have h2:=amR hs (pQ b ent p).1.length;rw[List.take_length]at h2;refine⟨?_,?_⟩<;>rw[IntKind.wrap_i64]<;>omega
theorem gO (b:XBk) (bl gl tl:List Value) (Ae Ar:Option Addr) (ce cr:Nat) (ent p:Int) (w:World) (hk:BkC w (·<w.heap.size) bl b gl Ae ce Ar cr tl) (bP:Fb b) (lX:cx p):Calls Tryz.prog 14 #[.agg bl.toArray,ent,p] w (ap w (.bool true)):=by
 have CZ:=H_ (λ(w2:World) (hb:Below w.heap.size w w2)=>BQ b bl gl tl Ae Ar ce cr w2 (hk.keep hb) bP.1 bP.2.1);have kY:=H_ (show bl.toArray.size=27 by have:=hk.len;simpa using this);have HK:=H_ hk;have N2:=H_ bP;have zU:=H_ (λ(w2:World) (hb:Below w.heap.size w w2) (hf:pI b)=>ak8 b bl gl tl Ae Ar ce cr ent p w2 (hk.keep hb) (j9 hf bP) lX hf);have sU:=H_ (λ(w2:World) (hb:Below w.heap.size w w2) (hf:pI b)=>amS b bl gl tl Ae Ar ce cr ent p w2 (hk.keep hb) (j9 hf bP) lX hf);obtain⟨x0,x1,x2,x3,ec,hv⟩:=akD b ent p;have HWR:=H_ (λhf:pI b=>amQ hf hv);simp only[hv,exC,List.map_cons,List.map_nil]at zU sU;obtain⟨fw,Od⟩:∃q:Prop,pI b=q:=⟨_,rfl⟩;rw[Od]at CZ;have Og:=H_ Od;clear hk bP Od lX hv;go_enter Tryz.func14,Tryz.ntmps14;go_upto_region 1 with fail;obtain⟨W1,cS,H1,bC,dr,ewx⟩:=B_ w (.cells bl.toArray 36);rw[cS];clear ewx;have yN:=H_ (show W1.heap.size=w.heap.size+1 by rw[<-cS];simp);clear cS;have NV:=H_ bC;have akW:=H_ (show W1.heap[w.heap.size]? =some (.cells bl.toArray 36 (0,0))from H1);clear H1 bC dr;go_wp2_with fail;refine(akI W1).mono ?_;rintro e w3 ⟨rfl,aZ⟩;have Dq:=t_ NV aZ;have sL:=k_ aZ akW;clear aZ akW;have NO:=Dq;have iY:=sL;clear Dq sL;go_wp2_with (refine W_ 13 36 3 (w.heap.size) iY.o (by rw[bF];exact congrArg some kY.o.symm) Tryz.underlying36 ?_);refine(CZ.o w3 NO.o).mono ?_;rintro e w4 ⟨bf,rfl,hf,bU⟩;have zn:=t_ NO bU;have i9:=k_ bU iY;clear bU;cases bf with
 |false=>
  clear hf;go_wp2_with fail;go_ret;exact⟨rfl,zn.o⟩
 |true=>
 have Ov:=H_ (show pI b from Og.o▸hf rfl);have ML:=H_ (j9 Ov.o N2.o);clear hf;go_wp2_with (refine W_ 17 36 3 (w.heap.size) i9.o (by rw[bF];exact congrArg some kY.o.symm) Tryz.underlying36 ?_);refine(zU.o w4 zn.o Ov.o).mono ?_;rintro e w5 ⟨rfl,cP⟩;have QT:=t_ zn cP;have lW:=k_ cP i9;clear cP;go_upto_region 6 with(show wpList _ _ _ (Oper.mk none (Op.store _ (Operand.tmp 7) _) _ _ _ _::_) _ _;refine aO rfl 88 (.tmp 7) (.tmp 21) rfl rfl w5 #[(),(),(),()] 88 #[x0,x1,x2,x3] rfl rfl rfl fm rfl (by simp[Value.oneCell']) ?_;intro W6 H6 dK my)
 have Y9:=H_ H6;have dd:=dK;have TR:=t_ QT dd;have px:=k_ dd lW;clear H6 dK my dd;go_wp2_with (refine W_ 24 36 3 (w.heap.size) px.o (by rw[bF];exact congrArg some kY.o.symm) Tryz.underlying36 ?_);refine(sU.o W6 TR.o Ov.o).mono ?_;rintro e w7 ⟨rfl,fC⟩;have HW7:=t_ TR fC;have pB:=k_ fC px;have XP:=k_ fC Y9;clear fC;go_upto_region 7 with(show wpList _ _ _ (Oper.mk none (Op.store _ (Operand.tmp 9) _) _ _ _ _::_) _ _;refine aO rfl 91 (.tmp 9) (.tmp 28) rfl rfl w7 #[(),(),(),()] 91 #[x0,x1,x2,x3] rfl rfl rfl ey rfl (by simp[Value.oneCell']) ?_;intro W8 H8 o9 XW)
 have HY8:=H_ H8;have HX8:=k_ o9 XP;have HW8:=t_ HW7 o9;obtain⟨ir,Vn⟩:=HWR.o Ov.o;have c0:=ab HX8.o 0;have c1:=ab HX8.o 1;have c2:=ab HX8.o 2;have c3:=ab HX8.o 3;clear H8 o9 XW;go_wp2_with (first|(refine W_ 34 88 7 (w5.heap.size) HX8.o fm Tryz.underlying88 ?_)|(refine W_ 35 91 9 (w7.heap.size) HY8.o ey Tryz.underlying91 ?_));go_ret;exact⟨rfl,HW8.o⟩
end Go.Proofs.YtibiddakakgakaaGreat
