/- Compare of the reference. Written by gen_r8.py. -/
import Derived.Test.YtibiddakakgakaaGreatQbZ0
set_option linter.unusedVariables false
set_option linter.unusedSimpArgs false
set_option maxRecDepth 4000
attribute [local go_sem ↓] Go.wp_at_zero Go.wp_at_succ
set_option maxHeartbeats 16000000
namespace Go.Proofs.YtibiddakakgakaaGreat
open Go Go.RowKit
theorem qf:(Tryz.prog.info? 124).map (·.size)=some 4:=by kernel_rfl
def jk:List Int->List Int->Int
 |a::l,b::m=>if a<b then -1 else if a>b then 1 else jk l m
 |_,_=>0
theorem p9:∀(l m:List Int),l.length=m.length->jk l m=orL (List.zipWith eG l m)
 |[],[],_=>rfl
 |a::l,b::m,h=>by
  unfold jk;rw[List.zipWith_cons_cons];unfold orL;rw[p9 l m (by simpa using h)];unfold eG;by_cases h1:a<b
  ·simp[h1]
  ·by_cases h2:b<a<;>simp[h1,h2]
theorem agA (x y:bW):Ab x y=jk [x.entity,x.date,x.ref.entry,x.ref.line] [y.entity,y.date,y.ref.entry,y.ref.line]:=by
 rw[p9 [x.entity,x.date,x.ref.entry,x.ref.line] [y.entity,y.date,y.ref.entry,y.ref.line] rfl];rfl
theorem yy:∀(l m:List Int) (k:Nat) (hk:k<l.length) (hm:k<m.length),(∀j (h1:j<l.length) (h2:j<m.length),j<k->l[j]=m[j])->(l[k]<m[k]->jk l m= -1)/\(l[k]>m[k]->jk l m=1)
 |a::l,b::m,0,_,_,_=>by
  unfold jk;refine⟨λh=>if_pos h,λh=>?_⟩;have h:b<a:=h;rw[if_neg (by omega),if_pos h]
 |a::l,b::m,k+1,hk,hm,h=>by
  have e:a=b:=h 0 (by simp) (by simp) (by omega);have ih:=yy l m k (by simpa using hk) (by simpa using hm) (λj h1 h2 hj=>h (j+1) (by simpa using h1) (by simpa using h2) (by omega));unfold jk;rw[if_neg (by omega),if_neg (by omega)];exact ih
theorem Aa:∀(l m:List Int),(∀j (h1:j<l.length) (h2:j<m.length),l[j]=m[j])->jk l m=0
 |[],[],_=>rfl
 |[],_::_,_=>rfl
 |_::_,[],_=>rfl
 |a::l,b::m,h=>by
  have e:a=b:=h 0 (by simp) (by simp);unfold jk;rw[if_neg (by omega),if_neg (by omega)];exact Aa l m (λj h1 h2=>h (j+1) (by simpa using h1) (by simpa using h2))
theorem jc (x y:bW) (w:World):Calls Tryz.prog 36 #[.agg (lq x).toArray,.agg (lq y).toArray] w (ap w (.int .i64 (Ab x y))):=by
 rw[agA];obtain⟨⟨p1,p2⟩,p3,p4,p5,p6,p7⟩:=x;obtain⟨⟨q1,q2⟩,q3,q4,q5,q6,q7⟩:=y;show Calls Tryz.prog 36 #[.agg #[p1,p2,p3,p4,p5,p6,p7],.agg #[q1,q2,q3,q4,q5,q6,q7]] w (ap w (.int .i64 (jk [p3,p6,p1,p2] [q3,q6,q1,q2])));obtain⟨P,hP⟩:∃L,[p3,p6,p1,p2]=L:=⟨_,rfl⟩;obtain⟨Q,hQ⟩:∃L,[q3,q6,q1,q2]=L:=⟨_,rfl⟩;have rD:=H_ (λ(W2:World) (g:Nat) (hg:W2.heap[g]? =some (.cells #[p3,p6,p1,p2] 124 (0,0))) (k:Nat) (hk:k<P.length)=>show W2.cell? ⟨g,k,none⟩=some (.int .i64 P[k]) by
  subst hP;rw[ab hg k];rcases k with _|_|_|_|k
  ·rfl
  ·rfl
  ·rfl
  ·rfl
  ·exact absurd hk (by simp))
 have HQC:=H_ (λ(W2:World) (g:Nat) (hg:W2.heap[g]? =some (.cells #[q3,q6,q1,q2] 124 (0,0))) (k:Nat) (hk:k<Q.length)=>show W2.cell? ⟨g,k,none⟩=some (.int .i64 Q[k]) by
  subst hQ;rw[ab hg k];rcases k with _|_|_|_|k
  ·rfl
  ·rfl
  ·rfl
  ·rfl
  ·exact absurd hk (by simp))
 have HLP:=H_ (show P.length=4 by rw[<-hP];rfl);have tU:=H_ (show Q.length=4 by rw[<-hQ];rfl);obtain⟨r,hr⟩:=x_ (jk P Q);rw[hP,hQ,hr];have HR:=H_ hr;clear hr hP hQ;go_enter Tryz.func36,Tryz.ntmps36;go_upto_region 1 with fail;obtain⟨W1,cS,H1,bC,dr,ewx⟩:=B_ w (.cells #[p1,p2,p3,p4,p5,p6,p7] 42);rw[cS];clear ewx;have yN:=H_ (show W1.heap.size=w.heap.size+1 by rw[<-cS];simp);clear cS;obtain⟨W2,fR,H2,dz,jK,ewx⟩:=B_ W1 (.cells #[q1,q2,q3,q4,q5,q6,q7] 42);rw[fR];clear ewx;clear fR;have RJ:=H_ (bC.trans (dz.mono bC.size));have hx:=(dz.block _ dr).trans H1;have HX:=H_ hx;have HY:=H_ (show W2.heap[w.heap.size+1]? =some (.cells #[q1,q2,q3,q4,q5,q6,q7] 42 (0,0)) by rw[<-yN.o];exact H2);have c0:=ab hx 0;have c1:=ab hx 1;have c2:=ab hx 2;have c5:=ab hx 5;clear hx H1 H2 bC dz;go_upto_region 2 with(show wpList _ _ _ (Oper.mk none (Op.store _ (Operand.tmp 5) _) _ _ _ _::_) _ _;refine aO rfl 124 (.tmp 5) (.tmp 18) rfl rfl W2 #[(),(),(),()] 124 #[p3,p6,p1,p2] rfl rfl rfl qf rfl (by simp[Value.oneCell']) ?_;intro W5 H5 nA My)
 have HY5:=k_ nA HY;have d0:=ab HY5.o 0;have d1:=ab HY5.o 1;have d2:=ab HY5.o 2;have d5:=ab HY5.o 5;clear c0 c1 c2 c5;go_upto_region 3 with(show wpList _ _ _ (Oper.mk none (Op.store _ (Operand.tmp 6) _) _ _ _ _::_) _ _;refine aO rfl 124 (.tmp 6) (.tmp 29) rfl rfl W5 #[(),(),(),()] 124 #[q3,q6,q1,q2] rfl rfl rfl qf rfl (by simp[Value.oneCell']) ?_;intro W6 H6 dK my)
 have HA6:=H_ ((dK.block _ (ag H5)).trans H5);have HA7:=H_ H6;have go:=H_ (RJ.o.trans ((nA.trans (dK.mono nA.size)).mono RJ.o.size));clear d0 d1 d2 d5 H5 H6 nA dK My my dr jK;have LA:=H_ (ag HA6.o);have LB:=H_ (ag HA7.o);have HPK:=H_ (λ(wr:World) (hb:Below W6.heap.size W6 wr)=>rD.o wr W2.heap.size ((hb.block _ LA.o).trans HA6.o));have HQK:=H_ (λ(wr:World) (hb:Below W6.heap.size W6 wr)=>HQC.o wr W5.heap.size ((hb.block _ LB.o).trans HA7.o));clear rD HQC;go_wp2_with fail
 go_loopw [7] (λi wr=>∃k:Nat,k<=4/\i=.int .i64 (k:Int)/\Below W6.heap.size W6 wr/\∀j (h1:j<P.length) (h2:j<Q.length),j<k->P[j]=Q[j]) (λi _=>(4- intOf i).toNat)
 case atStart=>exact⟨0,by omega,rfl,Below.refl _ _,λj h1 h2 h=>by omega⟩
 case round=>
  obtain⟨k,hk,rfl,hb,hall⟩:=hrel;have HA:=H_ hall;have HB:=H_ hb;have vt:=t_ go hb;clear hall;by_cases aU:k<4
  case neg=>
   have bq:¬(k:Int)<4:=by omega
   have hf:=H_ (show r=0 by rw[<-HR.o];exact Aa P Q (λj h1 h2=>HA.o j h1 h2 (by have:=HLP.o;omega)));clear hb;go_wp2_with fail;go_ret;exact⟨hf.o.symm▸rfl,vt.o⟩
  case pos=>
  have bq:(k:Int)<4:=by omega
  have hkp:k<P.length:=by rw[HLP.o];exact aU
  have hkq:k<Q.length:=by rw[tU.o];exact aU
  have ca:=HPK.o wr hb k hkp;have cb:=HQK.o wr hb k hkq;have aS:=yy P Q k hkp hkq HA.o;rw[HR.o]at aS;have HN:=H_ (λ(h:P[k]=Q[k])=>(show ∀j (h1:j<P.length) (h2:j<Q.length),j<k+1->P[j]=Q[j]from λj h1 h2 m7=>by
   rcases Nat.lt_or_ge j k with h3|h3
   ·exact HA.o j h1 h2 h3
   ·obtain rfl:j=k:=by omega
    exact h))
  have yM:=H_ aS;clear aS hb;generalize P[k]=a at*;generalize Q[k]=b at*;by_cases h1:a<b
  case pos=>
   have hd:decide (a<b)=true:=decide_eq_true h1;have hf:=H_ (yM.o.1 h1);clear h1;go_upto_region 6 with fail;go_quiet (fail);go_wp2_with fail;go_ret;exact⟨hf.o.symm▸rfl,((Fr.ofBelow vt.o).drewN _).below⟩
  case neg=>
  have hd:decide (a<b)=false:=decide_eq_false h1;by_cases h2:a>b
  case pos=>
   have Re:decide (a>b)=true:=decide_eq_true h2;have hf:=H_ (yM.o.2 h2);clear h1 h2;go_upto_region 6 with fail;go_quiet (fail);go_upto_region 8 with fail
   go_quiet (fail);go_wp2_with fail;go_ret;exact⟨hf.o.symm▸rfl,(((Fr.ofBelow vt.o).drewN _).drewN _).below⟩
  case neg=>
   have Re:decide (a>b)=false:=decide_eq_false h2;have HE:=H_ (HN.o (by omega));clear h1 h2;go_upto_region 6 with fail;go_quiet (fail);go_upto_region 8 with fail
   go_quiet (fail);go_wp2_with fail;go_roundw
   case rel=>exact⟨k+1,by omega,by go_num,by first|trivial|exact((Fr.ofBelow HB.o).drewN _).below,HE.o⟩
   case measure=>simp only[intOf];omega
end Go.Proofs.YtibiddakakgakaaGreat
