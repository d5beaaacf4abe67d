/- Compare of two items. Written by gen_y14.py. -/
import Derived.Test.YtibiddakakgakaaGreatQbY5Y8
set_option linter.unusedVariables false
set_option linter.unusedSimpArgs false
set_option maxRecDepth 4000
attribute [local go_sem ↓] Go.wp_at_zero Go.wp_at_succ
set_option maxHeartbeats 16000000
namespace Go.Proofs.YtibiddakakgakaaGreat
open Go Go.RowKit
def orL:List Int->Int
 |[]=>0
 |a::l=>if a=0 then orL l else a
theorem D6:∀(l:List Int) (k:Nat) (hk:k<l.length),(∀j (hj:j<l.length),j<k->l[j]=0)->l[k]≠0->orL l=l[k]
 |a::l,0,_,_,h2=>by unfold orL;exact if_neg h2
 |a::l,k+1,hk,h1,h2=>by
  unfold orL;rw[if_pos (show a=0 from h1 0 (by simp) (by omega))];exact D6 l k (by simpa using hk) (λj hj m7=>h1 (j+1) (by simpa using hj) (by omega)) h2
theorem A6:∀(l:List Int),(∀j (hj:j<l.length),l[j]=0)->orL l=0
 |[],_=>rfl
 |a::l,h=>by
  unfold orL;rw[if_pos (show a=0 from h 0 (by simp))];exact A6 l (λj hj=>h (j+1) (by simpa using hj))
theorem agN (g:Nat) (a b c d:Int) (T:TypeId) (w:World) (hg:w.heap[g]? =some (.cells #[a,b,c,d] T (0,0))):Calls Tryz.prog 60 #[.slice (some ⟨g,0,none⟩) 4 4] w (λe w'=>e=.returned (.int .i64 (orL [a,b,c,d]))/\w'=w):=by
 obtain⟨L,hL⟩:∃L,[a,b,c,d]=L:=⟨_,rfl⟩;have CP:∀k (hk:k<L.length),w.cell? ⟨g,k,none⟩=some (.int .i64 L[k]):=by
  intro k hk;subst hL;rw[ab hg k];rcases k with _|_|_|_|k
  ·rfl
  ·rfl
  ·rfl
  ·rfl
  ·exact absurd hk (by simp)
 have R0:=H_ (show L.length=4 by rw[<-hL];rfl);obtain⟨r,hr⟩:=x_ (orL L);rw[hL,hr];have HR:=H_ hr;have HC:=H_ CP;clear hr hg CP hL;go_enter Tryz.func60,Tryz.ntmps60;go_wp2_with fail
 go_loopw [8] (λi wr=>∃k:Nat,k<=4/\i=.int .i64 (k:Int)/\wr=w/\∀j (hj:j<L.length),j<k->L[j]=0) (λi _=>(4- intOf i).toNat)
 case atStart=>exact⟨0,by omega,rfl,rfl,λj hj h=>by omega⟩
 case round=>
  obtain⟨k,hk,rfl,rfl,hall⟩:=hrel;have HA:=H_ hall;clear hall;by_cases aU:k<4
  case neg=>
   have bq:¬(k:Int)<4:=by omega
   have hf:=H_ (show r=0 by rw[<-HR.o];exact A6 L (λj hj=>HA.o j hj (by have:=R0.o;omega)));go_wp2_with fail;go_ret;exact⟨hf.o.symm▸rfl,rfl⟩
  case pos=>
  have bq:(k:Int)<4:=by omega
  have bI:k<L.length:=by rw[R0.o];exact aU
  have MA:=HC.o k bI;have HS:=H_ (λ(h:L[k]≠0)=>(show r=L[k] by rw[<-HR.o];exact D6 L k bI HA.o h));have HV:=H_ (λ(h:L[k]=0)=>(show ∀j (hj:j<L.length),j<k+1->L[j]=0 from λj hj m7=>by
   rcases Nat.lt_or_ge j k with h1|h1
   ·exact HA.o j hj h1
   ·obtain rfl:j=k:=by omega
    exact h))
  generalize L[k]=v at*;by_cases hv:v=0
  case pos=>
   have RW:(v !=0)=false:=by simpa using hv
   have HN:=H_ (HV.o hv);clear hv;go_wp2_with fail;go_roundw
   case rel=>exact⟨k+1,by omega,by go_num,by first|trivial|rfl,HN.o⟩
   case measure=>simp only[intOf];omega
  case neg=>
   have RW:(v !=0)=true:=by simpa using hv
   have hf:=H_ (HS.o hv);clear hv;go_wp2_with fail;go_ret;exact⟨hf.o.symm▸rfl,rfl⟩
def kk (a b c d:Int) (v:Value) (w:World):Prop:=∃g T,v=.slice (some ⟨g,0,none⟩) 4 4/\w.heap[g]? =some (.cells #[a,b,c,d] T (0,0))
theorem kk.keep (a b c d:Int):∀v w w',Below w.heap.size w w'->kk a b c d v w->kk a b c d v w':=by
 rintro v w w' hb ⟨g,T,rfl,h⟩;exact⟨g,T,rfl,(hb.block _ (ag h)).trans h⟩
theorem kk.made (a b c d:Int) (w:World) (T:TypeId):kk a b c d (.slice (some ⟨w.heap.size,0,none⟩) 4 4) (w.alloc (.cells #[a,b,c,d] T)):=⟨_,T,rfl,heap_alloc_new _ _⟩
def Ab (x y:bW):Int:=orL [eG x.entity y.entity,eG x.date y.date,eG x.ref.entry y.ref.entry,eG x.ref.line y.ref.line]
theorem jb (x y:bW) (w:World):Calls Tryz.prog 35 #[.agg (lq x).toArray,.agg (lq y).toArray] w (ap w (.int .i64 (Ab x y))):=by
 obtain⟨⟨p1,p2⟩,p3,p4,p5,p6,p7⟩:=x;obtain⟨⟨q1,q2⟩,q3,q4,q5,q6,q7⟩:=y;show Calls Tryz.prog 35 #[.agg #[p1,p2,p3,p4,p5,p6,p7],.agg #[q1,q2,q3,q4,q5,q6,q7]] w (ap w (.int .i64 (orL [eG p3 q3,eG p6 q6,eG p1 q1,eG p2 q2])));go_enter Tryz.func35,Tryz.ntmps35;go_upto_region 1 with fail;have H:=heap_alloc_new w (.cells #[p1,p2,p3,p4,p5,p6,p7] 42);have HB:=ai w (.cells #[p1,p2,p3,p4,p5,p6,p7] 42);have HS:=ag H;have Vw:gP w (w.alloc (.cells #[p1,p2,p3,p4,p5,p6,p7] 42)):=(gP.refl w).alloc _;generalize hW:w.alloc (Obj.cells #[p1,p2,p3,p4,p5,p6,p7] 42)=W at*;have H2:=heap_alloc_new W (.cells #[q1,q2,q3,q4,q5,q6,q7] 42);have dz:=ai W (.cells #[q1,q2,q3,q4,q5,q6,q7] 42);have jK:=ag H2;replace H:=al H (Obj.cells #[q1,q2,q3,q4,q5,q6,q7] 42);have abI:gP W (W.alloc (.cells #[q1,q2,q3,q4,q5,q6,q7] 42)):=(gP.refl W).alloc _;generalize fR:W.alloc (Obj.cells #[q1,q2,q3,q4,q5,q6,q7] 42)=W2 at*;clear fR;have eW:W.heap.size=w.heap.size+1:=by rw[<-hW];simp
 rw[eW]at H2;clear hW;have aH:=HB.trans (dz.mono HB.size);have dW:=dz.size;have lV:=ag H2;have nf:w.heap.size<W2.heap.size:=by omega
 have HH:=H_ H;have HZ:=H_ H2;have EW:=H_ eW;clear H H2 eW;have RL:=H_ (Vw.trans abI);have X0:=H_ (ab HH.o 0);have X1:=H_ (ab HH.o 1);have X2:=H_ (ab HH.o 2);have X5:=H_ (ab HH.o 5);have Y0:=H_ (ab HZ.o 0);have Y1:=H_ (ab HZ.o 1);have Y2:=H_ (ab HZ.o 2);have Y5:=H_ (ab HZ.o 5);have nf:=H_ nf;have lV:=H_ lV;clear Vw abI;refine bk (Ks W2 [.val (.pointer (some ⟨w.heap.size,2,none⟩)),p3,.val (.pointer (some ⟨(w.heap.size+1),2,none⟩)),q3,(eG p3 q3),.val (.pointer (some ⟨w.heap.size,5,none⟩)),p6,.val (.pointer (some ⟨(w.heap.size+1),5,none⟩)),q6,(eG p6 q6),.val (.pointer (some ⟨w.heap.size,0,none⟩)),.val (.pointer (some ⟨w.heap.size,0,none⟩)),p1,.val (.pointer (some ⟨(w.heap.size+1),0,none⟩)),.val (.pointer (some ⟨(w.heap.size+1),0,none⟩)),q1,(eG p1 q1),.val (.pointer (some ⟨w.heap.size,0,none⟩)),.val (.pointer (some ⟨w.heap.size,1,none⟩)),p2,.val (.pointer (some ⟨(w.heap.size+1),0,none⟩)),.val (.pointer (some ⟨(w.heap.size+1),1,none⟩)),q2,(eG p2 q2),.own (kk (eG p3 q3) (eG p6 q6) (eG p1 q1) (eG p2 q2)) (kk.keep _ _ _ _),(orL [eG p3 q3,eG p6 q6,eG p1 q1,eG p2 q2]),(orL [eG p3 q3,eG p6 q6,eG p1 q1,eG p2 q2])])
  (λw'=>gP W2 w') K_ K_ K_ (gP.refl _).drew ?_ ?_
 ·refine⟨b_ (q_ 2),?_,b_ (q_ 3),?_,?_,b_ (q_ 2),?_,b_ (q_ 3),?_,?_,b_ (q_ 2),b_ (p_ 10 15),?_,b_ (q_ 3),b_ (p_ 13 18),?_,?_,b_ (q_ 2),b_ (p_ 17 22),?_,b_ (q_ 3),b_ (p_ 20 25),?_,?_,?_,?_,b_ (p_ 25 30),trivial⟩
  ·intro _ A0 w2 hI hd hnd K hK;have e0:=hI.p hd 0 5;have hS:=hI.world;have cI:w2.cell? ⟨w.heap.size,2,none⟩=_:=((gP.below hS).cell (p:=⟨w.heap.size,2,none⟩) nf.o).trans X2.o;exact hI.z hK
  ·intro _ A0 w2 hI hd hnd K hK;have e0:=hI.p hd 2 7;have hS:=hI.world;have cI:w2.cell? ⟨(w.heap.size+1),2,none⟩=_:=((gP.below hS).cell (p:=⟨(w.heap.size+1),2,none⟩) lV.o).trans Y2.o;exact hI.z hK
  ·refine O2_ (p_ 1 6) (p_ 3 8) λA0 w2 K e0 e1 hS hK=>?_;go_simp
   go_at_call 61
   refine(sf p3 q3 w2).mono ?_;rintro e w3 ⟨rfl,rfl⟩;exact kq hK hS rfl
  ·intro _ A0 w2 hI hd hnd K hK;have e0:=hI.p hd 5 10;have hS:=hI.world;have cI:w2.cell? ⟨w.heap.size,5,none⟩=_:=((gP.below hS).cell (p:=⟨w.heap.size,5,none⟩) nf.o).trans X5.o;exact hI.z hK
  ·intro _ A0 w2 hI hd hnd K hK;have e0:=hI.p hd 7 12;have hS:=hI.world;have cI:w2.cell? ⟨(w.heap.size+1),5,none⟩=_:=((gP.below hS).cell (p:=⟨(w.heap.size+1),5,none⟩) lV.o).trans Y5.o;exact hI.z hK
  ·refine O2_ (p_ 6 11) (p_ 8 13) λA0 w2 K e0 e1 hS hK=>?_;go_simp
   go_at_call 61
   refine(sf p6 q6 w2).mono ?_;rintro e w3 ⟨rfl,rfl⟩;exact kq hK hS rfl
  ·intro _ A0 w2 hI hd hnd K hK;have e0:=hI.p hd 11 16;have hS:=hI.world;have cI:w2.cell? ⟨w.heap.size,0,none⟩=_:=((gP.below hS).cell (p:=⟨w.heap.size,0,none⟩) nf.o).trans X0.o;exact hI.z hK
  ·intro _ A0 w2 hI hd hnd K hK;have e0:=hI.p hd 14 19;have hS:=hI.world;have cI:w2.cell? ⟨(w.heap.size+1),0,none⟩=_:=((gP.below hS).cell (p:=⟨(w.heap.size+1),0,none⟩) lV.o).trans Y0.o;exact hI.z hK
  ·refine O2_ (p_ 12 17) (p_ 15 20) λA0 w2 K e0 e1 hS hK=>?_;go_simp
   go_at_call 61
   refine(sf p1 q1 w2).mono ?_;rintro e w3 ⟨rfl,rfl⟩;exact kq hK hS rfl
  ·intro _ A0 w2 hI hd hnd K hK;have e0:=hI.p hd 18 23;have hS:=hI.world;have cI:w2.cell? ⟨w.heap.size,1,none⟩=_:=((gP.below hS).cell (p:=⟨w.heap.size,1,none⟩) nf.o).trans X1.o;exact hI.z hK
  ·intro _ A0 w2 hI hd hnd K hK;have e0:=hI.p hd 21 26;have hS:=hI.world;have cI:w2.cell? ⟨(w.heap.size+1),1,none⟩=_:=((gP.below hS).cell (p:=⟨(w.heap.size+1),1,none⟩) lV.o).trans Y1.o;exact hI.z hK
  ·refine O2_ (p_ 19 24) (p_ 22 27) λA0 w2 K e0 e1 hS hK=>?_;go_simp
   go_at_call 61
   refine(sf p2 q2 w2).mono ?_;rintro e w3 ⟨rfl,rfl⟩;exact kq hK hS rfl
  ·refine O4_ (p_ 4 9) (p_ 9 14) (p_ 16 21) (p_ 23 28) λA0 w2 K e0 e1 e2 e3 hS hK=>?_;go_simp;exact hK.out _ _ (hS.alloc _) (Ks.of rfl (kk.made _ _ _ _ _ _)) (Ks.keep (ai w2 _))
  ·intro _ A0 w2 hI hd hnd K hK;obtain⟨x0,e0,h0⟩:=hI.dep hd 24 29 rfl rfl rfl K_;have hS:=hI.world;obtain⟨gs,T0,rfl,kC⟩:=h0;refine aa rfl ?_;clear hI hd hnd;go_simp
   go_at_call 60
   refine(agN gs _ _ _ _ T0 w2 kC).mono ?_;rintro e w3 ⟨rfl,rfl⟩;exact kq hK hS rfl
 ·intro _ A0 w2 hI hall;have hS:=hI.world;have c9:=hI.ch hall [5,6,7,8,9,10,11,12,13,14,15,16,17,18,19,20,21,22,23,24,25,26,27,28,29,30,4];obtain⟨x0,x1,x2,x3,x4,x5,x6,x7,x8,x9,dN,ef,fh,gU,j4,jH,jZ,kv,lR,kh,rB,vz,vr,zW,zP,zK,zz,hA,hV⟩:=c9;obtain rfl:zz=.int .i64 (orL [eG p3 q3,eG p6 q6,eG p1 q1,eG p2 q2]):=hV 26 _ _ rfl _ rfl;clear hV hI hall;simp only[ba,List.foldl,List.setIfInBounds_toArray,List.set_cons_zero,List.set_cons_succ]at hA;rw[hA];clear hA;go_wp2_with fail;go_ret;exact⟨rfl,(RL.o.trans hS).below⟩
end Go.Proofs.YtibiddakakgakaaGreat
