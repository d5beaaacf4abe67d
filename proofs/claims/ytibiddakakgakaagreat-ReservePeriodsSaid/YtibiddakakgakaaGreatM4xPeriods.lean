/- ReservePeriods is proved: for any books, entity and period the law answers true; no condition. -/
import Derived.Test.YtibiddakakgakaaGreatQdD1
import Derived.Test.YtibiddakakgakaaGreatQdD2
import Derived.Test.YtibiddakakgakaaGreatQdD3
import Derived.Test.YtibiddakakgakaaGreatQdD4
import Derived.Test.YtibiddakakgakaaGreatQdR13Z8
set_option linter.unusedVariables false
set_option linter.unusedSimpArgs false
set_option maxHeartbeats 16000000
namespace Go.Proofs.YtibiddakakgakaaGreat
open Go Go.ChangeShapes Go.WideShapes Go.ChangeAt Go.RowKit
open Go.ChangeMaps (open_string shut_string)
set_option maxRecDepth 100000 in
theorem liftedReservePeriods (os:Os) (gX:os.Started) (H:Type) (enc:TypeId × Value->H):
 ReturnsInHanded {} Tryz.checked os 15 .any (Rows.reservePeriodsSpec.pre6 enc Tryz.prog Tryz.f15 Rows.reservePeriodsRow.domain false) (Rows.reservePeriodsSpec.post enc Tryz.prog Tryz.f15 false true false false):=by
 refine returnsInHanded_of_change_sized (C:=Tryz.checked) own gX K_ Tryz.func15
  (ChangeSpec.witness6 (enc:=enc) (C:=Tryz.checked) false ⟨#[],#[.agg #[.string ⟨#[]⟩,(),(),(),.slice none 0 0,(),(),(),(),(),(),(),(),(),(),(),(),(),(),(),.slice none 0 0,.slice none 0 0,.slice none 0 0,.slice none 0 0,.slice none 0 0,.slice none 0 0,.string ⟨#[]⟩],.int .i64 0,.int .i64 0],[]⟩ 8 K_ K_ K_ K_) ?_
 intro W base args ds gs NY sP hW aaf bP _;have pF:∀(j:Nat) t v,Tryz.f15.params[j]? =some t->args[j]? =some v->Value.okWide Tryz.prog W .any base t v:=sP;have hW':=hW;obtain⟨p,q,Ms,hV,rfl,dS,hnd⟩:=hW;have hA:DataW.TrodAll enc Tryz.prog W 0 (λ_=>true) true Tryz.f15.params.toList args.toList ds p:=Ms;rw[Tryz.params15]at hA pF;obtain⟨v0,vs0,d0,ds0,p0,q0,TI,rfl,rfl,h0,r0⟩:=trodAll_cons hA;obtain⟨v1,vs1,d1,ds1,p1,q1,rfl,rfl,rfl,h1,r1⟩:=trodAll_cons r0;obtain⟨v2,vs2,d2,ds2,p2,q2,rfl,rfl,rfl,h2,r2⟩:=trodAll_cons r1;obtain⟨rfl,rfl,rfl⟩:=trodAll_nil r2;obtain rfl:args=#[v0,v1,v2]:=by cases args;simp_all
 obtain⟨rfl,rfl⟩:=trodVars_none hV;have o0:=pF 0 36 v0 rfl rfl;have o1:=pF 1 3 v1 rfl rfl;have o2:=pF 2 3 v2 rfl rfl;have k0:=h0;have k1:=h1;have k2:=h2;have lt0:∀x∈p0,x.block<W.heap.size:=by obtain⟨m,hm⟩:=k0;exact DataW.trod_lt m _ _ _ hm
 have lt1:∀x∈p1,x.block<W.heap.size:=by obtain⟨m,hm⟩:=k1;exact DataW.trod_lt m _ _ _ hm
 have lt2:∀x∈p2,x.block<W.heap.size:=by obtain⟨m,hm⟩:=k2;exact DataW.trod_lt m _ _ _ hm
 have QR:∀(j:Nat) (t:TypeId) (d:DataW H),([36,3,3]:List TypeId)[j]? =some t->[d0,d1,d2][j]? =some d->∀n∈d.weights Tryz.prog t,n<=reachBytes:=λj t d ht hd n hn=>by
  have:=List.all_eq_true.1 bP n (DataW.weights_mem_each (j:=j) (t:=t) (d:=d) ht (by simpa using hd) n hn);simpa using this
 obtain⟨N8,rfl,_⟩:=okWide_struct Tryz.underlying36 o0;obtain⟨a0,c0,z0⟩:∃a,Bz W N8.toList a/\Fb a:=by
  obtain⟨bZ,hf⟩:=h0;exact Cb _ _ _ hf (λb cm hm=>dS b cm (by simp[hm])) (QR 0 _ d0 rfl rfl)
 obtain⟨a1,rfl,c1⟩:∃a:Int,v1=.int .i64 a/\cx a:=by
  obtain⟨n,rfl,_⟩:=okWide_int Tryz.underlying3 o1;obtain⟨bZ,hf⟩:=h1;obtain⟨a,⟨q1,q2⟩,_⟩:=cL _ _ _ hf (λb cm hm=>dS b cm (by simp[hm])) (QR 1 _ d1 rfl rfl);simp[Value.cells]at q1;subst q1;exact⟨_,rfl,q2⟩
 obtain⟨a2,rfl,c2⟩:∃a:Int,v2=.int .i64 a/\cx a:=by
  obtain⟨n,rfl,_⟩:=okWide_int Tryz.underlying3 o2;obtain⟨bZ,hf⟩:=h2;obtain⟨a,⟨q1,q2⟩,_⟩:=cL _ _ _ hf (λb cm hm=>dS b cm (by simp[hm])) (QR 2 _ d2 rfl rfl);simp[Value.cells]at q1;subst q1;exact⟨_,rfl,q2⟩
 clear Ms sP;have Oy:Calls Tryz.prog 15 #[.agg N8,a1,a2] W (ap W (.bool true)):=by
  obtain⟨gl,Ae,ce,Ar,cr,tl,hk⟩:=c0;exact akm a0 N8.toList gl tl Ae Ar ce cr a1 a2 W hk z0 c2
 refine Oy.mono λe W' ⟨he,Ko⟩=>?_
 subst he;exact⟨_,rfl,_,_,_,[],_,[],hW',trodAll_mk1 (shut_bool Tryz.underlying4 _),(trodAll_cons_mk (Below.trod lr K_ (of_decide_eq_true K_) k0 Ko lt0) (trodAll_cons_mk (Below.trod lr K_ (of_decide_eq_true K_) k1 Ko lt1) (trodAll_cons_mk (Below.trod lr K_ (of_decide_eq_true K_) k2 Ko lt2) trodAll_mk0))),rfl,Ko.frame _,λh=>by cases h⟩
theorem jnReservePeriods:Tryz.pinned.checked.prog.funcNamed Rows.reservePeriodsRow.func=some 15:=by kernel_rfl
theorem jaReservePeriods:(Rows.reservePeriodsRow.inPlace==Tryz.pinned.checked.prog.inPlace 15)=true:=by kernel_rfl
theorem jbReservePeriods:(Rows.reservePeriodsRow.unfollowed==Tryz.pinned.checked.prog.unfollowed 15)=true:=by kernel_rfl
theorem jcReservePeriods:(Rows.reservePeriodsRow.recurses==Tryz.pinned.checked.prog.recurses 15)=true:=by kernel_rfl
theorem jdReservePeriods:(Rows.reservePeriodsRow.named==Tryz.pinned.checked.prog.varsNamed 15)=true:=by kernel_rfl
theorem jeReservePeriods:(Rows.reservePeriodsRow.loops==(Tryz.f15.params.toList++Rows.reservePeriodsSpec.plain.varTypes Tryz.pinned.checked.prog).any (Tryz.pinned.checked.prog.loopsFrom ·))=true:=by kernel_rfl
theorem jjReservePeriods:joinedFacts Tryz.pinned.checked.prog 15 Tryz.f15 Rows.reservePeriodsSpec Rows.reservePeriodsRow=true:=
 sm K_ BW BY K_ K_ K_ xA K_ xy jaReservePeriods jbReservePeriods jcReservePeriods jdReservePeriods K_ K_ K_ jeReservePeriods K_ K_ K_ K_ K_ (by rw[<-BV];rfl) K_ xx ahl xz BX K_ K_ K_ K_
theorem overReservePeriods:Rows.reservePeriodsRow.holds Tryz.pinned (OpenSpec.ofChange Rows.reservePeriodsSpec):=
 OpenClaim.holds_of_wide 15 Tryz.f15 rfl rfl rfl rfl rfl rfl rfl ⟨rfl,rfl,rfl,rfl,rfl⟩ rfl rfl rfl rfl rfl jnReservePeriods Tryz.func15 jjReservePeriods
  (of_decide_eq_true K_) (by unfold Func.isWrapper;first|(rw[if_pos (by decide+kernel)];kernel_rfl)|(rw[if_neg (by decide+kernel)];exact⟨rfl,rfl⟩))
  (λos gX H enc _=>liftedReservePeriods os gX H enc)
theorem reservePeriods:Rows.ReservePeriodsSaid:=overReservePeriods
#print axioms reservePeriods
end Go.Proofs.YtibiddakakgakaaGreat
