/- LockScript is proved: for any group, steps and entry the law answers true; no condition. -/
import Derived.Test.YtekelchdbkjjjaaGreatG20xB0B2
import Derived.Test.YtekelchdbkjjjaaGreatG20xB3B8
import Derived.Test.YtekelchdbkjjjaaGreatG20xB14
import Derived.Test.YtekelchdbkjjjaaGreatG20xB17B24
import Derived.Test.YtekelchdbkjjjaaGreatG20xB29B32
import Derived.Test.YtekelchdbkjjjaaGreatG20xB33C3
import Derived.Test.YtekelchdbkjjjaaGreatG20xC4I2
import Derived.Test.YtekelchdbkjjjaaGreatG20xI3I16
import Derived.Test.YtekelchdbkjjjaaGreatG20xD1
import Derived.Test.YtekelchdbkjjjaaGreatG20xD2
import Derived.Test.YtekelchdbkjjjaaGreatG20xD3
import Derived.Test.YtekelchdbkjjjaaGreatG20xD4
import Derived.Test.YtekelchdbkjjjaaGreatG20xK1K12
import Derived.Test.YtekelchdbkjjjaaGreatG20xT1K13
import Derived.Test.YtekelchdbkjjjaaGreatG20xK14K24
import Derived.Test.YtekelchdbkjjjaaGreatG20xK29K27
import Derived.Test.YtekelchdbkjjjaaGreatRows
import Derived.Test.YtekelchdbkjjjaaGreatChecked
import Derived.Test.YtekelchdbkjjjaaGreatProg
set_option linter.unusedVariables false
set_option linter.unusedSimpArgs false
namespace Go.Proofs.YtekelchdbkjjjaaGreat
open Go Go.ChangeShapes Go.WideShapes Go.ChangeAt Go.RowKit
open Go.ChangeMaps (open_string shut_string)
set_option maxRecDepth 100000 in
set_option maxHeartbeats 2000000 in
theorem liftedLockScript (os : Os) (started : os.Started) (H : Type) (enc : TypeId × Value → H) :
 ReturnsInHanded {} Tryz.checked os 4 .any (Rows.lockScriptSpec.pre6 enc Tryz.prog Tryz.f4 Rows.lockScriptRow.domain false) (Rows.lockScriptSpec.post enc Tryz.prog Tryz.f4 false true false false) := by
 refine returnsInHanded_of_change_sized (C := Tryz.checked) own started (by kernel_rfl) Tryz.func4
  (ChangeSpec.witness6 (enc := enc) (C := Tryz.checked) false ⟨#[], #[.agg #[.string ⟨#[]⟩, .int .i64 0, .int .i64 0, .int .i64 0, .slice none 0 0, .int .i64 0, .int .i64 0, .int .i64 0, .int .i64 0, .int .i64 0, .int .i64 0, .int .i64 0, .int .i64 0, .int .i64 0, .int .i64 0, .int .i64 0, .int .i64 0, .int .i64 0, .int .i64 0, .int .i64 0, .slice none 0 0], .slice none 0 0, .agg #[.int .i64 0, .int .i64 0, .int .i64 0, .int .i64 0, .int .i64 0, .string ⟨#[]⟩, .slice none 0 0]], []⟩ 8 (by kernel_rfl) (by kernel_rfl) (by kernel_rfl) (by kernel_rfl)) ?_
 intro W base args ds gs before hval0 hW hcnd hsz _
 have hval : ∀ (j : Nat) t v, Tryz.f4.params[j]? = some t → args[j]? = some v → Value.okWide Tryz.prog W .any base t v := hval0
 have hW' := hW
 obtain ⟨p, q, hA0, hV, rfl, hfz, hnd⟩ := hW
 have hA : DataW.TrodAll enc Tryz.prog W 0 (fun _ => true) true Tryz.f4.params.toList args.toList ds p := hA0
 rw [Tryz.params4] at hA hval
 obtain ⟨v0, vs0, d0, ds0, p0, q0, hargs, rfl, rfl, h0, r0⟩ := trodAll_cons hA
 obtain ⟨v1, vs1, d1, ds1, p1, q1, rfl, rfl, rfl, h1, r1⟩ := trodAll_cons r0
 obtain ⟨v2, vs2, d2, ds2, p2, q2, rfl, rfl, rfl, h2, r2⟩ := trodAll_cons r1
 obtain ⟨rfl, rfl, rfl⟩ := trodAll_nil r2
 obtain rfl : args = #[v0, v1, v2] := by cases args; simp_all
 obtain ⟨rfl, rfl⟩ := trodVars_none hV
 have o0 := hval 0 29 v0 rfl rfl
 have o1 := hval 1 43 v1 rfl rfl
 have o2 := hval 2 46 v2 rfl rfl
 have k0 := h0
 have k1 := h1
 have k2 := h2
 have lt0 : ∀ x ∈ p0, x.block < W.heap.size := by obtain ⟨m, hm⟩ := k0; exact DataW.trod_lt m _ _ _ hm
 have lt1 : ∀ x ∈ p1, x.block < W.heap.size := by obtain ⟨m, hm⟩ := k1; exact DataW.trod_lt m _ _ _ hm
 have lt2 : ∀ x ∈ p2, x.block < W.heap.size := by obtain ⟨m, hm⟩ := k2; exact DataW.trod_lt m _ _ _ hm
 have hwt : ∀ (j : Nat) (t : TypeId) (d : DataW H), ([29, 43, 46] : List TypeId)[j]? = some t → [d0, d1, d2][j]? = some d → ∀ n ∈ d.weights Tryz.prog t, n ≤ reachBytes := fun j t d ht hd n hn => by
  have := List.all_eq_true.1 hsz n (DataW.weights_mem_each (j := j) (t := t) (d := d) ht (by simpa using hd) n hn)
  simpa using this
 obtain ⟨cs0, rfl, _⟩ := okWide_struct Tryz.underlying29 o0
 obtain ⟨a0, c0, z0⟩ : ∃ a, GroupC W (· < W.heap.size) cs0.toList a ∧ szG a := by
  obtain ⟨fuel, hf⟩ := h0
  exact opGroup _ _ _ hf (fun b off hm => hfz b off (by simp [hm])) (hwt 0 _ d0 rfl rfl)
 obtain ⟨A1, m1, b1, rfl⟩ := okWide_slice Tryz.underlying43 o1
 obtain ⟨a1, c1, z1⟩ : ∃ a, ListC StepC 3 W (· < W.heap.size) [.slice A1 m1 b1] a ∧ zList szStep a := by
  obtain ⟨fuel, hf⟩ := h1
  exact opLStep _ _ _ hf (fun b off hm => hfz b off (by simp [hm])) (hwt 1 _ d1 rfl rfl)
 obtain rfl : m1 = a1.length := by
  obtain ⟨_, _, e, _⟩ := c1
  simp only [List.cons.injEq, and_true, Value.slice.injEq] at e
  exact e.2.1
 obtain ⟨cs2, rfl, _⟩ := okWide_struct Tryz.underlying46 o2
 obtain ⟨a2, c2, z2⟩ : ∃ a, EntryC W (· < W.heap.size) cs2.toList a ∧ szEntry a := by
  obtain ⟨fuel, hf⟩ := h2
  exact opEntry _ _ _ hf (fun b off hm => hfz b off (by simp [hm])) (hwt 2 _ d2 rfl rfl)
 clear hA0 hval0
 have hlaw : Calls Tryz.prog 4 #[.agg cs0, .slice A1 a1.length b1, .agg cs2] W (Quiet W (.bool true)) := by
  obtain ⟨Al, cl, e1, _, _⟩ := EntryC.lit c2
  have e2 : cs2 = #[.int .i64 a2.id, .int .i64 a2.entity, .int .i64 a2.date, .int .i64 a2.kind, .int .i64 a2.of_, .string a2.text, .slice Al a2.lines.length cl] := by
   apply Array.toList_inj.1
   simpa using e1
  rw [e2]
  exact law_lockScript a0 a1 cs0.toList A1 b1 a2.id a2.entity a2.date a2.kind a2.of_ a2.text Al a2.lines.length cl W c0 z0 c1
 refine hlaw.mono fun e W' ⟨he, bel⟩ => ?_
 subst he
 exact ⟨_, rfl, _, _, _, [], _, [], hW', trodAll_mk1 (shut_bool Tryz.underlying4 _), (trodAll_cons_mk (Below.trod laidOut (by kernel_rfl) (of_decide_eq_true (by kernel_rfl)) k0 bel lt0) (trodAll_cons_mk (Below.trod laidOut (by kernel_rfl) (of_decide_eq_true (by kernel_rfl)) k1 bel lt1) (trodAll_cons_mk (Below.trod laidOut (by kernel_rfl) (of_decide_eq_true (by kernel_rfl)) k2 bel lt2) trodAll_mk0))), rfl, bel.frame _, fun h => by cases h⟩
theorem jnLockScript : Tryz.pinned.checked.prog.funcNamed Rows.lockScriptRow.func = some 4 := by kernel_rfl
theorem jaLockScript : (Rows.lockScriptRow.inPlace == Tryz.pinned.checked.prog.inPlace 4) = true := by kernel_rfl
theorem jbLockScript : (Rows.lockScriptRow.unfollowed == Tryz.pinned.checked.prog.unfollowed 4) = true := by kernel_rfl
theorem jcLockScript : (Rows.lockScriptRow.recurses == Tryz.pinned.checked.prog.recurses 4) = true := by kernel_rfl
theorem jdLockScript : (Rows.lockScriptRow.named == Tryz.pinned.checked.prog.varsNamed 4) = true := by kernel_rfl
theorem jeLockScript : (Rows.lockScriptRow.loops == (Tryz.f4.params.toList ++ Rows.lockScriptSpec.plain.varTypes Tryz.pinned.checked.prog).any (Tryz.pinned.checked.prog.loopsFrom ·)) = true := by kernel_rfl
theorem jjLockScript : joinedFacts Tryz.pinned.checked.prog 4 Tryz.f4 Rows.lockScriptSpec Rows.lockScriptRow = true :=
 joined_of (by kernel_rfl) jf_laid jf_maps (by kernel_rfl) (by kernel_rfl) (by kernel_rfl) jf_stops (by kernel_rfl) jf_knobs jaLockScript jbLockScript jcLockScript jdLockScript (by kernel_rfl) (by kernel_rfl) (by kernel_rfl) jeLockScript (by kernel_rfl) (by kernel_rfl) (by kernel_rfl) (by kernel_rfl) (by kernel_rfl) (by rw [← jf_keys]; rfl) (by kernel_rfl) jf_heard jf_enter jf_lifts jf_make (by kernel_rfl) (by kernel_rfl) (by kernel_rfl) (by kernel_rfl)
theorem overLockScript : Rows.lockScriptRow.holds Tryz.pinned (OpenSpec.ofChange Rows.lockScriptSpec) :=
 OpenClaim.holds_of_wide 4 Tryz.f4 rfl rfl rfl rfl rfl rfl rfl ⟨rfl, rfl, rfl, rfl, rfl⟩ rfl rfl rfl rfl rfl jnLockScript Tryz.func4 jjLockScript
  (of_decide_eq_true (by kernel_rfl)) (by unfold Func.isWrapper; first | (rw [if_pos (by decide +kernel)]; kernel_rfl) | (rw [if_neg (by decide +kernel)]; exact ⟨rfl, rfl⟩))
  (fun os started H enc _ => liftedLockScript os started H enc)
theorem lockScript : Rows.LockScriptSaid := overLockScript
#print axioms lockScript
end Go.Proofs.YtekelchdbkjjjaaGreat
