/- JournalEntities is proved: for any group, entries and entity the law answers true; no condition. -/
import Derived.Test.YtebdajkknkapcaaGreatG12xB0B2
import Derived.Test.YtebdajkknkapcaaGreatG12xB3B8
import Derived.Test.YtebdajkknkapcaaGreatG12xB14
import Derived.Test.YtebdajkknkapcaaGreatG12xB29B32
import Derived.Test.YtebdajkknkapcaaGreatG12xC4E3
import Derived.Test.YtebdajkknkapcaaGreatG12xE6F6
import Derived.Test.YtebdajkknkapcaaGreatG12xF4I7
import Derived.Test.YtebdajkknkapcaaGreatG12xI8I11
import Derived.Test.YtebdajkknkapcaaGreatG12xI13I15
import Derived.Test.YtebdajkknkapcaaGreatG12xD1
import Derived.Test.YtebdajkknkapcaaGreatG12xD2
import Derived.Test.YtebdajkknkapcaaGreatG12xD3
import Derived.Test.YtebdajkknkapcaaGreatG12xD4
import Derived.Test.YtebdajkknkapcaaGreatG12xK1J9
import Derived.Test.YtebdajkknkapcaaGreatG12xJ10
import Derived.Test.YtebdajkknkapcaaGreatRows
import Derived.Test.YtebdajkknkapcaaGreatChecked
import Derived.Test.YtebdajkknkapcaaGreatProg
set_option linter.unusedVariables false
set_option linter.unusedSimpArgs false
namespace Go.Proofs.YtebdajkknkapcaaGreat
open Go Go.ChangeShapes Go.WideShapes Go.ChangeAt Go.RowKit
open Go.ChangeMaps (open_string shut_string)
set_option maxRecDepth 100000 in
set_option maxHeartbeats 2000000 in
theorem liftedJournalEntities (os : Os) (started : os.Started) (H : Type) (enc : TypeId × Value → H) :
 ReturnsInHanded {} Tryz.checked os 3 .any (Rows.journalEntitiesSpec.pre6 enc Tryz.prog Tryz.f3 Rows.journalEntitiesRow.domain false) (Rows.journalEntitiesSpec.post enc Tryz.prog Tryz.f3 false true false false) := by
 refine returnsInHanded_of_change_sized (C := Tryz.checked) own started (by kernel_rfl) Tryz.func3
  (ChangeSpec.witness6 (enc := enc) (C := Tryz.checked) false ⟨#[], #[.agg #[.string ⟨#[]⟩, .int .i64 0, .int .i64 0, .int .i64 0, .slice none 0 0, .int .i64 0, .int .i64 0, .int .i64 0, .int .i64 0, .int .i64 0, .int .i64 0, .int .i64 0, .int .i64 0, .int .i64 0, .int .i64 0, .int .i64 0, .int .i64 0, .int .i64 0, .int .i64 0, .int .i64 0, .slice none 0 0], .slice none 0 0, .int .i64 0], []⟩ 8 (by kernel_rfl) (by kernel_rfl) (by kernel_rfl) (by kernel_rfl)) ?_
 intro W base args ds gs before hval0 hW hcnd hsz _
 have hval : ∀ (j : Nat) t v, Tryz.f3.params[j]? = some t → args[j]? = some v → Value.okWide Tryz.prog W .any base t v := hval0
 have hW' := hW
 obtain ⟨p, q, hA0, hV, rfl, hfz, hnd⟩ := hW
 have hA : DataW.TrodAll enc Tryz.prog W 0 (fun _ => true) true Tryz.f3.params.toList args.toList ds p := hA0
 rw [Tryz.params3] at hA hval
 obtain ⟨v0, vs0, d0, ds0, p0, q0, hargs, rfl, rfl, h0, r0⟩ := trodAll_cons hA
 obtain ⟨v1, vs1, d1, ds1, p1, q1, rfl, rfl, rfl, h1, r1⟩ := trodAll_cons r0
 obtain ⟨v2, vs2, d2, ds2, p2, q2, rfl, rfl, rfl, h2, r2⟩ := trodAll_cons r1
 obtain ⟨rfl, rfl, rfl⟩ := trodAll_nil r2
 obtain rfl : args = #[v0, v1, v2] := by cases args; simp_all
 obtain ⟨rfl, rfl⟩ := trodVars_none hV
 have o0 := hval 0 29 v0 rfl rfl
 have o1 := hval 1 30 v1 rfl rfl
 have o2 := hval 2 3 v2 rfl rfl
 have k0 := h0
 have k1 := h1
 have k2 := h2
 have lt0 : ∀ x ∈ p0, x.block < W.heap.size := by obtain ⟨m, hm⟩ := k0; exact DataW.trod_lt m _ _ _ hm
 have lt1 : ∀ x ∈ p1, x.block < W.heap.size := by obtain ⟨m, hm⟩ := k1; exact DataW.trod_lt m _ _ _ hm
 have lt2 : ∀ x ∈ p2, x.block < W.heap.size := by obtain ⟨m, hm⟩ := k2; exact DataW.trod_lt m _ _ _ hm
 have hwt : ∀ (j : Nat) (t : TypeId) (d : DataW H), ([29, 30, 3] : List TypeId)[j]? = some t → [d0, d1, d2][j]? = some d → ∀ n ∈ d.weights Tryz.prog t, n ≤ reachBytes := fun j t d ht hd n hn => by
  have := List.all_eq_true.1 hsz n (DataW.weights_mem_each (j := j) (t := t) (d := d) ht (by simpa using hd) n hn)
  simpa using this
 obtain ⟨cs0, rfl, _⟩ := okWide_struct Tryz.underlying29 o0
 obtain ⟨a0, c0, z0⟩ : ∃ a, GroupC W (· < W.heap.size) cs0.toList a ∧ szG a := by
  obtain ⟨fuel, hf⟩ := h0
  exact opGroup _ _ _ hf (fun b off hm => hfz b off (by simp [hm])) (hwt 0 _ d0 rfl rfl)
 obtain ⟨A1, m1, b1, rfl⟩ := okWide_slice Tryz.underlying30 o1
 obtain ⟨a1, c1, z1⟩ : ∃ a, ListC EntryC 7 W (· < W.heap.size) [.slice A1 m1 b1] a ∧ zList szEntry a := by
  obtain ⟨fuel, hf⟩ := h1
  exact opLEntry _ _ _ hf (fun b off hm => hfz b off (by simp [hm])) (hwt 1 _ d1 rfl rfl)
 obtain rfl : m1 = a1.length := by
  obtain ⟨_, _, e, _⟩ := c1
  simp only [List.cons.injEq, and_true, Value.slice.injEq] at e
  exact e.2.1
 obtain ⟨a2, rfl, c2⟩ : ∃ a : Int, v2 = .int .i64 a ∧ intBd a := by
  obtain ⟨n, rfl, _⟩ := okWide_int Tryz.underlying3 o2
  obtain ⟨fuel, hf⟩ := h2
  obtain ⟨a, ⟨q1, q2⟩, _⟩ := opInt _ _ _ hf (fun b off hm => hfz b off (by simp [hm])) (hwt 2 _ d2 rfl rfl)
  simp [Value.cells] at q1
  subst q1
  exact ⟨_, rfl, q2⟩
 clear hA0 hval0
 refine (law_journalEntities a0 a1 cs0.toList A1 b1 a2 W c0 z0 c1 z1).mono fun e W' ⟨he, bel⟩ => ?_
 subst he
 exact ⟨_, rfl, _, _, _, [], _, [], hW', trodAll_mk1 (shut_bool Tryz.underlying4 _), (trodAll_cons_mk (Below.trod laidOut (by kernel_rfl) (of_decide_eq_true (by kernel_rfl)) k0 bel lt0) (trodAll_cons_mk (Below.trod laidOut (by kernel_rfl) (of_decide_eq_true (by kernel_rfl)) k1 bel lt1) (trodAll_cons_mk (Below.trod laidOut (by kernel_rfl) (of_decide_eq_true (by kernel_rfl)) k2 bel lt2) trodAll_mk0))), rfl, bel.frame _, fun h => by cases h⟩
theorem jnJournalEntities : Tryz.pinned.checked.prog.funcNamed Rows.journalEntitiesRow.func = some 3 := by kernel_rfl
theorem jaJournalEntities : (Rows.journalEntitiesRow.inPlace == Tryz.pinned.checked.prog.inPlace 3) = true := by kernel_rfl
theorem jbJournalEntities : (Rows.journalEntitiesRow.unfollowed == Tryz.pinned.checked.prog.unfollowed 3) = true := by kernel_rfl
theorem jcJournalEntities : (Rows.journalEntitiesRow.recurses == Tryz.pinned.checked.prog.recurses 3) = true := by kernel_rfl
theorem jdJournalEntities : (Rows.journalEntitiesRow.named == Tryz.pinned.checked.prog.varsNamed 3) = true := by kernel_rfl
theorem jeJournalEntities : (Rows.journalEntitiesRow.loops == (Tryz.f3.params.toList ++ Rows.journalEntitiesSpec.plain.varTypes Tryz.pinned.checked.prog).any (Tryz.pinned.checked.prog.loopsFrom ·)) = true := by kernel_rfl
theorem jjJournalEntities : joinedFacts Tryz.pinned.checked.prog 3 Tryz.f3 Rows.journalEntitiesSpec Rows.journalEntitiesRow = true :=
 joined_of (by kernel_rfl) jf_laid jf_maps (by kernel_rfl) (by kernel_rfl) (by kernel_rfl) jf_stops (by kernel_rfl) jf_knobs jaJournalEntities jbJournalEntities jcJournalEntities jdJournalEntities (by kernel_rfl) (by kernel_rfl) (by kernel_rfl) jeJournalEntities (by kernel_rfl) (by kernel_rfl) (by kernel_rfl) (by kernel_rfl) (by kernel_rfl) (by rw [← jf_keys]; rfl) (by kernel_rfl) jf_heard jf_enter jf_lifts jf_make (by kernel_rfl) (by kernel_rfl) (by kernel_rfl) (by kernel_rfl)
theorem overJournalEntities : Rows.journalEntitiesRow.holds Tryz.pinned (OpenSpec.ofChange Rows.journalEntitiesSpec) :=
 OpenClaim.holds_of_wide 3 Tryz.f3 rfl rfl rfl rfl rfl rfl rfl ⟨rfl, rfl, rfl, rfl, rfl⟩ rfl rfl rfl rfl rfl jnJournalEntities Tryz.func3 jjJournalEntities
  (of_decide_eq_true (by kernel_rfl)) (by unfold Func.isWrapper; first | (rw [if_pos (by decide +kernel)]; kernel_rfl) | (rw [if_neg (by decide +kernel)]; exact ⟨rfl, rfl⟩))
  (fun os started H enc _ => liftedJournalEntities os started H enc)
theorem journalEntities : Rows.JournalEntitiesSaid := overJournalEntities
#print axioms journalEntities
end Go.Proofs.YtebdajkknkapcaaGreat
