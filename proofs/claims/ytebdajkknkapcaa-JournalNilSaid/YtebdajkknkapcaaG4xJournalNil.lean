/- JournalNil is proved: for any entry and reference the law answers true; no condition. -/
import Derived.Test.YtebdajkknkapcaaG4xB0B6
import Derived.Test.YtebdajkknkapcaaG4xB7B13
import Derived.Test.YtebdajkknkapcaaG4xB14
import Derived.Test.YtebdajkknkapcaaG4xB28S2
import Derived.Test.YtebdajkknkapcaaG4xC4E5
import Derived.Test.YtebdajkknkapcaaG4xE6I5
import Derived.Test.YtebdajkknkapcaaG4xI13I15
import Derived.Test.YtebdajkknkapcaaG4xI17I18
import Derived.Test.YtebdajkknkapcaaG4xD1
import Derived.Test.YtebdajkknkapcaaG4xD2
import Derived.Test.YtebdajkknkapcaaG4xD3
import Derived.Test.YtebdajkknkapcaaG4xD4
import Derived.Test.YtebdajkknkapcaaRows
import Derived.Test.YtebdajkknkapcaaChecked
import Derived.Test.YtebdajkknkapcaaProg
namespace Go.Proofs.Ytebdajkknkapcaa
open Go Go.ChangeShapes Go.WideShapes Go.ChangeAt Go.RowKit
open Go.ChangeMaps (open_string shut_string)
set_option linter.unusedVariables false
set_option linter.unusedSimpArgs false
set_option maxRecDepth 100000 in
set_option maxHeartbeats 2000000 in
theorem liftedJournalNil (os : Os) (started : os.Started) (H : Type) (enc : TypeId × Value → H) :
    ReturnsInHanded {} Try.checked os 6 .any (Rows.journalNilSpec.pre6 enc Try.prog Try.f6 Rows.journalNilRow.domain false) (Rows.journalNilSpec.post enc Try.prog Try.f6 false true false false) := by
  refine returnsInHanded_of_change_sized (C := Try.checked) own started (by kernel_rfl) Try.func6
    (ChangeSpec.witness6 (enc := enc) (C := Try.checked) false ⟨#[], #[.agg #[.int .i64 0, .int .i64 0, .int .i64 0, .int .i64 0, .int .i64 0, .string ⟨#[]⟩, .slice none 0 0], .agg #[.int .i64 0, .int .i64 0]], []⟩ 8 (by kernel_rfl) (by kernel_rfl) (by kernel_rfl) (by kernel_rfl)) ?_
  intro W base args ds gs before hval0 hW hcnd hsz _
  have hval : ∀ (j : Nat) t v, Try.f6.params[j]? = some t → args[j]? = some v → Value.okWide Try.prog W .any base t v := hval0
  have hW' := hW
  obtain ⟨p, q, hA0, hV, rfl, hfz, hnd⟩ := hW
  have hA : DataW.TrodAll enc Try.prog W 0 (fun _ => true) true Try.f6.params.toList args.toList ds p := hA0
  rw [Try.params6] at hA hval
  obtain ⟨v0, vs0, d0, ds0, p0, q0, hargs, rfl, rfl, h0, r0⟩ := trodAll_cons hA
  obtain ⟨v1, vs1, d1, ds1, p1, q1, rfl, rfl, rfl, h1, r1⟩ := trodAll_cons r0
  obtain ⟨rfl, rfl, rfl⟩ := trodAll_nil r1
  obtain rfl : args = #[v0, v1] := by cases args; simp_all
  obtain ⟨rfl, rfl⟩ := trodVars_none hV
  have o0 := hval 0 42 v0 rfl rfl
  have o1 := hval 1 60 v1 rfl rfl
  have k0 := h0
  have k1 := h1
  have lt0 : ∀ x ∈ p0, x.block < W.heap.size := by obtain ⟨m, hm⟩ := k0; exact DataW.trod_lt m _ _ _ hm
  have lt1 : ∀ x ∈ p1, x.block < W.heap.size := by obtain ⟨m, hm⟩ := k1; exact DataW.trod_lt m _ _ _ hm
  have hwt : ∀ (j : Nat) (t : TypeId) (d : DataW H), ([42, 60] : List TypeId)[j]? = some t → [d0, d1][j]? = some d → ∀ n ∈ d.weights Try.prog t, n ≤ reachBytes := fun j t d ht hd n hn => by
    have := List.all_eq_true.1 hsz n (DataW.weights_mem_each (j := j) (t := t) (d := d) ht (by simpa using hd) n hn)
    simpa using this
  obtain ⟨cs0, rfl, _⟩ := okWide_struct Try.underlying42 o0
  obtain ⟨a0, c0, z0⟩ : ∃ a, EntryC W (· < W.heap.size) cs0.toList a ∧ szEntry a := by
    obtain ⟨fuel, hf⟩ := h0
    exact opEntry _ _ _ hf (fun b off hm => hfz b off (by simp [hm])) (hwt 0 _ d0 rfl rfl)
  obtain ⟨cs1, rfl, _⟩ := okWide_struct Try.underlying60 o1
  obtain ⟨a1, c1, z1⟩ : ∃ a, RefC W (· < W.heap.size) cs1.toList a ∧ szRef a := by
    obtain ⟨fuel, hf⟩ := h1
    exact opRef _ _ _ hf (fun b off hm => hfz b off (by simp [hm])) (hwt 1 _ d1 rfl rfl)
  clear hA0 hval0
  have hlaw : Calls Try.prog 6 #[.agg cs0, .agg cs1] W (Quiet W (.bool true)) := by
    obtain ⟨l0, l1, e1, ⟨rfl, _⟩, ⟨rfl, _⟩⟩ := c1
    have e2 : cs1 = #[.int .i64 a1.entry, .int .i64 a1.line] := by
      apply Array.toList_inj.1
      simpa using e1
    rw [e2]
    exact law_journalNil cs0.toList c0.len a1.entry a1.line W
  refine hlaw.mono fun e W' ⟨he, bel⟩ => ?_
  subst he
  exact ⟨_, rfl, _, _, _, [], _, [], hW', trodAll_mk1 (shut_bool Try.underlying4 _), (trodAll_cons_mk (Below.trod laidOut (by kernel_rfl) (of_decide_eq_true (by kernel_rfl)) k0 bel lt0) (trodAll_cons_mk (Below.trod laidOut (by kernel_rfl) (of_decide_eq_true (by kernel_rfl)) k1 bel lt1) trodAll_mk0)), rfl, bel.frame _, fun h => by cases h⟩

theorem jnJournalNil : Try.pinned.checked.prog.funcNamed Rows.journalNilRow.func = some 6 := by kernel_rfl
theorem jaJournalNil : (Rows.journalNilRow.inPlace == Try.pinned.checked.prog.inPlace 6) = true := by kernel_rfl
theorem jbJournalNil : (Rows.journalNilRow.unfollowed == Try.pinned.checked.prog.unfollowed 6) = true := by kernel_rfl
theorem jcJournalNil : (Rows.journalNilRow.recurses == Try.pinned.checked.prog.recurses 6) = true := by kernel_rfl
theorem jdJournalNil : (Rows.journalNilRow.named == Try.pinned.checked.prog.varsNamed 6) = true := by kernel_rfl
theorem jeJournalNil : (Rows.journalNilRow.loops == (Try.f6.params.toList ++ Rows.journalNilSpec.plain.varTypes Try.pinned.checked.prog).any (Try.pinned.checked.prog.loopsFrom ·)) = true := by kernel_rfl
theorem jjJournalNil : joinedFacts Try.pinned.checked.prog 6 Try.f6 Rows.journalNilSpec Rows.journalNilRow = true :=
  joined_of (by kernel_rfl) jf_laid jf_maps (by kernel_rfl) (by kernel_rfl) (by kernel_rfl) jf_stops (by kernel_rfl) jf_knobs jaJournalNil jbJournalNil jcJournalNil jdJournalNil (by kernel_rfl) (by kernel_rfl) (by kernel_rfl) jeJournalNil (by kernel_rfl) (by kernel_rfl) (by kernel_rfl) (by kernel_rfl) (by kernel_rfl) (by rw [← jf_keys]; rfl) (by kernel_rfl) jf_heard jf_enter jf_lifts jf_make (by kernel_rfl) (by kernel_rfl) (by kernel_rfl) (by kernel_rfl)
theorem overJournalNil : Rows.journalNilRow.holds Try.pinned (OpenSpec.ofChange Rows.journalNilSpec) :=
  OpenClaim.holds_of_wide 6 Try.f6 rfl rfl rfl rfl rfl rfl rfl ⟨rfl, rfl, rfl, rfl, rfl⟩ rfl rfl rfl rfl rfl jnJournalNil Try.func6 jjJournalNil
    (of_decide_eq_true (by kernel_rfl)) (by unfold Func.isWrapper; first | (rw [if_pos (by decide +kernel)]; kernel_rfl) | (rw [if_neg (by decide +kernel)]; exact ⟨rfl, rfl⟩))
    (fun os started H enc _ => liftedJournalNil os started H enc)

theorem journalNil : Rows.JournalNilSaid := overJournalNil
#print axioms journalNil
end Go.Proofs.Ytebdajkknkapcaa
