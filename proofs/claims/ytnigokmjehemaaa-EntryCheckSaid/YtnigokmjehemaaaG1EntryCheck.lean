/- EntryCheck is proved: for any group and entry, Check answers as the statement says; no condition. -/
import Derived.Test.YtnigokmjehemaaaD1Joined
import Derived.Test.YtnigokmjehemaaaD2Enter
import Derived.Test.YtnigokmjehemaaaD3Lifts
import Derived.Test.YtnigokmjehemaaaD4Make
import Derived.Test.YtnigokmjehemaaaJE8E9
import Derived.Test.YtnigokmjehemaaaJF1F7
import Derived.Test.YtnigokmjehemaaaRows
import Derived.Test.YtnigokmjehemaaaChecked
import Derived.Test.YtnigokmjehemaaaProg
namespace Go.Proofs.Ytnigokmjehemaaa
open Go Go.ChangeShapes Go.WideShapes Go.ChangeAt Go.RowKit
open Go.ChangeMaps (open_string shut_string)
set_option linter.unusedVariables false
set_option linter.unusedSimpArgs false

set_option maxRecDepth 100000 in
theorem liftedEntryCheck (os : Os) (started : os.Started) (H : Type) (enc : TypeId × Value → H) :
    ReturnsInHanded {} Try.checked os 12 .any (Rows.entryCheckSpec.pre6 enc Try.prog Try.f12 Rows.entryCheckRow.domain false) (Rows.entryCheckSpec.post enc Try.prog Try.f12 false true false false) := by
  refine returnsInHanded_of_change_sized (C := Try.checked) own started (by kernel_rfl) Try.func12
    (ChangeSpec.witness6 (enc := enc) (C := Try.checked) false ⟨#[], #[.agg #[.string ⟨#[]⟩, .int .i64 0, .int .i64 0, .int .i64 0, .slice none 0 0, .int .i64 0, .int .i64 0, .int .i64 0, .int .i64 0, .int .i64 0, .int .i64 0, .int .i64 0, .int .i64 0, .int .i64 0, .int .i64 0, .int .i64 0, .int .i64 0, .int .i64 0, .int .i64 0, .int .i64 0, .slice none 0 0], .agg #[.int .i64 0, .int .i64 0, .int .i64 0, .int .i64 0, .int .i64 0, .string ⟨#[]⟩, .slice none 0 0]], []⟩ 8 (by kernel_rfl) (by kernel_rfl) (by kernel_rfl) (by kernel_rfl)) ?_
  intro W base args ds gs before hval0 hW hcnd hsz _
  have hval : ∀ (j : Nat) t v, Try.f12.params[j]? = some t → args[j]? = some v → Value.okWide Try.prog W .any base t v := hval0
  have hW' := hW
  obtain ⟨p, q, hA0, hV, rfl, hfz, hnd⟩ := hW
  have hA : DataW.TrodAll enc Try.prog W 0 (fun _ => true) true Try.f12.params.toList args.toList ds p := hA0
  rw [Try.params12] at hA hval
  obtain ⟨v0, vs0, d0, ds0, p0, q0, hargs, rfl, rfl, h0, r0⟩ := trodAll_cons hA
  obtain ⟨v1, vs1, d1, ds1, p1, q1, rfl, rfl, rfl, h1, r1⟩ := trodAll_cons r0
  obtain ⟨rfl, rfl, rfl⟩ := trodAll_nil r1
  obtain rfl : args = #[v0, v1] := by cases args; simp_all
  obtain ⟨rfl, rfl⟩ := trodVars_none hV
  have o0 := hval 0 29 v0 rfl rfl
  have o1 := hval 1 53 v1 rfl rfl
  have k0 := h0
  have k1 := h1
  have lt0 : ∀ x ∈ p0, x.block < W.heap.size := by obtain ⟨m, hm⟩ := k0; exact DataW.trod_lt m _ _ _ hm
  have lt1 : ∀ x ∈ p1, x.block < W.heap.size := by obtain ⟨m, hm⟩ := k1; exact DataW.trod_lt m _ _ _ hm
  have hwt : ∀ (j : Nat) (t : TypeId) (d : DataW H), ([29, 53] : List TypeId)[j]? = some t → [d0, d1][j]? = some d → ∀ n ∈ d.weights Try.prog t, n ≤ reachBytes := fun j t d ht hd n hn => by
    have := List.all_eq_true.1 hsz n (DataW.weights_mem_each (j := j) (t := t) (d := d) ht (by simpa using hd) n hn)
    simpa using this
  obtain ⟨cs0, rfl, _⟩ := okWide_struct Try.underlying29 o0
  obtain ⟨a0, c0, z0⟩ : ∃ a, GroupC W (· < W.heap.size) cs0.toList a ∧ szG a := by
    obtain ⟨fuel, hf⟩ := h0
    exact opGroup _ _ _ hf (fun b off hm => hfz b off (by simp [hm])) (hwt 0 _ d0 rfl rfl)
  obtain ⟨cs1, rfl, _⟩ := okWide_struct Try.underlying53 o1
  obtain ⟨a1, c1, z1⟩ : ∃ a, EntryC W (· < W.heap.size) cs1.toList a ∧ szEntry a := by
    obtain ⟨fuel, hf⟩ := h1
    exact opEntry _ _ _ hf (fun b off hm => hfz b off (by simp [hm])) (hwt 1 _ d1 rfl rfl)
  clear hA0 hval0
  refine (law_check awake11_c a0 a1 cs0.toList cs1.toList W c0 z0 c1 z1).mono fun e W' ⟨he, bel⟩ => ?_
  subst he
  exact ⟨_, rfl, _, _, _, [], _, [], hW', trodAll_mk1 (shut_bool Try.underlying4 _), (trodAll_cons_mk (Below.trod laidOut (by kernel_rfl) (of_decide_eq_true (by kernel_rfl)) k0 bel lt0) (trodAll_cons_mk (Below.trod laidOut (by kernel_rfl) (of_decide_eq_true (by kernel_rfl)) k1 bel lt1) trodAll_mk0)), rfl, bel.frame _, fun h => by cases h⟩

theorem jnEntryCheck : Try.pinned.checked.prog.funcNamed Rows.entryCheckRow.func = some 12 := by kernel_rfl
theorem jaEntryCheck : (Rows.entryCheckRow.inPlace == Try.pinned.checked.prog.inPlace 12) = true := by kernel_rfl
theorem jbEntryCheck : (Rows.entryCheckRow.unfollowed == Try.pinned.checked.prog.unfollowed 12) = true := by kernel_rfl
theorem jcEntryCheck : (Rows.entryCheckRow.recurses == Try.pinned.checked.prog.recurses 12) = true := by kernel_rfl
theorem jdEntryCheck : (Rows.entryCheckRow.named == Try.pinned.checked.prog.varsNamed 12) = true := by kernel_rfl
theorem jeEntryCheck : (Rows.entryCheckRow.loops == (Try.f12.params.toList ++ Rows.entryCheckSpec.plain.varTypes Try.pinned.checked.prog).any (Try.pinned.checked.prog.loopsFrom ·)) = true := by kernel_rfl
theorem jjEntryCheck : joinedFacts Try.pinned.checked.prog 12 Try.f12 Rows.entryCheckSpec Rows.entryCheckRow = true :=
  joined_of (by kernel_rfl) jf_laid jf_maps (by kernel_rfl) (by kernel_rfl) (by kernel_rfl) jf_stops (by kernel_rfl) jf_knobs jaEntryCheck jbEntryCheck jcEntryCheck jdEntryCheck (by kernel_rfl) (by kernel_rfl) (by kernel_rfl) jeEntryCheck (by kernel_rfl) (by kernel_rfl) (by kernel_rfl) (by kernel_rfl) (by kernel_rfl) (by rw [← jf_keys]; rfl) (by kernel_rfl) jf_heard jf_enter jf_lifts jf_make (by kernel_rfl) (by kernel_rfl) (by kernel_rfl) (by kernel_rfl)
theorem overEntryCheck : Rows.entryCheckRow.holds Try.pinned (OpenSpec.ofChange Rows.entryCheckSpec) :=
  OpenClaim.holds_of_wide 12 Try.f12 rfl rfl rfl rfl rfl rfl rfl ⟨rfl, rfl, rfl, rfl, rfl⟩ rfl rfl rfl rfl rfl jnEntryCheck Try.func12 jjEntryCheck
    (of_decide_eq_true (by kernel_rfl)) (by unfold Func.isWrapper; first | (rw [if_pos (by decide +kernel)]; kernel_rfl) | (rw [if_neg (by decide +kernel)]; exact ⟨rfl, rfl⟩))
    (fun os started H enc _ => liftedEntryCheck os started H enc)

theorem entryCheck : Rows.EntryCheckSaid := overEntryCheck
#print axioms entryCheck
end Go.Proofs.Ytnigokmjehemaaa
