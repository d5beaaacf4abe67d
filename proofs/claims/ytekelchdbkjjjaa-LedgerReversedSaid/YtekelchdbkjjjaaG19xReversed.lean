/- LedgerReversed is proved: for any group, entries and three numbers the law answers true; no condition. -/
import Derived.Test.YtekelchdbkjjjaaG19xB0B3
import Derived.Test.YtekelchdbkjjjaaG19xB4B12
import Derived.Test.YtekelchdbkjjjaaG19xB13B14
import Derived.Test.YtekelchdbkjjjaaG19xB28S2
import Derived.Test.YtekelchdbkjjjaaG19xC4E3
import Derived.Test.YtekelchdbkjjjaaG19xE5H1
import Derived.Test.YtekelchdbkjjjaaG19xH2I7
import Derived.Test.YtekelchdbkjjjaaG19xI14I15
import Derived.Test.YtekelchdbkjjjaaG19xD1
import Derived.Test.YtekelchdbkjjjaaG19xD2
import Derived.Test.YtekelchdbkjjjaaG19xD3
import Derived.Test.YtekelchdbkjjjaaG19xD4
import Derived.Test.YtekelchdbkjjjaaG19xK1A7
import Derived.Test.YtekelchdbkjjjaaG19xA8A15
import Derived.Test.YtekelchdbkjjjaaG19xA20A22
import Derived.Test.YtekelchdbkjjjaaRows
import Derived.Test.YtekelchdbkjjjaaChecked
import Derived.Test.YtekelchdbkjjjaaProg
set_option linter.unusedVariables false
set_option linter.unusedSimpArgs false
namespace Go.Proofs.Ytekelchdbkjjjaa
open Go Go.ChangeShapes Go.WideShapes Go.ChangeAt Go.RowKit
open Go.ChangeMaps (open_string shut_string)
set_option maxRecDepth 100000 in
set_option maxHeartbeats 2000000 in
theorem liftedLedgerReversed (os : Os) (started : os.Started) (H : Type) (enc : TypeId × Value → H) :
 ReturnsInHanded {} Try.checked os 4 .any (Rows.ledgerReversedSpec.pre6 enc Try.prog Try.f4 Rows.ledgerReversedRow.domain false) (Rows.ledgerReversedSpec.post enc Try.prog Try.f4 false true false false) := by
 refine returnsInHanded_of_change_sized (C := Try.checked) own started (by kernel_rfl) Try.func4
  (ChangeSpec.witness6 (enc := enc) (C := Try.checked) false ⟨#[], #[.agg #[.string ⟨#[]⟩, .int .i64 0, .int .i64 0, .int .i64 0, .slice none 0 0, .int .i64 0, .int .i64 0, .int .i64 0, .int .i64 0, .int .i64 0, .int .i64 0, .int .i64 0, .int .i64 0, .int .i64 0, .int .i64 0, .int .i64 0, .int .i64 0, .int .i64 0, .int .i64 0, .int .i64 0, .slice none 0 0], .slice none 0 0, .agg #[.int .i64 0, .int .i64 0, .int .i64 0]], []⟩ 8 (by kernel_rfl) (by kernel_rfl) (by kernel_rfl) (by kernel_rfl)) ?_
 intro W base args ds gs before hval0 hW hcnd hsz _
 have hval : ∀ (j : Nat) t v, Try.f4.params[j]? = some t → args[j]? = some v → Value.okWide Try.prog W .any base t v := hval0
 have hW' := hW
 obtain ⟨p, q, hA0, hV, rfl, hfz, hnd⟩ := hW
 have hA : DataW.TrodAll enc Try.prog W 0 (fun _ => true) true Try.f4.params.toList args.toList ds p := hA0
 rw [Try.params4] at hA hval
 obtain ⟨v0, vs0, d0, ds0, p0, q0, hargs, rfl, rfl, h0, r0⟩ := trodAll_cons hA
 obtain ⟨v1, vs1, d1, ds1, p1, q1, rfl, rfl, rfl, h1, r1⟩ := trodAll_cons r0
 obtain ⟨v2, vs2, d2, ds2, p2, q2, rfl, rfl, rfl, h2, r2⟩ := trodAll_cons r1
 obtain ⟨rfl, rfl, rfl⟩ := trodAll_nil r2
 obtain rfl : args = #[v0, v1, v2] := by cases args; simp_all
 obtain ⟨rfl, rfl⟩ := trodVars_none hV
 have o0 := hval 0 29 v0 rfl rfl
 have o1 := hval 1 30 v1 rfl rfl
 have o2 := hval 2 31 v2 rfl rfl
 have k0 := h0
 have k1 := h1
 have k2 := h2
 have lt0 : ∀ x ∈ p0, x.block < W.heap.size := by obtain ⟨m, hm⟩ := k0; exact DataW.trod_lt m _ _ _ hm
 have lt1 : ∀ x ∈ p1, x.block < W.heap.size := by obtain ⟨m, hm⟩ := k1; exact DataW.trod_lt m _ _ _ hm
 have lt2 : ∀ x ∈ p2, x.block < W.heap.size := by obtain ⟨m, hm⟩ := k2; exact DataW.trod_lt m _ _ _ hm
 have hwt : ∀ (j : Nat) (t : TypeId) (d : DataW H), ([29, 30, 31] : List TypeId)[j]? = some t → [d0, d1, d2][j]? = some d → ∀ n ∈ d.weights Try.prog t, n ≤ reachBytes := fun j t d ht hd n hn => by
  have := List.all_eq_true.1 hsz n (DataW.weights_mem_each (j := j) (t := t) (d := d) ht (by simpa using hd) n hn)
  simpa using this
 obtain ⟨cs0, rfl, _⟩ := okWide_struct Try.underlying29 o0
 obtain ⟨a0, c0, z0⟩ : ∃ a, GroupC W (· < W.heap.size) cs0.toList a ∧ szG a := by
  obtain ⟨fuel, hf⟩ := h0
  exact opGroup _ _ _ hf (fun b off hm => hfz b off (by simp [hm])) (hwt 0 _ d0 rfl rfl)
 obtain ⟨A1, m1, b1, rfl⟩ := okWide_slice Try.underlying30 o1
 obtain ⟨a1, c1, z1⟩ : ∃ a, ListC EntryC 7 W (· < W.heap.size) [.slice A1 m1 b1] a ∧ zList szEntry a := by
  obtain ⟨fuel, hf⟩ := h1
  exact opLEntry _ _ _ hf (fun b off hm => hfz b off (by simp [hm])) (hwt 1 _ d1 rfl rfl)
 obtain rfl : m1 = a1.length := by
  obtain ⟨_, _, e, _⟩ := c1
  simp only [List.cons.injEq, and_true, Value.slice.injEq] at e
  exact e.2.1
 obtain ⟨cs2, rfl⟩ : ∃ cs, v2 = .agg cs := by
  have h := o2
  simp only [Value.okWide, Try.underlying31] at h
  obtain ⟨cs, h1, _⟩ := h
  exact ⟨cs, h1⟩
 obtain ⟨a2, b2, d2x, rfl, c2⟩ : ∃ a b d : Int, cs2 = #[.int .i64 a, .int .i64 b, .int .i64 d] ∧ intBd a ∧ intBd b ∧ intBd d := by
  obtain ⟨fuel, hf⟩ := h2
  exact triple_open hf
 clear hA0 hval0
 refine (law_ledgerReversed a0 a1 cs0.toList A1 b1 a2 b2 d2x W c0 z0 c1 c2 z1).mono fun e W' ⟨he, bel⟩ => ?_
 subst he
 exact ⟨_, rfl, _, _, _, [], _, [], hW', trodAll_mk1 (shut_bool Try.underlying4 _), (trodAll_cons_mk (Below.trod laidOut (by kernel_rfl) (of_decide_eq_true (by kernel_rfl)) k0 bel lt0) (trodAll_cons_mk (Below.trod laidOut (by kernel_rfl) (of_decide_eq_true (by kernel_rfl)) k1 bel lt1) (trodAll_cons_mk (Below.trod laidOut (by kernel_rfl) (of_decide_eq_true (by kernel_rfl)) k2 bel lt2) trodAll_mk0))), rfl, bel.frame _, fun h => by cases h⟩
theorem jnLedgerReversed : Try.pinned.checked.prog.funcNamed Rows.ledgerReversedRow.func = some 4 := by kernel_rfl
theorem jaLedgerReversed : (Rows.ledgerReversedRow.inPlace == Try.pinned.checked.prog.inPlace 4) = true := by kernel_rfl
theorem jbLedgerReversed : (Rows.ledgerReversedRow.unfollowed == Try.pinned.checked.prog.unfollowed 4) = true := by kernel_rfl
theorem jcLedgerReversed : (Rows.ledgerReversedRow.recurses == Try.pinned.checked.prog.recurses 4) = true := by kernel_rfl
theorem jdLedgerReversed : (Rows.ledgerReversedRow.named == Try.pinned.checked.prog.varsNamed 4) = true := by kernel_rfl
theorem jeLedgerReversed : (Rows.ledgerReversedRow.loops == (Try.f4.params.toList ++ Rows.ledgerReversedSpec.plain.varTypes Try.pinned.checked.prog).any (Try.pinned.checked.prog.loopsFrom ·)) = true := by kernel_rfl
theorem jjLedgerReversed : joinedFacts Try.pinned.checked.prog 4 Try.f4 Rows.ledgerReversedSpec Rows.ledgerReversedRow = true :=
 joined_of (by kernel_rfl) jf_laid jf_maps (by kernel_rfl) (by kernel_rfl) (by kernel_rfl) jf_stops (by kernel_rfl) jf_knobs jaLedgerReversed jbLedgerReversed jcLedgerReversed jdLedgerReversed (by kernel_rfl) (by kernel_rfl) (by kernel_rfl) jeLedgerReversed (by kernel_rfl) (by kernel_rfl) (by kernel_rfl) (by kernel_rfl) (by kernel_rfl) (by rw [← jf_keys]; rfl) (by kernel_rfl) jf_heard jf_enter jf_lifts jf_make (by kernel_rfl) (by kernel_rfl) (by kernel_rfl) (by kernel_rfl)
theorem overLedgerReversed : Rows.ledgerReversedRow.holds Try.pinned (OpenSpec.ofChange Rows.ledgerReversedSpec) :=
 OpenClaim.holds_of_wide 4 Try.f4 rfl rfl rfl rfl rfl rfl rfl ⟨rfl, rfl, rfl, rfl, rfl⟩ rfl rfl rfl rfl rfl jnLedgerReversed Try.func4 jjLedgerReversed
  (of_decide_eq_true (by kernel_rfl)) (by unfold Func.isWrapper; first | (rw [if_pos (by decide +kernel)]; kernel_rfl) | (rw [if_neg (by decide +kernel)]; exact ⟨rfl, rfl⟩))
  (fun os started H enc _ => liftedLedgerReversed os started H enc)
theorem ledgerReversed : Rows.LedgerReversedSaid := overLedgerReversed
#print axioms ledgerReversed
end Go.Proofs.Ytekelchdbkjjjaa
