/- EntryLines is proved: for any two lists of lines the law answers true; no condition. -/
import Derived.Test.YtebdajkknkapcaaG6xB0B10
import Derived.Test.YtebdajkknkapcaaG6xB14E6
import Derived.Test.YtebdajkknkapcaaG6xE8F6
import Derived.Test.YtebdajkknkapcaaG6xF4I13
import Derived.Test.YtebdajkknkapcaaG6xI14Q1
import Derived.Test.YtebdajkknkapcaaG6xD1
import Derived.Test.YtebdajkknkapcaaG6xD2
import Derived.Test.YtebdajkknkapcaaG6xD3
import Derived.Test.YtebdajkknkapcaaG6xD4
import Derived.Test.YtebdajkknkapcaaG6xQ3
import Derived.Test.YtebdajkknkapcaaRows
import Derived.Test.YtebdajkknkapcaaChecked
import Derived.Test.YtebdajkknkapcaaProg
set_option linter.unusedVariables false
set_option linter.unusedSimpArgs false
namespace Go.Proofs.Ytebdajkknkapcaa
open Go Go.ChangeShapes Go.WideShapes Go.ChangeAt Go.RowKit
open Go.ChangeMaps (open_string shut_string)
set_option maxRecDepth 100000 in
theorem liftedEntryLines (os : Os) (started : os.Started) (H : Type) (enc : TypeId × Value → H) :
 ReturnsInHanded {} Try.checked os 5 .any (Rows.entryLinesSpec.pre6 enc Try.prog Try.f5 Rows.entryLinesRow.domain false) (Rows.entryLinesSpec.post enc Try.prog Try.f5 false true false false) := by
 refine returnsInHanded_of_change_sized (C := Try.checked) own started (by kernel_rfl) Try.func5
  (ChangeSpec.witness6 (enc := enc) (C := Try.checked) false ⟨#[], #[.slice none 0 0, .slice none 0 0], []⟩ 8 (by kernel_rfl) (by kernel_rfl) (by kernel_rfl) (by kernel_rfl)) ?_
 intro W base args ds gs before hval0 hW hcnd hsz _
 have hval : ∀ (j : Nat) t v, Try.f5.params[j]? = some t → args[j]? = some v → Value.okWide Try.prog W .any base t v := hval0
 have hW' := hW
 obtain ⟨p, q, hA0, hV, rfl, hfz, hnd⟩ := hW
 have hA : DataW.TrodAll enc Try.prog W 0 (fun _ => true) true Try.f5.params.toList args.toList ds p := hA0
 rw [Try.params5] at hA hval
 obtain ⟨v0, vs0, d0, ds0, p0, q0, hargs, rfl, rfl, h0, r0⟩ := trodAll_cons hA
 obtain ⟨v1, vs1, d1, ds1, p1, q1, rfl, rfl, rfl, h1, r1⟩ := trodAll_cons r0
 obtain ⟨rfl, rfl, rfl⟩ := trodAll_nil r1
 obtain rfl : args = #[v0, v1] := by cases args; simp_all
 obtain ⟨rfl, rfl⟩ := trodVars_none hV
 have o0 := hval 0 40 v0 rfl rfl
 have o1 := hval 1 40 v1 rfl rfl
 have k0 := h0
 have k1 := h1
 have lt0 : ∀ x ∈ p0, x.block < W.heap.size := by obtain ⟨m, hm⟩ := k0; exact DataW.trod_lt m _ _ _ hm
 have lt1 : ∀ x ∈ p1, x.block < W.heap.size := by obtain ⟨m, hm⟩ := k1; exact DataW.trod_lt m _ _ _ hm
 have hwt : ∀ (j : Nat) (t : TypeId) (d : DataW H), ([40, 40] : List TypeId)[j]? = some t → [d0, d1][j]? = some d → ∀ n ∈ d.weights Try.prog t, n ≤ reachBytes := fun j t d ht hd n hn => by
  have := List.all_eq_true.1 hsz n (DataW.weights_mem_each (j := j) (t := t) (d := d) ht (by simpa using hd) n hn)
  simpa using this
 obtain ⟨A0, m0, b0, rfl⟩ := okWide_slice Try.underlying40 o0
 obtain ⟨a0, c0, z0⟩ : ∃ a, ListC LineC 3 W (· < W.heap.size) [.slice A0 m0 b0] a ∧ zList szLine a := by
  obtain ⟨fuel, hf⟩ := h0
  exact opLLine _ _ _ hf (fun b off hm => hfz b off (by simp [hm])) (hwt 0 _ d0 rfl rfl)
 obtain rfl : m0 = a0.length := by
  obtain ⟨_, _, e, _⟩ := c0
  simp only [List.cons.injEq, and_true, Value.slice.injEq] at e
  exact e.2.1
 obtain ⟨A1, m1, b1, rfl⟩ := okWide_slice Try.underlying40 o1
 obtain ⟨a1, c1, z1⟩ : ∃ a, ListC LineC 3 W (· < W.heap.size) [.slice A1 m1 b1] a ∧ zList szLine a := by
  obtain ⟨fuel, hf⟩ := h1
  exact opLLine _ _ _ hf (fun b off hm => hfz b off (by simp [hm])) (hwt 1 _ d1 rfl rfl)
 obtain rfl : m1 = a1.length := by
  obtain ⟨_, _, e, _⟩ := c1
  simp only [List.cons.injEq, and_true, Value.slice.injEq] at e
  exact e.2.1
 clear hA0 hval0
 refine (law_lines a0 a1 A0 A1 b0 b1 W c0 c1).mono fun e W' ⟨he, bel⟩ => ?_
 subst he
 exact ⟨_, rfl, _, _, _, [], _, [], hW', trodAll_mk1 (shut_bool Try.underlying4 _), (trodAll_cons_mk (Below.trod laidOut (by kernel_rfl) (of_decide_eq_true (by kernel_rfl)) k0 bel lt0) (trodAll_cons_mk (Below.trod laidOut (by kernel_rfl) (of_decide_eq_true (by kernel_rfl)) k1 bel lt1) trodAll_mk0)), rfl, bel.frame _, fun h => by cases h⟩
theorem jnEntryLines : Try.pinned.checked.prog.funcNamed Rows.entryLinesRow.func = some 5 := by kernel_rfl
theorem jaEntryLines : (Rows.entryLinesRow.inPlace == Try.pinned.checked.prog.inPlace 5) = true := by kernel_rfl
theorem jbEntryLines : (Rows.entryLinesRow.unfollowed == Try.pinned.checked.prog.unfollowed 5) = true := by kernel_rfl
theorem jcEntryLines : (Rows.entryLinesRow.recurses == Try.pinned.checked.prog.recurses 5) = true := by kernel_rfl
theorem jdEntryLines : (Rows.entryLinesRow.named == Try.pinned.checked.prog.varsNamed 5) = true := by kernel_rfl
theorem jeEntryLines : (Rows.entryLinesRow.loops == (Try.f5.params.toList ++ Rows.entryLinesSpec.plain.varTypes Try.pinned.checked.prog).any (Try.pinned.checked.prog.loopsFrom ·)) = true := by kernel_rfl
theorem jjEntryLines : joinedFacts Try.pinned.checked.prog 5 Try.f5 Rows.entryLinesSpec Rows.entryLinesRow = true :=
 joined_of (by kernel_rfl) jf_laid jf_maps (by kernel_rfl) (by kernel_rfl) (by kernel_rfl) jf_stops (by kernel_rfl) jf_knobs jaEntryLines jbEntryLines jcEntryLines jdEntryLines (by kernel_rfl) (by kernel_rfl) (by kernel_rfl) jeEntryLines (by kernel_rfl) (by kernel_rfl) (by kernel_rfl) (by kernel_rfl) (by kernel_rfl) (by rw [← jf_keys]; rfl) (by kernel_rfl) jf_heard jf_enter jf_lifts jf_make (by kernel_rfl) (by kernel_rfl) (by kernel_rfl) (by kernel_rfl)
theorem overEntryLines : Rows.entryLinesRow.holds Try.pinned (OpenSpec.ofChange Rows.entryLinesSpec) :=
 OpenClaim.holds_of_wide 5 Try.f5 rfl rfl rfl rfl rfl rfl rfl ⟨rfl, rfl, rfl, rfl, rfl⟩ rfl rfl rfl rfl rfl jnEntryLines Try.func5 jjEntryLines
  (of_decide_eq_true (by kernel_rfl)) (by unfold Func.isWrapper; first | (rw [if_pos (by decide +kernel)]; kernel_rfl) | (rw [if_neg (by decide +kernel)]; exact ⟨rfl, rfl⟩))
  (fun os started H enc _ => liftedEntryLines os started H enc)
theorem entryLines : Rows.EntryLinesSaid := overEntryLines
#print axioms entryLines
end Go.Proofs.Ytebdajkknkapcaa
