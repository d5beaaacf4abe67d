/- A pair of numbers, opened. -/
import Derived.Test.YtnigokmjehemaaaJF1F7
import Derived.Test.YtnigokmjehemaaaProg
namespace Go.Proofs.Ytnigokmjehemaaa
open Go Go.ChangeShapes Go.WideShapes Go.ChangeAt Go.RowKit
set_option linter.unusedVariables false
set_option linter.unusedSimpArgs false
theorem pair_list {l : List Value} {a b : Int} {c : Nat} (hc : c = 1) (hl : l.length = 2) (h0 : (l.drop (0 * c)).take c = [.int .i64 a]) (h1 : (l.drop (1 * c)).take c = [.int .i64 b]) : l = [.int .i64 a, .int .i64 b] := by
  subst hc
  match l, hl with
  | [u, v], _ =>
    simp at h0 h1
    rw [h0, h1]
set_option maxRecDepth 100000 in
theorem pair_open {H : Type} {enc : TypeId × Value → H} {W : World} {base : Nat} {spare : Nat → Bool} {held : Bool} {fuel : Nat} {cs : Array Value} {x : DataW H × List MemPlace}
    (h : DataW.trod enc Try.prog W base spare held fuel 96 cs.toList = some x) : ∃ a b : Int, cs = #[.int .i64 a, .int .i64 b] ∧ intBd a ∧ intBd b := by
  obtain ⟨xs, n, _, hx, hcl, hxl, hel⟩ := DataW.trod_array Try.underlying96 h
  have e0 := (hel 0 (by decide)).trans (List.getElem?_eq_getElem (show 0 < xs.length by rw [hxl]; decide))
  have e1 := (hel 1 (by decide)).trans (List.getElem?_eq_getElem (show 1 < xs.length by rw [hxl]; decide))
  have c1 : Try.prog.cellsOf 3 = 1 := by kernel_rfl
  obtain ⟨za, q1, _, w1⟩ := DataW.trod_int Try.underlying3 e0
  obtain ⟨zb, q2, _, w2⟩ := DataW.trod_int Try.underlying3 e1
  have hcl2 : cs.toList.length = 2 := hcl.trans (by kernel_rfl)
  have hp := pair_list c1 hcl2 q1 q2
  clear c1 e0 e1 hx hel hcl hcl2 q1 q2
  simp only [Lit.wf, IntKind.min, IntKind.max, Bool.and_eq_true, decide_eq_true_eq] at w1 w2
  simp [IntKind.signed, IntKind.bits] at w1 w2
  exact ⟨za, zb, Array.ext' hp, by unfold intBd; omega, by unfold intBd; omega⟩
end Go.Proofs.Ytnigokmjehemaaa
