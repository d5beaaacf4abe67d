/- CodecCut is proved: for any event, any books and any number, nothing that is cut off an encoding or longer than it is parsed; no condition. -/
import Derived.Test.YtgdibeegheddmaaZQ2CutWalk
namespace Go.Proofs.Ytgdibeegheddmaa
open Go Go.ChangeShapes Go.WideShapes Go.ChangeAt Go.RowKit
open Go.ChangeMaps (open_string shut_string)
set_option linter.unusedVariables false
set_option linter.unusedSimpArgs false

set_option maxRecDepth 100000 in
theorem event_open10 {base : Nat} {H : Type} {enc : TypeId × Value → H} {W : World} {v : Value} {d : DataW H} {p : List MemPlace} (hk : Value.okWide Try.prog W .any base 45 v)
    (h : DataW.Trod enc Try.prog W 0 (fun _ => true) true 45 v d p) (hfz : ∀ b off, MemPlace.cell b off ∈ p → W.frozen? ⟨b, off, none⟩ = false) :
    ∃ (cx : List Value) (x : XEvent), v = .agg cx.toArray ∧ EventC W (· < W.heap.size) cx x := by
  obtain ⟨cs, rfl, _⟩ := okWide_struct Try.underlying45 hk
  obtain ⟨fuel, hf⟩ := h
  obtain ⟨x, hx⟩ := opEvent _ _ _ hf hfz
  exact ⟨_, x, by simp [Value.cells], hx⟩

set_option maxRecDepth 100000 in
theorem books_open10 {base : Nat} {H : Type} {enc : TypeId × Value → H} {W : World} {v : Value} {d : DataW H} {p : List MemPlace} (hk : Value.okWide Try.prog W .any base 67 v)
    (h : DataW.Trod enc Try.prog W 0 (fun _ => true) true 67 v d p) (hfz : ∀ b off, MemPlace.cell b off ∈ p → W.frozen? ⟨b, off, none⟩ = false) :
    ∃ (cx : List Value) (x : XBooks), v = .agg cx.toArray ∧ BooksC W (· < W.heap.size) cx x := by
  obtain ⟨cs, rfl, _⟩ := okWide_struct Try.underlying67 hk
  obtain ⟨fuel, hf⟩ := h
  obtain ⟨x, hx⟩ := opBooks _ _ _ hf hfz
  exact ⟨_, x, by simp [Value.cells], hx⟩
theorem bd16_of {n : Int} (h : (Lit.int .u16 n).wf = true) : 0 ≤ n ∧ n ≤ 65535 := by
  simp only [Lit.wf, IntKind.min, IntKind.max, Bool.and_eq_true] at h
  have h1 := h.1
  have h2 := h.2
  simp [IntKind.signed, IntKind.bits] at h1 h2
  omega

set_option maxRecDepth 100000 in
theorem liftedCut (os : Os) (started : os.Started) (H : Type) (enc : TypeId × Value → H) :
    ReturnsInHanded {} Try.checked os 10 .any (Rows.codecCutSpec.pre6 enc Try.prog Try.f10 Rows.codecCutRow.domain false) (Rows.codecCutSpec.post enc Try.prog Try.f10 false true false false) := by
  refine returnsInHanded_of_change (C := Try.checked) own started (by kernel_rfl) Try.func10
    (ChangeSpec.witness6 (enc := enc) (C := Try.checked) false ⟨#[], #[.agg (evCells 0 zEntry zRate zHolding zMatch zStock 0 0 ⟨#[]⟩).toArray, .agg zBk.toArray, .int .u16 0], []⟩ 8 (by kernel_rfl) (by kernel_rfl) (by kernel_rfl) (by kernel_rfl)) ?_
  intro W base args ds gs before hval0 hW hcnd _
  have hval : ∀ (j : Nat) t v, Try.f10.params[j]? = some t → args[j]? = some v → Value.okWide Try.prog W .any base t v := hval0
  have hW' := hW
  obtain ⟨p, q, hA0, hV, rfl, hfz, hnd⟩ := hW
  have hA : DataW.TrodAll enc Try.prog W 0 (fun _ => true) true Try.f10.params.toList args.toList ds p := hA0
  rw [Try.params10] at hA hval
  obtain ⟨v0, vs0, d0, ds0, p0, q0, hargs, rfl, rfl, h0, r0⟩ := trodAll_cons hA
  obtain ⟨v1, vs1, d1, ds1, p1, q1, rfl, rfl, rfl, h1, r1⟩ := trodAll_cons r0
  obtain ⟨v2, vs2, d2, ds2, p2, q2, rfl, rfl, rfl, h2, r2⟩ := trodAll_cons r1
  obtain ⟨rfl, rfl, rfl⟩ := trodAll_nil r2
  obtain rfl : args = #[v0, v1, v2] := by cases args; simp_all
  obtain ⟨rfl, rfl⟩ := trodVars_none hV
  have o0 := hval 0 45 v0 rfl rfl
  have o1 := hval 1 67 v1 rfl rfl
  obtain ⟨n, rfl, rfl, rfl, w2⟩ := open_int Try.underlying74 (hval 2 74 v2 rfl rfl) h2
  have k0 := h0
  have k1 := h1
  have lt0 : ∀ x ∈ p0, x.block < W.heap.size := by obtain ⟨m, hm⟩ := k0; exact DataW.trod_lt m _ _ _ hm
  have lt1 : ∀ x ∈ p1, x.block < W.heap.size := by obtain ⟨m, hm⟩ := k1; exact DataW.trod_lt m _ _ _ hm
  obtain ⟨cx, x, rfl, hx⟩ := event_open10 o0 h0 (fun b off hm => hfz b off (by simp [hm]))
  obtain ⟨cy, y, rfl, hy⟩ := books_open10 o1 h1 (fun b off hm => hfz b off (by simp [hm]))
  clear hA0 hval0
  refine (cut_c x y cx cy n W hx hy (bd16_of w2).1 (bd16_of w2).2).mono fun e W' ⟨he, bel⟩ => ?_
  subst he
  exact ⟨_, rfl, _, _, _, [], _, [], hW', trodAll_mk1 (shut_bool Try.underlying4 _), (trodAll_cons_mk (Below.trod laidOut (by kernel_rfl) (of_decide_eq_true (by kernel_rfl)) k0 bel lt0)
    (trodAll_cons_mk (Below.trod laidOut (by kernel_rfl) (of_decide_eq_true (by kernel_rfl)) k1 bel lt1)
    (trodAll_cons_mk (shut_int Try.underlying74 w2) trodAll_mk0))), rfl, bel.frame _, fun h => by cases h⟩

theorem overCut : Rows.codecCutRow.holds Try.pinned (OpenSpec.ofChange Rows.codecCutSpec) :=
  OpenClaim.holds_of_wide 10 Try.f10 rfl rfl rfl rfl rfl rfl rfl ⟨rfl, rfl, rfl, rfl, rfl⟩ rfl rfl rfl rfl rfl (by kernel_rfl) Try.func10 (by kernel_rfl)
    (of_decide_eq_true (by kernel_rfl)) (by unfold Func.isWrapper; first | (rw [if_pos (by decide +kernel)]; kernel_rfl) | (rw [if_neg (by decide +kernel)]; exact ⟨rfl, rfl⟩))
    (fun os started H enc _ => liftedCut os started H enc)

theorem codecCut : Rows.CodecCutSaid := overCut
#print axioms codecCut
end Go.Proofs.Ytgdibeegheddmaa
