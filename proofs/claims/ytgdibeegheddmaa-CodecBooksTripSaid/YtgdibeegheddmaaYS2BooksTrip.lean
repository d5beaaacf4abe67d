/- CodecBooksTrip is proved: for any books and any bytes, writing and parsing books answer as the statement says; no condition. -/
import Derived.Test.YtgdibeegheddmaaYS1TripWalk
namespace Go.Proofs.Ytgdibeegheddmaa
open Go Go.ChangeShapes Go.WideShapes Go.ChangeAt Go.RowKit
open Go.ChangeMaps (open_string shut_string)
set_option linter.unusedVariables false
set_option linter.unusedSimpArgs false

set_option maxRecDepth 100000 in
theorem books_open9 {base : Nat} {H : Type} {enc : TypeId × Value → H} {W : World} {v : Value} {d : DataW H} {p : List MemPlace} (hk : Value.okWide Try.prog W .any base 67 v)
    (h : DataW.Trod enc Try.prog W 0 (fun _ => true) true 67 v d p) (hfz : ∀ b off, MemPlace.cell b off ∈ p → W.frozen? ⟨b, off, none⟩ = false) :
    ∃ (cx : List Value) (x : XBooks), v = .agg cx.toArray ∧ BooksC W (· < W.heap.size) cx x := by
  obtain ⟨cs, rfl, _⟩ := okWide_struct Try.underlying67 hk
  obtain ⟨fuel, hf⟩ := h
  obtain ⟨x, hx⟩ := opBooks _ _ _ hf hfz
  exact ⟨_, x, by simp [Value.cells], hx⟩
set_option maxRecDepth 100000 in
theorem liftedBTrip (os : Os) (started : os.Started) (H : Type) (enc : TypeId × Value → H) :
    ReturnsInHanded {} Try.checked os 9 .any (Rows.codecBooksTripSpec.pre6 enc Try.prog Try.f9 Rows.codecBooksTripRow.domain false) (Rows.codecBooksTripSpec.post enc Try.prog Try.f9 false true false false) := by
  refine returnsInHanded_of_change (C := Try.checked) own started (by kernel_rfl) Try.func9
    (ChangeSpec.witness6 (enc := enc) (C := Try.checked) false ⟨#[], #[.agg zBk.toArray, .slice none 0 0], []⟩ 8 (by kernel_rfl) (by kernel_rfl) (by kernel_rfl) (by kernel_rfl)) ?_
  intro W base args ds gs before hval0 hW hcnd _
  have hval : ∀ (j : Nat) t v, Try.f9.params[j]? = some t → args[j]? = some v → Value.okWide Try.prog W .any base t v := hval0
  have hW' := hW
  obtain ⟨p, q, hA0, hV, rfl, hfz, hnd⟩ := hW
  have hA : DataW.TrodAll enc Try.prog W 0 (fun _ => true) true Try.f9.params.toList args.toList ds p := hA0
  rw [Try.params9] at hA hval
  obtain ⟨v0, vs0, d0, ds0, p0, q0, hargs, rfl, rfl, h0, r0⟩ := trodAll_cons hA
  obtain ⟨v1, vs1, d1, ds1, p1, q1, rfl, rfl, rfl, h1, r1⟩ := trodAll_cons r0
  obtain ⟨rfl, rfl, rfl⟩ := trodAll_nil r1
  obtain rfl : args = #[v0, v1] := by cases args; simp_all
  obtain ⟨rfl, rfl⟩ := trodVars_none hV
  have o0 := hval 0 67 v0 rfl rfl
  obtain ⟨a0, len0, cap0, rfl⟩ := okWide_slice Try.underlying22 (hval 1 22 v1 rfl rfl)
  have k0 := h0
  have k1 := h1
  have lt0 : ∀ x ∈ p0, x.block < W.heap.size := by obtain ⟨m, hm⟩ := k0; exact DataW.trod_lt m _ _ _ hm
  have lt1 : ∀ x ∈ p1, x.block < W.heap.size := by obtain ⟨m, hm⟩ := k1; exact DataW.trod_lt m _ _ _ hm
  obtain ⟨cx, x, rfl, hx⟩ := books_open9 o0 h0 (fun b off hm => hfz b off (by simp [hm]))
  obtain ⟨L, hL, hlc, hcm, hrd⟩ := bytes_open h1 (fun b off hm => hfz b off (by simp [hm]))
  subst hL
  clear hA0 hval0
  refine (booksTrip_c x cx a0 cap0 L W hx hrd hlc).mono fun e W' ⟨he, bel⟩ => ?_
  subst he
  exact ⟨_, rfl, _, _, _, [], _, [], hW', trodAll_mk1 (shut_bool Try.underlying4 _), (trodAll_cons_mk (Below.trod laidOut (by kernel_rfl) (of_decide_eq_true (by kernel_rfl)) k0 bel lt0)
    (trodAll_cons_mk (Below.trod laidOut (by kernel_rfl) (of_decide_eq_true (by kernel_rfl)) k1 bel lt1) trodAll_mk0)), rfl, bel.frame _, fun h => by cases h⟩

theorem overBTrip : Rows.codecBooksTripRow.holds Try.pinned (OpenSpec.ofChange Rows.codecBooksTripSpec) :=
  OpenClaim.holds_of_wide 9 Try.f9 rfl rfl rfl rfl rfl rfl rfl ⟨rfl, rfl, rfl, rfl, rfl⟩ rfl rfl rfl rfl rfl (by kernel_rfl) Try.func9 (by kernel_rfl)
    (of_decide_eq_true (by kernel_rfl)) (by unfold Func.isWrapper; first | (rw [if_pos (by decide +kernel)]; kernel_rfl) | (rw [if_neg (by decide +kernel)]; exact ⟨rfl, rfl⟩))
    (fun os started H enc _ => liftedBTrip os started H enc)

theorem codecBooksTrip : Rows.CodecBooksTripSaid := overBTrip
#print axioms codecBooksTrip
end Go.Proofs.Ytgdibeegheddmaa
