/- The example of the document holds: awake; bytes as strings. -/
import Derived.Test.YtgdibeegheddmaaE4Event
namespace Go.Proofs.Ytgdibeegheddmaa
open Go Go.RowKit
set_option linter.unusedVariables false

def bstr (L : List UInt8) : ByteArray := ⟨L.toArray⟩
theorem run_str {w : World} {Q : Nat → Prop} {A : Option Addr} {c : Nat} {L : List UInt8} (h : Rd w Q A L.length 1 (bv L)) :
    (convert 22 9 (.slice A L.length c)).run Try.prog w = .ok (.string (bstr L)) w := by
  rw [run_convert_bytes_string w 22 9 5 _ _ c Try.underlying22 Try.underlying5 Try.underlying9]
  rcases A with _ | ad
  · have : L = [] := by
      rcases Nat.eq_zero_or_pos L.length with h0 | h0
      · exact List.eq_nil_of_length_eq_zero h0
      · obtain ⟨a, e, _⟩ := h.2 h0
        cases e
    subst this
    rfl
  · have hl : (loadCells ad L.length).run Try.prog w = .ok ((L.map fun c => (c.toNat : Int)).map (Value.int .u8)).toArray w := by
      have := run_loadCells_list (P := Try.prog) w ad (bv L) (fun j v hj => by
        have hjl : j < L.length := by
          have := (List.getElem?_eq_some_iff.1 hj).1
          simpa [bv] using this
        obtain ⟨a, e, hat⟩ := h.2 (by omega)
        injection e with e
        subst e
        exact (hat.2 j v hj).1)
      rw [bv_length] at this
      rw [this]
      simp [bv, Function.comp_def]
    rw [run_bytesToString w ad L.length c _ hl, foldl_push_bytes]
    simp [bstr, ByteArray.empty, ByteArray.emptyWithCapacity, Function.comp_def]
    rfl

set_option maxRecDepth 100000 in
theorem awake_ev : eventR { kind := 8, a := 1, b := 5 } = ([16, 2, 10], 0) := by decide +kernel
theorem enc64 : enc 64 = [128, 1] := by decide +kernel

set_option maxHeartbeats 1000000 in
set_option maxRecDepth 100000 in
theorem awake_c (w : World) : Calls Try.prog 11 #[] w fun e w' => e = .returned (.bool true) ∧ Below w.heap.size w w' := by
  go_enter Try.func11, Try.ntmps11
  go_wp2_with fail
  have hx : EventC w (· < w.heap.size) (evCells 8 zEntry zRate zHolding zMatch zStock 1 5 ⟨#[]⟩) { kind := 8, a := 1, b := 5 } :=
    evC (by unfold intBd; omega) (zEntryC _ _) (zRateC _ _) (zHoldingC _ _) (zMatchC _ _) (zStockC _ _) (by unfold intBd; omega) (by unfold intBd; omega)
  have h1 : (encAll { kind := 8, a := 1, b := 5 }).length + 100 ≤ Lim := by
    have : (encAll { kind := 8, a := 1, b := 5 }).length = 28 := by decide +kernel
    rw [this]; unfold Lim; omega
  have h2 : (encEv { kind := 8, a := 1, b := 5 }).length ≤ Lim := by
    have : (encEv { kind := 8, a := 1, b := 5 }).length = 3 := by decide +kernel
    rw [this]; unfold Lim; omega
  refine (event_c { kind := 8, a := 1, b := 5 } (evCells 8 zEntry zRate zHolding zMatch zStock 1 5 ⟨#[]⟩) w hx h1 h2).mono ?_
  rw [awake_ev]
  rintro e w1 ⟨v, rfl, hn1⟩
  obtain ⟨A, c, rfl, _, _⟩ := hn1.1.form
  have hs1 := run_str (c := c) (hn1.1.rd (Q := fun _ => True) (fun _ _ => trivial)).2
  have hb := hn1.2.2
  have HN := Lib.hid hn1
  clear hx h1 h2 hn1
  have hs1' : (convert 22 9 (.slice A 3 c)).run Try.prog w1 = .ok (.string ⟨#[16, 2, 10]⟩) w1 := hs1
  clear hs1
  go_wp2_with fail
  refine (int_c 64 w1 (by omega) (by omega)).mono ?_
  rw [enc64]
  rintro e w2 ⟨v2, rfl, hn2⟩
  obtain ⟨A2, c2, rfl, _, _⟩ := hn2.1.form
  have hs2 : (convert 22 9 (.slice A2 2 c2)).run Try.prog w2 = .ok (.string ⟨#[128, 1]⟩) w2 := run_str (hn2.1.rd (Q := fun _ => True) (fun _ _ => trivial)).2
  clear hs1'
  go_wp2_with fail
  go_ret
  exact ⟨rfl, hb.trans (hn2.2.2.mono hb.size)⟩
end Go.Proofs.Ytgdibeegheddmaa
