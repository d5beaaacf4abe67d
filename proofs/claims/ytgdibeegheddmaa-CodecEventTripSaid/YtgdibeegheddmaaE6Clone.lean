/- slices.Clone at bytes. -/
import Derived.Test.YtgdibeegheddmaaE5Awake
namespace Go.Proofs.Ytgdibeegheddmaa
open Go Go.RowKit
set_option linter.unusedVariables false

theorem Bytes.new (w : World) : Bytes (w.alloc (.cells #[] 5)) (.slice (some ⟨w.heap.size, 0, none⟩) 0 0) [] :=
  ⟨by simp [bv], .inr ⟨w.heap.size, 0, #[], rfl, Nat.zero_le _, heap_alloc_new w _, Nat.le_refl _, by simp [maxLen], by simp, by simp [bv]⟩⟩

set_option maxHeartbeats 400000 in
set_option maxRecDepth 100000 in
theorem clone_c (A : Option Addr) (c : Nat) (L : List UInt8) (w : World) (h : Rd w (· < w.heap.size) A L.length 1 (bv L)) (hl : L.length ≤ Lim) :
    Calls Try.prog 32 #[.slice A L.length c] w fun e w' => ∃ v, e = .returned v ∧ NewBytes w w' v L := by
  have he := Lib.run_eql_slice_nil (P := Try.prog) w 22 5 A L.length c 0 0 Try.underlying22
  rcases A with _ | a
  · have hL : L = [] := by
      rcases Nat.eq_zero_or_pos L.length with h0 | h0
      · exact List.eq_nil_of_length_eq_zero h0
      · obtain ⟨a, e, _⟩ := h.2 h0
        cases e
    subst hL
    have he : (binOp .eql 22 (.slice none 0 c) (.slice none 0 0)).run Try.prog w = .ok (.bool true) w := he
    change Calls Try.prog 32 #[.slice none 0 c] w _
    go_enter Try.func32, Try.ntmps32
    go_wp2_with fail
    go_ret
    exact ⟨_, rfl, Bytes.nil _, fun k hk => by simp [Value.ownBlock] at hk, Below.refl _ _⟩
  · go_enter Try.func32, Try.ntmps32
    go_wp2_with (at_builtin; go_loud (refine wpList_appB _ rfl (.tmp 5) (.tmp 6) rfl _ [] rfl (Bytes.new w) (· < w.heap.size) (some a) c L rfl (h.fr ((Fr.refl _ w).alloc (fun _ h => h) _)) (by simpa using hl) ?_); intro v1 w1 hby hg hat)
    go_ret
    refine ⟨v1, rfl, hby, fun k hk => ?_, ?_⟩
    · rcases hat with e | e
      · rw [e] at hk; have hk2 : some w.heap.size = some k := hk; injection hk2 with hk2; omega
      · rw [e] at hk; injection hk with hk; simp at hk; omega
    · exact (((Below.refl _ w).alloc (Nat.le_refl _) _).grown hg (by simp) fun k hk => by have hk2 : some w.heap.size = some k := hk; injection hk2 with hk2; omega)
end Go.Proofs.Ytgdibeegheddmaa
