/- The walk of CodecNext: Next stepped through against the reference. -/
import Derived.Test.YtgdibeegheddmaaF3Open
namespace Go.Proofs.Ytgdibeegheddmaa
open Go Go.RowKit
set_option linter.unusedVariables false
set_option linter.unusedSimpArgs false
attribute [local go_sem ↓] Go.wp_at_zero Go.wp_at_succ

theorem refNext_n (A : Option Addr) (len c : Nat) (L : List UInt8) (w : World) (hn : L.length = len) (h : Rd w (· < w.heap.size) A L.length 1 (bv L)) (hl : L.length ≤ 1000000000000) :
    Calls Try.prog 15 #[.slice A len c] w (RNPost w (refNextR L)) := by subst hn; exact refNext_c A c L w _ h hl
theorem cut_str {w : World} {Q : Nat → Prop} {A : Option Addr} {c k : Nat} {L : List UInt8} (h : Rd w Q A L.length 1 (bv L)) (hk : k ≤ L.length) (hc : L.length ≤ c) :
    (convert 22 9 (.slice (if c = k then A else Option.map (fun x => Addr.add x k) A) (L.length - k) (c - k))).run Try.prog w = .ok (.string (bstr (L.drop k))) w := by
  have h1 := h.cut (k := k) (cap := c) hk hc
  rw [show (bv L).drop (k * 1) = bv (L.drop k) from by simp [bv], show L.length - k = (L.drop k).length from by simp] at h1
  have := run_str (c := c - k) h1
  rw [List.length_drop, Nat.mul_one] at this
  exact this
theorem head_str {w : World} {Q : Nat → Prop} {A : Option Addr} {c k : Nat} {L : List UInt8} (h : Rd w Q A L.length 1 (bv L)) (hk : k ≤ L.length) :
    (convert 22 9 (.slice A k c)).run Try.prog w = .ok (.string (bstr (L.take k))) w := by
  have h1 := h.head (k := k) hk
  rw [show (bv L).take (k * 1) = bv (L.take k) from by simp [bv, List.map_take]] at h1
  have e : (L.take k).length = k := by simp; omega
  have h2 : Rd w Q A (L.take k).length 1 (bv (L.take k)) := by rw [e]; exact h1
  have := run_str (c := c) h2
  rw [e] at this
  exact this

theorem next_long (A : Option Addr) (len c : Nat) (w : World) (hlen : 100 < len) :
    Calls Try.prog 4 #[.slice A len c] w fun e w' => e = .returned (.bool true) ∧ Below w.heap.size w w' := by
  have hd : decide ((100 : Int) < (len : Int)) = true := decide_eq_true (by omega)
  go_enter Try.func4, Try.ntmps4
  go_wp2_with fail
  refine (awake_c w).mono ?_
  rintro e w1 ⟨rfl, hb1⟩
  go_wp2_with fail
  go_ret
  exact ⟨rfl, hb1⟩

set_option maxRecDepth 100000 in
theorem next_bad (A : Option Addr) (c : Nat) (L : List UInt8) (w : World) (h : Rd w (· < w.heap.size) A L.length 1 (bv L)) (hc : L.length ≤ c) (hsmall : L.length ≤ 100) (hN : next L = none) :
    Calls Try.prog 4 #[.slice A L.length c] w fun e w' => e = .returned (.bool true) ∧ Below w.heap.size w w' := by
  have hr1 : nextR L = (0, [], 4) := by simp [nextR, hN]
  have hr2 : refNextR L = (0, 0) := by simp [refNextR, hN]
  clear hN
  go_enter Try.func4, Try.ntmps4
  go_wp2_with fail
  refine (awake_c w).mono ?_
  rintro e w1 ⟨rfl, hb1⟩
  have h1 := h.keep hb1
  go_wp2_with fail
  refine (next_n A _ c L w1 rfl h1 hc (by unfold Lim; omega)).mono ?_
  rw [hr1]
  rintro e w2 ⟨v2, rfl, hn2⟩
  obtain ⟨A2, c2, rfl, _, _⟩ := hn2.1.form
  have h2 := h1.keep hn2.2.2
  have hb2 := hn2.2.2
  have F2 : Below w.heap.size w w2 := hb1.trans (hb2.mono hb1.size)
  clear hr1 hn2 h1 hb2 hb1
  go_wp2_with fail
  refine (refNext_n A _ c L w2 rfl h2 (by omega)).mono ?_
  rw [hr2]
  rintro e w3 ⟨rfl, rfl⟩
  clear hr2
  go_wp2_with fail
  go_ret
  exact ⟨rfl, F2⟩

set_option maxHeartbeats 1000000 in
set_option maxRecDepth 100000 in
theorem next_good (A : Option Addr) (c : Nat) (L : List UInt8) (w : World) (n : Int) (k : Nat) (h : Rd w (· < w.heap.size) A L.length 1 (bv L)) (hc : L.length ≤ c) (hsmall : L.length ≤ 100) (hN : next L = some (n, k)) :
    Calls Try.prog 4 #[.slice A L.length c] w fun e w' => e = .returned (.bool true) ∧ Below w.heap.size w w' := by
  have hr1 : nextR L = (n, L.drop k, 0) := by simp [nextR, hN]
  have hr2 : refNextR L = (n, k) := by simp [refNextR, hN]
  obtain ⟨hen, hbd, hk1, hk10, hkl⟩ := next_conv hN
  clear hN
  have HEN := Lib.hid hen
  clear hen
  obtain ⟨D, hD⟩ : ∃ D, L.drop k = D := ⟨_, rfl⟩
  rw [hD] at hr1
  go_enter Try.func4, Try.ntmps4
  go_wp2_with fail
  refine (awake_c w).mono ?_
  rintro e w1 ⟨rfl, hb1⟩
  have h1 := h.keep hb1
  go_wp2_with fail
  refine (next_n A _ c L w1 rfl h1 hc (by unfold Lim; omega)).mono ?_
  rw [hr1]
  rintro e w2 ⟨v2, rfl, hn2⟩
  obtain ⟨A2, c2, rfl, _, _⟩ := hn2.1.form
  have h2 := h1.keep hn2.2.2
  have hb2 := hn2.2.2
  have F2 : Below w.heap.size w w2 := hb1.trans (hb2.mono hb1.size)
  have X2 := Lib.hid hn2
  clear hr1 h1 hb2 hb1 hn2
  go_wp2_with fail
  refine (refNext_n A _ c L w2 rfl h2 (by omega)).mono ?_
  rw [hr2]
  rintro e w3 ⟨rfl, rfl⟩
  clear hr2
  have s1 := (Bytes.drew X2.out.1).str
  have s2 := cut_str (c := c) (Rd.drew_ h2) hkl hc
  rw [hD] at s2
  have s3 := head_str (c := c) (Rd.drew_ h2) hkl
  rw [← HEN.out] at s3
  have XM := Lib.hid h2
  have HH := Lib.hid h
  clear h h2
  have hk0 : ((k : Int) == 0) = false := by simp; omega
  have hkc : k ≤ c := by omega
  go_wp2_with fail
  refine wp_region_held_drew (S := fun w' => (convert 22 9 (.slice A2 (D).length c2)).run Try.prog w' = .ok (.string (bstr (D))) w' ∧ (convert 22 9 (.slice (if c = k then A else Option.map (fun x => Addr.add x k) A) (L.length - k) (c - k))).run Try.prog w' = .ok (.string (bstr (D))) w' ∧ (convert 22 9 (.slice A k c)).run Try.prog w' = .ok (.string (bstr (enc n))) w') (by kernel_rfl) ⟨s1, s2, s3⟩ (fun hHeld => ?_)
  refine wpAnyH_takeD (i := 0) (d := 37) (v := ?_) rfl rfl (by kernel_rfl) (by kernel_rfl) (by kernel_rfl) (fun _ _ _ h => h) (Or.inl ⟨by rfl, ?_⟩) (by assumption) ?_
  rotate_left
  · intro w hSw; (try dsimp only at hSw); go_simp; (try with_reducible rfl)
  simp only [Act.put, List.setIfInBounds_toArray, List.set_cons_zero, List.set_cons_succ]
  refine wpAnyH_takeD (i := 1) (d := 38) (v := ?_) rfl rfl (by kernel_rfl) (by kernel_rfl) (by kernel_rfl) (fun _ _ _ h => h) (Or.inl ⟨by rfl, ?_⟩) (by assumption) ?_
  rotate_left
  · intro w hSw; (try dsimp only at hSw); go_simp; (try with_reducible rfl)
  simp only [Act.put, List.setIfInBounds_toArray, List.set_cons_zero, List.set_cons_succ]
  refine wpAnyH_takeD (i := 2) (d := 39) (v := ?_) rfl rfl (by kernel_rfl) (by kernel_rfl) (by kernel_rfl) (fun _ _ _ h => h) (Or.inl ⟨by rfl, ?_⟩) (by assumption) ?_
  rotate_left
  · intro w hSw; (try dsimp only at hSw); go_simp; (try with_reducible rfl)
  simp only [Act.put, List.setIfInBounds_toArray, List.set_cons_zero, List.set_cons_succ]
  refine wpAnyH_takeD (i := 3) (d := 40) (v := ?_) rfl rfl (by kernel_rfl) (by kernel_rfl) (by kernel_rfl) (fun _ _ _ h => h) (Or.inl ⟨by rfl, ?_⟩) (by assumption) ?_
  rotate_left
  · intro w hSw; (try dsimp only at hSw); go_simp; (try with_reducible rfl)
  simp only [Act.put, List.setIfInBounds_toArray, List.set_cons_zero, List.set_cons_succ]
  refine wpAnyH_takeD (i := 4) (d := 41) (v := ?_) rfl rfl (by kernel_rfl) (by kernel_rfl) (by kernel_rfl) (fun _ _ _ h => h) (Or.inl ⟨by rfl, ?_⟩) (by assumption) ?_
  rotate_left
  · intro w hSw; (try dsimp only at hSw); go_simp; (try with_reducible rfl)
  simp only [Act.put, List.setIfInBounds_toArray, List.set_cons_zero, List.set_cons_succ]
  refine wpAnyH_takeD (i := 5) (d := 42) (v := ?_) rfl rfl (by kernel_rfl) (by kernel_rfl) (by kernel_rfl) (fun _ _ _ h => h) (Or.inl ⟨by rfl, ?_⟩) (by assumption) ?_
  rotate_left
  · intro w hSw; (try dsimp only at hSw); go_simp; (try with_reducible rfl)
  simp only [Act.put, List.setIfInBounds_toArray, List.set_cons_zero, List.set_cons_succ]
  refine wpAnyH_takeD (i := 6) (d := 43) (v := ?_) rfl rfl (by kernel_rfl) (by kernel_rfl) (by kernel_rfl) (fun _ _ _ h => h) (Or.inl ⟨by rfl, ?_⟩) (by assumption) ?_
  rotate_left
  · intro w hSw; (try dsimp only at hSw); go_simp; (try with_reducible rfl)
  simp only [Act.put, List.setIfInBounds_toArray, List.set_cons_zero, List.set_cons_succ]
  refine wpAnyH_takeD (i := 7) (d := 44) (v := ?_) rfl rfl (by kernel_rfl) (by kernel_rfl) (by kernel_rfl) (fun _ _ _ h => h) (Or.inl ⟨by rfl, ?_⟩) (by assumption) ?_
  rotate_left
  · intro w hSw; (try dsimp only at hSw); go_simp; (try with_reducible rfl)
  simp only [Act.put, List.setIfInBounds_toArray, List.set_cons_zero, List.set_cons_succ]
  refine wpAnyH_takeD (i := 8) (d := 45) (v := ?_) rfl rfl (by kernel_rfl) (by kernel_rfl) (by kernel_rfl) (fun _ _ _ h => h) (Or.inl ⟨by rfl, ?_⟩) (by assumption) ?_
  rotate_left
  · intro w hSw; (try dsimp only at hSw); go_simp; (try with_reducible rfl)
  simp only [Act.put, List.setIfInBounds_toArray, List.set_cons_zero, List.set_cons_succ]
  refine wpAnyH_takeD (i := 9) (d := 46) (v := ?_) rfl rfl (by kernel_rfl) (by kernel_rfl) (by kernel_rfl) (fun _ _ _ h => h) (Or.inl ⟨by rfl, ?_⟩) (by assumption) ?_
  rotate_left
  · intro w hSw; (try dsimp only at hSw); go_simp; (try with_reducible rfl)
  simp only [Act.put, List.setIfInBounds_toArray, List.set_cons_zero, List.set_cons_succ]
  refine wpAnyH_takeD (i := 10) (d := 47) (v := ?_) rfl rfl (by kernel_rfl) (by kernel_rfl) (by kernel_rfl) (fun _ _ _ h => h) (Or.inl ⟨by rfl, ?_⟩) (by assumption) ?_
  rotate_left
  · intro w hSw; (try dsimp only at hSw); go_simp; (try with_reducible rfl)
  simp only [Act.put, List.setIfInBounds_toArray, List.set_cons_zero, List.set_cons_succ]
  refine wpAnyH_takeD (i := 11) (d := 48) (v := ?_) rfl rfl (by kernel_rfl) (by kernel_rfl) (by kernel_rfl) (fun _ _ _ h => h) (Or.inl ⟨by rfl, ?_⟩) (by assumption) ?_
  rotate_left
  · intro w hSw; (try dsimp only at hSw); go_simp; (try with_reducible rfl)
  simp only [Act.put, List.setIfInBounds_toArray, List.set_cons_zero, List.set_cons_succ]
  refine wpAnyH_takeD (i := 12) (d := 49) (v := ?_) rfl rfl (by kernel_rfl) (by kernel_rfl) (by kernel_rfl) (fun _ _ _ h => h) (Or.inl ⟨by rfl, ?_⟩) (by assumption) ?_
  rotate_left
  · intro w hSw; (try dsimp only at hSw); go_simp; (try with_reducible rfl)
  simp only [Act.put, List.setIfInBounds_toArray, List.set_cons_zero, List.set_cons_succ]
  refine wpAnyH_takeD (i := 13) (d := 50) (v := ?_) rfl rfl (by kernel_rfl) (by kernel_rfl) (by kernel_rfl) (fun _ _ _ h => h) (Or.inl ⟨by rfl, ?_⟩) (by assumption) ?_
  rotate_left
  · intro w hSw; (try dsimp only at hSw); go_simp; (try with_reducible rfl)
  simp only [Act.put, List.setIfInBounds_toArray, List.set_cons_zero, List.set_cons_succ]
  refine wpAnyH_takeD (i := 14) (d := 51) (v := ?_) rfl rfl (by kernel_rfl) (by kernel_rfl) (by kernel_rfl) (fun _ _ _ h => h) (Or.inl ⟨by rfl, ?_⟩) (by assumption) ?_
  rotate_left
  · intro w hSw; (try dsimp only at hSw); go_simp; (try with_reducible rfl)
  simp only [Act.put, List.setIfInBounds_toArray, List.set_cons_zero, List.set_cons_succ]
  refine wpAnyH_takeD (i := 15) (d := 52) (v := ?_) rfl rfl (by kernel_rfl) (by kernel_rfl) (by kernel_rfl) (fun _ _ _ h => h) (Or.inl ⟨by rfl, ?_⟩) (by assumption) ?_
  rotate_left
  · intro w hSw; (try dsimp only at hSw); go_simp; (try with_reducible rfl)
  simp only [Act.put, List.setIfInBounds_toArray, List.set_cons_zero, List.set_cons_succ]
  refine wpAnyH_takeD (i := 16) (d := 53) (v := ?_) rfl rfl (by kernel_rfl) (by kernel_rfl) (by kernel_rfl) (fun _ _ _ h => h) (Or.inl ⟨by rfl, ?_⟩) (by assumption) ?_
  rotate_left
  · intro w hSw; (try dsimp only at hSw); go_simp; (try with_reducible rfl)
  simp only [Act.put, List.setIfInBounds_toArray, List.set_cons_zero, List.set_cons_succ]
  refine wpAnyH_takeD (i := 17) (d := 54) (v := ?_) rfl rfl (by kernel_rfl) (by kernel_rfl) (by kernel_rfl) (fun _ _ _ h => h) (Or.inl ⟨by rfl, ?_⟩) (by assumption) ?_
  rotate_left
  · intro w hSw; (try dsimp only at hSw); go_simp; (try with_reducible rfl)
  simp only [Act.put, List.setIfInBounds_toArray, List.set_cons_zero, List.set_cons_succ]
  refine wpAnyH_takeD (i := 20) (d := 57) (v := ?_) rfl rfl (by kernel_rfl) (by kernel_rfl) (by kernel_rfl) (fun _ _ _ h => h) (Or.inl ⟨by rfl, ?_⟩) (by assumption) ?_
  rotate_left
  · intro w hSw; (try dsimp only at hSw); go_simp; (try with_reducible rfl)
  simp only [Act.put, List.setIfInBounds_toArray, List.set_cons_zero, List.set_cons_succ]
  refine wpAnyH_takeD (i := 21) (d := 58) (v := ?_) rfl rfl (by kernel_rfl) (by kernel_rfl) (by kernel_rfl) (fun _ _ _ h => h) (Or.inl ⟨by rfl, ?_⟩) (by assumption) ?_
  rotate_left
  · intro w hSw; (try dsimp only at hSw); go_simp; (try with_reducible rfl)
  simp only [Act.put, List.setIfInBounds_toArray, List.set_cons_zero, List.set_cons_succ]
  refine wpAnyH_takeD (i := 22) (d := 59) (v := ?_) rfl rfl (by kernel_rfl) (by kernel_rfl) (by kernel_rfl) (fun _ _ _ h => h) (Or.inl ⟨by rfl, ?_⟩) (by assumption) ?_
  rotate_left
  · intro w hSw; (try dsimp only at hSw); go_simp; (try with_reducible rfl)
  simp only [Act.put, List.setIfInBounds_toArray, List.set_cons_zero, List.set_cons_succ]
  refine wpAnyH_takeD (i := 23) (d := 60) (v := ?_) rfl rfl (by kernel_rfl) (by kernel_rfl) (by kernel_rfl) (fun _ _ _ h => h) (Or.inl ⟨by rfl, ?_⟩) (by assumption) ?_
  rotate_left
  · intro w hSw; (try dsimp only at hSw); go_simp; (try with_reducible rfl)
  simp only [Act.put, List.setIfInBounds_toArray, List.set_cons_zero, List.set_cons_succ]
  refine wpAnyH_ready (rs := [18]) (by kernel_rfl) (by simp) ?_
  refine AllReadyH.cons (o := _) rfl (fun K hK => ?_) AllReadyH.nil
  go_simp
  go_at_call 12
  refine (int_c n _ hbd.1 hbd.2).mono ?_
  rintro e w4 ⟨v4, rfl, hn4⟩
  obtain ⟨A4, c4, rfl, _, _⟩ := hn4.1.form
  have y4 := hn4.1.str
  have y1 := (Bytes.keep (Bytes.drew X2.out.1) hn4.2.2).str
  have yh := Rd.keep (w := w2.drew) XM.out hn4.2.2
  have y2 := cut_str (c := c) yh hkl hc
  have y3 := head_str (c := c) yh hkl
  rw [hD] at y2
  rw [← HEN.out] at y3
  refine hK.out _ _ ⟨y1, y2, y3⟩ (fun _ => ?_)
  refine wpAnyH_more (S2 := fun w' => ((convert 22 9 (.slice A2 D.length c2)).run Try.prog w' = .ok (.string (bstr D)) w' ∧ (convert 22 9 (.slice (if c = k then A else Option.map (fun x => Addr.add x k) A) (L.length - k) (c - k))).run Try.prog w' = .ok (.string (bstr D)) w' ∧ (convert 22 9 (.slice A k c)).run Try.prog w' = .ok (.string (bstr (enc n))) w') ∧ (convert 22 9 (.slice A4 (enc n).length c4)).run Try.prog w' = .ok (.string (bstr (enc n))) w') (fun _ h => h.1) ⟨⟨y1, y2, y3⟩, y4⟩ (fun hS2 => ?_)
  clear s1 s2 s3 y1 y2 y3 y4 yh hHeld
  refine wpAnyH_takeD (i := 19) (d := 56) (v := ?_) rfl rfl (by kernel_rfl) (by kernel_rfl) (by kernel_rfl) (fun _ _ _ h => h) (Or.inl ⟨by rfl, ?_⟩) (by assumption) ?_
  rotate_left
  · intro w hSw; (try dsimp only at hSw); go_simp; (try with_reducible rfl)
  simp only [Act.put, List.setIfInBounds_toArray, List.set_cons_zero, List.set_cons_succ]
  refine wpAnyH_takeD (i := 24) (d := 61) (v := ?_) rfl rfl (by kernel_rfl) (by kernel_rfl) (by kernel_rfl) (fun _ _ _ h => h) (Or.inl ⟨by rfl, ?_⟩) (by assumption) ?_
  rotate_left
  · intro w hSw; (try dsimp only at hSw); go_simp; (try with_reducible rfl)
  simp only [Act.put, List.setIfInBounds_toArray, List.set_cons_zero, List.set_cons_succ]
  refine wpAnyH_takeD (i := 25) (d := 62) (v := ?_) rfl rfl (by kernel_rfl) (by kernel_rfl) (by kernel_rfl) (fun _ _ _ h => h) (Or.inl ⟨by rfl, ?_⟩) (by assumption) ?_
  rotate_left
  · intro w hSw; (try dsimp only at hSw); go_simp; (try with_reducible rfl)
  simp only [Act.put, List.setIfInBounds_toArray, List.set_cons_zero, List.set_cons_succ]
  refine wpAnyH_takeD (i := 26) (d := 2) (v := ?_) rfl rfl (by kernel_rfl) (by kernel_rfl) (by kernel_rfl) (fun _ _ _ h => h) (Or.inl ⟨by rfl, ?_⟩) (by assumption) ?_
  rotate_left
  · intro w hSw; (try dsimp only at hSw); go_simp; (try with_reducible rfl)
  simp only [Act.put, List.setIfInBounds_toArray, List.set_cons_zero, List.set_cons_succ]
  refine wpAnyH_done (by kernel_rfl) ?_ _
  have F4 : Below w.heap.size w w4 := F2.trans ((show Below w2.heap.size w2 w4 from ⟨hn4.2.2.os, hn4.2.2.tape, hn4.2.2.output, hn4.2.2.size, hn4.2.2.block⟩).mono F2.size)
  clear hS2
  go_wp2_with fail
  all_goals (go_ret; exact ⟨rfl, F4⟩)
theorem next_walk (A : Option Addr) (c : Nat) (L : List UInt8) (w : World) (h : Rd w (· < w.heap.size) A L.length 1 (bv L)) (hc : L.length ≤ c) :
    Calls Try.prog 4 #[.slice A L.length c] w fun e w' => e = .returned (.bool true) ∧ Below w.heap.size w w' := by
  by_cases hl : L.length ≤ 100
  · rcases hN : next L with _ | ⟨n, k⟩
    · exact next_bad A c L w h hc hl hN
    · exact next_good A c L w n k h hc hl hN
  · exact next_long A L.length c w (by omega)
end Go.Proofs.Ytgdibeegheddmaa
