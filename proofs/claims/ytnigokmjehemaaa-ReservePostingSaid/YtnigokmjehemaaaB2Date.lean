/- Dates: days of months, first days of years, dates of days; in the program and in the reference. Written by gen_b2.py. -/
import Derived.Test.YtnigokmjehemaaaProg
import Derived.Test.YtnigokmjehemaaaB0Base
namespace Go.Proofs.Ytnigokmjehemaaa
open Go Go.RowKit
set_option linter.unusedVariables false
set_option linter.unusedSimpArgs false
attribute [local go_sem ↓] Go.wp_at_zero Go.wp_at_succ
def leapI (y : Int) : Bool := y % 4 == 0 && (y % 100 != 0 || y % 400 == 0)
def mdays (m : Int) : Int := if m = 2 then 28 else if m = 4 ∨ m = 6 ∨ m = 9 ∨ m = 11 then 30 else 31
def inY (y : Int) : Prop := 1900 ≤ y ∧ y ≤ 2199
instance (y : Int) : Decidable (inY y) := by unfold inY; exact inferInstance
def daysI (y m : Int) : Int := if inY y ∧ 1 ≤ m ∧ m ≤ 12 then (if m = 2 ∧ leapI y = true then 29 else mdays m) else 0
theorem daysI_le (y m : Int) : 0 ≤ daysI y m ∧ daysI y m ≤ 31 := by
  unfold daysI mdays
  repeat' split
  all_goals omega
theorem daysI_ge {y m : Int} (hy : inY y) (h1 : 1 ≤ m) (h2 : m ≤ 12) : 28 ≤ daysI y m := by
  unfold daysI mdays
  rw [if_pos ⟨hy, h1, h2⟩]
  repeat' split
  all_goals omega
def sumD (y : Int) : Nat → Int
  | 0 => 0
  | n + 1 => sumD y n + daysI y ((n : Int) + 1)
theorem sumD_le (y : Int) (n : Nat) : 0 ≤ sumD y n ∧ sumD y n ≤ 31 * (n : Int) := by
  induction n with
  | zero => simp [sumD]
  | succ n ih => have := daysI_le y ((n : Int) + 1); simp only [sumD]; omega
def beginI (y : Int) : Int := 365 * (y - 1) + (y - 1) / 4 - (y - 1) / 100 + (y - 1) / 400 - 719162
theorem beginI_bd {y : Int} (h : inY y) : -25567 ≤ beginI y ∧ beginI y ≤ 83700 := by
  unfold beginI inY at *; omega
def ofI (y m d : Int) : Int × Int := if d < 1 ∨ daysI y m < d then (0, 2) else (beginI y + d - 1 + sumD y (m - 1).toNat, 0)
theorem leapI_true {y : Int} (h1 : y % 4 = 0) (h2 : ¬ y % 100 = 0 ∨ y % 400 = 0) : leapI y = true := by
  unfold leapI; simp only [Bool.and_eq_true, beq_iff_eq, Bool.or_eq_true, bne_iff_ne]; exact ⟨h1, h2⟩
theorem leapI_false {y : Int} (h : ¬ (y % 4 = 0 ∧ (¬ y % 100 = 0 ∨ y % 400 = 0))) : leapI y = false := by
  cases hl : leapI y with
  | false => rfl
  | true =>
    unfold leapI at hl
    simp only [Bool.and_eq_true, beq_iff_eq, Bool.or_eq_true, bne_iff_ne] at hl
    exact absurd hl h
set_option maxHeartbeats 400000 in
theorem leap_c (y : Int) (w : World) (h : inY y) : Calls Try.prog 160 #[.int .i64 y] w (Quiet w (.bool (leapI y))) := by
  obtain ⟨r, hr⟩ : ∃ r, leapI y = r := ⟨_, rfl⟩
  rw [hr]
  have HR := Lib.hid hr
  clear hr
  obtain ⟨h1, h2⟩ := h
  go_enter Try.func160, Try.ntmps160
  by_cases c4 : y % 4 = 0
  · by_cases c1 : y % 100 = 0
    · by_cases c2 : y % 400 = 0
      · have hf := Lib.hid (show r = true by rw [← HR.out]; exact leapI_true c4 (.inr c2))
        have e4 : (y % 4 == 0) = true := by simpa using c4
        have e1 : (y % 100 != 0) = false := by simpa using c1
        have e2 : (y % 400 == 0) = true := by simpa using c2
        clear c4 c1 c2
        go_wp2_with fail
        go_ret
        exact ⟨by rw [hf.out]; first | done | rfl, Below.refl _ _⟩
      · have hf := Lib.hid (show r = false by rw [← HR.out]; exact leapI_false (fun h => h.2.elim (fun k => k c1) c2))
        have e4 : (y % 4 == 0) = true := by simpa using c4
        have e1 : (y % 100 != 0) = false := by simpa using c1
        have e2 : (y % 400 == 0) = false := by simpa using c2
        clear c4 c1 c2
        go_wp2_with fail
        go_ret
        exact ⟨by rw [hf.out]; first | done | rfl, Below.refl _ _⟩
    · have hf := Lib.hid (show r = true by rw [← HR.out]; exact leapI_true c4 (.inl c1))
      have e4 : (y % 4 == 0) = true := by simpa using c4
      have e1 : (y % 100 != 0) = true := by simpa using c1
      clear c4 c1
      go_wp2_with fail
      go_ret
      exact ⟨by rw [hf.out]; first | done | rfl, Below.refl _ _⟩
  · have hf := Lib.hid (show r = false by rw [← HR.out]; exact leapI_false (fun h => c4 h.1))
    have e4 : (y % 4 == 0) = false := by simpa using c4
    clear c4
    go_wp2_with fail
    go_ret
    exact ⟨by rw [hf.out]; first | done | rfl, Below.refl _ _⟩
set_option maxHeartbeats 400000 in
theorem rLeap_c (y : Int) (w : World) (h : inY y) : Calls Try.prog 148 #[.int .i64 y] w (Quiet w (.bool (leapI y))) := by
  obtain ⟨r, hr⟩ : ∃ r, leapI y = r := ⟨_, rfl⟩
  rw [hr]
  have HR := Lib.hid hr
  clear hr
  obtain ⟨h1, h2⟩ := h
  go_enter Try.func148, Try.ntmps148
  by_cases c4 : y % 4 = 0
  · by_cases c1 : y % 100 = 0
    · by_cases c2 : y % 400 = 0
      · have hf := Lib.hid (show r = true by rw [← HR.out]; exact leapI_true c4 (.inr c2))
        have e4 : (y % 4 == 0) = true := by simpa using c4
        have e1 : (y % 100 != 0) = false := by simpa using c1
        have e2 : (y % 400 == 0) = true := by simpa using c2
        clear c4 c1 c2
        go_wp2_with fail
        go_ret
        exact ⟨by rw [hf.out]; first | done | rfl, Below.refl _ _⟩
      · have hf := Lib.hid (show r = false by rw [← HR.out]; exact leapI_false (fun h => h.2.elim (fun k => k c1) c2))
        have e4 : (y % 4 == 0) = true := by simpa using c4
        have e1 : (y % 100 != 0) = false := by simpa using c1
        have e2 : (y % 400 == 0) = false := by simpa using c2
        clear c4 c1 c2
        go_wp2_with fail
        go_ret
        exact ⟨by rw [hf.out]; first | done | rfl, Below.refl _ _⟩
    · have hf := Lib.hid (show r = true by rw [← HR.out]; exact leapI_true c4 (.inl c1))
      have e4 : (y % 4 == 0) = true := by simpa using c4
      have e1 : (y % 100 != 0) = true := by simpa using c1
      clear c4 c1
      go_wp2_with fail
      go_ret
      exact ⟨by rw [hf.out]; first | done | rfl, Below.refl _ _⟩
  · have hf := Lib.hid (show r = false by rw [← HR.out]; exact leapI_false (fun h => c4 h.1))
    have e4 : (y % 4 == 0) = false := by simpa using c4
    clear c4
    go_wp2_with fail
    go_ret
    exact ⟨by rw [hf.out]; first | done | rfl, Below.refl _ _⟩
theorem tab (k : Nat) (h : k < 12) : (#[.int .i64 31, .int .i64 28, .int .i64 31, .int .i64 30, .int .i64 31, .int .i64 30, .int .i64 31, .int .i64 31, .int .i64 30, .int .i64 31, .int .i64 30, .int .i64 31] : Array Value)[k]? = some (.int .i64 (mdays ((k : Int) + 1))) := by
  have hk : k = 0 ∨ k = 1 ∨ k = 2 ∨ k = 3 ∨ k = 4 ∨ k = 5 ∨ k = 6 ∨ k = 7 ∨ k = 8 ∨ k = 9 ∨ k = 10 ∨ k = 11 := by omega
  rcases hk with rfl | rfl | rfl | rfl | rfl | rfl | rfl | rfl | rfl | rfl | rfl | rfl <;> rfl
theorem infoDays : (Try.prog.info? 194).map (·.size) = some 12 := by kernel_rfl
set_option maxHeartbeats 8000000 in
set_option maxRecDepth 100000 in
theorem days_c (y m : Int) (w : World) : Calls Try.prog 114 #[.int .i64 y, .int .i64 m] w (Quiet w (.int .i64 (daysI y m))) := by
  obtain ⟨r, hr⟩ : ∃ r, daysI y m = r := ⟨_, rfl⟩
  rw [hr]
  have HR := Lib.hid hr
  clear hr
  go_enter Try.func114, Try.ntmps114
  by_cases hy1 : 1900 ≤ y
  case neg =>
    have hf := Lib.hid (show r = 0 by rw [← HR.out]; unfold daysI; rw [if_neg (fun h => hy1 h.1.1)])
    have k1 : y < 1900 := by omega
    by_cases hm1 : 1 ≤ m
    · by_cases hm2 : m ≤ 12
      · go_wp2_with fail
        go_ret
        exact ⟨by rw [hf.out]; first | done | rfl, Below.refl _ _⟩
      · have k2 : 12 < m := by omega
        go_wp2_with fail
        go_ret
        exact ⟨by rw [hf.out]; first | done | rfl, Below.refl _ _⟩
    · have k2 : m < 1 := by omega
      go_wp2_with fail
      go_ret
      exact ⟨by rw [hf.out]; first | done | rfl, Below.refl _ _⟩
  case pos =>
  have k1 : ¬ y < 1900 := by omega
  by_cases hy2 : y ≤ 2199
  case neg =>
    have hf := Lib.hid (show r = 0 by rw [← HR.out]; unfold daysI; rw [if_neg (fun h => hy2 h.1.2)])
    have k3 : 2199 < y := by omega
    by_cases hm1 : 1 ≤ m
    · by_cases hm2 : m ≤ 12
      · go_wp2_with fail
        go_ret
        exact ⟨by rw [hf.out]; first | done | rfl, Below.refl _ _⟩
      · have k2 : 12 < m := by omega
        go_wp2_with fail
        go_ret
        exact ⟨by rw [hf.out]; first | done | rfl, Below.refl _ _⟩
    · have k2 : m < 1 := by omega
      go_wp2_with fail
      go_ret
      exact ⟨by rw [hf.out]; first | done | rfl, Below.refl _ _⟩
  case pos =>
  have k3 : ¬ 2199 < y := by omega
  by_cases hm1 : 1 ≤ m
  case neg =>
    have hf := Lib.hid (show r = 0 by rw [← HR.out]; unfold daysI; rw [if_neg (fun h => hm1 h.2.1)])
    have k2 : m < 1 := by omega
    go_wp2_with fail
    go_ret
    exact ⟨by rw [hf.out]; first | done | rfl, Below.refl _ _⟩
  case pos =>
  have k2 : ¬ m < 1 := by omega
  by_cases hm2 : m ≤ 12
  case neg =>
    have hf := Lib.hid (show r = 0 by rw [← HR.out]; unfold daysI; rw [if_neg (fun h => hm2 h.2.2)])
    have k4 : 12 < m := by omega
    go_wp2_with fail
    go_ret
    exact ⟨by rw [hf.out]; first | done | rfl, Below.refl _ _⟩
  case pos =>
  have k4 : ¬ 12 < m := by omega
  have hd : r = if m = 2 ∧ leapI y = true then 29 else mdays m := by rw [← HR.out]; unfold daysI; rw [if_pos ⟨⟨hy1, hy2⟩, hm1, hm2⟩]
  have HD := Lib.hid hd
  clear hd HR
  obtain ⟨k, hk⟩ : ∃ k : Nat, m = (k : Int) + 1 := ⟨(m - 1).toNat, by omega⟩
  have hk12 : k < 12 := by omega
  subst hk
  have HT := Lib.hid (tab k hk12)
  by_cases h2 : k = 1
  · subst h2
    have hy : inY y := ⟨hy1, hy2⟩
    go_wp2_with (refine wpList_store_fresh2 rfl 194 (.tmp 5) (.tmp 20) rfl rfl w _ 194 #[.int .i64 31, .int .i64 28, .int .i64 31, .int .i64 30, .int .i64 31, .int .i64 30, .int .i64 31, .int .i64 31, .int .i64 30, .int .i64 31, .int .i64 30, .int .i64 31] rfl rfl infoDays rfl (by simp only [List.all_toArray, List.all_cons, List.all_nil, Value.oneCell', Bool.and_true]) ?_; intro w2 S1 S2 S3; replace S1 := Lib.hid S1)
    refine (leap_c y _ hy).mono ?_
    rintro e w3 ⟨rfl, hb⟩
    obtain ⟨lb, hlb⟩ : ∃ lb, leapI y = lb := ⟨_, rfl⟩
    rw [hlb]
    have HLB := Lib.hid hlb
    clear hlb
    cases lb with
    | true =>
      have hf := Lib.hid (show r = 29 by rw [HD.out, if_pos (by simp [HLB.out])])
      clear HD
      go_wp2_with fail
      go_ret
      exact ⟨by rw [hf.out]; first | done | rfl, (by exact S2.trans (hb.mono (by have := S2.size; omega)))⟩
    | false =>
      have hf := Lib.hid (show r = 28 by rw [HD.out, if_neg (by simp [HLB.out])]; rfl)
      clear HD
      have c0 : w3.cell? ⟨w.heap.size, 1, none⟩ = some (.int .i64 28) := blk_cell ((hb.block _ S3).trans S1.out) 1
      go_wp2_with fail
      go_ret
      exact ⟨by rw [hf.out]; first | done | rfl, (by exact S2.trans (hb.mono (by have := S2.size; omega)))⟩
  · have h2I : ((k : Int) + 1 == 2) = false := by simp; omega
    have hf := Lib.hid (show r = mdays ((k : Int) + 1) by rw [HD.out, if_neg (fun h => h2 (by have := h.1; omega))])
    clear HD h2
    go_wp2_with (refine wpList_store_fresh2 rfl 194 (.tmp 5) (.tmp 20) rfl rfl w _ 194 #[.int .i64 31, .int .i64 28, .int .i64 31, .int .i64 30, .int .i64 31, .int .i64 30, .int .i64 31, .int .i64 31, .int .i64 30, .int .i64 31, .int .i64 30, .int .i64 31] rfl rfl infoDays rfl (by simp only [List.all_toArray, List.all_cons, List.all_nil, Value.oneCell', Bool.and_true]) ?_; intro w2 S1 S2 S3; have c0 := (blk_cell S1 k).trans HT.out; clear S1)
    go_ret
    exact ⟨by rw [hf.out]; first | done | rfl, S2⟩
set_option maxRecDepth 100000 in
theorem run_tab (k : Nat) (h : k < 12) (w : World) : Sem.run Try.prog (Instr.index 194 (.agg #[.int .i64 31, .int .i64 28, .int .i64 31, .int .i64 30, .int .i64 31, .int .i64 30, .int .i64 31, .int .i64 31, .int .i64 30, .int .i64 31, .int .i64 30, .int .i64 31]) (.int .i64 (k : Int))) w = .ok (.int .i64 (mdays ((k : Int) + 1))) w := by
  have hk : k = 0 ∨ k = 1 ∨ k = 2 ∨ k = 3 ∨ k = 4 ∨ k = 5 ∨ k = 6 ∨ k = 7 ∨ k = 8 ∨ k = 9 ∨ k = 10 ∨ k = 11 := by omega
  rcases hk with rfl | rfl | rfl | rfl | rfl | rfl | rfl | rfl | rfl | rfl | rfl | rfl <;> rfl
set_option maxHeartbeats 8000000 in
set_option maxRecDepth 100000 in
theorem rDays_c (y m : Int) (w : World) : Calls Try.prog 100 #[.int .i64 y, .int .i64 m] w (Quiet w (.int .i64 (daysI y m))) := by
  obtain ⟨r, hr⟩ : ∃ r, daysI y m = r := ⟨_, rfl⟩
  rw [hr]
  have HR := Lib.hid hr
  clear hr
  go_enter Try.func100, Try.ntmps100
  by_cases hy1 : 1900 ≤ y
  case neg =>
    have hf := Lib.hid (show r = 0 by rw [← HR.out]; unfold daysI; rw [if_neg (fun h => hy1 h.1.1)])
    have k1 : y < 1900 := by omega
    by_cases hm1 : 1 ≤ m
    · by_cases hm2 : m ≤ 12
      · go_wp2_with fail
        go_ret
        exact ⟨by rw [hf.out]; first | done | rfl, Below.refl _ _⟩
      · have k2 : 12 < m := by omega
        go_wp2_with fail
        go_ret
        exact ⟨by rw [hf.out]; first | done | rfl, Below.refl _ _⟩
    · have k2 : m < 1 := by omega
      go_wp2_with fail
      go_ret
      exact ⟨by rw [hf.out]; first | done | rfl, Below.refl _ _⟩
  case pos =>
  have k1 : ¬ y < 1900 := by omega
  by_cases hy2 : y ≤ 2199
  case neg =>
    have hf := Lib.hid (show r = 0 by rw [← HR.out]; unfold daysI; rw [if_neg (fun h => hy2 h.1.2)])
    have k3 : 2199 < y := by omega
    by_cases hm1 : 1 ≤ m
    · by_cases hm2 : m ≤ 12
      · go_wp2_with fail
        go_ret
        exact ⟨by rw [hf.out]; first | done | rfl, Below.refl _ _⟩
      · have k2 : 12 < m := by omega
        go_wp2_with fail
        go_ret
        exact ⟨by rw [hf.out]; first | done | rfl, Below.refl _ _⟩
    · have k2 : m < 1 := by omega
      go_wp2_with fail
      go_ret
      exact ⟨by rw [hf.out]; first | done | rfl, Below.refl _ _⟩
  case pos =>
  have k3 : ¬ 2199 < y := by omega
  by_cases hm1 : 1 ≤ m
  case neg =>
    have hf := Lib.hid (show r = 0 by rw [← HR.out]; unfold daysI; rw [if_neg (fun h => hm1 h.2.1)])
    have k2 : m < 1 := by omega
    go_wp2_with fail
    go_ret
    exact ⟨by rw [hf.out]; first | done | rfl, Below.refl _ _⟩
  case pos =>
  have k2 : ¬ m < 1 := by omega
  by_cases hm2 : m ≤ 12
  case neg =>
    have hf := Lib.hid (show r = 0 by rw [← HR.out]; unfold daysI; rw [if_neg (fun h => hm2 h.2.2)])
    have k4 : 12 < m := by omega
    go_wp2_with fail
    go_ret
    exact ⟨by rw [hf.out]; first | done | rfl, Below.refl _ _⟩
  case pos =>
  have k4 : ¬ 12 < m := by omega
  have hd : r = if m = 2 ∧ leapI y = true then 29 else mdays m := by rw [← HR.out]; unfold daysI; rw [if_pos ⟨⟨hy1, hy2⟩, hm1, hm2⟩]
  have HD := Lib.hid hd
  clear hd HR
  obtain ⟨k, hk⟩ : ∃ k : Nat, m = (k : Int) + 1 := ⟨(m - 1).toNat, by omega⟩
  have hk12 : k < 12 := by omega
  subst hk
  have HT := Lib.hid (tab k hk12)
  by_cases h2 : k = 1
  · subst h2
    have hy : inY y := ⟨hy1, hy2⟩
    go_wp2_with fail
    refine (rLeap_c y _ hy).mono ?_
    rintro e w3 ⟨rfl, hb⟩
    obtain ⟨lb, hlb⟩ : ∃ lb, leapI y = lb := ⟨_, rfl⟩
    rw [hlb]
    have HLB := Lib.hid hlb
    clear hlb
    cases lb with
    | true =>
      have hf := Lib.hid (show r = 29 by rw [HD.out, if_pos (by simp [HLB.out])])
      clear HD
      go_wp2_with fail
      go_ret
      exact ⟨by rw [hf.out]; first | done | rfl, hb⟩
    | false =>
      have hf := Lib.hid (show r = 28 by rw [HD.out, if_neg (by simp [HLB.out])]; rfl)
      clear HD
      have ht : ∀ w, Sem.run Try.prog (Instr.index 194 (.agg #[.int .i64 31, .int .i64 28, .int .i64 31, .int .i64 30, .int .i64 31, .int .i64 30, .int .i64 31, .int .i64 31, .int .i64 30, .int .i64 31, .int .i64 30, .int .i64 31]) (.int .i64 1)) w = .ok (.int .i64 28) w := fun w => run_tab 1 (by omega) w
      go_wp2_with fail
      go_ret
      exact ⟨by rw [hf.out]; first | done | rfl, hb⟩
  · have h2I : ((k : Int) + 1 == 2) = false := by simp; omega
    have hf := Lib.hid (show r = mdays ((k : Int) + 1) by rw [HD.out, if_neg (fun h => h2 (by have := h.1; omega))])
    clear HD h2
    have ht := run_tab k hk12
    go_wp2_with fail
    go_ret
    exact ⟨by rw [hf.out]; first | done | rfl, Below.refl _ _⟩
end Go.Proofs.Ytnigokmjehemaaa
