/- Dates of days, in the program and in the reference. Written by gen_b3.py. -/
import Derived.Test.YtnigokmjehemaaaProg
import Derived.Test.YtnigokmjehemaaaB2Date
namespace Go.Proofs.Ytnigokmjehemaaa
open Go Go.RowKit
set_option linter.unusedVariables false
set_option linter.unusedSimpArgs false
attribute [local go_sem ↓] Go.wp_at_zero Go.wp_at_succ
theorem meas_lt {m j : Int} (h : j < m) : (m - (j + 1)).toNat < (m - j).toNat := by omega
theorem wrap_succ {j : Nat} {m : Int} (h : (j : Int) < m) (hm : m ≤ 12) : wrap64 ((j : Int) + 1) = (j : Int) + 1 := by unfold wrap64; omega
theorem wrap_small {Y y : Int} (h1 : 1900 ≤ Y) (h : Y < y) (hy : y ≤ 2199) : wrap64 (Y + 1) = Y + 1 := by unfold wrap64; omega
theorem beginI_succ (y : Int) : beginI (y + 1) = beginI y + 365 + (if leapI y = true then 1 else 0) := by
  unfold beginI
  by_cases h4 : y % 4 = 0
  · by_cases h1 : y % 100 = 0
    · by_cases h2 : y % 400 = 0
      · rw [if_pos (leapI_true h4 (.inr h2))]; omega
      · rw [if_neg (by rw [leapI_false (fun h => h.2.elim (fun k => k h1) h2)]; simp)]; omega
    · rw [if_pos (leapI_true h4 (.inl h1))]; omega
  · rw [if_neg (by rw [leapI_false (fun h => h4 h.1)]; simp)]; omega
theorem daysI_out {y m d : Int} (h : d ≤ daysI y m) (h1 : 1 ≤ d) : inY y ∧ 1 ≤ m ∧ m ≤ 12 := by
  unfold daysI at h
  split at h
  · assumption
  · omega
theorem sumD_last {y : Int} (hy : inY y) : sumD y 12 = 365 + (if leapI y = true then 1 else 0) := by
  unfold inY at hy
  simp only [sumD, daysI, mdays, inY]
  cases leapI y <;> simp [hy]
set_option maxHeartbeats 400000 in
theorem begin_c (y : Int) (w : World) (h : inY y) : Calls Try.prog 159 #[.int .i64 y] w (Quiet w (.int .i64 (beginI y))) := by
  obtain ⟨r, hr⟩ : ∃ r, beginI y = r := ⟨_, rfl⟩
  rw [hr]
  have HR := Lib.hid hr
  clear hr
  obtain ⟨h1, h2⟩ := h
  go_enter Try.func159, Try.ntmps159
  go_wp2_with fail
  go_ret
  exact ⟨by rw [← HR.out]; rfl, Below.refl _ _⟩
set_option maxHeartbeats 1000000 in
set_option maxRecDepth 100000 in
theorem of_c (y m d : Int) (w : World) : Calls Try.prog 189 #[.int .i64 y, .int .i64 m, .int .i64 d] w (Quiet w (.tuple #[.int .i64 (ofI y m d).1, .int .i64 (ofI y m d).2])) := by
  obtain ⟨r, hr⟩ : ∃ r, ofI y m d = r := ⟨_, rfl⟩
  rw [hr]
  have HR := Lib.hid hr
  clear hr
  go_enter Try.func189, Try.ntmps189
  by_cases hd1 : d < 1
  case pos =>
    have hf := Lib.hid (show r = (0, 2) by rw [← HR.out]; unfold ofI; rw [if_pos (.inl hd1)])
    go_wp2_with fail
    (try go_ret2)
    exact ⟨by rw [hf.out]; first | done | rfl, Below.refl _ _⟩
  case neg =>
  have hd2 : 1 ≤ d := by omega
  go_wp2_with fail
  refine (days_c y m w).mono ?_
  rintro e w1 ⟨rfl, hb1⟩
  obtain ⟨D, hD⟩ : ∃ D, daysI y m = D := ⟨_, rfl⟩
  rw [hD]
  have HDD := Lib.hid hD
  clear hD
  by_cases hDd : D < d
  case pos =>
    have hf := Lib.hid (show r = (0, 2) by rw [← HR.out]; unfold ofI; rw [HDD.out, if_pos (.inr hDd)])
    go_wp2_with fail
    (try go_ret2)
    exact ⟨by rw [hf.out]; first | done | rfl, hb1⟩
  case neg =>
  have hDd' : d ≤ D := by omega
  have hD31 : D ≤ 31 := by rw [← HDD.out]; exact (daysI_le y m).2
  obtain ⟨hy, hm1, hm2⟩ := daysI_out (by rw [HDD.out]; exact hDd' : d ≤ daysI y m) hd2
  have hyI := hy
  obtain ⟨hy1, hy2⟩ := hyI
  have hf := Lib.hid (show r = (beginI y + d - 1 + sumD y (m - 1).toNat, 0) by rw [← HR.out]; unfold ofI; rw [if_neg (by rw [HDD.out]; omega)])
  have hbd := beginI_bd hy
  obtain ⟨B, hB⟩ : ∃ B, beginI y = B := ⟨_, rfl⟩
  rw [hB] at hf hbd
  have HBB := Lib.hid hB
  clear hB HR
  go_wp2_with fail
  refine (begin_c y w1 hy).mono ?_
  rintro e w2 ⟨rfl, hb2⟩
  rw [HBB.out]
  have hb12 := hb1.trans (hb2.mono hb1.size)
  go_wp2_with fail
  go_loopw [8, 9] (fun s i wr => ∃ j : Nat, 1 ≤ j ∧ (j : Int) ≤ m ∧ i = .int .i64 (j : Int) ∧ s = .int .i64 (B + d - 1 + sumD y (j - 1)) ∧ Below w.heap.size w wr) (fun _ i _ => (m - intOf i).toNat)
  case atStart => exact ⟨1, by omega, by omega, rfl, by simp [sumD], hb12⟩
  case round =>
    obtain ⟨j, hj1, hj2, rfl, rfl, hb⟩ := hrel
    have hs := sumD_le y (j - 1)
    obtain ⟨S, hS⟩ : ∃ S, sumD y (j - 1) = S := ⟨_, rfl⟩
    rw [hS] at hs ⊢
    have HS := Lib.hid hS
    clear hS
    by_cases hjm : (j : Int) < m
    · go_wp2_with fail
      refine (days_c y (j : Int) wr).mono ?_
      rintro e w3 ⟨rfl, hb3⟩
      have hD3 := daysI_le y (j : Int)
      obtain ⟨E, hE⟩ : ∃ E, daysI y (j : Int) = E := ⟨_, rfl⟩
      rw [hE] at hD3 ⊢
      have HE := Lib.hid hE
      clear hE
      have hb4 := hb.trans (hb3.mono hb.size)
      go_wp2_with fail
      go_roundw
      case rel => exact ⟨j + 1, by omega, by omega, by go_num, by
          have e : sumD y (j + 1 - 1) = S + E := by
            obtain ⟨i, rfl⟩ : ∃ i, j = i + 1 := ⟨j - 1, by omega⟩
            rw [show i + 1 + 1 - 1 = i + 1 from rfl, sumD, ← HS.out, ← HE.out]
            simp
          rw [e]; go_num, hb4⟩
      case measure =>
        have e : wrap64 ((j : Int) + 1) = (j : Int) + 1 := wrap_succ hjm hm2
        simp only [intOf, e]
        exact meas_lt hjm
    · go_wp2_with fail
      (try go_ret2)
      have e : j = (m - 1).toNat + 1 := by omega
      refine ⟨?_, hb⟩
      rw [hf.out, ← HS.out, e]
      simp only [Nat.add_sub_cancel]
      rfl
set_option maxHeartbeats 1000000 in
set_option maxRecDepth 100000 in
theorem rOf_c (y m d : Int) (w : World) : Calls Try.prog 145 #[.int .i64 y, .int .i64 m, .int .i64 d] w (Quiet w (.tuple #[.int .i64 (ofI y m d).1, .int .i64 (ofI y m d).2])) := by
  obtain ⟨r, hr⟩ : ∃ r, ofI y m d = r := ⟨_, rfl⟩
  rw [hr]
  have HR := Lib.hid hr
  clear hr
  go_enter Try.func145, Try.ntmps145
  by_cases hd1 : d < 1
  case pos =>
    have hf := Lib.hid (show r = (0, 2) by rw [← HR.out]; unfold ofI; rw [if_pos (.inl hd1)])
    go_wp2_with fail
    (try go_ret2)
    exact ⟨by rw [hf.out]; first | done | rfl, Below.refl _ _⟩
  case neg =>
  have hd2 : 1 ≤ d := by omega
  go_wp2_with fail
  refine (rDays_c y m w).mono ?_
  rintro e w1 ⟨rfl, hb1⟩
  obtain ⟨D, hD⟩ : ∃ D, daysI y m = D := ⟨_, rfl⟩
  rw [hD]
  have HDD := Lib.hid hD
  clear hD
  by_cases hDd : D < d
  case pos =>
    have hf := Lib.hid (show r = (0, 2) by rw [← HR.out]; unfold ofI; rw [HDD.out, if_pos (.inr hDd)])
    go_wp2_with fail
    (try go_ret2)
    exact ⟨by rw [hf.out]; first | done | rfl, hb1⟩
  case neg =>
  have hDd' : d ≤ D := by omega
  have hD31 : D ≤ 31 := by rw [← HDD.out]; exact (daysI_le y m).2
  obtain ⟨hy, hm1, hm2⟩ := daysI_out (by rw [HDD.out]; exact hDd' : d ≤ daysI y m) hd2
  have hyI := hy
  obtain ⟨hy1, hy2⟩ := hyI
  have hf := Lib.hid (show r = (beginI y + d - 1 + sumD y (m - 1).toNat, 0) by rw [← HR.out]; unfold ofI; rw [if_neg (by rw [HDD.out]; omega)])
  have hbd := beginI_bd hy
  obtain ⟨B, hB⟩ : ∃ B, beginI y = B := ⟨_, rfl⟩
  rw [hB] at hf hbd
  have HBB := Lib.hid hB
  clear hB HR
  go_wp2_with fail
  go_loopw [8, 9] (fun s i wr => ∃ j : Nat, 1900 + (j : Int) ≤ y ∧ i = .int .i64 (1900 + (j : Int)) ∧ s = .int .i64 (beginI (1900 + (j : Int))) ∧ Below w.heap.size w wr) (fun _ i _ => (y - intOf i).toNat)
  case atStart => exact ⟨0, by omega, rfl, rfl, hb1⟩
  case round =>
    obtain ⟨j, hjy, rfl, rfl, hb⟩ := hrel
    obtain ⟨Y, hY⟩ : ∃ Y : Int, 1900 + (j : Int) = Y := ⟨_, rfl⟩
    rw [hY] at hjy ⊢
    have hY1 : 1900 ≤ Y := by omega
    have HY := Lib.hid hY
    clear hY
    have hbY := beginI_bd (y := Y) ⟨hY1, by omega⟩
    obtain ⟨S, hS⟩ : ∃ S, beginI Y = S := ⟨_, rfl⟩
    rw [hS] at hbY ⊢
    have HS := Lib.hid hS
    clear hS
    by_cases hlt : Y < y
    · go_wp2_with fail
      refine (rLeap_c Y wr ⟨hY1, by omega⟩).mono ?_
      rintro e w3 ⟨rfl, hb3⟩
      have hb4 := hb.trans (hb3.mono hb.size)
      obtain ⟨lb, hlb⟩ : ∃ lb, leapI Y = lb := ⟨_, rfl⟩
      rw [hlb]
      have hsucc := Lib.hid (beginI_succ Y)
      rw [hlb, HS.out] at hsucc
      clear hlb
      cases lb with
      | true =>
        go_wp2_with fail
        go_roundw
        case rel => exact ⟨j + 1, by have := HY.out; omega, by have := HY.out; go_num, by
          have e : (1900 : Int) + ((j + 1 : Nat) : Int) = Y + 1 := by have := HY.out; omega
          rw [e, hsucc.out]; (try simp), hb4⟩
        case measure =>
          have e : wrap64 (Y + 1) = Y + 1 := wrap_small hY1 hlt hy2
          simp only [intOf, e]
          exact meas_lt hlt
      | false =>
        go_wp2_with fail
        go_roundw
        case rel => exact ⟨j + 1, by have := HY.out; omega, by have := HY.out; go_num, by
          have e : (1900 : Int) + ((j + 1 : Nat) : Int) = Y + 1 := by have := HY.out; omega
          rw [e, hsucc.out]; (try simp), hb4⟩
        case measure =>
          have e : wrap64 (Y + 1) = Y + 1 := wrap_small hY1 hlt hy2
          simp only [intOf, e]
          exact meas_lt hlt
    · have hYy : Y = y := by omega
      have HSB := Lib.hid (show S = B by rw [← HS.out, hYy, HBB.out])
      clear hYy
      go_wp2_with fail
      go_loopw [8, 10] (fun s i wr => ∃ j : Nat, 1 ≤ j ∧ (j : Int) ≤ m ∧ i = .int .i64 (j : Int) ∧ s = .int .i64 (S + sumD y (j - 1)) ∧ Below w.heap.size w wr) (fun _ i _ => (m - intOf i).toNat)
      case atStart => exact ⟨1, by omega, by omega, rfl, by simp [sumD], hb⟩
      case round =>
        obtain ⟨j, hj1, hj2, rfl, rfl, hb⟩ := hrel
        have hs := sumD_le y (j - 1)
        obtain ⟨S, hS⟩ : ∃ S, sumD y (j - 1) = S := ⟨_, rfl⟩
        rw [hS] at hs ⊢
        have HS := Lib.hid hS
        clear hS
        by_cases hjm : (j : Int) < m
        · go_wp2_with fail
          refine (rDays_c y (j : Int) wr).mono ?_
          rintro e w3 ⟨rfl, hb3⟩
          have hD3 := daysI_le y (j : Int)
          obtain ⟨E, hE⟩ : ∃ E, daysI y (j : Int) = E := ⟨_, rfl⟩
          rw [hE] at hD3 ⊢
          have HE := Lib.hid hE
          clear hE
          have hb4 := hb.trans (hb3.mono hb.size)
          go_wp2_with fail
          go_roundw
          case rel => exact ⟨j + 1, by omega, by omega, by go_num, by
              have e : sumD y (j + 1 - 1) = S + E := by
                obtain ⟨i, rfl⟩ : ∃ i, j = i + 1 := ⟨j - 1, by omega⟩
                rw [show i + 1 + 1 - 1 = i + 1 from rfl, sumD, ← HS.out, ← HE.out]
                simp
              rw [e]; go_num, hb4⟩
          case measure =>
            have e : wrap64 ((j : Int) + 1) = (j : Int) + 1 := wrap_succ hjm hm2
            simp only [intOf, e]
            exact meas_lt hjm
        · go_wp2_with fail
          (try go_ret2)
          have e : j = (m - 1).toNat + 1 := by omega
          refine ⟨?_, hb⟩
          rw [hf.out, ← HS.out, e]
          simp only [Nat.add_sub_cancel]
          have e2 := HSB.out; rw [e2]; go_num
end Go.Proofs.Ytnigokmjehemaaa
