/- Year, month and day of a date in the program; months later; periods of a calendar. Written by gen_b5.py. -/
import Derived.Test.YtnigokmjehemaaaProg
import Derived.Test.YtnigokmjehemaaaB4Civil
namespace Go.Proofs.Ytnigokmjehemaaa
open Go Go.RowKit
set_option linter.unusedVariables false
set_option linter.unusedSimpArgs false
attribute [local go_sem ↓] Go.wp_at_zero Go.wp_at_succ
set_option maxHeartbeats 400000 in
theorem begin_w (y : Int) (w : World) (h1 : 1800 ≤ y) (h2 : y ≤ 2300) : Calls Try.prog 159 #[.int .i64 y] w (Quiet w (.int .i64 (beginI y))) := by
  obtain ⟨r, hr⟩ : ∃ r, beginI y = r := ⟨_, rfl⟩
  rw [hr]
  have HR := Lib.hid hr
  clear hr
  go_enter Try.func159, Try.ntmps159
  go_wp2_with fail
  go_ret
  exact ⟨by rw [← HR.out]; rfl, Below.refl _ _⟩
theorem begin_start {date q : Int} (h : inD date) (hq1 : -366 < date - 366 * q) (hq2 : date - 366 * q < 366) (hq3 : 0 ≤ date → 366 * q ≤ date) (hq4 : date < 0 → date ≤ 366 * q) : 1899 ≤ 1968 + q ∧ 1968 + q ≤ 2199 ∧ beginI (1968 + q) ≤ date := by
  unfold inD at h
  unfold beginI
  rcases Int.lt_or_le date 0 with hd | hd
  · have := hq4 hd; omega
  · have := hq3 hd; omega
theorem tdiv_facts (date : Int) : -366 < date - 366 * Int.tdiv date 366 ∧ date - 366 * Int.tdiv date 366 < 366 ∧ (0 ≤ date → 366 * Int.tdiv date 366 ≤ date) ∧ (date < 0 → date ≤ 366 * Int.tdiv date 366) := by
  rcases Int.lt_or_le date 0 with hd | hd
  · have e : Int.tdiv date 366 = -((-date) / 366) := by
      have h1 : Int.tdiv date 366 = - Int.tdiv (-date) 366 := by rw [Int.neg_tdiv]; omega
      rw [h1, Int.tdiv_eq_ediv_of_nonneg (by omega)]
    rw [e]; omega
  · rw [Int.tdiv_eq_ediv_of_nonneg hd]; omega
theorem beg_at {Y date : Int} (h : Y + 1 = 1900) (hd : -25567 ≤ date) : beginI (Y + 1) ≤ date := by rw [h, beg1900]; exact hd
theorem beg2200 : beginI 2200 = 84006 := by unfold beginI; omega
theorem wrap_y {Y : Int} (h1 : 1899 ≤ Y) (h2 : Y < 2199) : wrap64 (Y + 1) = Y + 1 := by unfold wrap64; omega
set_option maxHeartbeats 2000000 in
set_option maxRecDepth 100000 in
theorem civil_c (date : Int) (w : World) (hbd : intBd date) : Calls Try.prog 113 #[.int .i64 date] w (CivPost date w) := by
  go_enter Try.func113, Try.ntmps113
  go_wp2_with fail
  refine (dvalid_c date w).mono ?_
  rintro e w1 ⟨rfl, hb1⟩
  obtain ⟨v, hv⟩ : ∃ v, decide (inD date) = v := ⟨_, rfl⟩
  rw [hv]
  have HV := Lib.hid hv
  clear hv
  cases v with
  | false =>
    go_wp2_with fail
    (try simp only [Exit.inBlock, Exit.then])
    refine bodyPost_ret (results_tmp4 rfl _ _ _) rfl ⟨0, 0, 0, 2, rfl, hb1, .inr ⟨of_decide_eq_false HV.out, rfl, rfl, rfl, rfl⟩⟩
  | true =>
  have hin : inD date := of_decide_eq_true HV.out
  have hin2 := hin
  obtain ⟨hd1, hd2⟩ := hin2
  have HIN := Lib.hid hin
  clear HV hin hbd
  obtain ⟨t1, t2, t3, t4⟩ := tdiv_facts date
  have hst := Lib.hid (begin_start HIN.out t1 t2 t3 t4)
  have q1 : -70 ≤ Int.tdiv date 366 := by have := hst.out.1; omega
  have q2 : Int.tdiv date 366 ≤ 231 := by have := hst.out.2.1; omega
  clear t1 t2 t3 t4
  go_wp2_with fail
  go_loopw [2] (fun i wr => ∃ Y : Int, 1899 ≤ Y ∧ Y ≤ 2199 ∧ i = .int .i64 Y ∧ (1900 ≤ Y → beginI Y ≤ date) ∧ Below w.heap.size w wr) (fun i _ => (2199 - intOf i).toNat)
  case atStart => exact ⟨1968 + Int.tdiv date 366, hst.out.1, hst.out.2.1, by first | rfl | go_num, fun _ => hst.out.2.2, hb1⟩
  case round =>
    obtain ⟨Y, hY1, hY2, rfl, hle, hb⟩ := hrel
    have HLE := Lib.hid hle
    clear hle hst q1 q2
    by_cases h19 : Y < 1900
    · go_wp2_with fail
      go_roundw
      case rel => exact ⟨Y + 1, by omega, by omega, by go_num, fun _ => beg_at (by omega) HIN.out.1, hb⟩
      case measure =>
        have e : wrap64 (Y + 1) = Y + 1 := wrap_y hY1 (by omega)
        simp only [intOf, e]
        exact meas_lt (by omega)
    · go_wp2_with fail
      refine (begin_w (Y + 1) wr (by omega) (by omega)).mono ?_
      rintro e w3 ⟨rfl, hb3⟩
      have hb4 := hb.trans (hb3.mono hb.size)
      obtain ⟨B1, hB1⟩ : ∃ B1, beginI (Y + 1) = B1 := ⟨_, rfl⟩
      rw [hB1]
      have HB1 := Lib.hid hB1
      clear hB1
      by_cases hge : B1 ≤ date
      · have hY8 : Y < 2199 := by
          rcases Int.lt_or_le Y 2199 with h | h
          · exact h
          · have e : Y + 1 = 2200 := by omega
            have e2 := HB1.out
            rw [e, beg2200] at e2
            omega
        go_wp2_with fail
        go_roundw
        case rel => exact ⟨Y + 1, by omega, by omega, by go_num, fun _ => by rw [HB1.out]; exact hge, hb4⟩
        case measure =>
          have e : wrap64 (Y + 1) = Y + 1 := wrap_y hY1 hY8
          simp only [intOf, e]
          exact meas_lt hY8
      · have HBL := Lib.hid (show date < beginI (Y + 1) by rw [HB1.out]; omega)
        have hY : inY Y := ⟨by omega, hY2⟩
        go_wp2_with fail
        refine (begin_c Y w3 hY).mono ?_
        rintro e w4 ⟨rfl, hb5⟩
        have hb6 := hb4.trans (hb5.mono hb4.size)
        have hbB := beginI_bd hY
        have hpos : beginI Y ≤ date := HLE.out hY.1
        obtain ⟨B, hB⟩ : ∃ B, beginI Y = B := ⟨_, rfl⟩
        rw [hB] at hbB hpos ⊢
        have HBB := Lib.hid hB
        clear hB
        go_wp2_with fail
        go_loopw [3, 4] (fun i s wr => ∃ j : Nat, 1 ≤ j ∧ j ≤ 12 ∧ i = .int .i64 (j : Int) ∧ s = .int .i64 (date - B - sumD Y (j - 1)) ∧ 0 ≤ date - B - sumD Y (j - 1) ∧ Below w.heap.size w wr) (fun i _ _ => (12 - intOf i).toNat)
        case atStart => exact ⟨1, by omega, by omega, rfl, by simp [sumD], by simp [sumD]; omega, hb6⟩
        case round =>
          obtain ⟨j, hj1, hj2, rfl, rfl, hpos, hb⟩ := hrel
          have hs := sumD_le Y (j - 1)
          obtain ⟨S, hS⟩ : ∃ S, sumD Y (j - 1) = S := ⟨_, rfl⟩
          rw [hS] at hs hpos ⊢
          have HS := Lib.hid hS
          clear hS
          have hj1I : 1 ≤ (j : Int) := by omega
          have hj2I : (j : Int) ≤ 12 := by omega
          go_wp2_with fail
          refine (days_c Y (j : Int) wr).mono ?_
          rintro e w3 ⟨rfl, hb3⟩
          have hD3 := daysI_le Y (j : Int)
          obtain ⟨E, hE⟩ : ∃ E, daysI Y (j : Int) = E := ⟨_, rfl⟩
          rw [hE] at hD3 ⊢
          have HE := Lib.hid hE
          clear hE
          have hb4 := hb.trans (hb3.mono hb.size)
          by_cases hge : E ≤ date - B - S
          · have hj11 : j ≤ 11 := civ_last hY HBL.out hj1 hj2 (by rw [HE.out, HBB.out, HS.out]; exact hge)
            go_wp2_with fail
            refine (days_c Y (j : Int) w3).mono ?_
            rintro e w4 ⟨rfl, hb5⟩
            rw [HE.out]
            have hb6 := hb4.trans (hb5.mono hb4.size)
            go_wp2_with fail
            go_roundw
            case rel =>
              have e : sumD Y (j + 1 - 1) = S + E := by
                obtain ⟨i, rfl⟩ : ∃ i, j = i + 1 := ⟨j - 1, by omega⟩
                rw [show i + 1 + 1 - 1 = i + 1 from rfl, sumD, ← HS.out, ← HE.out]
                simp
              exact ⟨j + 1, by omega, by omega, by go_num, by rw [e]; go_num, by rw [e]; omega, hb6⟩
            case measure =>
              have e : wrap64 ((j : Int) + 1) = (j : Int) + 1 := wrap_succ (show (j : Int) < 12 by omega) (Int.le_refl _)
              simp only [intOf, e]
              exact meas_lt (by omega)
          · have hlt2 : date - B - S < E := by omega
            go_wp2_with fail
            (try simp only [Exit.inBlock, Exit.then])
            refine bodyPost_ret (results_tmp4 rfl _ _ _) rfl ⟨Y, (j : Int), date - B - S + 1, 0, by first | rfl | go_num, hb4, .inl ⟨HIN.out, rfl, hY, by omega, by omega, by omega, by rw [HE.out]; omega, ?_⟩⟩
            rw [show ((j : Int) - 1).toNat = j - 1 from by omega, HS.out, HBB.out]
            omega
/-- The first day of the month that lies n months after the year 0. -/
def monI (n : Int) : Int := beginI (n / 12) + sumD (n / 12) (n % 12).toNat
/-- The first day of a period, and the error. -/
def firI (n : Int) : Int × Int := if inY (n / 12) then (monI n, 0) else (0, 2)
theorem ofI_mon {n : Int} : ofI (n / 12) (n % 12 + 1) 1 = firI n := by
  unfold ofI firI
  by_cases hy : inY (n / 12)
  · have := daysI_ge (y := n / 12) (m := n % 12 + 1) hy (by omega) (by omega)
    rw [if_neg (by omega), if_pos hy]
    unfold monI
    rw [show n % 12 + 1 - 1 = n % 12 from by omega]
    simp only [Prod.mk.injEq, and_true]
    omega
  · have e : daysI (n / 12) (n % 12 + 1) = 0 := by unfold daysI; rw [if_neg (fun h => hy h.1)]
    rw [if_pos (by omega), if_neg hy]
theorem monI_civ {n : Int} (hy : inY (n / 12)) : CivP (monI n) (n / 12) (n % 12 + 1) 1 := by
  have := daysI_ge (y := n / 12) (m := n % 12 + 1) hy (by omega) (by omega)
  refine ⟨hy, by omega, by omega, by omega, by omega, ?_⟩
  unfold monI
  rw [show n % 12 + 1 - 1 = n % 12 from by omega]
  omega
theorem monI_in {n : Int} (hy : inY (n / 12)) : inD (monI n) := by
  have h := (monI_civ hy).year
  have h1 := beginI_bd hy
  have h2 := beginI_mono (show n / 12 + 1 ≤ 2200 by have := hy.2; omega)
  rw [beg2200] at h2
  unfold inD
  have := hy.2
  omega
set_option maxHeartbeats 1000000 in
/-- Add of the reference at the first day of a month. -/
theorem rAdd_c (n p : Int) (w : World) (hy : inY (n / 12)) (hp0 : 0 ≤ p) (hp1 : p ≤ 3600) : Calls Try.prog 146 #[.int .i64 (monI n), .int .i64 p] w (Quiet w (.tuple #[.int .i64 (firI (n + p)).1, .int .i64 (firI (n + p)).2])) := by
  obtain ⟨r, hr⟩ : ∃ r, firI (n + p) = r := ⟨_, rfl⟩
  rw [hr]
  have HR := Lib.hid hr
  clear hr
  have hin := monI_in hy
  have hc := Lib.hid (monI_civ hy)
  obtain ⟨d0, hd0⟩ : ∃ d0, monI n = d0 := ⟨_, rfl⟩
  rw [hd0] at hin hc ⊢
  clear hd0
  obtain ⟨Y, hY⟩ : ∃ Y, n / 12 = Y := ⟨_, rfl⟩
  obtain ⟨M, hM⟩ : ∃ M, n % 12 + 1 = M := ⟨_, rfl⟩
  have hn : n = 12 * Y + M - 1 := by omega
  have hM1 : 1 ≤ M := by omega
  have hM2 : M ≤ 12 := by omega
  rw [hY] at hy hc
  rw [hM] at hc
  obtain ⟨hy1, hy2⟩ := hy
  have HIN := Lib.hid hin
  clear hY hM hin
  subst hn
  go_enter Try.func146, Try.ntmps146
  go_wp2_with fail
  refine (rCivil_c d0 w (by have := HIN.out.1; have := HIN.out.2; unfold intBd; omega)).mono ?_
  rintro e w1 ⟨y, m, d, k, rfl, hb1, hcase⟩
  obtain ⟨hk, hciv⟩ : k = 0 ∧ CivP d0 y m d := by
    rcases hcase with ⟨_, h1, h2⟩ | ⟨h1, _⟩
    · exact ⟨h1, h2⟩
    · exact absurd HIN.out h1
  obtain ⟨e1, e2, e3⟩ := hciv.uniq hc.out
  subst hk e1 e2 e3
  clear hcase hciv hc
  have hNl : 0 ≤ 12 * y + m - 1 + p := by omega
  by_cases hNy : (12 * y + m - 1 + p) / 12 ≤ 2199
  · have hNy1 : 1900 ≤ (12 * y + m - 1 + p) / 12 := by omega
    have hdd := daysI_ge (y := (12 * y + m - 1 + p) / 12) (m := (12 * y + m - 1 + p) % 12 + 1) ⟨hNy1, hNy⟩ (by omega) (by omega)
    have hf := Lib.hid (show ofI ((12 * y + m - 1 + p) / 12) ((12 * y + m - 1 + p) % 12 + 1) 1 = r by rw [← HR.out, ofI_mon])
    go_wp2_with fail
    refine (rDays_c _ _ w1).mono ?_
    rintro e w2 ⟨rfl, hb2⟩
    obtain ⟨D, hD⟩ : ∃ D, daysI ((12 * y + m - 1 + p) / 12) ((12 * y + m - 1 + p) % 12 + 1) = D := ⟨_, rfl⟩
    rw [hD] at hdd ⊢
    clear hD
    go_wp2_with fail
    (try rw [show min (1 : Int) D = 1 from by omega])
    refine (rOf_c _ _ _ w2).mono ?_
    rintro e w3 ⟨rfl, hb3⟩
    rw [hf.out]
    go_wp2_with fail
    (try go_ret2)
    exact ⟨rfl, hb1.trans ((hb2.trans (hb3.mono hb2.size)).mono hb1.size)⟩
  · have hf := Lib.hid (show r = (0, 2) by rw [← HR.out]; unfold firI; rw [if_neg (fun h => hNy h.2)])
    have hNy2 : 2199 < (12 * y + m - 1 + p) / 12 := by omega
    go_wp2_with fail
    (try go_ret2)
    exact ⟨by rw [hf.out]; first | done | rfl, hb1⟩
end Go.Proofs.Ytnigokmjehemaaa
