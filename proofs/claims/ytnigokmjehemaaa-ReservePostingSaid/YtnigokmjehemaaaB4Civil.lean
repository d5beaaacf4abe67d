/- Year, month and day of a date, in the program and in the reference. Written by gen_b4.py. -/
import Derived.Test.YtnigokmjehemaaaProg
import Derived.Test.YtnigokmjehemaaaB3Of
namespace Go.Proofs.Ytnigokmjehemaaa
open Go Go.RowKit
set_option linter.unusedVariables false
set_option linter.unusedSimpArgs false
attribute [local go_sem ↓] Go.wp_at_zero Go.wp_at_succ
theorem results_tmp4 {fn : Func} {t u v x : Tmp} (h : fn.results = #[.tmp t, .tmp u, .tmp v, .tmp x]) (tmps : Array Value) (P : Program) (w : World) :
    (results fn tmps).run P w = .ok (.tuple #[tmps.getD t undef, tmps.getD u undef, tmps.getD v undef, tmps.getD x undef]) w := by
  simp [results, h]
theorem beg1900 : beginI 1900 = -25567 := by unfold beginI; omega
theorem beg2199 : beginI 2199 = 83641 := by unfold beginI; omega
def inD (d : Int) : Prop := -25567 ≤ d ∧ d ≤ 84005
instance (d : Int) : Decidable (inD d) := by unfold inD; exact inferInstance
def CivP (date y m d : Int) : Prop := inY y ∧ 1 ≤ m ∧ m ≤ 12 ∧ 1 ≤ d ∧ d ≤ daysI y m ∧ date = beginI y + sumD y (m - 1).toNat + d - 1
def CivPost (date : Int) (w : World) (e : Ending) (w' : World) : Prop :=
  ∃ y m d n : Int, e = .returned (.tuple #[.int .i64 y, .int .i64 m, .int .i64 d, .int .i64 n]) ∧ Below w.heap.size w w' ∧ ((inD date ∧ n = 0 ∧ CivP date y m d) ∨ (¬ inD date ∧ n = 2 ∧ y = 0 ∧ m = 0 ∧ d = 0))
theorem civ_last {y date : Int} {j : Nat} (hy : inY y) (hlt : date < beginI (y + 1)) (hj1 : 1 ≤ j) (hj : j ≤ 12) (hr : daysI y (j : Int) ≤ date - beginI y - sumD y (j - 1)) : j ≤ 11 := by
  rcases Nat.lt_or_ge j 12 with h | h
  · omega
  · have e : j = 12 := by omega
    subst e
    have h1 := sumD_last hy
    have h2 := beginI_succ y
    have h3 : sumD y 12 = sumD y 11 + daysI y 12 := by rw [sumD]; rfl
    have h4 : daysI y ((12 : Nat) : Int) = daysI y 12 := rfl
    rw [h4] at hr
    simp only [Nat.add_one_sub_one, show 12 - 1 = 11 from rfl] at hr
    omega
theorem beginI_mono {y z : Int} (h : y ≤ z) : beginI y + 365 * (z - y) ≤ beginI z := by
  unfold beginI; omega
theorem sumD_mono {y : Int} {a b : Nat} (h : a ≤ b) : sumD y a ≤ sumD y b := by
  induction b with
  | zero => have : a = 0 := by omega
            subst this; exact Int.le_refl _
  | succ b ih =>
    rcases Nat.lt_or_ge b a with h1 | h1
    · have : a = b + 1 := by omega
      subst this; exact Int.le_refl _
    · have := ih h1
      have := daysI_le y ((b : Int) + 1)
      simp only [sumD]; omega
theorem CivP.year {date y m d : Int} (h : CivP date y m d) : beginI y ≤ date ∧ date < beginI (y + 1) := by
  obtain ⟨hy, h1, h2, h3, h4, h5⟩ := h
  have k1 := sumD_le y (m - 1).toNat
  have k2 := sumD_last hy
  have k3 := beginI_succ y
  have k4 : sumD y ((m - 1).toNat + 1) ≤ sumD y 12 := sumD_mono (by omega)
  have k5 : sumD y ((m - 1).toNat + 1) = sumD y (m - 1).toNat + daysI y m := by rw [sumD, show (((m - 1).toNat : Int) + 1) = m from by omega]
  exact ⟨by omega, by omega⟩
theorem CivP.uniq {date y m d y' m' d' : Int} (h : CivP date y m d) (k : CivP date y' m' d') : y = y' ∧ m = m' ∧ d = d' := by
  have h1 := h.year
  have k1 := k.year
  have e : y = y' := by
    rcases Int.lt_trichotomy y y' with hl | he | hl
    · have := beginI_mono (show y + 1 ≤ y' by omega); omega
    · exact he
    · have := beginI_mono (show y' + 1 ≤ y by omega); omega
  subst e
  obtain ⟨hy, a1, a2, a3, a4, a5⟩ := h
  obtain ⟨_, b1, b2, b3, b4, b5⟩ := k
  have e : m = m' := by
    rcases Int.lt_trichotomy m m' with hl | he | hl
    · have q1 : sumD y ((m - 1).toNat + 1) ≤ sumD y (m' - 1).toNat := sumD_mono (by omega)
      have q2 : sumD y ((m - 1).toNat + 1) = sumD y (m - 1).toNat + daysI y m := by rw [sumD, show (((m - 1).toNat : Int) + 1) = m from by omega]
      omega
    · exact he
    · have q1 : sumD y ((m' - 1).toNat + 1) ≤ sumD y (m - 1).toNat := sumD_mono (by omega)
      have q2 : sumD y ((m' - 1).toNat + 1) = sumD y (m' - 1).toNat + daysI y m' := by rw [sumD, show (((m' - 1).toNat : Int) + 1) = m' from by omega]
      omega
  subst e
  exact ⟨rfl, rfl, by omega⟩
theorem dvalid_c (d : Int) (w : World) : Calls Try.prog 158 #[.int .i64 d] w (Quiet w (.bool (decide (inD d)))) := by
  obtain ⟨r, hr⟩ : ∃ r, decide (inD d) = r := ⟨_, rfl⟩
  rw [hr]
  have HR := Lib.hid hr
  clear hr
  go_enter Try.func158, Try.ntmps158
  by_cases h1 : -25567 ≤ d
  · by_cases h2 : d ≤ 84005
    · have hf := Lib.hid (show r = true by rw [← HR.out]; exact decide_eq_true ⟨h1, h2⟩)
      go_wp2_with fail
      go_ret
      exact ⟨by rw [hf.out]; first | done | rfl, Below.refl _ _⟩
    · have hf := Lib.hid (show r = false by rw [← HR.out]; exact decide_eq_false (fun h => h2 h.2))
      go_wp2_with fail
      go_ret
      exact ⟨by rw [hf.out]; first | done | rfl, Below.refl _ _⟩
  · have hf := Lib.hid (show r = false by rw [← HR.out]; exact decide_eq_false (fun h => h1 h.1))
    go_wp2_with fail
    go_ret
    exact ⟨by rw [hf.out]; first | done | rfl, Below.refl _ _⟩
theorem rdvalid_c (d : Int) (w : World) : Calls Try.prog 147 #[.int .i64 d] w (Quiet w (.bool (decide (inD d)))) := by
  obtain ⟨r, hr⟩ : ∃ r, decide (inD d) = r := ⟨_, rfl⟩
  rw [hr]
  have HR := Lib.hid hr
  clear hr
  go_enter Try.func147, Try.ntmps147
  by_cases h1 : -25567 ≤ d
  · by_cases h2 : d ≤ 84005
    · have hf := Lib.hid (show r = true by rw [← HR.out]; exact decide_eq_true ⟨h1, h2⟩)
      go_wp2_with fail
      go_ret
      exact ⟨by rw [hf.out]; first | done | rfl, Below.refl _ _⟩
    · have hf := Lib.hid (show r = false by rw [← HR.out]; exact decide_eq_false (fun h => h2 h.2))
      go_wp2_with fail
      go_ret
      exact ⟨by rw [hf.out]; first | done | rfl, Below.refl _ _⟩
  · have hf := Lib.hid (show r = false by rw [← HR.out]; exact decide_eq_false (fun h => h1 h.1))
    go_wp2_with fail
    go_ret
    exact ⟨by rw [hf.out]; first | done | rfl, Below.refl _ _⟩
set_option maxHeartbeats 2000000 in
set_option maxRecDepth 100000 in
theorem rCivil_c (date : Int) (w : World) (hbd : intBd date) : Calls Try.prog 99 #[.int .i64 date] w (CivPost date w) := by
  go_enter Try.func99, Try.ntmps99
  go_wp2_with fail
  refine (rdvalid_c date w).mono ?_
  rintro e w1 ⟨rfl, hb1⟩
  obtain ⟨v, hv⟩ : ∃ v, decide (inD date) = v := ⟨_, rfl⟩
  rw [hv]
  have HV := Lib.hid hv
  clear hv
  cases v with
  | false =>
    go_wp2_with fail
    (try simp only [Exit.inBlock, Exit.then])
    refine bodyPost_ret (results_tmp4 rfl _ _ _) rfl ⟨0, 0, 0, 2, rfl, hb1, .inr ⟨of_decide_eq_false HV.out, rfl, rfl, rfl, rfl⟩⟩
  | true =>
  have hin : inD date := of_decide_eq_true HV.out
  have hin2 := hin
  obtain ⟨hd1, hd2⟩ := hin2
  have HIN := Lib.hid hin
  clear HV hin hbd
  go_wp2_with fail
  go_loopw [6, 8] (fun i s wr => ∃ Y : Int, inY Y ∧ i = .int .i64 Y ∧ s = .int .i64 (date - beginI Y) ∧ 0 ≤ date - beginI Y ∧ Below w.heap.size w wr) (fun i _ _ => (2199 - intOf i).toNat)
  case atStart => exact ⟨1900, by unfold inY; omega, rfl, by rw [beg1900]; go_num, by rw [beg1900]; omega, hb1⟩
  case round =>
    obtain ⟨Y, hY, rfl, rfl, hpos, hb⟩ := hrel
    have hyI := hY
    obtain ⟨hY1, hY2⟩ := hyI
    have hbB := beginI_bd hY
    have hsucc := Lib.hid (beginI_succ Y)
    obtain ⟨B, hB⟩ : ∃ B, beginI Y = B := ⟨_, rfl⟩
    rw [hB] at hpos hbB hsucc ⊢
    have HBB := Lib.hid hB
    clear hB
    go_wp2_with fail
    refine (rLeap_c Y wr hY).mono ?_
    rintro e w3 ⟨rfl, hb3⟩
    have hb4 := hb.trans (hb3.mono hb.size)
    obtain ⟨lb, hlb⟩ : ∃ lb, leapI Y = lb := ⟨_, rfl⟩
    rw [hlb] at hsucc ⊢
    have HLB := Lib.hid hlb
    clear hlb
    cases lb with
    | true =>
      have hs2 := Lib.hid (show beginI (Y + 1) = B + 366 by have := hsucc.out; simp at this; omega)
      clear hsucc
      by_cases hge : 366 ≤ date - B
      · have hY8 : Y < 2199 := by
          rcases Int.lt_or_le Y 2199 with h | h
          · exact h
          · have e : Y = 2199 := by omega
            have e2 := HBB.out
            rw [e] at e2
            have e3 := beg2199
            omega
        go_wp2_with fail
        refine (rLeap_c Y w3 hY).mono ?_
        rintro e w4 ⟨rfl, hb5⟩
        rw [HLB.out]
        have hb6 := hb4.trans (hb5.mono hb4.size)
        go_wp2_with fail
        go_roundw
        case rel => exact ⟨Y + 1, ⟨by omega, by omega⟩, by go_num, by rw [hs2.out]; go_num, by rw [hs2.out]; omega, hb6⟩
        case measure =>
          have e : wrap64 (Y + 1) = Y + 1 := wrap_small hY1 hY8 (Int.le_refl _)
          simp only [intOf, e]
          exact meas_lt hY8
      · have hlt : date - B < 366 := by omega
        have HBL := Lib.hid (show date < beginI (Y + 1) by rw [hs2.out]; omega)
        clear hge
        go_wp2_with fail
        (try (refine (rLeap_c Y w3 hY).mono ?_
              rintro e w4 ⟨rfl, hb5⟩
              rw [HLB.out]
              replace hb4 := hb4.trans (hb5.mono hb4.size)
              go_wp2_with fail))
        go_loopw [7, 8] (fun i s wr => ∃ j : Nat, 1 ≤ j ∧ j ≤ 12 ∧ i = .int .i64 (j : Int) ∧ s = .int .i64 (date - B - sumD Y (j - 1)) ∧ 0 ≤ date - B - sumD Y (j - 1) ∧ Below w.heap.size w wr) (fun i _ _ => (12 - intOf i).toNat)
        case atStart => exact ⟨1, by omega, by omega, rfl, by simp [sumD], by simp [sumD]; omega, hb4⟩
        case round =>
          obtain ⟨j, hj1, hj2, rfl, rfl, hpos, hb⟩ := hrel
          have hs := sumD_le Y (j - 1)
          obtain ⟨S, hS⟩ : ∃ S, sumD Y (j - 1) = S := ⟨_, rfl⟩
          rw [hS] at hs hpos ⊢
          have HS := Lib.hid hS
          clear hS
          have hj1I : 1 ≤ (j : Int) := by omega
          have hj2I : (j : Int) ≤ 12 := by omega
          go_wp2_with fail
          refine (rDays_c Y (j : Int) wr).mono ?_
          rintro e w3 ⟨rfl, hb3⟩
          have hD3 := daysI_le Y (j : Int)
          obtain ⟨E, hE⟩ : ∃ E, daysI Y (j : Int) = E := ⟨_, rfl⟩
          rw [hE] at hD3 ⊢
          have HE := Lib.hid hE
          clear hE
          have hb4 := hb.trans (hb3.mono hb.size)
          by_cases hge : E ≤ date - B - S
          · have hj11 : j ≤ 11 := civ_last hY HBL.out hj1 hj2 (by rw [HE.out, HBB.out, HS.out]; exact hge)
            go_wp2_with fail
            refine (rDays_c Y (j : Int) w3).mono ?_
            rintro e w4 ⟨rfl, hb5⟩
            rw [HE.out]
            have hb6 := hb4.trans (hb5.mono hb4.size)
            go_wp2_with fail
            go_roundw
            case rel =>
              have e : sumD Y (j + 1 - 1) = S + E := by
                obtain ⟨i, rfl⟩ : ∃ i, j = i + 1 := ⟨j - 1, by omega⟩
                rw [show i + 1 + 1 - 1 = i + 1 from rfl, sumD, ← HS.out, ← HE.out]
                simp
              exact ⟨j + 1, by omega, by omega, by go_num, by rw [e]; go_num, by rw [e]; omega, hb6⟩
            case measure =>
              have e : wrap64 ((j : Int) + 1) = (j : Int) + 1 := wrap_succ (show (j : Int) < 12 by omega) (Int.le_refl _)
              simp only [intOf, e]
              exact meas_lt (by omega)
          · have hlt2 : date - B - S < E := by omega
            go_wp2_with fail
            (try simp only [Exit.inBlock, Exit.then])
            refine bodyPost_ret (results_tmp4 rfl _ _ _) rfl ⟨Y, (j : Int), date - B - S + 1, 0, by first | rfl | go_num, hb4, .inl ⟨HIN.out, rfl, hY, by omega, by omega, by omega, by rw [HE.out]; omega, ?_⟩⟩
            rw [show ((j : Int) - 1).toNat = j - 1 from by omega, HS.out, HBB.out]
            omega
    | false =>
      have hs2 := Lib.hid (show beginI (Y + 1) = B + 365 by have := hsucc.out; simp at this; omega)
      clear hsucc
      go_wp2_with fail
      refine (rLeap_c Y w3 hY).mono ?_
      rintro e w4 ⟨rfl, hb5⟩
      rw [HLB.out]
      have hb6 := hb4.trans (hb5.mono hb4.size)
      by_cases hge : 365 ≤ date - B
      · have hY8 : Y < 2199 := by
          rcases Int.lt_or_le Y 2199 with h | h
          · exact h
          · have e : Y = 2199 := by omega
            have e2 := HBB.out
            rw [e] at e2
            have e3 := beg2199
            omega
        go_wp2_with fail
        refine (rLeap_c Y w4 hY).mono ?_
        rintro e w5 ⟨rfl, hb7⟩
        rw [HLB.out]
        have hb8 := hb6.trans (hb7.mono hb6.size)
        go_wp2_with fail
        go_roundw
        case rel => exact ⟨Y + 1, ⟨by omega, by omega⟩, by go_num, by rw [hs2.out]; go_num, by rw [hs2.out]; omega, hb8⟩
        case measure =>
          have e : wrap64 (Y + 1) = Y + 1 := wrap_small hY1 hY8 (Int.le_refl _)
          simp only [intOf, e]
          exact meas_lt hY8
      · have hlt : date - B < 365 := by omega
        have HBL := Lib.hid (show date < beginI (Y + 1) by rw [hs2.out]; omega)
        clear hge
        go_wp2_with fail
        go_loopw [7, 8] (fun i s wr => ∃ j : Nat, 1 ≤ j ∧ j ≤ 12 ∧ i = .int .i64 (j : Int) ∧ s = .int .i64 (date - B - sumD Y (j - 1)) ∧ 0 ≤ date - B - sumD Y (j - 1) ∧ Below w.heap.size w wr) (fun i _ _ => (12 - intOf i).toNat)
        case atStart => exact ⟨1, by omega, by omega, rfl, by simp [sumD], by simp [sumD]; omega, hb6⟩
        case round =>
          obtain ⟨j, hj1, hj2, rfl, rfl, hpos, hb⟩ := hrel
          have hs := sumD_le Y (j - 1)
          obtain ⟨S, hS⟩ : ∃ S, sumD Y (j - 1) = S := ⟨_, rfl⟩
          rw [hS] at hs hpos ⊢
          have HS := Lib.hid hS
          clear hS
          have hj1I : 1 ≤ (j : Int) := by omega
          have hj2I : (j : Int) ≤ 12 := by omega
          go_wp2_with fail
          refine (rDays_c Y (j : Int) wr).mono ?_
          rintro e w3 ⟨rfl, hb3⟩
          have hD3 := daysI_le Y (j : Int)
          obtain ⟨E, hE⟩ : ∃ E, daysI Y (j : Int) = E := ⟨_, rfl⟩
          rw [hE] at hD3 ⊢
          have HE := Lib.hid hE
          clear hE
          have hb4 := hb.trans (hb3.mono hb.size)
          by_cases hge : E ≤ date - B - S
          · have hj11 : j ≤ 11 := civ_last hY HBL.out hj1 hj2 (by rw [HE.out, HBB.out, HS.out]; exact hge)
            go_wp2_with fail
            refine (rDays_c Y (j : Int) w3).mono ?_
            rintro e w4 ⟨rfl, hb5⟩
            rw [HE.out]
            have hb6 := hb4.trans (hb5.mono hb4.size)
            go_wp2_with fail
            go_roundw
            case rel =>
              have e : sumD Y (j + 1 - 1) = S + E := by
                obtain ⟨i, rfl⟩ : ∃ i, j = i + 1 := ⟨j - 1, by omega⟩
                rw [show i + 1 + 1 - 1 = i + 1 from rfl, sumD, ← HS.out, ← HE.out]
                simp
              exact ⟨j + 1, by omega, by omega, by go_num, by rw [e]; go_num, by rw [e]; omega, hb6⟩
            case measure =>
              have e : wrap64 ((j : Int) + 1) = (j : Int) + 1 := wrap_succ (show (j : Int) < 12 by omega) (Int.le_refl _)
              simp only [intOf, e]
              exact meas_lt (by omega)
          · have hlt2 : date - B - S < E := by omega
            go_wp2_with fail
            (try simp only [Exit.inBlock, Exit.then])
            refine bodyPost_ret (results_tmp4 rfl _ _ _) rfl ⟨Y, (j : Int), date - B - S + 1, 0, by first | rfl | go_num, hb4, .inl ⟨HIN.out, rfl, hY, by omega, by omega, by omega, by rw [HE.out]; omega, ?_⟩⟩
            rw [show ((j : Int) - 1).toNat = j - 1 from by omega, HS.out, HBB.out]
            omega
end Go.Proofs.Ytnigokmjehemaaa
