/- Dates of days, in the program and in the reference. Written by gen_b3.py. -/
import Derived.Test.YtekelchdbkjjjaaGreatG20xB0B2
import Derived.Test.YtekelchdbkjjjaaGreatProg
import Derived.Maps.Views
set_option linter.unusedVariables false
set_option linter.unusedSimpArgs false
set_option maxRecDepth 4000
attribute [local go_sem ↓] Go.wp_at_zero Go.wp_at_succ
namespace Go.Proofs.YtekelchdbkjjjaaGreat
open Go Go.RowKit
theorem meas_lt {m j : Int} (h : j < m) : (m - (j + 1)).toNat < (m - j).toNat := by omega
theorem wrap_succ {j : Nat} {m : Int} (h : (j : Int) < m) (hm : m ≤ 12) : wrap64 ((j : Int) + 1) = (j : Int) + 1 := by unfold wrap64; omega
theorem wrap_small {Y y : Int} (h1 : 1900 ≤ Y) (h : Y < y) (hy : y ≤ 2199) : wrap64 (Y + 1) = Y + 1 := by unfold wrap64; omega
theorem beginI_succ (y : Int) : beginI (y + 1) = beginI y + 365 + (if leapI y = true then 1 else 0) := by
 unfold beginI
 by_cases h4 : y % 4 = 0
 · by_cases h1 : y % 100 = 0
   · by_cases h2 : y % 400 = 0
     · rw [if_pos (leapI_true h4 (.inr h2))]; omega
     · rw [if_neg (by rw [leapI_false (fun h => h.2.elim (fun k => k h1) h2)]; simp)]; omega
   · rw [if_pos (leapI_true h4 (.inl h1))]; omega
 · rw [if_neg (by rw [leapI_false (fun h => h4 h.1)]; simp)]; omega
theorem daysI_out {y m d : Int} (h : d ≤ daysI y m) (h1 : 1 ≤ d) : inY y ∧ 1 ≤ m ∧ m ≤ 12 := by
 unfold daysI at h
 split at h
 · assumption
 · omega
theorem sumD_last {y : Int} (hy : inY y) : sumD y 12 = 365 + (if leapI y = true then 1 else 0) := by
 unfold inY at hy
 simp only [sumD, daysI, mdays, inY]
 cases leapI y <;> simp [hy]
set_option maxHeartbeats 400000 in
theorem begin_c (y : Int) (w : World) (h : inY y) : Calls Tryz.prog 104 #[.int .i64 y] w (Quiet w (.int .i64 (beginI y))) := by
 obtain ⟨r, hr⟩ : ∃ r, beginI y = r := ⟨_, rfl⟩
 rw [hr]
 have HR := Lib.hid hr
 clear hr
 obtain ⟨h1, h2⟩ := h
 go_enter Tryz.func104, Tryz.ntmps104
 go_wp2_with fail
 go_ret
 exact ⟨by rw [← HR.out]; rfl, Below.refl _ _⟩
set_option maxHeartbeats 1000000 in
set_option maxRecDepth 100000 in
theorem of_c (y m d : Int) (w : World) : Calls Tryz.prog 115 #[.int .i64 y, .int .i64 m, .int .i64 d] w (Quiet w (.tuple #[.int .i64 (ofI y m d).1, .int .i64 (ofI y m d).2])) := by
 obtain ⟨r, hr⟩ : ∃ r, ofI y m d = r := ⟨_, rfl⟩
 rw [hr]
 have HR := Lib.hid hr
 clear hr
 go_enter Tryz.func115, Tryz.ntmps115
 by_cases hd1 : d < 1
 case pos =>
  have hf := Lib.hid (show r = (0, 2) by rw [← HR.out]; unfold ofI; rw [if_pos (.inl hd1)])
  go_wp2_with fail
  (try go_ret2)
  exact ⟨by rw [hf.out]; first | done | rfl, Below.refl _ _⟩
 case neg =>
 have hd2 : 1 ≤ d := by omega
 go_wp2_with fail
 refine (days_c y m w).mono ?_
 rintro e w1 ⟨rfl, hb1⟩
 obtain ⟨D, hD⟩ : ∃ D, daysI y m = D := ⟨_, rfl⟩
 rw [hD]
 have HDD := Lib.hid hD
 clear hD
 by_cases hDd : D < d
 case pos =>
  have hf := Lib.hid (show r = (0, 2) by rw [← HR.out]; unfold ofI; rw [HDD.out, if_pos (.inr hDd)])
  go_wp2_with fail
  (try go_ret2)
  exact ⟨by rw [hf.out]; first | done | rfl, hb1⟩
 case neg =>
 have hDd' : d ≤ D := by omega
 have hD31 : D ≤ 31 := by rw [← HDD.out]; exact (daysI_le y m).2
 obtain ⟨hy, hm1, hm2⟩ := daysI_out (by rw [HDD.out]; exact hDd' : d ≤ daysI y m) hd2
 have hyI := hy
 obtain ⟨hy1, hy2⟩ := hyI
 have hf := Lib.hid (show r = (beginI y + d - 1 + sumD y (m - 1).toNat, 0) by rw [← HR.out]; unfold ofI; rw [if_neg (by rw [HDD.out]; omega)])
 have hbd := beginI_bd hy
 obtain ⟨B, hB⟩ : ∃ B, beginI y = B := ⟨_, rfl⟩
 rw [hB] at hf hbd
 have HBB := Lib.hid hB
 clear hB HR
 go_wp2_with fail
 refine (begin_c y w1 hy).mono ?_
 rintro e w2 ⟨rfl, hb2⟩
 rw [HBB.out]
 have hb12 := hb1.trans (hb2.mono hb1.size)
 go_wp2_with fail
 go_loopw [8, 9] (fun s i wr => ∃ j : Nat, 1 ≤ j ∧ (j : Int) ≤ m ∧ i = .int .i64 (j : Int) ∧ s = .int .i64 (B + d - 1 + sumD y (j - 1)) ∧ Below w.heap.size w wr) (fun _ i _ => (m - intOf i).toNat)
 case atStart => exact ⟨1, by omega, by omega, rfl, by simp [sumD], hb12⟩
 case round =>
  obtain ⟨j, hj1, hj2, rfl, rfl, hb⟩ := hrel
  have hs := sumD_le y (j - 1)
  obtain ⟨S, hS⟩ : ∃ S, sumD y (j - 1) = S := ⟨_, rfl⟩
  rw [hS] at hs ⊢
  have HS := Lib.hid hS
  clear hS
  by_cases hjm : (j : Int) < m
  · go_wp2_with fail
    refine (days_c y (j : Int) wr).mono ?_
    rintro e w3 ⟨rfl, hb3⟩
    have hD3 := daysI_le y (j : Int)
    obtain ⟨E, hE⟩ : ∃ E, daysI y (j : Int) = E := ⟨_, rfl⟩
    rw [hE] at hD3 ⊢
    have HE := Lib.hid hE
    clear hE
    have hb4 := hb.trans (hb3.mono hb.size)
    go_wp2_with fail
    go_roundw
    case rel => exact ⟨j + 1, by omega, by omega, by go_num, by
     have e : sumD y (j + 1 - 1) = S + E := by
      obtain ⟨i, rfl⟩ : ∃ i, j = i + 1 := ⟨j - 1, by omega⟩
      rw [show i + 1 + 1 - 1 = i + 1 from rfl, sumD, ← HS.out, ← HE.out]
      simp
     rw [e]; go_num, hb4⟩
    case measure =>
     have e : wrap64 ((j : Int) + 1) = (j : Int) + 1 := wrap_succ hjm hm2
     simp only [intOf, e]
     exact meas_lt hjm
  · go_wp2_with fail
    (try go_ret2)
    have e : j = (m - 1).toNat + 1 := by omega
    refine ⟨?_, hb⟩
    rw [hf.out, ← HS.out, e]
    simp only [Nat.add_sub_cancel]
    rfl
set_option maxHeartbeats 1000000 in
set_option maxRecDepth 100000 in
theorem rOf_c (y m d : Int) (w : World) : Calls Tryz.prog 79 #[.int .i64 y, .int .i64 m, .int .i64 d] w (Quiet w (.tuple #[.int .i64 (ofI y m d).1, .int .i64 (ofI y m d).2])) := by
 obtain ⟨r, hr⟩ : ∃ r, ofI y m d = r := ⟨_, rfl⟩
 rw [hr]
 have HR := Lib.hid hr
 clear hr
 go_enter Tryz.func79, Tryz.ntmps79
 by_cases hd1 : d < 1
 case pos =>
  have hf := Lib.hid (show r = (0, 2) by rw [← HR.out]; unfold ofI; rw [if_pos (.inl hd1)])
  go_wp2_with fail
  (try go_ret2)
  exact ⟨by rw [hf.out]; first | done | rfl, Below.refl _ _⟩
 case neg =>
 have hd2 : 1 ≤ d := by omega
 go_wp2_with fail
 refine (rDays_c y m w).mono ?_
 rintro e w1 ⟨rfl, hb1⟩
 obtain ⟨D, hD⟩ : ∃ D, daysI y m = D := ⟨_, rfl⟩
 rw [hD]
 have HDD := Lib.hid hD
 clear hD
 by_cases hDd : D < d
 case pos =>
  have hf := Lib.hid (show r = (0, 2) by rw [← HR.out]; unfold ofI; rw [HDD.out, if_pos (.inr hDd)])
  go_wp2_with fail
  (try go_ret2)
  exact ⟨by rw [hf.out]; first | done | rfl, hb1⟩
 case neg =>
 have hDd' : d ≤ D := by omega
 have hD31 : D ≤ 31 := by rw [← HDD.out]; exact (daysI_le y m).2
 obtain ⟨hy, hm1, hm2⟩ := daysI_out (by rw [HDD.out]; exact hDd' : d ≤ daysI y m) hd2
 have hyI := hy
 obtain ⟨hy1, hy2⟩ := hyI
 have hf := Lib.hid (show r = (beginI y + d - 1 + sumD y (m - 1).toNat, 0) by rw [← HR.out]; unfold ofI; rw [if_neg (by rw [HDD.out]; omega)])
 have hbd := beginI_bd hy
 obtain ⟨B, hB⟩ : ∃ B, beginI y = B := ⟨_, rfl⟩
 rw [hB] at hf hbd
 have HBB := Lib.hid hB
 clear hB HR
 go_wp2_with fail
 go_loopw [8, 9] (fun s i wr => ∃ j : Nat, 1900 + (j : Int) ≤ y ∧ i = .int .i64 (1900 + (j : Int)) ∧ s = .int .i64 (beginI (1900 + (j : Int))) ∧ Below w.heap.size w wr) (fun _ i _ => (y - intOf i).toNat)
 case atStart => exact ⟨0, by omega, rfl, rfl, hb1⟩
 case round =>
  obtain ⟨j, hjy, rfl, rfl, hb⟩ := hrel
  obtain ⟨Y, hY⟩ : ∃ Y : Int, 1900 + (j : Int) = Y := ⟨_, rfl⟩
  rw [hY] at hjy ⊢
  have hY1 : 1900 ≤ Y := by omega
  have HY := Lib.hid hY
  clear hY
  have hbY := beginI_bd (y := Y) ⟨hY1, by omega⟩
  obtain ⟨S, hS⟩ : ∃ S, beginI Y = S := ⟨_, rfl⟩
  rw [hS] at hbY ⊢
  have HS := Lib.hid hS
  clear hS
  by_cases hlt : Y < y
  · go_wp2_with fail
    refine (rLeap_c Y wr ⟨hY1, by omega⟩).mono ?_
    rintro e w3 ⟨rfl, hb3⟩
    have hb4 := hb.trans (hb3.mono hb.size)
    obtain ⟨lb, hlb⟩ : ∃ lb, leapI Y = lb := ⟨_, rfl⟩
    rw [hlb]
    have hsucc := Lib.hid (beginI_succ Y)
    rw [hlb, HS.out] at hsucc
    clear hlb
    cases lb with
    | true =>
     go_wp2_with fail
     go_roundw
     case rel => exact ⟨j + 1, by have := HY.out; omega, by have := HY.out; go_num, by
      have e : (1900 : Int) + ((j + 1 : Nat) : Int) = Y + 1 := by have := HY.out; omega
      rw [e, hsucc.out]; (try simp), hb4⟩
     case measure =>
      have e : wrap64 (Y + 1) = Y + 1 := wrap_small hY1 hlt hy2
      simp only [intOf, e]
      exact meas_lt hlt
    | false =>
     go_wp2_with fail
     go_roundw
     case rel => exact ⟨j + 1, by have := HY.out; omega, by have := HY.out; go_num, by
      have e : (1900 : Int) + ((j + 1 : Nat) : Int) = Y + 1 := by have := HY.out; omega
      rw [e, hsucc.out]; (try simp), hb4⟩
     case measure =>
      have e : wrap64 (Y + 1) = Y + 1 := wrap_small hY1 hlt hy2
      simp only [intOf, e]
      exact meas_lt hlt
  · have hYy : Y = y := by omega
    have HSB := Lib.hid (show S = B by rw [← HS.out, hYy, HBB.out])
    clear hYy
    go_wp2_with fail
    go_loopw [8, 10] (fun s i wr => ∃ j : Nat, 1 ≤ j ∧ (j : Int) ≤ m ∧ i = .int .i64 (j : Int) ∧ s = .int .i64 (S + sumD y (j - 1)) ∧ Below w.heap.size w wr) (fun _ i _ => (m - intOf i).toNat)
    case atStart => exact ⟨1, by omega, by omega, rfl, by simp [sumD], hb⟩
    case round =>
     obtain ⟨j, hj1, hj2, rfl, rfl, hb⟩ := hrel
     have hs := sumD_le y (j - 1)
     obtain ⟨S, hS⟩ : ∃ S, sumD y (j - 1) = S := ⟨_, rfl⟩
     rw [hS] at hs ⊢
     have HS := Lib.hid hS
     clear hS
     by_cases hjm : (j : Int) < m
     · go_wp2_with fail
       refine (rDays_c y (j : Int) wr).mono ?_
       rintro e w3 ⟨rfl, hb3⟩
       have hD3 := daysI_le y (j : Int)
       obtain ⟨E, hE⟩ : ∃ E, daysI y (j : Int) = E := ⟨_, rfl⟩
       rw [hE] at hD3 ⊢
       have HE := Lib.hid hE
       clear hE
       have hb4 := hb.trans (hb3.mono hb.size)
       go_wp2_with fail
       go_roundw
       case rel => exact ⟨j + 1, by omega, by omega, by go_num, by
        have e : sumD y (j + 1 - 1) = S + E := by
         obtain ⟨i, rfl⟩ : ∃ i, j = i + 1 := ⟨j - 1, by omega⟩
         rw [show i + 1 + 1 - 1 = i + 1 from rfl, sumD, ← HS.out, ← HE.out]
         simp
        rw [e]; go_num, hb4⟩
       case measure =>
        have e : wrap64 ((j : Int) + 1) = (j : Int) + 1 := wrap_succ hjm hm2
        simp only [intOf, e]
        exact meas_lt hjm
     · go_wp2_with fail
       (try go_ret2)
       have e : j = (m - 1).toNat + 1 := by omega
       refine ⟨?_, hb⟩
       rw [hf.out, ← HS.out, e]
       simp only [Nat.add_sub_cancel]
       have e2 := HSB.out; rw [e2]; go_num
theorem results_tmp4 {fn : Func} {t u v x : Tmp} (h : fn.results = #[.tmp t, .tmp u, .tmp v, .tmp x]) (tmps : Array Value) (P : Program) (w : World) :
 (results fn tmps).run P w = .ok (.tuple #[tmps.getD t undef, tmps.getD u undef, tmps.getD v undef, tmps.getD x undef]) w := by
 simp [results, h]
theorem beg1900 : beginI 1900 = -25567 := by unfold beginI; omega
theorem beg2199 : beginI 2199 = 83641 := by unfold beginI; omega
def inD (d : Int) : Prop := -25567 ≤ d ∧ d ≤ 84005
instance (d : Int) : Decidable (inD d) := by unfold inD; exact inferInstance
def CivP (date y m d : Int) : Prop := inY y ∧ 1 ≤ m ∧ m ≤ 12 ∧ 1 ≤ d ∧ d ≤ daysI y m ∧ date = beginI y + sumD y (m - 1).toNat + d - 1
def CivPost (date : Int) (w : World) (e : Ending) (w' : World) : Prop :=
 ∃ y m d n : Int, e = .returned (.tuple #[.int .i64 y, .int .i64 m, .int .i64 d, .int .i64 n]) ∧ Below w.heap.size w w' ∧ ((inD date ∧ n = 0 ∧ CivP date y m d) ∨ (¬ inD date ∧ n = 2 ∧ y = 0 ∧ m = 0 ∧ d = 0))
theorem civ_last {y date : Int} {j : Nat} (hy : inY y) (hlt : date < beginI (y + 1)) (hj1 : 1 ≤ j) (hj : j ≤ 12) (hr : daysI y (j : Int) ≤ date - beginI y - sumD y (j - 1)) : j ≤ 11 := by
 rcases Nat.lt_or_ge j 12 with h | h
 · omega
 · have e : j = 12 := by omega
   subst e
   have h1 := sumD_last hy
   have h2 := beginI_succ y
   have h3 : sumD y 12 = sumD y 11 + daysI y 12 := by rw [sumD]; rfl
   have h4 : daysI y ((12 : Nat) : Int) = daysI y 12 := rfl
   rw [h4] at hr
   simp only [Nat.add_one_sub_one, show 12 - 1 = 11 from rfl] at hr
   omega
theorem beginI_mono {y z : Int} (h : y ≤ z) : beginI y + 365 * (z - y) ≤ beginI z := by
 unfold beginI; omega
theorem sumD_mono {y : Int} {a b : Nat} (h : a ≤ b) : sumD y a ≤ sumD y b := by
 induction b with
 | zero => have : a = 0 := by omega
           subst this; exact Int.le_refl _
 | succ b ih =>
  rcases Nat.lt_or_ge b a with h1 | h1
  · have : a = b + 1 := by omega
    subst this; exact Int.le_refl _
  · have := ih h1
    have := daysI_le y ((b : Int) + 1)
    simp only [sumD]; omega
theorem CivP.year {date y m d : Int} (h : CivP date y m d) : beginI y ≤ date ∧ date < beginI (y + 1) := by
 obtain ⟨hy, h1, h2, h3, h4, h5⟩ := h
 have k1 := sumD_le y (m - 1).toNat
 have k2 := sumD_last hy
 have k3 := beginI_succ y
 have k4 : sumD y ((m - 1).toNat + 1) ≤ sumD y 12 := sumD_mono (by omega)
 have k5 : sumD y ((m - 1).toNat + 1) = sumD y (m - 1).toNat + daysI y m := by rw [sumD, show (((m - 1).toNat : Int) + 1) = m from by omega]
 exact ⟨by omega, by omega⟩
theorem CivP.uniq {date y m d y' m' d' : Int} (h : CivP date y m d) (k : CivP date y' m' d') : y = y' ∧ m = m' ∧ d = d' := by
 have h1 := h.year
 have k1 := k.year
 have e : y = y' := by
  rcases Int.lt_trichotomy y y' with hl | he | hl
  · have := beginI_mono (show y + 1 ≤ y' by omega); omega
  · exact he
  · have := beginI_mono (show y' + 1 ≤ y by omega); omega
 subst e
 obtain ⟨hy, a1, a2, a3, a4, a5⟩ := h
 obtain ⟨_, b1, b2, b3, b4, b5⟩ := k
 have e : m = m' := by
  rcases Int.lt_trichotomy m m' with hl | he | hl
  · have q1 : sumD y ((m - 1).toNat + 1) ≤ sumD y (m' - 1).toNat := sumD_mono (by omega)
    have q2 : sumD y ((m - 1).toNat + 1) = sumD y (m - 1).toNat + daysI y m := by rw [sumD, show (((m - 1).toNat : Int) + 1) = m from by omega]
    omega
  · exact he
  · have q1 : sumD y ((m' - 1).toNat + 1) ≤ sumD y (m - 1).toNat := sumD_mono (by omega)
    have q2 : sumD y ((m' - 1).toNat + 1) = sumD y (m' - 1).toNat + daysI y m' := by rw [sumD, show (((m' - 1).toNat : Int) + 1) = m' from by omega]
    omega
 subst e
 exact ⟨rfl, rfl, by omega⟩
theorem dvalid_c (d : Int) (w : World) : Calls Tryz.prog 103 #[.int .i64 d] w (Quiet w (.bool (decide (inD d)))) := by
 obtain ⟨r, hr⟩ : ∃ r, decide (inD d) = r := ⟨_, rfl⟩
 rw [hr]
 have HR := Lib.hid hr
 clear hr
 go_enter Tryz.func103, Tryz.ntmps103
 by_cases h1 : -25567 ≤ d
 · by_cases h2 : d ≤ 84005
   · have hf := Lib.hid (show r = true by rw [← HR.out]; exact decide_eq_true ⟨h1, h2⟩)
     go_wp2_with fail
     go_ret
     exact ⟨by rw [hf.out]; first | done | rfl, Below.refl _ _⟩
   · have hf := Lib.hid (show r = false by rw [← HR.out]; exact decide_eq_false (fun h => h2 h.2))
     go_wp2_with fail
     go_ret
     exact ⟨by rw [hf.out]; first | done | rfl, Below.refl _ _⟩
 · have hf := Lib.hid (show r = false by rw [← HR.out]; exact decide_eq_false (fun h => h1 h.1))
   go_wp2_with fail
   go_ret
   exact ⟨by rw [hf.out]; first | done | rfl, Below.refl _ _⟩
theorem rdvalid_c (d : Int) (w : World) : Calls Tryz.prog 106 #[.int .i64 d] w (Quiet w (.bool (decide (inD d)))) := by
 obtain ⟨r, hr⟩ : ∃ r, decide (inD d) = r := ⟨_, rfl⟩
 rw [hr]
 have HR := Lib.hid hr
 clear hr
 go_enter Tryz.func106, Tryz.ntmps106
 by_cases h1 : -25567 ≤ d
 · by_cases h2 : d ≤ 84005
   · have hf := Lib.hid (show r = true by rw [← HR.out]; exact decide_eq_true ⟨h1, h2⟩)
     go_wp2_with fail
     go_ret
     exact ⟨by rw [hf.out]; first | done | rfl, Below.refl _ _⟩
   · have hf := Lib.hid (show r = false by rw [← HR.out]; exact decide_eq_false (fun h => h2 h.2))
     go_wp2_with fail
     go_ret
     exact ⟨by rw [hf.out]; first | done | rfl, Below.refl _ _⟩
 · have hf := Lib.hid (show r = false by rw [← HR.out]; exact decide_eq_false (fun h => h1 h.1))
   go_wp2_with fail
   go_ret
   exact ⟨by rw [hf.out]; first | done | rfl, Below.refl _ _⟩
set_option maxHeartbeats 2000000 in
set_option maxRecDepth 100000 in
theorem rCivil_c (date : Int) (w : World) (hbd : intBd date) : Calls Tryz.prog 72 #[.int .i64 date] w (CivPost date w) := by
 go_enter Tryz.func72, Tryz.ntmps72
 go_wp2_with fail
 refine (rdvalid_c date w).mono ?_
 rintro e w1 ⟨rfl, hb1⟩
 obtain ⟨v, hv⟩ : ∃ v, decide (inD date) = v := ⟨_, rfl⟩
 rw [hv]
 have HV := Lib.hid hv
 clear hv
 cases v with
 | false =>
  go_wp2_with fail
  (try simp only [Exit.inBlock, Exit.then])
  refine bodyPost_ret (results_tmp4 rfl _ _ _) rfl ⟨0, 0, 0, 2, rfl, hb1, .inr ⟨of_decide_eq_false HV.out, rfl, rfl, rfl, rfl⟩⟩
 | true =>
 have hin : inD date := of_decide_eq_true HV.out
 have hin2 := hin
 obtain ⟨hd1, hd2⟩ := hin2
 have HIN := Lib.hid hin
 clear HV hin hbd
 go_wp2_with fail
 go_loopw [6, 8] (fun i s wr => ∃ Y : Int, inY Y ∧ i = .int .i64 Y ∧ s = .int .i64 (date - beginI Y) ∧ 0 ≤ date - beginI Y ∧ Below w.heap.size w wr) (fun i _ _ => (2199 - intOf i).toNat)
 case atStart => exact ⟨1900, by unfold inY; omega, rfl, by rw [beg1900]; go_num, by rw [beg1900]; omega, hb1⟩
 case round =>
  obtain ⟨Y, hY, rfl, rfl, hpos, hb⟩ := hrel
  have hyI := hY
  obtain ⟨hY1, hY2⟩ := hyI
  have hbB := beginI_bd hY
  have hsucc := Lib.hid (beginI_succ Y)
  obtain ⟨B, hB⟩ : ∃ B, beginI Y = B := ⟨_, rfl⟩
  rw [hB] at hpos hbB hsucc ⊢
  have HBB := Lib.hid hB
  clear hB
  go_wp2_with fail
  refine (rLeap_c Y wr hY).mono ?_
  rintro e w3 ⟨rfl, hb3⟩
  have hb4 := hb.trans (hb3.mono hb.size)
  obtain ⟨lb, hlb⟩ : ∃ lb, leapI Y = lb := ⟨_, rfl⟩
  rw [hlb] at hsucc ⊢
  have HLB := Lib.hid hlb
  clear hlb
  cases lb with
  | true =>
   have hs2 := Lib.hid (show beginI (Y + 1) = B + 366 by have := hsucc.out; simp at this; omega)
   clear hsucc
   by_cases hge : 366 ≤ date - B
   · have hY8 : Y < 2199 := by
      rcases Int.lt_or_le Y 2199 with h | h
      · exact h
      · have e : Y = 2199 := by omega
        have e2 := HBB.out
        rw [e] at e2
        have e3 := beg2199
        omega
     go_wp2_with fail
     refine (rLeap_c Y w3 hY).mono ?_
     rintro e w4 ⟨rfl, hb5⟩
     rw [HLB.out]
     have hb6 := hb4.trans (hb5.mono hb4.size)
     go_wp2_with fail
     go_roundw
     case rel => exact ⟨Y + 1, ⟨by omega, by omega⟩, by go_num, by rw [hs2.out]; go_num, by rw [hs2.out]; omega, hb6⟩
     case measure =>
      have e : wrap64 (Y + 1) = Y + 1 := wrap_small hY1 hY8 (Int.le_refl _)
      simp only [intOf, e]
      exact meas_lt hY8
   · have hlt : date - B < 366 := by omega
     have HBL := Lib.hid (show date < beginI (Y + 1) by rw [hs2.out]; omega)
     clear hge
     go_wp2_with fail
     (try (refine (rLeap_c Y w3 hY).mono ?_
           rintro e w4 ⟨rfl, hb5⟩
           rw [HLB.out]
           replace hb4 := hb4.trans (hb5.mono hb4.size)
           go_wp2_with fail))
     go_loopw [7, 8] (fun i s wr => ∃ j : Nat, 1 ≤ j ∧ j ≤ 12 ∧ i = .int .i64 (j : Int) ∧ s = .int .i64 (date - B - sumD Y (j - 1)) ∧ 0 ≤ date - B - sumD Y (j - 1) ∧ Below w.heap.size w wr) (fun i _ _ => (12 - intOf i).toNat)
     case atStart => exact ⟨1, by omega, by omega, rfl, by simp [sumD], by simp [sumD]; omega, hb4⟩
     case round =>
      obtain ⟨j, hj1, hj2, rfl, rfl, hpos, hb⟩ := hrel
      have hs := sumD_le Y (j - 1)
      obtain ⟨S, hS⟩ : ∃ S, sumD Y (j - 1) = S := ⟨_, rfl⟩
      rw [hS] at hs hpos ⊢
      have HS := Lib.hid hS
      clear hS
      have hj1I : 1 ≤ (j : Int) := by omega
      have hj2I : (j : Int) ≤ 12 := by omega
      go_wp2_with fail
      refine (rDays_c Y (j : Int) wr).mono ?_
      rintro e w3 ⟨rfl, hb3⟩
      have hD3 := daysI_le Y (j : Int)
      obtain ⟨E, hE⟩ : ∃ E, daysI Y (j : Int) = E := ⟨_, rfl⟩
      rw [hE] at hD3 ⊢
      have HE := Lib.hid hE
      clear hE
      have hb4 := hb.trans (hb3.mono hb.size)
      by_cases hge : E ≤ date - B - S
      · have hj11 : j ≤ 11 := civ_last hY HBL.out hj1 hj2 (by rw [HE.out, HBB.out, HS.out]; exact hge)
        go_wp2_with fail
        refine (rDays_c Y (j : Int) w3).mono ?_
        rintro e w4 ⟨rfl, hb5⟩
        rw [HE.out]
        have hb6 := hb4.trans (hb5.mono hb4.size)
        go_wp2_with fail
        go_roundw
        case rel =>
         have e : sumD Y (j + 1 - 1) = S + E := by
          obtain ⟨i, rfl⟩ : ∃ i, j = i + 1 := ⟨j - 1, by omega⟩
          rw [show i + 1 + 1 - 1 = i + 1 from rfl, sumD, ← HS.out, ← HE.out]
          simp
         exact ⟨j + 1, by omega, by omega, by go_num, by rw [e]; go_num, by rw [e]; omega, hb6⟩
        case measure =>
         have e : wrap64 ((j : Int) + 1) = (j : Int) + 1 := wrap_succ (show (j : Int) < 12 by omega) (Int.le_refl _)
         simp only [intOf, e]
         exact meas_lt (by omega)
      · have hlt2 : date - B - S < E := by omega
        go_wp2_with fail
        (try simp only [Exit.inBlock, Exit.then])
        refine bodyPost_ret (results_tmp4 rfl _ _ _) rfl ⟨Y, (j : Int), date - B - S + 1, 0, by first | rfl | go_num, hb4, .inl ⟨HIN.out, rfl, hY, by omega, by omega, by omega, by rw [HE.out]; omega, ?_⟩⟩
        rw [show ((j : Int) - 1).toNat = j - 1 from by omega, HS.out, HBB.out]
        omega
  | false =>
   have hs2 := Lib.hid (show beginI (Y + 1) = B + 365 by have := hsucc.out; simp at this; omega)
   clear hsucc
   go_wp2_with fail
   refine (rLeap_c Y w3 hY).mono ?_
   rintro e w4 ⟨rfl, hb5⟩
   rw [HLB.out]
   have hb6 := hb4.trans (hb5.mono hb4.size)
   by_cases hge : 365 ≤ date - B
   · have hY8 : Y < 2199 := by
      rcases Int.lt_or_le Y 2199 with h | h
      · exact h
      · have e : Y = 2199 := by omega
        have e2 := HBB.out
        rw [e] at e2
        have e3 := beg2199
        omega
     go_wp2_with fail
     refine (rLeap_c Y w4 hY).mono ?_
     rintro e w5 ⟨rfl, hb7⟩
     rw [HLB.out]
     have hb8 := hb6.trans (hb7.mono hb6.size)
     go_wp2_with fail
     go_roundw
     case rel => exact ⟨Y + 1, ⟨by omega, by omega⟩, by go_num, by rw [hs2.out]; go_num, by rw [hs2.out]; omega, hb8⟩
     case measure =>
      have e : wrap64 (Y + 1) = Y + 1 := wrap_small hY1 hY8 (Int.le_refl _)
      simp only [intOf, e]
      exact meas_lt hY8
   · have hlt : date - B < 365 := by omega
     have HBL := Lib.hid (show date < beginI (Y + 1) by rw [hs2.out]; omega)
     clear hge
     go_wp2_with fail
     go_loopw [7, 8] (fun i s wr => ∃ j : Nat, 1 ≤ j ∧ j ≤ 12 ∧ i = .int .i64 (j : Int) ∧ s = .int .i64 (date - B - sumD Y (j - 1)) ∧ 0 ≤ date - B - sumD Y (j - 1) ∧ Below w.heap.size w wr) (fun i _ _ => (12 - intOf i).toNat)
     case atStart => exact ⟨1, by omega, by omega, rfl, by simp [sumD], by simp [sumD]; omega, hb6⟩
     case round =>
      obtain ⟨j, hj1, hj2, rfl, rfl, hpos, hb⟩ := hrel
      have hs := sumD_le Y (j - 1)
      obtain ⟨S, hS⟩ : ∃ S, sumD Y (j - 1) = S := ⟨_, rfl⟩
      rw [hS] at hs hpos ⊢
      have HS := Lib.hid hS
      clear hS
      have hj1I : 1 ≤ (j : Int) := by omega
      have hj2I : (j : Int) ≤ 12 := by omega
      go_wp2_with fail
      refine (rDays_c Y (j : Int) wr).mono ?_
      rintro e w3 ⟨rfl, hb3⟩
      have hD3 := daysI_le Y (j : Int)
      obtain ⟨E, hE⟩ : ∃ E, daysI Y (j : Int) = E := ⟨_, rfl⟩
      rw [hE] at hD3 ⊢
      have HE := Lib.hid hE
      clear hE
      have hb4 := hb.trans (hb3.mono hb.size)
      by_cases hge : E ≤ date - B - S
      · have hj11 : j ≤ 11 := civ_last hY HBL.out hj1 hj2 (by rw [HE.out, HBB.out, HS.out]; exact hge)
        go_wp2_with fail
        refine (rDays_c Y (j : Int) w3).mono ?_
        rintro e w4 ⟨rfl, hb5⟩
        rw [HE.out]
        have hb6 := hb4.trans (hb5.mono hb4.size)
        go_wp2_with fail
        go_roundw
        case rel =>
         have e : sumD Y (j + 1 - 1) = S + E := by
          obtain ⟨i, rfl⟩ : ∃ i, j = i + 1 := ⟨j - 1, by omega⟩
          rw [show i + 1 + 1 - 1 = i + 1 from rfl, sumD, ← HS.out, ← HE.out]
          simp
         exact ⟨j + 1, by omega, by omega, by go_num, by rw [e]; go_num, by rw [e]; omega, hb6⟩
        case measure =>
         have e : wrap64 ((j : Int) + 1) = (j : Int) + 1 := wrap_succ (show (j : Int) < 12 by omega) (Int.le_refl _)
         simp only [intOf, e]
         exact meas_lt (by omega)
      · have hlt2 : date - B - S < E := by omega
        go_wp2_with fail
        (try simp only [Exit.inBlock, Exit.then])
        refine bodyPost_ret (results_tmp4 rfl _ _ _) rfl ⟨Y, (j : Int), date - B - S + 1, 0, by first | rfl | go_num, hb4, .inl ⟨HIN.out, rfl, hY, by omega, by omega, by omega, by rw [HE.out]; omega, ?_⟩⟩
        rw [show ((j : Int) - 1).toNat = j - 1 from by omega, HS.out, HBB.out]
        omega
set_option maxHeartbeats 400000 in
theorem begin_w (y : Int) (w : World) (h1 : 1800 ≤ y) (h2 : y ≤ 2300) : Calls Tryz.prog 104 #[.int .i64 y] w (Quiet w (.int .i64 (beginI y))) := by
 obtain ⟨r, hr⟩ : ∃ r, beginI y = r := ⟨_, rfl⟩
 rw [hr]
 have HR := Lib.hid hr
 clear hr
 go_enter Tryz.func104, Tryz.ntmps104
 go_wp2_with fail
 go_ret
 exact ⟨by rw [← HR.out]; rfl, Below.refl _ _⟩
theorem begin_start {date q : Int} (h : inD date) (hq1 : -366 < date - 366 * q) (hq2 : date - 366 * q < 366) (hq3 : 0 ≤ date → 366 * q ≤ date) (hq4 : date < 0 → date ≤ 366 * q) : 1899 ≤ 1968 + q ∧ 1968 + q ≤ 2199 ∧ beginI (1968 + q) ≤ date := by
 unfold inD at h
 unfold beginI
 rcases Int.lt_or_le date 0 with hd | hd
 · have := hq4 hd; omega
 · have := hq3 hd; omega
theorem tdiv_facts (date : Int) : -366 < date - 366 * Int.tdiv date 366 ∧ date - 366 * Int.tdiv date 366 < 366 ∧ (0 ≤ date → 366 * Int.tdiv date 366 ≤ date) ∧ (date < 0 → date ≤ 366 * Int.tdiv date 366) := by
 rcases Int.lt_or_le date 0 with hd | hd
 · have e : Int.tdiv date 366 = -((-date) / 366) := by
    have h1 : Int.tdiv date 366 = - Int.tdiv (-date) 366 := by rw [Int.neg_tdiv]; omega
    rw [h1, Int.tdiv_eq_ediv_of_nonneg (by omega)]
   rw [e]; omega
 · rw [Int.tdiv_eq_ediv_of_nonneg hd]; omega
theorem beg_at {Y date : Int} (h : Y + 1 = 1900) (hd : -25567 ≤ date) : beginI (Y + 1) ≤ date := by rw [h, beg1900]; exact hd
theorem beg2200 : beginI 2200 = 84006 := by unfold beginI; omega
theorem wrap_y {Y : Int} (h1 : 1899 ≤ Y) (h2 : Y < 2199) : wrap64 (Y + 1) = Y + 1 := by unfold wrap64; omega
set_option maxHeartbeats 2000000 in
set_option maxRecDepth 100000 in
theorem civil_c (date : Int) (w : World) (hbd : intBd date) : Calls Tryz.prog 70 #[.int .i64 date] w (CivPost date w) := by
 go_enter Tryz.func70, Tryz.ntmps70
 go_wp2_with fail
 refine (dvalid_c date w).mono ?_
 rintro e w1 ⟨rfl, hb1⟩
 obtain ⟨v, hv⟩ : ∃ v, decide (inD date) = v := ⟨_, rfl⟩
 rw [hv]
 have HV := Lib.hid hv
 clear hv
 cases v with
 | false =>
  go_wp2_with fail
  (try simp only [Exit.inBlock, Exit.then])
  refine bodyPost_ret (results_tmp4 rfl _ _ _) rfl ⟨0, 0, 0, 2, rfl, hb1, .inr ⟨of_decide_eq_false HV.out, rfl, rfl, rfl, rfl⟩⟩
 | true =>
 have hin : inD date := of_decide_eq_true HV.out
 have hin2 := hin
 obtain ⟨hd1, hd2⟩ := hin2
 have HIN := Lib.hid hin
 clear HV hin hbd
 obtain ⟨t1, t2, t3, t4⟩ := tdiv_facts date
 have hst := Lib.hid (begin_start HIN.out t1 t2 t3 t4)
 have q1 : -70 ≤ Int.tdiv date 366 := by have := hst.out.1; omega
 have q2 : Int.tdiv date 366 ≤ 231 := by have := hst.out.2.1; omega
 clear t1 t2 t3 t4
 go_wp2_with fail
 go_loopw [2] (fun i wr => ∃ Y : Int, 1899 ≤ Y ∧ Y ≤ 2199 ∧ i = .int .i64 Y ∧ (1900 ≤ Y → beginI Y ≤ date) ∧ Below w.heap.size w wr) (fun i _ => (2199 - intOf i).toNat)
 case atStart => exact ⟨1968 + Int.tdiv date 366, hst.out.1, hst.out.2.1, by first | rfl | go_num, fun _ => hst.out.2.2, hb1⟩
 case round =>
  obtain ⟨Y, hY1, hY2, rfl, hle, hb⟩ := hrel
  have HLE := Lib.hid hle
  clear hle hst q1 q2
  by_cases h19 : Y < 1900
  · go_wp2_with fail
    go_roundw
    case rel => exact ⟨Y + 1, by omega, by omega, by go_num, fun _ => beg_at (by omega) HIN.out.1, hb⟩
    case measure =>
     have e : wrap64 (Y + 1) = Y + 1 := wrap_y hY1 (by omega)
     simp only [intOf, e]
     exact meas_lt (by omega)
  · go_wp2_with fail
    refine (begin_w (Y + 1) wr (by omega) (by omega)).mono ?_
    rintro e w3 ⟨rfl, hb3⟩
    have hb4 := hb.trans (hb3.mono hb.size)
    obtain ⟨B1, hB1⟩ : ∃ B1, beginI (Y + 1) = B1 := ⟨_, rfl⟩
    rw [hB1]
    have HB1 := Lib.hid hB1
    clear hB1
    by_cases hge : B1 ≤ date
    · have hY8 : Y < 2199 := by
       rcases Int.lt_or_le Y 2199 with h | h
       · exact h
       · have e : Y + 1 = 2200 := by omega
         have e2 := HB1.out
         rw [e, beg2200] at e2
         omega
      go_wp2_with fail
      go_roundw
      case rel => exact ⟨Y + 1, by omega, by omega, by go_num, fun _ => by rw [HB1.out]; exact hge, hb4⟩
      case measure =>
       have e : wrap64 (Y + 1) = Y + 1 := wrap_y hY1 hY8
       simp only [intOf, e]
       exact meas_lt hY8
    · have HBL := Lib.hid (show date < beginI (Y + 1) by rw [HB1.out]; omega)
      have hY : inY Y := ⟨by omega, hY2⟩
      go_wp2_with fail
      refine (begin_c Y w3 hY).mono ?_
      rintro e w4 ⟨rfl, hb5⟩
      have hb6 := hb4.trans (hb5.mono hb4.size)
      have hbB := beginI_bd hY
      have hpos : beginI Y ≤ date := HLE.out hY.1
      obtain ⟨B, hB⟩ : ∃ B, beginI Y = B := ⟨_, rfl⟩
      rw [hB] at hbB hpos ⊢
      have HBB := Lib.hid hB
      clear hB
      go_wp2_with fail
      go_loopw [3, 4] (fun i s wr => ∃ j : Nat, 1 ≤ j ∧ j ≤ 12 ∧ i = .int .i64 (j : Int) ∧ s = .int .i64 (date - B - sumD Y (j - 1)) ∧ 0 ≤ date - B - sumD Y (j - 1) ∧ Below w.heap.size w wr) (fun i _ _ => (12 - intOf i).toNat)
      case atStart => exact ⟨1, by omega, by omega, rfl, by simp [sumD], by simp [sumD]; omega, hb6⟩
      case round =>
       obtain ⟨j, hj1, hj2, rfl, rfl, hpos, hb⟩ := hrel
       have hs := sumD_le Y (j - 1)
       obtain ⟨S, hS⟩ : ∃ S, sumD Y (j - 1) = S := ⟨_, rfl⟩
       rw [hS] at hs hpos ⊢
       have HS := Lib.hid hS
       clear hS
       have hj1I : 1 ≤ (j : Int) := by omega
       have hj2I : (j : Int) ≤ 12 := by omega
       go_wp2_with fail
       refine (days_c Y (j : Int) wr).mono ?_
       rintro e w3 ⟨rfl, hb3⟩
       have hD3 := daysI_le Y (j : Int)
       obtain ⟨E, hE⟩ : ∃ E, daysI Y (j : Int) = E := ⟨_, rfl⟩
       rw [hE] at hD3 ⊢
       have HE := Lib.hid hE
       clear hE
       have hb4 := hb.trans (hb3.mono hb.size)
       by_cases hge : E ≤ date - B - S
       · have hj11 : j ≤ 11 := civ_last hY HBL.out hj1 hj2 (by rw [HE.out, HBB.out, HS.out]; exact hge)
         go_wp2_with fail
         refine (days_c Y (j : Int) w3).mono ?_
         rintro e w4 ⟨rfl, hb5⟩
         rw [HE.out]
         have hb6 := hb4.trans (hb5.mono hb4.size)
         go_wp2_with fail
         go_roundw
         case rel =>
          have e : sumD Y (j + 1 - 1) = S + E := by
           obtain ⟨i, rfl⟩ : ∃ i, j = i + 1 := ⟨j - 1, by omega⟩
           rw [show i + 1 + 1 - 1 = i + 1 from rfl, sumD, ← HS.out, ← HE.out]
           simp
          exact ⟨j + 1, by omega, by omega, by go_num, by rw [e]; go_num, by rw [e]; omega, hb6⟩
         case measure =>
          have e : wrap64 ((j : Int) + 1) = (j : Int) + 1 := wrap_succ (show (j : Int) < 12 by omega) (Int.le_refl _)
          simp only [intOf, e]
          exact meas_lt (by omega)
       · have hlt2 : date - B - S < E := by omega
         go_wp2_with fail
         (try simp only [Exit.inBlock, Exit.then])
         refine bodyPost_ret (results_tmp4 rfl _ _ _) rfl ⟨Y, (j : Int), date - B - S + 1, 0, by first | rfl | go_num, hb4, .inl ⟨HIN.out, rfl, hY, by omega, by omega, by omega, by rw [HE.out]; omega, ?_⟩⟩
         rw [show ((j : Int) - 1).toNat = j - 1 from by omega, HS.out, HBB.out]
         omega
def monI (n : Int) : Int := beginI (n / 12) + sumD (n / 12) (n % 12).toNat
def firI (n : Int) : Int × Int := if inY (n / 12) then (monI n, 0) else (0, 2)
theorem ofI_mon {n : Int} : ofI (n / 12) (n % 12 + 1) 1 = firI n := by
 unfold ofI firI
 by_cases hy : inY (n / 12)
 · have := daysI_ge (y := n / 12) (m := n % 12 + 1) hy (by omega) (by omega)
   rw [if_neg (by omega), if_pos hy]
   unfold monI
   rw [show n % 12 + 1 - 1 = n % 12 from by omega]
   simp only [Prod.mk.injEq, and_true]
   omega
 · have e : daysI (n / 12) (n % 12 + 1) = 0 := by unfold daysI; rw [if_neg (fun h => hy h.1)]
   rw [if_pos (by omega), if_neg hy]
theorem monI_civ {n : Int} (hy : inY (n / 12)) : CivP (monI n) (n / 12) (n % 12 + 1) 1 := by
 have := daysI_ge (y := n / 12) (m := n % 12 + 1) hy (by omega) (by omega)
 refine ⟨hy, by omega, by omega, by omega, by omega, ?_⟩
 unfold monI
 rw [show n % 12 + 1 - 1 = n % 12 from by omega]
 omega
theorem monI_in {n : Int} (hy : inY (n / 12)) : inD (monI n) := by
 have h := (monI_civ hy).year
 have h1 := beginI_bd hy
 have h2 := beginI_mono (show n / 12 + 1 ≤ 2200 by have := hy.2; omega)
 rw [beg2200] at h2
 unfold inD
 have := hy.2
 omega
set_option maxHeartbeats 1000000 in
theorem rAdd_c (n p : Int) (w : World) (hy : inY (n / 12)) (hp0 : 0 ≤ p) (hp1 : p ≤ 3600) : Calls Tryz.prog 80 #[.int .i64 (monI n), .int .i64 p] w (Quiet w (.tuple #[.int .i64 (firI (n + p)).1, .int .i64 (firI (n + p)).2])) := by
 obtain ⟨r, hr⟩ : ∃ r, firI (n + p) = r := ⟨_, rfl⟩
 rw [hr]
 have HR := Lib.hid hr
 clear hr
 have hin := monI_in hy
 have hc := Lib.hid (monI_civ hy)
 obtain ⟨d0, hd0⟩ : ∃ d0, monI n = d0 := ⟨_, rfl⟩
 rw [hd0] at hin hc ⊢
 clear hd0
 obtain ⟨Y, hY⟩ : ∃ Y, n / 12 = Y := ⟨_, rfl⟩
 obtain ⟨M, hM⟩ : ∃ M, n % 12 + 1 = M := ⟨_, rfl⟩
 have hn : n = 12 * Y + M - 1 := by omega
 have hM1 : 1 ≤ M := by omega
 have hM2 : M ≤ 12 := by omega
 rw [hY] at hy hc
 rw [hM] at hc
 obtain ⟨hy1, hy2⟩ := hy
 have HIN := Lib.hid hin
 clear hY hM hin
 subst hn
 go_enter Tryz.func80, Tryz.ntmps80
 go_wp2_with fail
 refine (rCivil_c d0 w (by have := HIN.out.1; have := HIN.out.2; unfold intBd; omega)).mono ?_
 rintro e w1 ⟨y, m, d, k, rfl, hb1, hcase⟩
 obtain ⟨hk, hciv⟩ : k = 0 ∧ CivP d0 y m d := by
  rcases hcase with ⟨_, h1, h2⟩ | ⟨h1, _⟩
  · exact ⟨h1, h2⟩
  · exact absurd HIN.out h1
 obtain ⟨e1, e2, e3⟩ := hciv.uniq hc.out
 subst hk e1 e2 e3
 clear hcase hciv hc
 have hNl : 0 ≤ 12 * y + m - 1 + p := by omega
 by_cases hNy : (12 * y + m - 1 + p) / 12 ≤ 2199
 · have hNy1 : 1900 ≤ (12 * y + m - 1 + p) / 12 := by omega
   have hdd := daysI_ge (y := (12 * y + m - 1 + p) / 12) (m := (12 * y + m - 1 + p) % 12 + 1) ⟨hNy1, hNy⟩ (by omega) (by omega)
   have hf := Lib.hid (show ofI ((12 * y + m - 1 + p) / 12) ((12 * y + m - 1 + p) % 12 + 1) 1 = r by rw [← HR.out, ofI_mon])
   go_wp2_with fail
   refine (rDays_c _ _ w1).mono ?_
   rintro e w2 ⟨rfl, hb2⟩
   obtain ⟨D, hD⟩ : ∃ D, daysI ((12 * y + m - 1 + p) / 12) ((12 * y + m - 1 + p) % 12 + 1) = D := ⟨_, rfl⟩
   rw [hD] at hdd ⊢
   clear hD
   go_wp2_with fail
   (try rw [show min (1 : Int) D = 1 from by omega])
   refine (rOf_c _ _ _ w2).mono ?_
   rintro e w3 ⟨rfl, hb3⟩
   rw [hf.out]
   go_wp2_with fail
   (try go_ret2)
   exact ⟨rfl, hb1.trans ((hb2.trans (hb3.mono hb2.size)).mono hb1.size)⟩
 · have hf := Lib.hid (show r = (0, 2) by rw [← HR.out]; unfold firI; rw [if_neg (fun h => hNy h.2)])
   have hNy2 : 2199 < (12 * y + m - 1 + p) / 12 := by omega
   go_wp2_with fail
   (try go_ret2)
   exact ⟨by rw [hf.out]; first | done | rfl, hb1⟩
def perI (y m p : Int) : Int := 12 * y + m - 1 + p
def calB (y m p : Int) : Bool := decide (1 ≤ m ∧ m ≤ 12 ∧ 1 ≤ p ∧ p ≤ 120 ∧ inY y ∧ inY (perI y m (p - 1) / 12))
theorem calB_in {y m p q : Int} (h : calB y m p = true) (h0 : 0 ≤ q) (h1 : q < p) : inY y ∧ 1 ≤ m ∧ m ≤ 12 ∧ 1 ≤ p ∧ p ≤ 120 ∧ inY (perI y m q / 12) := by
 have h := of_decide_eq_true h
 obtain ⟨a1, a2, a3, a4, a5, a6⟩ := h
 refine ⟨a5, a1, a2, a3, a4, ?_⟩
 unfold inY perI at *
 omega
def calCheck (y m n p : Int) : Int := if calB y m n = true then (if 0 ≤ p ∧ p < n then 0 else 2) else 1
def calFirst (y m n p : Int) : Int × Int := if calCheck y m n p = 0 then (monI (perI y m p), 0) else (0, calCheck y m n p)
def lasI (n : Int) : Int := monI n + daysI (n / 12) (n % 12 + 1) - 1
def calLast (y m n p : Int) : Int × Int := if calCheck y m n p = 0 then (lasI (perI y m p), 0) else (0, calCheck y m n p)
theorem calCheck_0 {y m n p : Int} (h : calCheck y m n p = 0) : calB y m n = true ∧ 0 ≤ p ∧ p < n := by
 unfold calCheck at h
 split at h
 · split at h
   · rename_i h1 h2; exact ⟨h1, h2⟩
   · omega
 · omega
set_option maxHeartbeats 400000 in
theorem first_c (y m n p : Int) (w : World) (hy : inY y) (hm1 : 1 ≤ m) (hm2 : m ≤ 12) (hp0 : 0 ≤ p) (hp1 : p ≤ 200) : Calls Tryz.prog 84 #[.agg #[.int .i64 y, .int .i64 m, .int .i64 n], .int .i64 p] w (Quiet w (.tuple #[.int .i64 (firI (perI y m p)).1, .int .i64 (firI (perI y m p)).2])) := by
 have hf := Lib.hid (ofI_mon (n := perI y m p))
 obtain ⟨r, hr⟩ : ∃ r, firI (perI y m p) = r := ⟨_, rfl⟩
 rw [hr] at hf ⊢
 clear hr
 obtain ⟨hy1, hy2⟩ := hy
 go_enter Tryz.func84, Tryz.ntmps84
 go_upto_region 1 with fail
 have H0 := heap_alloc_new w (.cells #[.int .i64 y, .int .i64 m, .int .i64 n] 23)
 have HB := below1 w (.cells #[.int .i64 y, .int .i64 m, .int .i64 n] 23)
 generalize hW : w.alloc (Obj.cells #[.int .i64 y, .int .i64 m, .int .i64 n] 23) = W at *
 have c0 := blk_cell H0 0
 have c1 := blk_cell H0 1
 clear hW H0
 go_wp2_with fail
 refine (of_c _ _ 1 W).mono ?_
 rintro e w2 ⟨rfl, hb2⟩
 have e1 : ofI ((12 * y + m - 1 + p) / 12) ((12 * y + m - 1 + p) % 12 + 1) 1 = r := hf.out
 rw [e1]
 clear e1
 go_wp2_with fail
 go_ret2
 exact ⟨rfl, HB.trans (hb2.mono HB.size)⟩
set_option maxHeartbeats 1000000 in
theorem rfirst_c (y m n p : Int) (w : World) (hp0 : 0 ≤ p) (hp1 : p ≤ 200) : Calls Tryz.prog 51 #[.agg #[.int .i64 y, .int .i64 m, .int .i64 n], .int .i64 p] w (Quiet w (if inY y ∧ 1 ≤ m ∧ m ≤ 12 then .tuple #[.int .i64 (firI (perI y m p)).1, .int .i64 (firI (perI y m p)).2] else .tuple #[.int .i64 0, .int .i64 2])) := by
 by_cases hok : inY y ∧ 1 ≤ m ∧ m ≤ 12
 case pos =>
  rw [if_pos hok]
  obtain ⟨r, hr2⟩ : ∃ r, firI (perI y m p) = r := ⟨_, rfl⟩
  rw [hr2]
  have HR := Lib.hid hr2
  clear hr2
  go_enter Tryz.func51, Tryz.ntmps51
  go_upto_region 1 with fail
  have H0 := heap_alloc_new w (.cells #[.int .i64 y, .int .i64 m, .int .i64 n] 23)
  have HB := below1 w (.cells #[.int .i64 y, .int .i64 m, .int .i64 n] 23)
  have HS := blk_lt H0
  generalize hW : w.alloc (Obj.cells #[.int .i64 y, .int .i64 m, .int .i64 n] 23) = W at *
  have c0 := blk_cell H0 0
  have c1 := blk_cell H0 1
  have c2 := blk_cell H0 2
  have HH0 := Lib.hid H0
  clear hW H0
  go_wp2_with fail
  refine (rOf_c y m 1 W).mono ?_
  rintro e w2 ⟨rfl, hb2⟩
  have hbb := HB.trans (hb2.mono HB.size)
  obtain ⟨hy, hm1, hm2⟩ := hok
  have e1 : ofI y m 1 = (monI (12 * y + m - 1), 0) := by
   have := ofI_mon (n := 12 * y + m - 1)
   rw [show (12 * y + m - 1) / 12 = y from by omega, show (12 * y + m - 1) % 12 + 1 = m from by omega] at this
   rw [this]; unfold firI
   rw [show (12 * y + m - 1) / 12 = y from by omega, if_pos hy]
  rw [e1]
  have hr := rAdd_c (12 * y + m - 1) p w2 (by rw [show (12 * y + m - 1) / 12 = y from by omega]; exact hy) hp0 (by omega)
  rw [show firI (12 * y + m - 1 + p) = r from HR.out] at hr
  obtain ⟨d0, hd0⟩ : ∃ d0, monI (12 * y + m - 1) = d0 := ⟨_, rfl⟩
  rw [hd0] at hr ⊢
  clear hd0 e1
  go_wp2_with fail
  refine hr.mono ?_
  rintro e w3 ⟨rfl, hb3⟩
  go_wp2_with fail
  go_ret2
  exact ⟨rfl, hbb.trans (hb3.mono hbb.size)⟩
 case neg =>
 rw [if_neg hok]
 have e1 : ofI y m 1 = (0, 2) := by
  unfold ofI
  rw [if_pos (.inr (by unfold daysI; rw [if_neg hok]; omega))]
 have HE := Lib.hid e1
 clear e1 hok
 go_enter Tryz.func51, Tryz.ntmps51
 go_upto_region 1 with fail
 have H0 := heap_alloc_new w (.cells #[.int .i64 y, .int .i64 m, .int .i64 n] 23)
 have HB := below1 w (.cells #[.int .i64 y, .int .i64 m, .int .i64 n] 23)
 have HS := blk_lt H0
 generalize hW : w.alloc (Obj.cells #[.int .i64 y, .int .i64 m, .int .i64 n] 23) = W at *
 have c0 := blk_cell H0 0
 have c1 := blk_cell H0 1
 have c2 := blk_cell H0 2
 have HH0 := Lib.hid H0
 clear hW H0
 go_wp2_with fail
 refine (rOf_c y m 1 W).mono ?_
 rintro e w2 ⟨rfl, hb2⟩
 have hbb := HB.trans (hb2.mono HB.size)
 rw [HE.out]
 go_wp2_with fail
 go_ret2
 exact ⟨rfl, hbb⟩
set_option maxHeartbeats 1000000 in
theorem calValid_c (y m n : Int) (w : World) : Calls Tryz.prog 64 #[.agg #[.int .i64 y, .int .i64 m, .int .i64 n]] w (Quiet w (.bool (calB y m n))) := by
 obtain ⟨r, hr⟩ : ∃ r, calB y m n = r := ⟨_, rfl⟩
 rw [hr]
 have HR := Lib.hid hr
 clear hr
 go_enter Tryz.func64, Tryz.ntmps64
 go_upto_region 1 with fail
 have H0 := heap_alloc_new w (.cells #[.int .i64 y, .int .i64 m, .int .i64 n] 23)
 have HB := below1 w (.cells #[.int .i64 y, .int .i64 m, .int .i64 n] 23)
 have HS := blk_lt H0
 generalize hW : w.alloc (Obj.cells #[.int .i64 y, .int .i64 m, .int .i64 n] 23) = W at *
 have c0 := blk_cell H0 0
 have c1 := blk_cell H0 1
 have c2 := blk_cell H0 2
 have HH0 := Lib.hid H0
 clear hW H0
 by_cases k0 : m < 1
 case pos =>
  have hf := Lib.hid (show r = false by rw [← HR.out]; unfold calB; exact decide_eq_false (fun h => by have := h.1; omega))
  go_wp2_with fail
  go_ret
  exact ⟨by rw [hf.out]; first | done | rfl, HB⟩
 case neg =>
 by_cases k1 : 12 < m
 case pos =>
  have hf := Lib.hid (show r = false by rw [← HR.out]; unfold calB; exact decide_eq_false (fun h => by have := h.2.1; omega))
  go_wp2_with fail
  go_ret
  exact ⟨by rw [hf.out]; first | done | rfl, HB⟩
 case neg =>
 by_cases k2 : n < 1
 case pos =>
  have hf := Lib.hid (show r = false by rw [← HR.out]; unfold calB; exact decide_eq_false (fun h => by have := h.2.2.1; omega))
  go_wp2_with fail
  go_ret
  exact ⟨by rw [hf.out]; first | done | rfl, HB⟩
 case neg =>
 by_cases k3 : 120 < n
 case pos =>
  have hf := Lib.hid (show r = false by rw [← HR.out]; unfold calB; exact decide_eq_false (fun h => by have := h.2.2.2.1; omega))
  go_wp2_with fail
  go_ret
  exact ⟨by rw [hf.out]; first | done | rfl, HB⟩
 case neg =>
 by_cases k4 : y < 1900
 case pos =>
  have hf := Lib.hid (show r = false by rw [← HR.out]; unfold calB; exact decide_eq_false (fun h => by have := h.2.2.2.2.1.1; omega))
  go_wp2_with fail
  go_ret
  exact ⟨by rw [hf.out]; first | done | rfl, HB⟩
 case neg =>
 by_cases k5 : 2199 < y
 case pos =>
  have hf := Lib.hid (show r = false by rw [← HR.out]; unfold calB; exact decide_eq_false (fun h => by have := h.2.2.2.2.1.2; omega))
  go_wp2_with fail
  go_ret
  exact ⟨by rw [hf.out]; first | done | rfl, HB⟩
 case neg =>
 go_wp2_with fail
 refine (first_c y m n (n - 1) W ⟨by omega, by omega⟩ (by omega) (by omega) (by omega) (by omega)).mono ?_
 rintro e w2 ⟨rfl, hb2⟩
 have hbb := HB.trans (hb2.mono HB.size)
 by_cases hin : inY (perI y m (n - 1) / 12)
 · have hf := Lib.hid (show r = true by rw [← HR.out]; unfold calB; exact decide_eq_true ⟨by omega, by omega, by omega, by omega, ⟨by omega, by omega⟩, hin⟩)
   rw [show firI (perI y m (n - 1)) = (monI (perI y m (n - 1)), 0) from if_pos hin]
   go_wp2_with fail
   go_ret
   exact ⟨by rw [hf.out]; first | done | rfl, hbb⟩
 · have hf := Lib.hid (show r = false by rw [← HR.out]; unfold calB; exact decide_eq_false (fun h => hin h.2.2.2.2.2))
   rw [show firI (perI y m (n - 1)) = (0, 2) from if_neg hin]
   go_wp2_with fail
   go_ret
   exact ⟨by rw [hf.out]; first | done | rfl, hbb⟩
set_option maxHeartbeats 1000000 in
theorem rcalValid_c (y m n : Int) (w : World) : Calls Tryz.prog 78 #[.agg #[.int .i64 y, .int .i64 m, .int .i64 n]] w (Quiet w (.bool (calB y m n))) := by
 obtain ⟨r, hr⟩ : ∃ r, calB y m n = r := ⟨_, rfl⟩
 rw [hr]
 have HR := Lib.hid hr
 clear hr
 go_enter Tryz.func78, Tryz.ntmps78
 go_upto_region 1 with fail
 have H0 := heap_alloc_new w (.cells #[.int .i64 y, .int .i64 m, .int .i64 n] 23)
 have HB := below1 w (.cells #[.int .i64 y, .int .i64 m, .int .i64 n] 23)
 have HS := blk_lt H0
 generalize hW : w.alloc (Obj.cells #[.int .i64 y, .int .i64 m, .int .i64 n] 23) = W at *
 have c0 := blk_cell H0 0
 have c1 := blk_cell H0 1
 have c2 := blk_cell H0 2
 have HH0 := Lib.hid H0
 clear hW H0
 by_cases k0 : n < 1
 case pos =>
  have hf := Lib.hid (show r = false by rw [← HR.out]; unfold calB; exact decide_eq_false (fun h => by have := h.2.2.1; omega))
  go_wp2_with fail
  go_ret
  exact ⟨by rw [hf.out]; first | done | rfl, HB⟩
 case neg =>
 by_cases k1 : 120 < n
 case pos =>
  have hf := Lib.hid (show r = false by rw [← HR.out]; unfold calB; exact decide_eq_false (fun h => by have := h.2.2.2.1; omega))
  go_wp2_with fail
  go_ret
  exact ⟨by rw [hf.out]; first | done | rfl, HB⟩
 case neg =>
 go_wp2_with fail
 refine (rfirst_c y m n (n - 1) W (by omega) (by omega)).mono ?_
 rintro e w2 ⟨rfl, hb2⟩
 have hbb := HB.trans (hb2.mono HB.size)
 by_cases hok : inY y ∧ 1 ≤ m ∧ m ≤ 12
 · rw [if_pos hok]
   by_cases hin : inY (perI y m (n - 1) / 12)
   · have hf := Lib.hid (show r = true by rw [← HR.out]; unfold calB; exact decide_eq_true ⟨hok.2.1, hok.2.2, by omega, by omega, hok.1, hin⟩)
     rw [show firI (perI y m (n - 1)) = (monI (perI y m (n - 1)), 0) from if_pos hin]
     go_wp2_with fail
     go_ret
     exact ⟨by rw [hf.out]; first | done | rfl, hbb⟩
   · have hf := Lib.hid (show r = false by rw [← HR.out]; unfold calB; exact decide_eq_false (fun h => hin h.2.2.2.2.2))
     rw [show firI (perI y m (n - 1)) = (0, 2) from if_neg hin]
     go_wp2_with fail
     go_ret
     exact ⟨by rw [hf.out]; first | done | rfl, hbb⟩
 · rw [if_neg hok]
   have hf := Lib.hid (show r = false by rw [← HR.out]; unfold calB; exact decide_eq_false (fun h => hok ⟨h.2.2.2.2.1, h.1, h.2.1⟩))
   go_wp2_with fail
   go_ret
   exact ⟨by rw [hf.out]; first | done | rfl, hbb⟩
set_option maxHeartbeats 1000000 in
theorem calCheck_c (y m n p : Int) (w : World) : Calls Tryz.prog 83 #[.agg #[.int .i64 y, .int .i64 m, .int .i64 n], .int .i64 p] w (Quiet w (.int .i64 (calCheck y m n p))) := by
 obtain ⟨r, hr⟩ : ∃ r, calCheck y m n p = r := ⟨_, rfl⟩
 rw [hr]
 have HR := Lib.hid hr
 clear hr
 go_enter Tryz.func83, Tryz.ntmps83
 go_upto_region 1 with fail
 have H0 := heap_alloc_new w (.cells #[.int .i64 y, .int .i64 m, .int .i64 n] 23)
 have HB := below1 w (.cells #[.int .i64 y, .int .i64 m, .int .i64 n] 23)
 have HS := blk_lt H0
 generalize hW : w.alloc (Obj.cells #[.int .i64 y, .int .i64 m, .int .i64 n] 23) = W at *
 have c0 := blk_cell H0 0
 have c1 := blk_cell H0 1
 have c2 := blk_cell H0 2
 have HH0 := Lib.hid H0
 clear hW H0
 go_wp2_with fail
 refine (calValid_c y m n W).mono ?_
 rintro e w2 ⟨rfl, hb2⟩
 have hbb := HB.trans (hb2.mono HB.size)
 have HH2 := Lib.hid ((hb2.block _ HS).trans HH0.out)
 have d0 := blk_cell HH2.out 0
 have d1 := blk_cell HH2.out 1
 have d2 := blk_cell HH2.out 2
 obtain ⟨v, hv⟩ : ∃ v, calB y m n = v := ⟨_, rfl⟩
 rw [hv]
 have HV := Lib.hid hv
 clear hv c0 c1 c2
 cases v with
 | false =>
  have hf := Lib.hid (show r = 1 by rw [← HR.out]; unfold calCheck; rw [HV.out]; simp)
  go_wp2_with fail
  go_ret
  exact ⟨by rw [hf.out]; first | done | rfl, hbb⟩
 | true =>
  by_cases h1 : p < 0
  · have hf := Lib.hid (show r = 2 by rw [← HR.out]; unfold calCheck; rw [HV.out, if_pos rfl, if_neg (by omega)])
    go_wp2_with fail
    go_ret
    exact ⟨by rw [hf.out]; first | done | rfl, hbb⟩
  · by_cases h2 : n ≤ p
    · have hf := Lib.hid (show r = 2 by rw [← HR.out]; unfold calCheck; rw [HV.out, if_pos rfl, if_neg (by omega)])
      go_wp2_with fail
      go_ret
      exact ⟨by rw [hf.out]; first | done | rfl, hbb⟩
    · have hf := Lib.hid (show r = 0 by rw [← HR.out]; unfold calCheck; rw [HV.out, if_pos rfl, if_pos (by omega)])
      go_wp2_with fail
      go_ret
      exact ⟨by rw [hf.out]; first | done | rfl, hbb⟩
set_option maxHeartbeats 1000000 in
theorem rcalCheck_c (y m n p : Int) (w : World) : Calls Tryz.prog 50 #[.agg #[.int .i64 y, .int .i64 m, .int .i64 n], .int .i64 p] w (Quiet w (.int .i64 (calCheck y m n p))) := by
 obtain ⟨r, hr⟩ : ∃ r, calCheck y m n p = r := ⟨_, rfl⟩
 rw [hr]
 have HR := Lib.hid hr
 clear hr
 go_enter Tryz.func50, Tryz.ntmps50
 go_upto_region 1 with fail
 have H0 := heap_alloc_new w (.cells #[.int .i64 y, .int .i64 m, .int .i64 n] 23)
 have HB := below1 w (.cells #[.int .i64 y, .int .i64 m, .int .i64 n] 23)
 have HS := blk_lt H0
 generalize hW : w.alloc (Obj.cells #[.int .i64 y, .int .i64 m, .int .i64 n] 23) = W at *
 have c0 := blk_cell H0 0
 have c1 := blk_cell H0 1
 have c2 := blk_cell H0 2
 have HH0 := Lib.hid H0
 clear hW H0
 go_wp2_with fail
 refine (rcalValid_c y m n W).mono ?_
 rintro e w2 ⟨rfl, hb2⟩
 have hbb := HB.trans (hb2.mono HB.size)
 have HH2 := Lib.hid ((hb2.block _ HS).trans HH0.out)
 have d0 := blk_cell HH2.out 0
 have d1 := blk_cell HH2.out 1
 have d2 := blk_cell HH2.out 2
 obtain ⟨v, hv⟩ : ∃ v, calB y m n = v := ⟨_, rfl⟩
 rw [hv]
 have HV := Lib.hid hv
 clear hv c0 c1 c2
 cases v with
 | false =>
  have hf := Lib.hid (show r = 1 by rw [← HR.out]; unfold calCheck; rw [HV.out]; simp)
  go_wp2_with fail
  go_ret
  exact ⟨by rw [hf.out]; first | done | rfl, hbb⟩
 | true =>
  by_cases h1 : p < 0
  · have hf := Lib.hid (show r = 2 by rw [← HR.out]; unfold calCheck; rw [HV.out, if_pos rfl, if_neg (by omega)])
    go_wp2_with fail
    go_ret
    exact ⟨by rw [hf.out]; first | done | rfl, hbb⟩
  · by_cases h2 : n ≤ p
    · have hf := Lib.hid (show r = 2 by rw [← HR.out]; unfold calCheck; rw [HV.out, if_pos rfl, if_neg (by omega)])
      go_wp2_with fail
      go_ret
      exact ⟨by rw [hf.out]; first | done | rfl, hbb⟩
    · have hf := Lib.hid (show r = 0 by rw [← HR.out]; unfold calCheck; rw [HV.out, if_pos rfl, if_pos (by omega)])
      go_wp2_with fail
      go_ret
      exact ⟨by rw [hf.out]; first | done | rfl, hbb⟩
set_option maxHeartbeats 1000000 in
theorem calFirst_c (y m n p : Int) (w : World) : Calls Tryz.prog 55 #[.agg #[.int .i64 y, .int .i64 m, .int .i64 n], .int .i64 p] w (Quiet w (.tuple #[.int .i64 (calFirst y m n p).1, .int .i64 (calFirst y m n p).2])) := by
 obtain ⟨r, hr⟩ : ∃ r, calFirst y m n p = r := ⟨_, rfl⟩
 rw [hr]
 have HR := Lib.hid hr
 clear hr
 go_enter Tryz.func55, Tryz.ntmps55
 go_upto_region 1 with fail
 have H0 := heap_alloc_new w (.cells #[.int .i64 y, .int .i64 m, .int .i64 n] 23)
 have HB := below1 w (.cells #[.int .i64 y, .int .i64 m, .int .i64 n] 23)
 have HS := blk_lt H0
 generalize hW : w.alloc (Obj.cells #[.int .i64 y, .int .i64 m, .int .i64 n] 23) = W at *
 have c0 := blk_cell H0 0
 have c1 := blk_cell H0 1
 have c2 := blk_cell H0 2
 have HH0 := Lib.hid H0
 clear hW H0
 go_wp2_with fail
 refine (calCheck_c y m n p W).mono ?_
 rintro e w2 ⟨rfl, hb2⟩
 have hbb := HB.trans (hb2.mono HB.size)
 have HH2 := Lib.hid ((hb2.block _ HS).trans HH0.out)
 have d0 := blk_cell HH2.out 0
 have d1 := blk_cell HH2.out 1
 have d2 := blk_cell HH2.out 2
 obtain ⟨v, hv⟩ : ∃ v, calCheck y m n p = v := ⟨_, rfl⟩
 rw [hv]
 have HV := Lib.hid hv
 clear hv c0 c1 c2
 by_cases h0 : v = 0
 · subst h0
   obtain ⟨g1, g2, g3⟩ := calCheck_0 HV.out
   obtain ⟨q1, q2, q3, q4, q5, q6⟩ := calB_in g1 g2 g3
   have hf := Lib.hid (show r = (monI (perI y m p), 0) by rw [← HR.out]; unfold calFirst; rw [if_pos HV.out])
   have hfi := Lib.hid (show firI (perI y m p) = (monI (perI y m p), 0) from if_pos q6)
   have Q1 := Lib.hid q1
   clear g1 q1 q6
   go_wp2_with fail
   refine (first_c y m n p w2 Q1.out q2 q3 g2 (by omega)).mono ?_
   rintro e w3 ⟨rfl, hb3⟩
   rw [hfi.out]
   go_wp2_with fail
   go_ret2
   exact ⟨by rw [hf.out]; first | done | rfl, hbb.trans (hb3.mono hbb.size)⟩
 · have h1 : (v == 0) = false := by simpa using h0
   have h2 : (v != 0) = true := by simpa using h0
   have hf := Lib.hid (show r = (0, v) by rw [← HR.out]; unfold calFirst; rw [HV.out, if_neg h0])
   clear h0
   go_wp2_with fail
   go_ret2
   exact ⟨by rw [hf.out]; first | done | rfl, hbb⟩
set_option maxHeartbeats 1000000 in
theorem rcalFirst_c (y m n p : Int) (w : World) : Calls Tryz.prog 27 #[.agg #[.int .i64 y, .int .i64 m, .int .i64 n], .int .i64 p] w (Quiet w (.tuple #[.int .i64 (calFirst y m n p).1, .int .i64 (calFirst y m n p).2])) := by
 obtain ⟨r, hr⟩ : ∃ r, calFirst y m n p = r := ⟨_, rfl⟩
 rw [hr]
 have HR := Lib.hid hr
 clear hr
 go_enter Tryz.func27, Tryz.ntmps27
 go_upto_region 1 with fail
 have H0 := heap_alloc_new w (.cells #[.int .i64 y, .int .i64 m, .int .i64 n] 23)
 have HB := below1 w (.cells #[.int .i64 y, .int .i64 m, .int .i64 n] 23)
 have HS := blk_lt H0
 generalize hW : w.alloc (Obj.cells #[.int .i64 y, .int .i64 m, .int .i64 n] 23) = W at *
 have c0 := blk_cell H0 0
 have c1 := blk_cell H0 1
 have c2 := blk_cell H0 2
 have HH0 := Lib.hid H0
 clear hW H0
 go_wp2_with fail
 refine (rcalCheck_c y m n p W).mono ?_
 rintro e w2 ⟨rfl, hb2⟩
 have hbb := HB.trans (hb2.mono HB.size)
 have HH2 := Lib.hid ((hb2.block _ HS).trans HH0.out)
 have d0 := blk_cell HH2.out 0
 have d1 := blk_cell HH2.out 1
 have d2 := blk_cell HH2.out 2
 obtain ⟨v, hv⟩ : ∃ v, calCheck y m n p = v := ⟨_, rfl⟩
 rw [hv]
 have HV := Lib.hid hv
 clear hv c0 c1 c2
 by_cases h0 : v = 0
 · subst h0
   obtain ⟨g1, g2, g3⟩ := calCheck_0 HV.out
   obtain ⟨q1, q2, q3, q4, q5, q6⟩ := calB_in g1 g2 g3
   have hf := Lib.hid (show r = (monI (perI y m p), 0) by rw [← HR.out]; unfold calFirst; rw [if_pos HV.out])
   have hfi := Lib.hid (show firI (perI y m p) = (monI (perI y m p), 0) from if_pos q6)
   have Q1 := Lib.hid q1
   clear g1 q1 q6
   go_wp2_with fail
   refine (rfirst_c y m n p w2 g2 (by omega)).mono ?_
   rw [if_pos ⟨Q1.out, q2, q3⟩]
   rintro e w3 ⟨rfl, hb3⟩
   rw [hfi.out]
   go_wp2_with fail
   go_ret2
   exact ⟨by rw [hf.out]; first | done | rfl, hbb.trans (hb3.mono hbb.size)⟩
 · have h1 : (v == 0) = false := by simpa using h0
   have h2 : (v != 0) = true := by simpa using h0
   have hf := Lib.hid (show r = (0, v) by rw [← HR.out]; unfold calFirst; rw [HV.out, if_neg h0])
   clear h0
   go_wp2_with fail
   go_ret2
   exact ⟨by rw [hf.out]; first | done | rfl, hbb⟩
set_option maxHeartbeats 1000000 in
theorem calLast_c (y m n p : Int) (w : World) : Calls Tryz.prog 40 #[.agg #[.int .i64 y, .int .i64 m, .int .i64 n], .int .i64 p] w (Quiet w (.tuple #[.int .i64 (calLast y m n p).1, .int .i64 (calLast y m n p).2])) := by
 obtain ⟨r, hr⟩ : ∃ r, calLast y m n p = r := ⟨_, rfl⟩
 rw [hr]
 have HR := Lib.hid hr
 clear hr
 go_enter Tryz.func40, Tryz.ntmps40
 go_upto_region 1 with fail
 have H0 := heap_alloc_new w (.cells #[.int .i64 y, .int .i64 m, .int .i64 n] 23)
 have HB := below1 w (.cells #[.int .i64 y, .int .i64 m, .int .i64 n] 23)
 have HS := blk_lt H0
 generalize hW : w.alloc (Obj.cells #[.int .i64 y, .int .i64 m, .int .i64 n] 23) = W at *
 have c0 := blk_cell H0 0
 have c1 := blk_cell H0 1
 have c2 := blk_cell H0 2
 have HH0 := Lib.hid H0
 clear hW H0
 go_wp2_with fail
 refine (calFirst_c y m n p W).mono ?_
 rintro e w2 ⟨rfl, hb2⟩
 have hbb := HB.trans (hb2.mono HB.size)
 obtain ⟨v, hv⟩ : ∃ v, calCheck y m n p = v := ⟨_, rfl⟩
 have HV := Lib.hid hv
 clear c0 c1 c2
 by_cases h0 : v = 0
 · subst h0
   obtain ⟨g1, g2, g3⟩ := calCheck_0 HV.out
   obtain ⟨q1, q2, q3, q4, q5, q6⟩ := calB_in g1 g2 g3
   have hf := Lib.hid (show r = (lasI (perI y m p), 0) by rw [← HR.out]; unfold calLast; rw [if_pos HV.out])
   rw [show calFirst y m n p = (monI (perI y m p), 0) from by unfold calFirst; rw [if_pos hv]]
   have hin := monI_in q6
   have hciv := Lib.hid (monI_civ q6)
   have hlas := Lib.hid (show lasI (perI y m p) = monI (perI y m p) + daysI (perI y m p / 12) (perI y m p % 12 + 1) - 1 from rfl)
   obtain ⟨d0, hd0⟩ : ∃ d0, monI (perI y m p) = d0 := ⟨_, rfl⟩
   rw [hd0] at hin hciv hlas ⊢
   have hi1 := hin.1
   have hi2 := hin.2
   have HIN := Lib.hid hin
   clear g1 q1 q6 hv hd0 hin
   go_wp2_with fail
   refine (civil_c d0 w2 (by unfold intBd; omega)).mono ?_
   rintro e w3 ⟨y1, m1, d1, k, rfl, hb3, hcase⟩
   obtain ⟨hk, hcv⟩ : k = 0 ∧ CivP d0 y1 m1 d1 := by
    rcases hcase with ⟨_, h1, h2⟩ | ⟨h1, _⟩
    · exact ⟨h1, h2⟩
    · exact absurd HIN.out h1
   obtain ⟨e1, e2, e3⟩ := hcv.uniq hciv.out
   rw [← e1, ← e2] at hlas
   have HC := Lib.hid hcv
   subst hk
   clear hcase hciv e1 e2 e3 hcv
   go_wp2_with fail
   refine (days_c y1 m1 w3).mono ?_
   rintro e w4 ⟨rfl, hb4⟩
   have hD := daysI_le y1 m1
   obtain ⟨D, hDD⟩ : ∃ D, daysI y1 m1 = D := ⟨_, rfl⟩
   rw [hDD] at hD hlas ⊢
   clear hDD
   go_wp2_with fail
   go_ret2
   exact ⟨by rw [hf.out, hlas.out]; first | done | rfl, hbb.trans ((hb3.trans (hb4.mono hb3.size)).mono hbb.size)⟩
 · have h1 : (v == 0) = false := by simpa using h0
   have h2 : (v != 0) = true := by simpa using h0
   have hf := Lib.hid (show r = (0, v) by rw [← HR.out]; unfold calLast; rw [hv, if_neg h0])
   rw [show calFirst y m n p = (0, v) from by unfold calFirst; rw [hv, if_neg h0]]
   clear h0 hv
   go_wp2_with fail
   go_ret2
   exact ⟨by rw [hf.out]; first | done | rfl, hbb⟩
set_option maxHeartbeats 1000000 in
theorem rcalLast_c (y m n p : Int) (w : World) : Calls Tryz.prog 41 #[.agg #[.int .i64 y, .int .i64 m, .int .i64 n], .int .i64 p] w (Quiet w (.tuple #[.int .i64 (calLast y m n p).1, .int .i64 (calLast y m n p).2])) := by
 obtain ⟨r, hr⟩ : ∃ r, calLast y m n p = r := ⟨_, rfl⟩
 rw [hr]
 have HR := Lib.hid hr
 clear hr
 go_enter Tryz.func41, Tryz.ntmps41
 go_upto_region 1 with fail
 have H0 := heap_alloc_new w (.cells #[.int .i64 y, .int .i64 m, .int .i64 n] 23)
 have HB := below1 w (.cells #[.int .i64 y, .int .i64 m, .int .i64 n] 23)
 have HS := blk_lt H0
 generalize hW : w.alloc (Obj.cells #[.int .i64 y, .int .i64 m, .int .i64 n] 23) = W at *
 have c0 := blk_cell H0 0
 have c1 := blk_cell H0 1
 have c2 := blk_cell H0 2
 have HH0 := Lib.hid H0
 clear hW H0
 go_wp2_with fail
 refine (rcalFirst_c y m n p W).mono ?_
 rintro e w2 ⟨rfl, hb2⟩
 have hbb := HB.trans (hb2.mono HB.size)
 obtain ⟨v, hv⟩ : ∃ v, calCheck y m n p = v := ⟨_, rfl⟩
 have HV := Lib.hid hv
 clear c0 c1 c2
 by_cases h0 : v = 0
 · subst h0
   obtain ⟨g1, g2, g3⟩ := calCheck_0 HV.out
   obtain ⟨q1, q2, q3, q4, q5, q6⟩ := calB_in g1 g2 g3
   have hf := Lib.hid (show r = (lasI (perI y m p), 0) by rw [← HR.out]; unfold calLast; rw [if_pos HV.out])
   rw [show calFirst y m n p = (monI (perI y m p), 0) from by unfold calFirst; rw [if_pos hv]]
   have hin := monI_in q6
   have hciv := Lib.hid (monI_civ q6)
   have hlas := Lib.hid (show lasI (perI y m p) = monI (perI y m p) + daysI (perI y m p / 12) (perI y m p % 12 + 1) - 1 from rfl)
   obtain ⟨d0, hd0⟩ : ∃ d0, monI (perI y m p) = d0 := ⟨_, rfl⟩
   rw [hd0] at hin hciv hlas ⊢
   have hi1 := hin.1
   have hi2 := hin.2
   have HIN := Lib.hid hin
   clear g1 q1 q6 hv hd0 hin
   go_wp2_with fail
   refine (rCivil_c d0 w2 (by unfold intBd; omega)).mono ?_
   rintro e w3 ⟨y1, m1, d1, k, rfl, hb3, hcase⟩
   obtain ⟨hk, hcv⟩ : k = 0 ∧ CivP d0 y1 m1 d1 := by
    rcases hcase with ⟨_, h1, h2⟩ | ⟨h1, _⟩
    · exact ⟨h1, h2⟩
    · exact absurd HIN.out h1
   obtain ⟨e1, e2, e3⟩ := hcv.uniq hciv.out
   rw [← e1, ← e2] at hlas
   have HC := Lib.hid hcv
   subst hk
   clear hcase hciv e1 e2 e3 hcv
   go_wp2_with fail
   refine (rDays_c y1 m1 w3).mono ?_
   rintro e w4 ⟨rfl, hb4⟩
   have hD := daysI_le y1 m1
   obtain ⟨D, hDD⟩ : ∃ D, daysI y1 m1 = D := ⟨_, rfl⟩
   rw [hDD] at hD hlas ⊢
   clear hDD
   go_wp2_with fail
   go_ret2
   exact ⟨by rw [hf.out, hlas.out]; first | done | rfl, hbb.trans ((hb3.trans (hb4.mono hb3.size)).mono hbb.size)⟩
 · have h1 : (v == 0) = false := by simpa using h0
   have h2 : (v != 0) = true := by simpa using h0
   have hf := Lib.hid (show r = (0, v) by rw [← HR.out]; unfold calLast; rw [hv, if_neg h0])
   rw [show calFirst y m n p = (0, v) from by unfold calFirst; rw [hv, if_neg h0]]
   clear h0 hv
   go_wp2_with fail
   go_ret2
   exact ⟨by rw [hf.out]; first | done | rfl, hbb⟩
end Go.Proofs.YtekelchdbkjjjaaGreat
namespace Go.Proofs.YtekelchdbkjjjaaGreat
open Go Go.RowKit
open Go.Maps (Keyed)
abbrev UD := DataW Unit
theorem plainElem_bool_inv {P : Program} {e : TypeId} (he : P.underlying e = some .bool) {v : Value} {z : UD × List MemPlace} (h : plainElem P e v = some z) : ∃ a, v = .bool a ∧ z = (.lit (.bool a), []) := by
 unfold plainElem at h
 rw [he] at h
 cases v <;> simp at h
 exact ⟨_, rfl, h.symm⟩
def SetK {α : Type} (P : Program) (k e : TypeId) (κ : α → Lit) (w : World) (b n : Nat) (f : α → Bool) : Prop :=
 ∃ D : UD, w.ownsMap P k (plainElem P e) b n D ∧ ∀ c, D.atKey (κ c) (.lit (.bool false)) = .lit (.bool (f c))
section
variable {α : Type} {P : Program} {k e t : TypeId} {κ : α → Lit} {w w' : World} {b n : Nat} {f : α → Bool}
theorem SetK.made (P : Program) (k e : TypeId) (κ : α → Lit) (w : World) : SetK P k e κ (w.alloc (.map #[] 0)) w.heap.size 0 (fun _ => false) :=
 ⟨_, World.ownsMap_made w P k _, fun _ => rfl⟩
theorem SetK.kept {row : Option Nat} (h : SetK P k e κ w b n f) (hg : w.grownBy w' row) (hne : some b ≠ row) : SetK P k e κ w' b n f := by
 obtain ⟨D, h1, h2⟩ := h
 exact ⟨D, h1.kept hg hne, h2⟩
theorem SetK.lt (h : SetK P k e κ w b n f) : b < w.heap.size := by
 obtain ⟨D, h1, h2⟩ := h
 exact h1.lt
theorem SetK.fr {Q : Nat → Prop} (h : SetK P k e κ w b n f) (hf : Fr Q w w') (hb : Q b) : SetK P k e κ w' b n f := by
 obtain ⟨D, ⟨es, clock, h1, h3, h4, h5⟩, h2⟩ := h
 exact ⟨D, ⟨es, clock, (hf.block b hb).trans h1, h3, h4, h5⟩, h2⟩
theorem SetK.below (h : SetK P k e κ w b n f) (hb : Below w.heap.size w w') : SetK P k e κ w' b n f := h.fr (Fr.ofBelow hb) h.lt
theorem SetK.mono (h : SetK P k e κ w b n f) {n' : Nat} (hn : n ≤ n') : SetK P k e κ w b n' f := by
 obtain ⟨D, h1, h2⟩ := h
 exact ⟨D, h1.mono hn, h2⟩
theorem SetK.eqv {g : α → Bool} (h : SetK P k e κ w b n f) (hg : ∀ c, f c = g c) : SetK P k e κ w b n g := by
 obtain ⟨D, h1, h2⟩ := h
 exact ⟨D, h1, fun c => by rw [h2 c, hg c]⟩
theorem SetK.look (h : SetK P k e κ w b n f) (K : Keyed P k) (ht : P.underlying t = some (.map k e)) (he : P.underlying e = some .bool) (hz : (zeroValue e).run P w = .ok (.bool false) w)
 {key : Value} {c : α} (hkey : keyOf P k key = some (κ c)) : (Instr.lookup t (.map (some b)) key false).run P w = .ok (.bool (f c)) w := by
 obtain ⟨D, h1, h2⟩ := h
 obtain ⟨v, ps, hrun, hv⟩ := h1.lookup K ht hz (plainElem_bool he false) hkey
 obtain ⟨a, rfl, ha⟩ := plainElem_bool_inv he hv
 rw [h2 c] at ha
 simp only [Prod.mk.injEq, DataW.lit.injEq, Lit.bool.injEq] at ha
 rw [hrun, ha.1]
theorem SetK.store [DecidableEq α] (h : SetK P k e κ w b n f) (K : Keyed P k) (ht : P.underlying t = some (.map k e)) (he : P.underlying e = some .bool) (hn : n < maxLen) (hκ : ∀ x y, κ x = κ y → x = y) (hl : ∀ x, WideAt.IsKeyLit (κ x))
 {key : Value} {c : α} (x : Bool) (hkey : keyOf P k key = some (κ c)) :
 ∃ w', (Instr.mapUpdate t (.map (some b)) key (.bool x)).run P w = .ok () w' ∧ SetK P k e κ w' b (n + 1) (fun d => if d = c then x else f d) ∧ w.grownBy w' (some b) := by
 obtain ⟨D, h1, h2⟩ := h
 obtain ⟨w2, hrun, h3, h4⟩ := h1.update K ht hn hkey (plainElem_bool he x)
 refine ⟨w2, hrun, ⟨_, h3, fun d => ?_⟩, h4⟩
 have hm : Maps.IsMap D := by obtain ⟨es, clock, _, _, _, e⟩ := h1; exact ⟨_, e⟩
 by_cases hd : d = c
 · subst hd
   rw [Maps.atKey_put_same hm (hl d)]; simp
 · rw [Maps.atKey_put_other (fun e => hd (hκ _ _ e)), h2 d]; simp [hd]
end
theorem wpList_look_set {α : Type} {P : Program} {κ : α → Lit} {ops : Array Oper} {rest : List Oper} {o : Oper} {a : Act} {w : World} {Q : Exit → Act → World → Prop} (hw : Region.wanted o (yielded ops a.tmps) = true) (m x : Operand) (t : TypeId) (hop : o.op = Op.lookup t m x false)
 (k e : TypeId) (K : Keyed P k) (ht : P.underlying t = some (.map k e)) (he : P.underlying e = some .bool) (hz : (zeroValue e).run P w = .ok (.bool false) w) (b n : Nat) (f : α → Bool)
 (hm : a.eval m = .map (some b)) (h : SetK P k e κ w b n f) (key : Value) (c : α) (hx : a.eval x = key) (hkey : keyOf P k key = some (κ c))
 (hK : wpList P ops Q rest (a.put o.dst (.bool (f c))) w) : wpList P ops Q (o :: rest) a w :=
 wpList_step fun K' hK' => by
  rw [if_pos hw]
  have hrun := h.look K ht he hz hkey
  unfold Oper.wp
  simp [execOp, hop, hm, hx, hrun, Result.andThen]
  exact hK' _ _ hK
theorem wpList_store_set {α : Type} [DecidableEq α] {P : Program} {κ : α → Lit} {ops : Array Oper} {rest : List Oper} {o : Oper} {a : Act} {w : World} {Q : Exit → Act → World → Prop} (hg : o.guard = none) (m x v : Operand) (t : TypeId) (hop : o.op = Op.mapUpdate t m x v)
 (k e : TypeId) (K : Keyed P k) (ht : P.underlying t = some (.map k e)) (he : P.underlying e = some .bool) (b n : Nat) (f : α → Bool)
 (hm : a.eval m = .map (some b)) (h : SetK P k e κ w b n f) (hn : n < maxLen) (hκ : ∀ x y, κ x = κ y → x = y) (hl : ∀ x, WideAt.IsKeyLit (κ x)) (key : Value) (c : α) (hx : a.eval x = key) (xv : Bool) (hv : a.eval v = .bool xv) (hkey : keyOf P k key = some (κ c))
 (hK : ∀ w', SetK P k e κ w' b (n + 1) (fun d => if d = c then xv else f d) → w.grownBy w' (some b) → wpList P ops Q rest (a.put o.dst undef) w') : wpList P ops Q (o :: rest) a w := by
 refine wpList_plain hg fun K' hK' => ?_
 obtain ⟨w', hrun, r1, r2⟩ := h.store K ht he hn hκ hl xv hkey
 unfold Oper.wp
 simp [execOp, hop, hm, hx, hv, hrun, Result.andThen]
 exact hK' _ _ (hK w' r1 r2)
def iKey (n : Int) : Lit := .int .i64 n
theorem iKey_inj (x y : Int) (h : iKey x = iKey y) : x = y := by unfold iKey at h; injection h
theorem iKey_lit (x : Int) : WideAt.IsKeyLit (iKey x) := by unfold iKey; first | trivial | exact Or.inl trivial | simp [WideAt.IsKeyLit]
theorem int_uty : Tryz.prog.underlying 3 = some (.int .i64) := by kernel_rfl
theorem bool_uty : Tryz.prog.underlying 4 = some .bool := by kernel_rfl
theorem bool_zero (w : World) : (zeroValue 4).run Tryz.prog w = .ok (.bool false) w := by kernel_rfl
theorem imap_uty : Tryz.prog.underlying 147 = some (.map 3 4) := by kernel_rfl
theorem int_keyed3 : Keyed Tryz.prog 3 := Maps.int_keyed int_uty
theorem iKey_of {n : Int} (h : intBd n) : keyOf Tryz.prog 3 (.int .i64 n) = some (iKey n) := Maps.keyOf_int_mk int_uty (WalkArith.wf_i64 h)
abbrev SetI (w : World) (b n : Nat) (f : Int → Bool) : Prop := SetK Tryz.prog 3 4 iKey w b n f
end Go.Proofs.YtekelchdbkjjjaaGreat
namespace Go.Proofs.YtekelchdbkjjjaaGreat
open Go Go.RowKit
theorem info_acc : (Tryz.prog.info? 87).map (·.size) = some 4 := by kernel_rfl
abbrev accL (a : XAccount) : List Value := [.int .i64 a.code, .int .i64 a.kind, .int .i64 a.basis, .int .i64 a.parent]
def accB (a : XAccount) : Prop := intBd a.code ∧ intBd a.kind ∧ intBd a.basis ∧ intBd a.parent
theorem AccountC.lit {w : World} {Q : Nat → Prop} {cs : List Value} {x : XAccount} (h : AccountC w Q cs x) : cs = accL x ∧ accB x := by
 obtain ⟨c0, c1, c2, c3, rfl, ⟨rfl, h0⟩, ⟨rfl, h1⟩, ⟨rfl, h2⟩, ⟨rfl, h3⟩⟩ := h
 exact ⟨rfl, h0, h1, h2, h3⟩
theorem At.range {w : World} {Q : Nat → Prop} {b o : Nat} {vs : List Value} (h : At w Q ⟨b, o, none⟩ vs) : w.rangeAt b o vs := fun j v hj => h.c hj
theorem info_accL (a : XAccount) : (Tryz.prog.info? 87).map (·.size) = some (accL a).length := info_acc
theorem info_accS (a : XAccount) : (Tryz.prog.info? 87).map (·.size) = some (accL a).toArray.size := info_acc
theorem accL_one (a : XAccount) : (accL a).toArray.all (·.oneCell') = true := by simp only [accL, List.all_toArray, List.all_cons, List.all_nil, Value.oneCell', Bool.and_true]
theorem wpList_store_fresh3 {P : Program} {ops : Array Oper} {rest : List Oper} {o : Oper} {a : Act} {Q : Exit → Act → World → Prop} {w0 : World} (hgd : o.guard = none) (ty : TypeId) (x y : Operand) (ho : o.op = .store ty x y) (hd : o.dst = none)
 (w1 : World) (old : Array Value) (t : TypeId) (cells : Array Value) (hw : w0 = w1.alloc (.cells old t)) (hx : a.eval x = .pointer (some ⟨w1.heap.size, 0, none⟩)) (hy : a.eval y = .agg cells)
 (hi : (P.info? ty).map (·.size) = some cells.size) (hold : old.size = cells.size) (h1 : cells.all (·.oneCell') = true)
 (h : ∀ w2 : World, w2.heap[w1.heap.size]? = some (.cells cells t (0, 0)) → Below w1.heap.size w1 w2 → w1.heap.size < w2.heap.size → wpList P ops Q rest a w2) :
 wpList P ops Q (o :: rest) a w0 := by
 subst hw
 exact wpList_store_fresh2 hgd ty x y ho hd w1 old t cells hx hy hi hold h1 h
theorem alloc_keep {w : World} {g : Nat} {x : Obj} (h : w.heap[g]? = some x) (o : Obj) : (w.alloc o).heap[g]? = some x := by
 rw [Below.heap_alloc _ _ _ (blk_lt h)]; exact h
theorem below_setRow {B : Nat} {w w' : World} (h : Below B w w') {g : Nat} (hg : B ≤ g) (cs : Array Value) : Below B w (w'.setRow g cs) :=
 ((Fr.ofBelow h).trans ((fr_setRow w' g cs).mono (fun k (hk : k < B) => by omega))).below
theorem accZ (a : XAccount) : (accL {}).toArray.size = (accL a).toArray.size := rfl
def findA (l : List XAccount) (c : Int) : Option XAccount := l.find? (fun a => a.code == c)
def accO (o : Option XAccount) : XAccount := o.getD {}
def findV (l : List XAccount) (c : Int) : Value := .tuple #[.agg (accL (accO (findA l c))).toArray, .bool (findA l c).isSome]
theorem findA_none {l : List XAccount} {c : Int} (h : ∀ j (hj : j < l.length), l[j].code ≠ c) : findA l c = none := by
 unfold findA
 rw [List.find?_eq_none]
 intro x hx
 obtain ⟨j, hj, rfl⟩ := List.getElem_of_mem hx
 simpa using h j hj
theorem findA_some {l : List XAccount} {c : Int} {k : Nat} (hk : k < l.length) (he : l[k].code = c) (h : ∀ j (hj : j < k), (l[j]'(by omega)).code ≠ c) : findA l c = some l[k] := by
 unfold findA
 rw [List.find?_eq_some_iff_getElem]
 exact ⟨by simpa using he, k, hk, rfl, fun j hj => by simpa using h j hj⟩
set_option maxHeartbeats 1000000 in
theorem find_c (l : List XAccount) (A : Option Addr) (c : Nat) (code : Int) (w : World) (hl : ListC AccountC 4 w (· < w.heap.size) [.slice A l.length c] l) (hc : intBd code) (hn : l.length ≤ 1000) : Calls Tryz.prog 56 #[.slice A l.length c, .int .i64 code] w (Quiet w (findV l code)) := by
 obtain ⟨r, hr⟩ : ∃ r, findV l code = r := ⟨_, rfl⟩
 rw [hr]
 have HR := Lib.hid hr
 clear hr
 obtain ⟨n, hnl⟩ : ∃ n, l.length = n := ⟨_, rfl⟩
 rw [hnl] at hn
 have HL := Lib.hid hl
 have HN := Lib.hid hnl
 rw [hnl]
 clear hl hnl
 obtain ⟨hc1, hc2⟩ := hc
 go_enter Tryz.func56, Tryz.ntmps56
 go_upto_region 1 with fail
 have H0 := heap_alloc_new w (.cells #[.int .i64 0, .int .i64 0, .int .i64 0, .int .i64 0] 87)
 have HB := below1 w (.cells #[.int .i64 0, .int .i64 0, .int .i64 0, .int .i64 0] 87)
 have HS := blk_lt H0
 generalize hW : w.alloc (Obj.cells #[.int .i64 0, .int .i64 0, .int .i64 0, .int .i64 0] 87) = W at *
 have HH0 := Lib.hid H0
 clear hW H0
 go_wp2_with fail
 go_loopw [10] (fun i wr => ∃ k : Nat, k ≤ n ∧ i = .int .i64 (k : Int) ∧ Below W.heap.size W wr ∧ ∀ j (hj : j < l.length), j < k → l[j].code ≠ code) (fun i _ => n - (intOf i).toNat)
 case atStart => exact ⟨0, by omega, rfl, Below.refl _ _, fun j hj h => by omega⟩
 case round =>
  obtain ⟨k, hk, rfl, hb, hall⟩ := hrel
  have HA := Lib.hid hall
  have G0 := (hb.block _ HS).trans HH0.out
  have HG0 := Lib.hid G0
  clear hall G0
  have hsz := hb.size
  by_cases hlt : k < n
  case pos =>
   have hltI : (k : Int) < (n : Int) := by omega
   have hkl : k < l.length := by rw [HN.out]; exact hlt
   obtain ⟨b, o, es, hAe, hbw, hes, hat⟩ := ListC.get HL.out k hkl
   subst hAe
   obtain ⟨hes1, hb1, hb2, hb3, hb4⟩ := AccountC.lit hes
   rw [hes1] at hat
   obtain ⟨ac, hac⟩ : ∃ ac, l[k] = ac := ⟨_, rfl⟩
   rw [hac] at hat hb1 hb2 hb3 hb4
   have HAC := Lib.hid hac
   have HAR := Lib.hid ((hat.fr (Fr.ofBelow (HB.trans (hb.mono HB.size)))).range)
   clear hes hes1 hat hac
   obtain ⟨c1, c2, c3, c4⟩ := ac
   simp only at hb1 hb2 hb3 hb4
   have hwr := HB.trans (hb.mono HB.size)
   by_cases he : c1 = code
   case pos =>
    subst he
    have hr2 := Lib.hid (show r = .tuple #[.agg (accL ⟨c1, c2, c3, c4⟩).toArray, .bool true] by
     rw [← HR.out]; unfold findV
     rw [findA_some hkl (by rw [HAC.out]) (fun j hj => HA.out j (by omega) hj), HAC.out]; rfl)
    go_wp2_with (first | (show wpList _ _ _ (Oper.mk (some 13) _ _ _ _ _ :: _) _ _; refine wpList_load_mid rfl 87 (.tmp 12) rfl b (o + k * 4) rfl (accL ⟨c1, c2, c3, c4⟩) _ HAR.out Tryz.underlying87 rfl (info_accL _) ?_) | (show wpList _ _ _ (Oper.mk none (Op.store _ (Operand.tmp 4) _) _ _ _ _ :: _) _ _; refine wpList_store_row rfl 87 (.tmp 4) (.tmp 18) rfl w.heap.size (accL ⟨c1, c2, c3, c4⟩).toArray rfl rfl 87 (accL {}).toArray (alloc_keep HG0.out _) (info_accS _) (accZ _) (accL_one _) ?_))
    refine bodyPost_ret (v := .tuple #[.agg (accL ⟨c1, c2, c3, c4⟩).toArray, .bool true]) (results_cell_tmp rfl _ _ w.heap.size 87 _ (0, 0) _ rfl (heap_setRow (alloc_keep HG0.out _) _) Tryz.underlying87 rfl (info_accS _) _ rfl) rfl ⟨by rw [hr2.out]; first | done | rfl, below_setRow (hwr.alloc hwr.size _) (Nat.le_refl _) _⟩
   case neg =>
    go_wp2_with (show wpList _ _ _ (Oper.mk (some 13) _ _ _ _ _ :: _) _ _; refine wpList_load_mid rfl 87 (.tmp 12) rfl b (o + k * 4) rfl (accL ⟨c1, c2, c3, c4⟩) _ HAR.out Tryz.underlying87 rfl (info_accL _) ?_)
    go_roundw
    case rel => exact ⟨k + 1, by omega, by go_num, hb.alloc hb.size _, fun j hj hjk => by
     rcases Nat.lt_or_ge j k with h | h
     · exact HA.out j hj h
     · have : j = k := by omega
       subst this
       rw [HAC.out]
       exact he⟩
    case measure =>
     have e : wrap64 ((k : Int) + 1) = ((k + 1 : Nat) : Int) := by unfold wrap64; omega
     simp only [intOf, e]
     omega
  case neg =>
   have hltI : ¬ (k : Int) < (n : Int) := by omega
   have hwr := HB.trans (hb.mono HB.size)
   have hr2 := Lib.hid (show r = .tuple #[.agg (accL {}).toArray, .bool false] by
    rw [← HR.out]; unfold findV
    rw [findA_none (fun j hj => HA.out j hj (by have := HN.out; omega))]; rfl)
   go_wp2_with (show wpList _ _ _ (Oper.mk none (Op.store _ (Operand.tmp 4) _) _ _ _ _ :: _) _ _; refine wpList_store_row rfl 87 (.tmp 4) (.tmp 20) rfl w.heap.size (accL {}).toArray rfl rfl 87 (accL {}).toArray HG0.out (info_accS _) (accZ _) (accL_one _) ?_)
   refine bodyPost_ret (v := .tuple #[.agg (accL {}).toArray, .bool false]) (results_cell_tmp rfl _ _ w.heap.size 87 _ (0, 0) _ rfl (heap_setRow HG0.out _) Tryz.underlying87 rfl (info_accS _) _ rfl) rfl ⟨by rw [hr2.out]; first | done | rfl, below_setRow hwr (Nat.le_refl _) _⟩
set_option maxHeartbeats 1000000 in
theorem rfind_c (l : List XAccount) (A : Option Addr) (c : Nat) (code : Int) (w : World) (hl : ListC AccountC 4 w (· < w.heap.size) [.slice A l.length c] l) (hc : intBd code) (hn : l.length ≤ 1000) : Calls Tryz.prog 32 #[.slice A l.length c, .int .i64 code] w (Quiet w (findV l code)) := by
 obtain ⟨r, hr⟩ : ∃ r, findV l code = r := ⟨_, rfl⟩
 rw [hr]
 have HR := Lib.hid hr
 clear hr
 obtain ⟨n, hnl⟩ : ∃ n, l.length = n := ⟨_, rfl⟩
 rw [hnl] at hn
 have HL := Lib.hid hl
 have HN := Lib.hid hnl
 rw [hnl]
 clear hl hnl
 obtain ⟨hc1, hc2⟩ := hc
 go_enter Tryz.func32, Tryz.ntmps32
 go_upto_region 1 with fail
 have H0 := heap_alloc_new w (.cells #[.int .i64 0, .int .i64 0, .int .i64 0, .int .i64 0] 87)
 have HB := below1 w (.cells #[.int .i64 0, .int .i64 0, .int .i64 0, .int .i64 0] 87)
 have HS := blk_lt H0
 generalize hW : w.alloc (Obj.cells #[.int .i64 0, .int .i64 0, .int .i64 0, .int .i64 0] 87) = W at *
 have HH0 := Lib.hid H0
 clear hW H0
 go_wp2_with fail
 go_loopw [6] (fun i wr => ∃ k : Nat, k ≤ n ∧ i = .int .i64 (k : Int) ∧ Below W.heap.size W wr ∧ ∀ j (hj : j < l.length), j < k → l[j].code ≠ code) (fun i _ => n - (intOf i).toNat)
 case atStart => exact ⟨0, by omega, rfl, Below.refl _ _, fun j hj h => by omega⟩
 case round =>
  obtain ⟨k, hk, rfl, hb, hall⟩ := hrel
  have HA := Lib.hid hall
  have G0 := (hb.block _ HS).trans HH0.out
  have HG0 := Lib.hid G0
  clear hall G0
  have hsz := hb.size
  by_cases hlt : k < n
  case pos =>
   have hltI : (k : Int) < (n : Int) := by omega
   have hkl : k < l.length := by rw [HN.out]; exact hlt
   obtain ⟨b, o, es, hAe, hbw, hes, hat⟩ := ListC.get HL.out k hkl
   subst hAe
   obtain ⟨hes1, hb1, hb2, hb3, hb4⟩ := AccountC.lit hes
   rw [hes1] at hat
   obtain ⟨ac, hac⟩ : ∃ ac, l[k] = ac := ⟨_, rfl⟩
   rw [hac] at hat hb1 hb2 hb3 hb4
   have HAC := Lib.hid hac
   have HAR := Lib.hid ((hat.fr (Fr.ofBelow (HB.trans (hb.mono HB.size)))).range)
   clear hes hes1 hat hac
   obtain ⟨c1, c2, c3, c4⟩ := ac
   simp only at hb1 hb2 hb3 hb4
   have hwr := HB.trans (hb.mono HB.size)
   have k0 : wr.cell? ⟨b, o + k * 4, none⟩ = some (.int .i64 c1) := HAR.out 0 _ rfl
   by_cases he : c1 = code
   case pos =>
    subst he
    have hr2 := Lib.hid (show r = .tuple #[.agg (accL ⟨c1, c2, c3, c4⟩).toArray, .bool true] by
     rw [← HR.out]; unfold findV
     rw [findA_some hkl (by rw [HAC.out]) (fun j hj => HA.out j (by omega) hj), HAC.out]; rfl)
    go_wp2_with (first | (show wpList _ _ _ (Oper.mk (some 23) _ _ _ _ _ :: _) _ _; refine wpList_load_mid rfl 87 (.tmp 22) rfl b (o + k * 4) rfl (accL ⟨c1, c2, c3, c4⟩) _ HAR.out Tryz.underlying87 rfl (info_accL _) ?_) | (show wpList _ _ _ (Oper.mk none (Op.store _ (Operand.tmp 4) _) _ _ _ _ :: _) _ _; refine wpList_store_row rfl 87 (.tmp 4) (.tmp 23) rfl w.heap.size (accL ⟨c1, c2, c3, c4⟩).toArray rfl rfl 87 (accL {}).toArray HG0.out (info_accS _) (accZ _) (accL_one _) ?_))
    refine bodyPost_ret (v := .tuple #[.agg (accL ⟨c1, c2, c3, c4⟩).toArray, .bool true]) (results_cell_tmp rfl _ _ w.heap.size 87 _ (0, 0) _ rfl (heap_setRow HG0.out _) Tryz.underlying87 rfl (info_accS _) _ rfl) rfl ⟨by rw [hr2.out]; first | done | rfl, below_setRow hwr (Nat.le_refl _) _⟩
   case neg =>
    go_wp2_with fail
    go_roundw
    case rel => exact ⟨k + 1, by omega, by go_num, hb, fun j hj hjk => by
     rcases Nat.lt_or_ge j k with h | h
     · exact HA.out j hj h
     · have : j = k := by omega
       subst this
       rw [HAC.out]
       exact he⟩
    case measure =>
     have e : wrap64 ((k : Int) + 1) = ((k + 1 : Nat) : Int) := by unfold wrap64; omega
     simp only [intOf, e]
     omega
  case neg =>
   have hltI : ¬ (k : Int) < (n : Int) := by omega
   have hwr := HB.trans (hb.mono HB.size)
   have hr2 := Lib.hid (show r = .tuple #[.agg (accL {}).toArray, .bool false] by
    rw [← HR.out]; unfold findV
    rw [findA_none (fun j hj => HA.out j hj (by have := HN.out; omega))]; rfl)
   go_wp2_with (show wpList _ _ _ (Oper.mk none (Op.store _ (Operand.tmp 4) _) _ _ _ _ :: _) _ _; refine wpList_store_row rfl 87 (.tmp 4) (.tmp 24) rfl w.heap.size (accL {}).toArray rfl rfl 87 (accL {}).toArray HG0.out (info_accS _) (accZ _) (accL_one _) ?_)
   refine bodyPost_ret (v := .tuple #[.agg (accL {}).toArray, .bool false]) (results_cell_tmp rfl _ _ w.heap.size 87 _ (0, 0) _ rfl (heap_setRow HG0.out _) Tryz.underlying87 rfl (info_accS _) _ rfl) rfl ⟨by rw [hr2.out]; first | done | rfl, below_setRow hwr (Nat.le_refl _) _⟩
end Go.Proofs.YtekelchdbkjjjaaGreat
