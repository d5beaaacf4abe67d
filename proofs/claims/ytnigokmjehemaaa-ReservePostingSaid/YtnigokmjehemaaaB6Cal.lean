/- Calendars and their periods, in the program and in the reference. Written by gen_b6.py. -/
import Derived.Test.YtnigokmjehemaaaProg
import Derived.Test.YtnigokmjehemaaaB5Month
namespace Go.Proofs.Ytnigokmjehemaaa
open Go Go.RowKit
set_option linter.unusedVariables false
set_option linter.unusedSimpArgs false
attribute [local go_sem ↓] Go.wp_at_zero Go.wp_at_succ
/-- The months from the year 0 to the period p. -/
def perI (y m p : Int) : Int := 12 * y + m - 1 + p
def calB (y m p : Int) : Bool := decide (1 ≤ m ∧ m ≤ 12 ∧ 1 ≤ p ∧ p ≤ 120 ∧ inY y ∧ inY (perI y m (p - 1) / 12))
theorem calB_in {y m p q : Int} (h : calB y m p = true) (h0 : 0 ≤ q) (h1 : q < p) : inY y ∧ 1 ≤ m ∧ m ≤ 12 ∧ 1 ≤ p ∧ p ≤ 120 ∧ inY (perI y m q / 12) := by
  have h := of_decide_eq_true h
  obtain ⟨a1, a2, a3, a4, a5, a6⟩ := h
  refine ⟨a5, a1, a2, a3, a4, ?_⟩
  unfold inY perI at *
  omega
def calCheck (y m n p : Int) : Int := if calB y m n = true then (if 0 ≤ p ∧ p < n then 0 else 2) else 1
def calFirst (y m n p : Int) : Int × Int := if calCheck y m n p = 0 then (monI (perI y m p), 0) else (0, calCheck y m n p)
def lasI (n : Int) : Int := monI n + daysI (n / 12) (n % 12 + 1) - 1
def calLast (y m n p : Int) : Int × Int := if calCheck y m n p = 0 then (lasI (perI y m p), 0) else (0, calCheck y m n p)
theorem calCheck_0 {y m n p : Int} (h : calCheck y m n p = 0) : calB y m n = true ∧ 0 ≤ p ∧ p < n := by
  unfold calCheck at h
  split at h
  · split at h
    · rename_i h1 h2; exact ⟨h1, h2⟩
    · omega
  · omega
set_option maxHeartbeats 400000 in
theorem first_c (y m n p : Int) (w : World) (hy : inY y) (hm1 : 1 ≤ m) (hm2 : m ≤ 12) (hp0 : 0 ≤ p) (hp1 : p ≤ 200) : Calls Try.prog 157 #[.agg #[.int .i64 y, .int .i64 m, .int .i64 n], .int .i64 p] w (Quiet w (.tuple #[.int .i64 (firI (perI y m p)).1, .int .i64 (firI (perI y m p)).2])) := by
  have hf := Lib.hid (ofI_mon (n := perI y m p))
  obtain ⟨r, hr⟩ : ∃ r, firI (perI y m p) = r := ⟨_, rfl⟩
  rw [hr] at hf ⊢
  clear hr
  obtain ⟨hy1, hy2⟩ := hy
  go_enter Try.func157, Try.ntmps157
  go_upto_region 1 with fail
  have H0 := heap_alloc_new w (.cells #[.int .i64 y, .int .i64 m, .int .i64 n] 23)
  have HB := below1 w (.cells #[.int .i64 y, .int .i64 m, .int .i64 n] 23)
  generalize hW : w.alloc (Obj.cells #[.int .i64 y, .int .i64 m, .int .i64 n] 23) = W at *
  have c0 := blk_cell H0 0
  have c1 := blk_cell H0 1
  clear hW H0
  go_wp2_with fail
  refine (of_c _ _ 1 W).mono ?_
  rintro e w2 ⟨rfl, hb2⟩
  have e1 : ofI ((12 * y + m - 1 + p) / 12) ((12 * y + m - 1 + p) % 12 + 1) 1 = r := hf.out
  rw [e1]
  clear e1
  go_wp2_with fail
  go_ret2
  exact ⟨rfl, HB.trans (hb2.mono HB.size)⟩
set_option maxHeartbeats 1000000 in
theorem rfirst_c (y m n p : Int) (w : World) (hp0 : 0 ≤ p) (hp1 : p ≤ 200) : Calls Try.prog 98 #[.agg #[.int .i64 y, .int .i64 m, .int .i64 n], .int .i64 p] w (Quiet w (if inY y ∧ 1 ≤ m ∧ m ≤ 12 then .tuple #[.int .i64 (firI (perI y m p)).1, .int .i64 (firI (perI y m p)).2] else .tuple #[.int .i64 0, .int .i64 2])) := by
  by_cases hok : inY y ∧ 1 ≤ m ∧ m ≤ 12
  case pos =>
    rw [if_pos hok]
    obtain ⟨r, hr2⟩ : ∃ r, firI (perI y m p) = r := ⟨_, rfl⟩
    rw [hr2]
    have HR := Lib.hid hr2
    clear hr2
    go_enter Try.func98, Try.ntmps98
    go_upto_region 1 with fail
    have H0 := heap_alloc_new w (.cells #[.int .i64 y, .int .i64 m, .int .i64 n] 23)
    have HB := below1 w (.cells #[.int .i64 y, .int .i64 m, .int .i64 n] 23)
    have HS : w.heap.size < (w.alloc (.cells #[.int .i64 y, .int .i64 m, .int .i64 n] 23)).heap.size := blk_lt H0
    generalize hW : w.alloc (Obj.cells #[.int .i64 y, .int .i64 m, .int .i64 n] 23) = W at *
    have c0 := blk_cell H0 0
    have c1 := blk_cell H0 1
    have c2 := blk_cell H0 2
    have HH0 := Lib.hid H0
    clear hW H0
    go_wp2_with fail
    refine (rOf_c y m 1 W).mono ?_
    rintro e w2 ⟨rfl, hb2⟩
    have hbb := HB.trans (hb2.mono HB.size)
    obtain ⟨hy, hm1, hm2⟩ := hok
    have e1 : ofI y m 1 = (monI (12 * y + m - 1), 0) := by
      have := ofI_mon (n := 12 * y + m - 1)
      rw [show (12 * y + m - 1) / 12 = y from by omega, show (12 * y + m - 1) % 12 + 1 = m from by omega] at this
      rw [this]; unfold firI
      rw [show (12 * y + m - 1) / 12 = y from by omega, if_pos hy]
    rw [e1]
    have hr := rAdd_c (12 * y + m - 1) p w2 (by rw [show (12 * y + m - 1) / 12 = y from by omega]; exact hy) hp0 (by omega)
    rw [show firI (12 * y + m - 1 + p) = r from HR.out] at hr
    obtain ⟨d0, hd0⟩ : ∃ d0, monI (12 * y + m - 1) = d0 := ⟨_, rfl⟩
    rw [hd0] at hr ⊢
    clear hd0 e1
    go_wp2_with fail
    refine hr.mono ?_
    rintro e w3 ⟨rfl, hb3⟩
    go_wp2_with fail
    go_ret2
    exact ⟨rfl, hbb.trans (hb3.mono hbb.size)⟩
  case neg =>
  rw [if_neg hok]
  have e1 : ofI y m 1 = (0, 2) := by
    unfold ofI
    rw [if_pos (.inr (by unfold daysI; rw [if_neg hok]; omega))]
  have HE := Lib.hid e1
  clear e1 hok
  go_enter Try.func98, Try.ntmps98
  go_upto_region 1 with fail
  have H0 := heap_alloc_new w (.cells #[.int .i64 y, .int .i64 m, .int .i64 n] 23)
  have HB := below1 w (.cells #[.int .i64 y, .int .i64 m, .int .i64 n] 23)
  have HS : w.heap.size < (w.alloc (.cells #[.int .i64 y, .int .i64 m, .int .i64 n] 23)).heap.size := blk_lt H0
  generalize hW : w.alloc (Obj.cells #[.int .i64 y, .int .i64 m, .int .i64 n] 23) = W at *
  have c0 := blk_cell H0 0
  have c1 := blk_cell H0 1
  have c2 := blk_cell H0 2
  have HH0 := Lib.hid H0
  clear hW H0
  go_wp2_with fail
  refine (rOf_c y m 1 W).mono ?_
  rintro e w2 ⟨rfl, hb2⟩
  have hbb := HB.trans (hb2.mono HB.size)
  rw [HE.out]
  go_wp2_with fail
  go_ret2
  exact ⟨rfl, hbb⟩
set_option maxHeartbeats 1000000 in
theorem calValid_c (y m n : Int) (w : World) : Calls Try.prog 119 #[.agg #[.int .i64 y, .int .i64 m, .int .i64 n]] w (Quiet w (.bool (calB y m n))) := by
  obtain ⟨r, hr⟩ : ∃ r, calB y m n = r := ⟨_, rfl⟩
  rw [hr]
  have HR := Lib.hid hr
  clear hr
  go_enter Try.func119, Try.ntmps119
  go_upto_region 1 with fail
  have H0 := heap_alloc_new w (.cells #[.int .i64 y, .int .i64 m, .int .i64 n] 23)
  have HB := below1 w (.cells #[.int .i64 y, .int .i64 m, .int .i64 n] 23)
  have HS : w.heap.size < (w.alloc (.cells #[.int .i64 y, .int .i64 m, .int .i64 n] 23)).heap.size := blk_lt H0
  generalize hW : w.alloc (Obj.cells #[.int .i64 y, .int .i64 m, .int .i64 n] 23) = W at *
  have c0 := blk_cell H0 0
  have c1 := blk_cell H0 1
  have c2 := blk_cell H0 2
  have HH0 := Lib.hid H0
  clear hW H0
  by_cases k0 : m < 1
  case pos =>
    have hf := Lib.hid (show r = false by rw [← HR.out]; unfold calB; exact decide_eq_false (fun h => by have := h.1; omega))
    go_wp2_with fail
    go_ret
    exact ⟨by rw [hf.out]; first | done | rfl, HB⟩
  case neg =>
  by_cases k1 : 12 < m
  case pos =>
    have hf := Lib.hid (show r = false by rw [← HR.out]; unfold calB; exact decide_eq_false (fun h => by have := h.2.1; omega))
    go_wp2_with fail
    go_ret
    exact ⟨by rw [hf.out]; first | done | rfl, HB⟩
  case neg =>
  by_cases k2 : n < 1
  case pos =>
    have hf := Lib.hid (show r = false by rw [← HR.out]; unfold calB; exact decide_eq_false (fun h => by have := h.2.2.1; omega))
    go_wp2_with fail
    go_ret
    exact ⟨by rw [hf.out]; first | done | rfl, HB⟩
  case neg =>
  by_cases k3 : 120 < n
  case pos =>
    have hf := Lib.hid (show r = false by rw [← HR.out]; unfold calB; exact decide_eq_false (fun h => by have := h.2.2.2.1; omega))
    go_wp2_with fail
    go_ret
    exact ⟨by rw [hf.out]; first | done | rfl, HB⟩
  case neg =>
  by_cases k4 : y < 1900
  case pos =>
    have hf := Lib.hid (show r = false by rw [← HR.out]; unfold calB; exact decide_eq_false (fun h => by have := h.2.2.2.2.1.1; omega))
    go_wp2_with fail
    go_ret
    exact ⟨by rw [hf.out]; first | done | rfl, HB⟩
  case neg =>
  by_cases k5 : 2199 < y
  case pos =>
    have hf := Lib.hid (show r = false by rw [← HR.out]; unfold calB; exact decide_eq_false (fun h => by have := h.2.2.2.2.1.2; omega))
    go_wp2_with fail
    go_ret
    exact ⟨by rw [hf.out]; first | done | rfl, HB⟩
  case neg =>
  go_wp2_with fail
  refine (first_c y m n (n - 1) W ⟨by omega, by omega⟩ (by omega) (by omega) (by omega) (by omega)).mono ?_
  rintro e w2 ⟨rfl, hb2⟩
  have hbb := HB.trans (hb2.mono HB.size)
  by_cases hin : inY (perI y m (n - 1) / 12)
  · have hf := Lib.hid (show r = true by rw [← HR.out]; unfold calB; exact decide_eq_true ⟨by omega, by omega, by omega, by omega, ⟨by omega, by omega⟩, hin⟩)
    rw [show firI (perI y m (n - 1)) = (monI (perI y m (n - 1)), 0) from if_pos hin]
    go_wp2_with fail
    go_ret
    exact ⟨by rw [hf.out]; first | done | rfl, hbb⟩
  · have hf := Lib.hid (show r = false by rw [← HR.out]; unfold calB; exact decide_eq_false (fun h => hin h.2.2.2.2.2))
    rw [show firI (perI y m (n - 1)) = (0, 2) from if_neg hin]
    go_wp2_with fail
    go_ret
    exact ⟨by rw [hf.out]; first | done | rfl, hbb⟩
set_option maxHeartbeats 1000000 in
theorem rcalValid_c (y m n : Int) (w : World) : Calls Try.prog 125 #[.agg #[.int .i64 y, .int .i64 m, .int .i64 n]] w (Quiet w (.bool (calB y m n))) := by
  obtain ⟨r, hr⟩ : ∃ r, calB y m n = r := ⟨_, rfl⟩
  rw [hr]
  have HR := Lib.hid hr
  clear hr
  go_enter Try.func125, Try.ntmps125
  go_upto_region 1 with fail
  have H0 := heap_alloc_new w (.cells #[.int .i64 y, .int .i64 m, .int .i64 n] 23)
  have HB := below1 w (.cells #[.int .i64 y, .int .i64 m, .int .i64 n] 23)
  have HS : w.heap.size < (w.alloc (.cells #[.int .i64 y, .int .i64 m, .int .i64 n] 23)).heap.size := blk_lt H0
  generalize hW : w.alloc (Obj.cells #[.int .i64 y, .int .i64 m, .int .i64 n] 23) = W at *
  have c0 := blk_cell H0 0
  have c1 := blk_cell H0 1
  have c2 := blk_cell H0 2
  have HH0 := Lib.hid H0
  clear hW H0
  by_cases k0 : n < 1
  case pos =>
    have hf := Lib.hid (show r = false by rw [← HR.out]; unfold calB; exact decide_eq_false (fun h => by have := h.2.2.1; omega))
    go_wp2_with fail
    go_ret
    exact ⟨by rw [hf.out]; first | done | rfl, HB⟩
  case neg =>
  by_cases k1 : 120 < n
  case pos =>
    have hf := Lib.hid (show r = false by rw [← HR.out]; unfold calB; exact decide_eq_false (fun h => by have := h.2.2.2.1; omega))
    go_wp2_with fail
    go_ret
    exact ⟨by rw [hf.out]; first | done | rfl, HB⟩
  case neg =>
  go_wp2_with fail
  refine (rfirst_c y m n (n - 1) W (by omega) (by omega)).mono ?_
  rintro e w2 ⟨rfl, hb2⟩
  have hbb := HB.trans (hb2.mono HB.size)
  by_cases hok : inY y ∧ 1 ≤ m ∧ m ≤ 12
  · rw [if_pos hok]
    by_cases hin : inY (perI y m (n - 1) / 12)
    · have hf := Lib.hid (show r = true by rw [← HR.out]; unfold calB; exact decide_eq_true ⟨hok.2.1, hok.2.2, by omega, by omega, hok.1, hin⟩)
      rw [show firI (perI y m (n - 1)) = (monI (perI y m (n - 1)), 0) from if_pos hin]
      go_wp2_with fail
      go_ret
      exact ⟨by rw [hf.out]; first | done | rfl, hbb⟩
    · have hf := Lib.hid (show r = false by rw [← HR.out]; unfold calB; exact decide_eq_false (fun h => hin h.2.2.2.2.2))
      rw [show firI (perI y m (n - 1)) = (0, 2) from if_neg hin]
      go_wp2_with fail
      go_ret
      exact ⟨by rw [hf.out]; first | done | rfl, hbb⟩
  · rw [if_neg hok]
    have hf := Lib.hid (show r = false by rw [← HR.out]; unfold calB; exact decide_eq_false (fun h => hok ⟨h.2.2.2.2.1, h.1, h.2.1⟩))
    go_wp2_with fail
    go_ret
    exact ⟨by rw [hf.out]; first | done | rfl, hbb⟩
set_option maxHeartbeats 1000000 in
theorem calCheck_c (y m n p : Int) (w : World) : Calls Try.prog 156 #[.agg #[.int .i64 y, .int .i64 m, .int .i64 n], .int .i64 p] w (Quiet w (.int .i64 (calCheck y m n p))) := by
  obtain ⟨r, hr⟩ : ∃ r, calCheck y m n p = r := ⟨_, rfl⟩
  rw [hr]
  have HR := Lib.hid hr
  clear hr
  go_enter Try.func156, Try.ntmps156
  go_upto_region 1 with fail
  have H0 := heap_alloc_new w (.cells #[.int .i64 y, .int .i64 m, .int .i64 n] 23)
  have HB := below1 w (.cells #[.int .i64 y, .int .i64 m, .int .i64 n] 23)
  have HS : w.heap.size < (w.alloc (.cells #[.int .i64 y, .int .i64 m, .int .i64 n] 23)).heap.size := blk_lt H0
  generalize hW : w.alloc (Obj.cells #[.int .i64 y, .int .i64 m, .int .i64 n] 23) = W at *
  have c0 := blk_cell H0 0
  have c1 := blk_cell H0 1
  have c2 := blk_cell H0 2
  have HH0 := Lib.hid H0
  clear hW H0
  go_wp2_with fail
  refine (calValid_c y m n W).mono ?_
  rintro e w2 ⟨rfl, hb2⟩
  have hbb := HB.trans (hb2.mono HB.size)
  have HH2 := Lib.hid ((hb2.block _ HS).trans HH0.out)
  have d0 := blk_cell HH2.out 0
  have d1 := blk_cell HH2.out 1
  have d2 := blk_cell HH2.out 2
  obtain ⟨v, hv⟩ : ∃ v, calB y m n = v := ⟨_, rfl⟩
  rw [hv]
  have HV := Lib.hid hv
  clear hv c0 c1 c2
  cases v with
  | false =>
    have hf := Lib.hid (show r = 1 by rw [← HR.out]; unfold calCheck; rw [HV.out]; simp)
    go_wp2_with fail
    go_ret
    exact ⟨by rw [hf.out]; first | done | rfl, hbb⟩
  | true =>
    by_cases h1 : p < 0
    · have hf := Lib.hid (show r = 2 by rw [← HR.out]; unfold calCheck; rw [HV.out, if_pos rfl, if_neg (by omega)])
      go_wp2_with fail
      go_ret
      exact ⟨by rw [hf.out]; first | done | rfl, hbb⟩
    · by_cases h2 : n ≤ p
      · have hf := Lib.hid (show r = 2 by rw [← HR.out]; unfold calCheck; rw [HV.out, if_pos rfl, if_neg (by omega)])
        go_wp2_with fail
        go_ret
        exact ⟨by rw [hf.out]; first | done | rfl, hbb⟩
      · have hf := Lib.hid (show r = 0 by rw [← HR.out]; unfold calCheck; rw [HV.out, if_pos rfl, if_pos (by omega)])
        go_wp2_with fail
        go_ret
        exact ⟨by rw [hf.out]; first | done | rfl, hbb⟩
set_option maxHeartbeats 1000000 in
theorem rcalCheck_c (y m n p : Int) (w : World) : Calls Try.prog 97 #[.agg #[.int .i64 y, .int .i64 m, .int .i64 n], .int .i64 p] w (Quiet w (.int .i64 (calCheck y m n p))) := by
  obtain ⟨r, hr⟩ : ∃ r, calCheck y m n p = r := ⟨_, rfl⟩
  rw [hr]
  have HR := Lib.hid hr
  clear hr
  go_enter Try.func97, Try.ntmps97
  go_upto_region 1 with fail
  have H0 := heap_alloc_new w (.cells #[.int .i64 y, .int .i64 m, .int .i64 n] 23)
  have HB := below1 w (.cells #[.int .i64 y, .int .i64 m, .int .i64 n] 23)
  have HS : w.heap.size < (w.alloc (.cells #[.int .i64 y, .int .i64 m, .int .i64 n] 23)).heap.size := blk_lt H0
  generalize hW : w.alloc (Obj.cells #[.int .i64 y, .int .i64 m, .int .i64 n] 23) = W at *
  have c0 := blk_cell H0 0
  have c1 := blk_cell H0 1
  have c2 := blk_cell H0 2
  have HH0 := Lib.hid H0
  clear hW H0
  go_wp2_with fail
  refine (rcalValid_c y m n W).mono ?_
  rintro e w2 ⟨rfl, hb2⟩
  have hbb := HB.trans (hb2.mono HB.size)
  have HH2 := Lib.hid ((hb2.block _ HS).trans HH0.out)
  have d0 := blk_cell HH2.out 0
  have d1 := blk_cell HH2.out 1
  have d2 := blk_cell HH2.out 2
  obtain ⟨v, hv⟩ : ∃ v, calB y m n = v := ⟨_, rfl⟩
  rw [hv]
  have HV := Lib.hid hv
  clear hv c0 c1 c2
  cases v with
  | false =>
    have hf := Lib.hid (show r = 1 by rw [← HR.out]; unfold calCheck; rw [HV.out]; simp)
    go_wp2_with fail
    go_ret
    exact ⟨by rw [hf.out]; first | done | rfl, hbb⟩
  | true =>
    by_cases h1 : p < 0
    · have hf := Lib.hid (show r = 2 by rw [← HR.out]; unfold calCheck; rw [HV.out, if_pos rfl, if_neg (by omega)])
      go_wp2_with fail
      go_ret
      exact ⟨by rw [hf.out]; first | done | rfl, hbb⟩
    · by_cases h2 : n ≤ p
      · have hf := Lib.hid (show r = 2 by rw [← HR.out]; unfold calCheck; rw [HV.out, if_pos rfl, if_neg (by omega)])
        go_wp2_with fail
        go_ret
        exact ⟨by rw [hf.out]; first | done | rfl, hbb⟩
      · have hf := Lib.hid (show r = 0 by rw [← HR.out]; unfold calCheck; rw [HV.out, if_pos rfl, if_pos (by omega)])
        go_wp2_with fail
        go_ret
        exact ⟨by rw [hf.out]; first | done | rfl, hbb⟩
set_option maxHeartbeats 1000000 in
theorem calFirst_c (y m n p : Int) (w : World) : Calls Try.prog 112 #[.agg #[.int .i64 y, .int .i64 m, .int .i64 n], .int .i64 p] w (Quiet w (.tuple #[.int .i64 (calFirst y m n p).1, .int .i64 (calFirst y m n p).2])) := by
  obtain ⟨r, hr⟩ : ∃ r, calFirst y m n p = r := ⟨_, rfl⟩
  rw [hr]
  have HR := Lib.hid hr
  clear hr
  go_enter Try.func112, Try.ntmps112
  go_upto_region 1 with fail
  have H0 := heap_alloc_new w (.cells #[.int .i64 y, .int .i64 m, .int .i64 n] 23)
  have HB := below1 w (.cells #[.int .i64 y, .int .i64 m, .int .i64 n] 23)
  have HS : w.heap.size < (w.alloc (.cells #[.int .i64 y, .int .i64 m, .int .i64 n] 23)).heap.size := blk_lt H0
  generalize hW : w.alloc (Obj.cells #[.int .i64 y, .int .i64 m, .int .i64 n] 23) = W at *
  have c0 := blk_cell H0 0
  have c1 := blk_cell H0 1
  have c2 := blk_cell H0 2
  have HH0 := Lib.hid H0
  clear hW H0
  go_wp2_with fail
  refine (calCheck_c y m n p W).mono ?_
  rintro e w2 ⟨rfl, hb2⟩
  have hbb := HB.trans (hb2.mono HB.size)
  have HH2 := Lib.hid ((hb2.block _ HS).trans HH0.out)
  have d0 := blk_cell HH2.out 0
  have d1 := blk_cell HH2.out 1
  have d2 := blk_cell HH2.out 2
  obtain ⟨v, hv⟩ : ∃ v, calCheck y m n p = v := ⟨_, rfl⟩
  rw [hv]
  have HV := Lib.hid hv
  clear hv c0 c1 c2
  by_cases h0 : v = 0
  · subst h0
    obtain ⟨g1, g2, g3⟩ := calCheck_0 HV.out
    obtain ⟨q1, q2, q3, q4, q5, q6⟩ := calB_in g1 g2 g3
    have hf := Lib.hid (show r = (monI (perI y m p), 0) by rw [← HR.out]; unfold calFirst; rw [if_pos HV.out])
    have hfi := Lib.hid (show firI (perI y m p) = (monI (perI y m p), 0) from if_pos q6)
    have Q1 := Lib.hid q1
    clear g1 q1 q6
    go_wp2_with fail
    refine (first_c y m n p w2 Q1.out q2 q3 g2 (by omega)).mono ?_
    rintro e w3 ⟨rfl, hb3⟩
    rw [hfi.out]
    go_wp2_with fail
    go_ret2
    exact ⟨by rw [hf.out]; first | done | rfl, hbb.trans (hb3.mono hbb.size)⟩
  · have h1 : (v == 0) = false := by simpa using h0
    have h2 : (v != 0) = true := by simpa using h0
    have hf := Lib.hid (show r = (0, v) by rw [← HR.out]; unfold calFirst; rw [HV.out, if_neg h0])
    clear h0
    go_wp2_with fail
    go_ret2
    exact ⟨by rw [hf.out]; first | done | rfl, hbb⟩
set_option maxHeartbeats 1000000 in
theorem rcalFirst_c (y m n p : Int) (w : World) : Calls Try.prog 55 #[.agg #[.int .i64 y, .int .i64 m, .int .i64 n], .int .i64 p] w (Quiet w (.tuple #[.int .i64 (calFirst y m n p).1, .int .i64 (calFirst y m n p).2])) := by
  obtain ⟨r, hr⟩ : ∃ r, calFirst y m n p = r := ⟨_, rfl⟩
  rw [hr]
  have HR := Lib.hid hr
  clear hr
  go_enter Try.func55, Try.ntmps55
  go_upto_region 1 with fail
  have H0 := heap_alloc_new w (.cells #[.int .i64 y, .int .i64 m, .int .i64 n] 23)
  have HB := below1 w (.cells #[.int .i64 y, .int .i64 m, .int .i64 n] 23)
  have HS : w.heap.size < (w.alloc (.cells #[.int .i64 y, .int .i64 m, .int .i64 n] 23)).heap.size := blk_lt H0
  generalize hW : w.alloc (Obj.cells #[.int .i64 y, .int .i64 m, .int .i64 n] 23) = W at *
  have c0 := blk_cell H0 0
  have c1 := blk_cell H0 1
  have c2 := blk_cell H0 2
  have HH0 := Lib.hid H0
  clear hW H0
  go_wp2_with fail
  refine (rcalCheck_c y m n p W).mono ?_
  rintro e w2 ⟨rfl, hb2⟩
  have hbb := HB.trans (hb2.mono HB.size)
  have HH2 := Lib.hid ((hb2.block _ HS).trans HH0.out)
  have d0 := blk_cell HH2.out 0
  have d1 := blk_cell HH2.out 1
  have d2 := blk_cell HH2.out 2
  obtain ⟨v, hv⟩ : ∃ v, calCheck y m n p = v := ⟨_, rfl⟩
  rw [hv]
  have HV := Lib.hid hv
  clear hv c0 c1 c2
  by_cases h0 : v = 0
  · subst h0
    obtain ⟨g1, g2, g3⟩ := calCheck_0 HV.out
    obtain ⟨q1, q2, q3, q4, q5, q6⟩ := calB_in g1 g2 g3
    have hf := Lib.hid (show r = (monI (perI y m p), 0) by rw [← HR.out]; unfold calFirst; rw [if_pos HV.out])
    have hfi := Lib.hid (show firI (perI y m p) = (monI (perI y m p), 0) from if_pos q6)
    have Q1 := Lib.hid q1
    clear g1 q1 q6
    go_wp2_with fail
    refine (rfirst_c y m n p w2 g2 (by omega)).mono ?_
    rw [if_pos ⟨Q1.out, q2, q3⟩]
    rintro e w3 ⟨rfl, hb3⟩
    rw [hfi.out]
    go_wp2_with fail
    go_ret2
    exact ⟨by rw [hf.out]; first | done | rfl, hbb.trans (hb3.mono hbb.size)⟩
  · have h1 : (v == 0) = false := by simpa using h0
    have h2 : (v != 0) = true := by simpa using h0
    have hf := Lib.hid (show r = (0, v) by rw [← HR.out]; unfold calFirst; rw [HV.out, if_neg h0])
    clear h0
    go_wp2_with fail
    go_ret2
    exact ⟨by rw [hf.out]; first | done | rfl, hbb⟩
set_option maxHeartbeats 1000000 in
theorem calLast_c (y m n p : Int) (w : World) : Calls Try.prog 68 #[.agg #[.int .i64 y, .int .i64 m, .int .i64 n], .int .i64 p] w (Quiet w (.tuple #[.int .i64 (calLast y m n p).1, .int .i64 (calLast y m n p).2])) := by
  obtain ⟨r, hr⟩ : ∃ r, calLast y m n p = r := ⟨_, rfl⟩
  rw [hr]
  have HR := Lib.hid hr
  clear hr
  go_enter Try.func68, Try.ntmps68
  go_upto_region 1 with fail
  have H0 := heap_alloc_new w (.cells #[.int .i64 y, .int .i64 m, .int .i64 n] 23)
  have HB := below1 w (.cells #[.int .i64 y, .int .i64 m, .int .i64 n] 23)
  have HS : w.heap.size < (w.alloc (.cells #[.int .i64 y, .int .i64 m, .int .i64 n] 23)).heap.size := blk_lt H0
  generalize hW : w.alloc (Obj.cells #[.int .i64 y, .int .i64 m, .int .i64 n] 23) = W at *
  have c0 := blk_cell H0 0
  have c1 := blk_cell H0 1
  have c2 := blk_cell H0 2
  have HH0 := Lib.hid H0
  clear hW H0
  go_wp2_with fail
  refine (calFirst_c y m n p W).mono ?_
  rintro e w2 ⟨rfl, hb2⟩
  have hbb := HB.trans (hb2.mono HB.size)
  obtain ⟨v, hv⟩ : ∃ v, calCheck y m n p = v := ⟨_, rfl⟩
  have HV := Lib.hid hv
  clear c0 c1 c2
  by_cases h0 : v = 0
  · subst h0
    obtain ⟨g1, g2, g3⟩ := calCheck_0 HV.out
    obtain ⟨q1, q2, q3, q4, q5, q6⟩ := calB_in g1 g2 g3
    have hf := Lib.hid (show r = (lasI (perI y m p), 0) by rw [← HR.out]; unfold calLast; rw [if_pos HV.out])
    rw [show calFirst y m n p = (monI (perI y m p), 0) from by unfold calFirst; rw [if_pos hv]]
    have hin := monI_in q6
    have hciv := Lib.hid (monI_civ q6)
    have hlas := Lib.hid (show lasI (perI y m p) = monI (perI y m p) + daysI (perI y m p / 12) (perI y m p % 12 + 1) - 1 from rfl)
    obtain ⟨d0, hd0⟩ : ∃ d0, monI (perI y m p) = d0 := ⟨_, rfl⟩
    rw [hd0] at hin hciv hlas ⊢
    have hi1 := hin.1
    have hi2 := hin.2
    have HIN := Lib.hid hin
    clear g1 q1 q6 hv hd0 hin
    go_wp2_with fail
    refine (civil_c d0 w2 (by unfold intBd; omega)).mono ?_
    rintro e w3 ⟨y1, m1, d1, k, rfl, hb3, hcase⟩
    obtain ⟨hk, hcv⟩ : k = 0 ∧ CivP d0 y1 m1 d1 := by
      rcases hcase with ⟨_, h1, h2⟩ | ⟨h1, _⟩
      · exact ⟨h1, h2⟩
      · exact absurd HIN.out h1
    obtain ⟨e1, e2, e3⟩ := hcv.uniq hciv.out
    rw [← e1, ← e2] at hlas
    have HC := Lib.hid hcv
    subst hk
    clear hcase hciv e1 e2 e3 hcv
    go_wp2_with fail
    refine (days_c y1 m1 w3).mono ?_
    rintro e w4 ⟨rfl, hb4⟩
    have hD := daysI_le y1 m1
    obtain ⟨D, hDD⟩ : ∃ D, daysI y1 m1 = D := ⟨_, rfl⟩
    rw [hDD] at hD hlas ⊢
    clear hDD
    go_wp2_with fail
    go_ret2
    exact ⟨by rw [hf.out, hlas.out]; first | done | rfl, hbb.trans ((hb3.trans (hb4.mono hb3.size)).mono hbb.size)⟩
  · have h1 : (v == 0) = false := by simpa using h0
    have h2 : (v != 0) = true := by simpa using h0
    have hf := Lib.hid (show r = (0, v) by rw [← HR.out]; unfold calLast; rw [hv, if_neg h0])
    rw [show calFirst y m n p = (0, v) from by unfold calFirst; rw [hv, if_neg h0]]
    clear h0 hv
    go_wp2_with fail
    go_ret2
    exact ⟨by rw [hf.out]; first | done | rfl, hbb⟩
set_option maxHeartbeats 1000000 in
theorem rcalLast_c (y m n p : Int) (w : World) : Calls Try.prog 56 #[.agg #[.int .i64 y, .int .i64 m, .int .i64 n], .int .i64 p] w (Quiet w (.tuple #[.int .i64 (calLast y m n p).1, .int .i64 (calLast y m n p).2])) := by
  obtain ⟨r, hr⟩ : ∃ r, calLast y m n p = r := ⟨_, rfl⟩
  rw [hr]
  have HR := Lib.hid hr
  clear hr
  go_enter Try.func56, Try.ntmps56
  go_upto_region 1 with fail
  have H0 := heap_alloc_new w (.cells #[.int .i64 y, .int .i64 m, .int .i64 n] 23)
  have HB := below1 w (.cells #[.int .i64 y, .int .i64 m, .int .i64 n] 23)
  have HS : w.heap.size < (w.alloc (.cells #[.int .i64 y, .int .i64 m, .int .i64 n] 23)).heap.size := blk_lt H0
  generalize hW : w.alloc (Obj.cells #[.int .i64 y, .int .i64 m, .int .i64 n] 23) = W at *
  have c0 := blk_cell H0 0
  have c1 := blk_cell H0 1
  have c2 := blk_cell H0 2
  have HH0 := Lib.hid H0
  clear hW H0
  go_wp2_with fail
  refine (rcalFirst_c y m n p W).mono ?_
  rintro e w2 ⟨rfl, hb2⟩
  have hbb := HB.trans (hb2.mono HB.size)
  obtain ⟨v, hv⟩ : ∃ v, calCheck y m n p = v := ⟨_, rfl⟩
  have HV := Lib.hid hv
  clear c0 c1 c2
  by_cases h0 : v = 0
  · subst h0
    obtain ⟨g1, g2, g3⟩ := calCheck_0 HV.out
    obtain ⟨q1, q2, q3, q4, q5, q6⟩ := calB_in g1 g2 g3
    have hf := Lib.hid (show r = (lasI (perI y m p), 0) by rw [← HR.out]; unfold calLast; rw [if_pos HV.out])
    rw [show calFirst y m n p = (monI (perI y m p), 0) from by unfold calFirst; rw [if_pos hv]]
    have hin := monI_in q6
    have hciv := Lib.hid (monI_civ q6)
    have hlas := Lib.hid (show lasI (perI y m p) = monI (perI y m p) + daysI (perI y m p / 12) (perI y m p % 12 + 1) - 1 from rfl)
    obtain ⟨d0, hd0⟩ : ∃ d0, monI (perI y m p) = d0 := ⟨_, rfl⟩
    rw [hd0] at hin hciv hlas ⊢
    have hi1 := hin.1
    have hi2 := hin.2
    have HIN := Lib.hid hin
    clear g1 q1 q6 hv hd0 hin
    go_wp2_with fail
    refine (rCivil_c d0 w2 (by unfold intBd; omega)).mono ?_
    rintro e w3 ⟨y1, m1, d1, k, rfl, hb3, hcase⟩
    obtain ⟨hk, hcv⟩ : k = 0 ∧ CivP d0 y1 m1 d1 := by
      rcases hcase with ⟨_, h1, h2⟩ | ⟨h1, _⟩
      · exact ⟨h1, h2⟩
      · exact absurd HIN.out h1
    obtain ⟨e1, e2, e3⟩ := hcv.uniq hciv.out
    rw [← e1, ← e2] at hlas
    have HC := Lib.hid hcv
    subst hk
    clear hcase hciv e1 e2 e3 hcv
    go_wp2_with fail
    refine (rDays_c y1 m1 w3).mono ?_
    rintro e w4 ⟨rfl, hb4⟩
    have hD := daysI_le y1 m1
    obtain ⟨D, hDD⟩ : ∃ D, daysI y1 m1 = D := ⟨_, rfl⟩
    rw [hDD] at hD hlas ⊢
    clear hDD
    go_wp2_with fail
    go_ret2
    exact ⟨by rw [hf.out, hlas.out]; first | done | rfl, hbb.trans ((hb3.trans (hb4.mono hb3.size)).mono hbb.size)⟩
  · have h1 : (v == 0) = false := by simpa using h0
    have h2 : (v != 0) = true := by simpa using h0
    have hf := Lib.hid (show r = (0, v) by rw [← HR.out]; unfold calLast; rw [hv, if_neg h0])
    rw [show calFirst y m n p = (0, v) from by unfold calFirst; rw [hv, if_neg h0]]
    clear h0 hv
    go_wp2_with fail
    go_ret2
    exact ⟨by rw [hf.out]; first | done | rfl, hbb⟩
end Go.Proofs.Ytnigokmjehemaaa
