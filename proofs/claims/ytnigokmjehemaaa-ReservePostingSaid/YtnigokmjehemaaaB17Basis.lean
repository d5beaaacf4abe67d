/- Groups: the basis of an account. Written by gen_b17.py. -/
import Derived.Test.YtnigokmjehemaaaProg
import Derived.Test.YtnigokmjehemaaaB14Region
namespace Go.Proofs.Ytnigokmjehemaaa
open Go Go.RowKit
set_option linter.unusedVariables false
set_option linter.unusedSimpArgs false
set_option maxRecDepth 4000
attribute [local go_sem ↓] Go.wp_at_zero Go.wp_at_succ
def basedB (a : XAccount) : Bool := if a.kind = 1 ∨ a.kind = 2 then decide (a.basis = 1 ∨ a.basis = 3) else if a.kind = 3 then decide (a.basis = 3) else decide (a.basis = 2)
set_option maxHeartbeats 1000000 in
theorem based_c (a : XAccount) (w : World) : Calls Try.prog 164 #[.agg (accL a).toArray] w (Quiet w (.bool (basedB a))) := by
  obtain ⟨r, hr⟩ : ∃ r, basedB a = r := ⟨_, rfl⟩
  rw [hr]
  have HR := Lib.hid hr
  clear hr
  obtain ⟨c1, c2, c3, c4⟩ := a
  go_enter Try.func164, Try.ntmps164
  go_upto_region 1 with fail
  have H0 := heap_alloc_new w (.cells #[.int .i64 c1, .int .i64 c2, .int .i64 c3, .int .i64 c4] 157)
  have HB := below1 w (.cells #[.int .i64 c1, .int .i64 c2, .int .i64 c3, .int .i64 c4] 157)
  generalize hW : w.alloc (Obj.cells #[.int .i64 c1, .int .i64 c2, .int .i64 c3, .int .i64 c4] 157) = W at *
  have d1 := blk_cell H0 1
  have d2 := blk_cell H0 2
  clear hW H0
  by_cases k1 : c2 = 1
  · subst k1
    by_cases b1 : c3 = 1
    · subst b1
      have hf := Lib.hid (show r = true by rw [← HR.out]; unfold basedB; simp)
      go_wp2_with fail
      go_ret
      exact ⟨by rw [hf.out]; first | done | rfl, HB⟩
    · have b1' : (c3 == 1) = false := by simpa using b1
      by_cases b3 : c3 = 3
      · subst b3
        have hf := Lib.hid (show r = true by rw [← HR.out]; unfold basedB; simp)
        go_wp2_with fail
        go_ret
        exact ⟨by rw [hf.out]; first | done | rfl, HB⟩
      · have b3' : (c3 == 3) = false := by simpa using b3
        have hf := Lib.hid (show r = false by rw [← HR.out]; unfold basedB; simp [b1, b3])
        go_wp2_with fail
        go_ret
        exact ⟨by rw [hf.out]; first | done | rfl, HB⟩
  · have k1' : (c2 == 1) = false := by simpa using k1
    by_cases k2 : c2 = 2
    · subst k2
      by_cases b1 : c3 = 1
      · subst b1
        have hf := Lib.hid (show r = true by rw [← HR.out]; unfold basedB; simp)
        go_wp2_with fail
        go_ret
        exact ⟨by rw [hf.out]; first | done | rfl, HB⟩
      · have b1' : (c3 == 1) = false := by simpa using b1
        by_cases b3 : c3 = 3
        · subst b3
          have hf := Lib.hid (show r = true by rw [← HR.out]; unfold basedB; simp)
          go_wp2_with fail
          go_ret
          exact ⟨by rw [hf.out]; first | done | rfl, HB⟩
        · have b3' : (c3 == 3) = false := by simpa using b3
          have hf := Lib.hid (show r = false by rw [← HR.out]; unfold basedB; simp [b1, b3])
          go_wp2_with fail
          go_ret
          exact ⟨by rw [hf.out]; first | done | rfl, HB⟩
    · have k2' : (c2 == 2) = false := by simpa using k2
      by_cases k3 : c2 = 3
      · subst k3
        by_cases b3 : c3 = 3
        · subst b3
          have hf := Lib.hid (show r = true by rw [← HR.out]; unfold basedB; simp)
          go_wp2_with fail
          go_ret
          exact ⟨by rw [hf.out]; first | done | rfl, HB⟩
        · have b3' : (c3 == 3) = false := by simpa using b3
          have hf := Lib.hid (show r = false by rw [← HR.out]; unfold basedB; simp [b3])
          go_wp2_with fail
          go_ret
          exact ⟨by rw [hf.out]; first | done | rfl, HB⟩
      · have k3' : (c2 == 3) = false := by simpa using k3
        by_cases b2 : c3 = 2
        · subst b2
          have hf := Lib.hid (show r = true by rw [← HR.out]; unfold basedB; simp [k1, k2, k3])
          go_wp2_with fail
          go_ret
          exact ⟨by rw [hf.out]; first | done | rfl, HB⟩
        · have b2' : (c3 == 2) = false := by simpa using b2
          have hf := Lib.hid (show r = false by rw [← HR.out]; unfold basedB; simp [k1, k2, k3, b2])
          go_wp2_with fail
          go_ret
          exact ⟨by rw [hf.out]; first | done | rfl, HB⟩
set_option maxHeartbeats 1000000 in
theorem rbasis_c (a : XAccount) (w : World) : Calls Try.prog 127 #[.agg (accL a).toArray] w (Quiet w (.bool (basedB a))) := by
  obtain ⟨r, hr⟩ : ∃ r, basedB a = r := ⟨_, rfl⟩
  rw [hr]
  have HR := Lib.hid hr
  clear hr
  obtain ⟨c1, c2, c3, c4⟩ := a
  go_enter Try.func127, Try.ntmps127
  go_upto_region 1 with fail
  have H0 := heap_alloc_new w (.cells #[.int .i64 c1, .int .i64 c2, .int .i64 c3, .int .i64 c4] 157)
  have HB := below1 w (.cells #[.int .i64 c1, .int .i64 c2, .int .i64 c3, .int .i64 c4] 157)
  generalize hW : w.alloc (Obj.cells #[.int .i64 c1, .int .i64 c2, .int .i64 c3, .int .i64 c4] 157) = W at *
  have d1 := blk_cell H0 1
  have d2 := blk_cell H0 2
  clear hW H0
  by_cases k1 : c2 = 1
  · subst k1
    by_cases b1 : c3 = 1
    · subst b1
      have hf := Lib.hid (show r = true by rw [← HR.out]; unfold basedB; simp)
      go_wp2_with fail
      go_ret
      exact ⟨by rw [hf.out]; first | done | rfl, HB⟩
    · have b1' : (c3 == 1) = false := by simpa using b1
      by_cases b3 : c3 = 3
      · subst b3
        have hf := Lib.hid (show r = true by rw [← HR.out]; unfold basedB; simp)
        go_wp2_with fail
        go_ret
        exact ⟨by rw [hf.out]; first | done | rfl, HB⟩
      · have b3' : (c3 == 3) = false := by simpa using b3
        have hf := Lib.hid (show r = false by rw [← HR.out]; unfold basedB; simp [b1, b3])
        go_wp2_with fail
        go_ret
        exact ⟨by rw [hf.out]; first | done | rfl, HB⟩
  · have k1' : (c2 == 1) = false := by simpa using k1
    by_cases k2 : c2 = 2
    · subst k2
      by_cases b1 : c3 = 1
      · subst b1
        have hf := Lib.hid (show r = true by rw [← HR.out]; unfold basedB; simp)
        go_wp2_with fail
        go_ret
        exact ⟨by rw [hf.out]; first | done | rfl, HB⟩
      · have b1' : (c3 == 1) = false := by simpa using b1
        by_cases b3 : c3 = 3
        · subst b3
          have hf := Lib.hid (show r = true by rw [← HR.out]; unfold basedB; simp)
          go_wp2_with fail
          go_ret
          exact ⟨by rw [hf.out]; first | done | rfl, HB⟩
        · have b3' : (c3 == 3) = false := by simpa using b3
          have hf := Lib.hid (show r = false by rw [← HR.out]; unfold basedB; simp [b1, b3])
          go_wp2_with fail
          go_ret
          exact ⟨by rw [hf.out]; first | done | rfl, HB⟩
    · have k2' : (c2 == 2) = false := by simpa using k2
      by_cases k3 : c2 = 3
      · subst k3
        by_cases b3 : c3 = 3
        · subst b3
          have hf := Lib.hid (show r = true by rw [← HR.out]; unfold basedB; simp)
          go_wp2_with fail
          go_ret
          exact ⟨by rw [hf.out]; first | done | rfl, HB⟩
        · have b3' : (c3 == 3) = false := by simpa using b3
          have hf := Lib.hid (show r = false by rw [← HR.out]; unfold basedB; simp [b3])
          go_wp2_with fail
          go_ret
          exact ⟨by rw [hf.out]; first | done | rfl, HB⟩
      · have k3' : (c2 == 3) = false := by simpa using k3
        by_cases b2 : c3 = 2
        · subst b2
          have hf := Lib.hid (show r = true by rw [← HR.out]; unfold basedB; simp [k1, k2, k3])
          go_wp2_with fail
          go_ret
          exact ⟨by rw [hf.out]; first | done | rfl, HB⟩
        · have b2' : (c3 == 2) = false := by simpa using b2
          have hf := Lib.hid (show r = false by rw [← HR.out]; unfold basedB; simp [k1, k2, k3, b2])
          go_wp2_with fail
          go_ret
          exact ⟨by rw [hf.out]; first | done | rfl, HB⟩
end Go.Proofs.Ytnigokmjehemaaa
