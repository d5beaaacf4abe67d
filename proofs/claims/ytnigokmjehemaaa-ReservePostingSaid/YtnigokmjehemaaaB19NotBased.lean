/- Groups: slices.ContainsFunc at a chart. Written by gen_b19.py. -/
import Derived.Test.YtnigokmjehemaaaProg
import Derived.Test.YtnigokmjehemaaaB17Basis
namespace Go.Proofs.Ytnigokmjehemaaa
open Go Go.RowKit
set_option linter.unusedVariables false
set_option linter.unusedSimpArgs false
set_option maxRecDepth 4000
attribute [local go_sem ↓] Go.wp_at_zero Go.wp_at_succ
set_option maxHeartbeats 1000000 in
theorem notBased_c (a : XAccount) (w : World) : Calls Try.prog 163 #[.agg (accL a).toArray] w (Quiet w (.bool (!basedB a))) := by
  obtain ⟨c1, c2, c3, c4⟩ := a
  go_enter Try.func163, Try.ntmps163
  go_upto_region 1 with fail
  have H0 := heap_alloc_new w (.cells #[.int .i64 c1, .int .i64 c2, .int .i64 c3, .int .i64 c4] 157)
  have HB := below1 w (.cells #[.int .i64 c1, .int .i64 c2, .int .i64 c3, .int .i64 c4] 157)
  generalize hW : w.alloc (Obj.cells #[.int .i64 c1, .int .i64 c2, .int .i64 c3, .int .i64 c4] 157) = W at *
  have d0 := blk_cell H0 0
  have d1 := blk_cell H0 1
  have d2 := blk_cell H0 2
  have d3 := blk_cell H0 3
  clear hW H0
  go_wp2_with fail
  refine (based_c ⟨c1, c2, c3, c4⟩ W).mono ?_
  rintro e w2 ⟨rfl, hb2⟩
  go_wp2_with fail
  go_ret
  exact ⟨rfl, HB.trans (hb2.mono HB.size)⟩
end Go.Proofs.Ytnigokmjehemaaa
