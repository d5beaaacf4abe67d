/- The walk of the law JournalNil. Written by gen_i18.py. -/
import Derived.Test.YtibiddakakgakaaGreatQdI16A1
set_option linter.unusedVariables false
set_option linter.unusedSimpArgs false
set_option maxRecDepth 4000
attribute [local go_sem ↓] Go.wp_at_zero Go.wp_at_succ
set_option maxHeartbeats 16000000
namespace Go.Proofs.YtibiddakakgakaaGreat
open Go Go.RowKit
theorem Eg:(Tryz.prog.info? 38).map (·.size)=some 2:=by kernel_rfl
end Go.Proofs.YtibiddakakgakaaGreat
