/- A closed fact of the program. Written by gen_d1.py. -/
import Derived.Test.YtibiddakakgakaaGreatQdI16A1
import Derived.Test.YtibiddakakgakaaGreatRows
import Derived.Test.YtibiddakakgakaaGreatChecked
import Derived.JoinedOf
set_option linter.unusedVariables false
set_option maxHeartbeats 16000000
namespace Go.Proofs.YtibiddakakgakaaGreat
open Go
theorem xz:(Rows.translateItemRow.lifted==Tryz.pinned.checked.prog.liftsFinal)=true:=by kernel_rfl
end Go.Proofs.YtibiddakakgakaaGreat
