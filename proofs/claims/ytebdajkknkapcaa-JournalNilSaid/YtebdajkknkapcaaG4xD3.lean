/- A closed fact of the program. Written by gen_d1.py. -/
import Derived.Test.YtebdajkknkapcaaG4xB14
import Derived.Test.YtebdajkknkapcaaG4xI16
import Derived.Test.YtebdajkknkapcaaRows
import Derived.Test.YtebdajkknkapcaaChecked
import Derived.Test.YtebdajkknkapcaaProg
import Derived.JoinedOf
namespace Go.Proofs.Ytebdajkknkapcaa
open Go
set_option linter.unusedVariables false
theorem jf_lifts : (Rows.lockBeginningsRow.lifted == Try.pinned.checked.prog.liftsFinal) = true := by kernel_rfl
end Go.Proofs.Ytebdajkknkapcaa
