/- A closed fact of the program. Written by gen_d1.py. -/
import Derived.Test.YtebdajkknkapcaaGreatG15xB14
import Derived.Test.YtebdajkknkapcaaGreatG15xI16
import Derived.Test.YtebdajkknkapcaaGreatRows
import Derived.Test.YtebdajkknkapcaaGreatChecked
import Derived.Test.YtebdajkknkapcaaGreatProg
import Derived.JoinedOf
set_option linter.unusedVariables false
namespace Go.Proofs.YtebdajkknkapcaaGreat
open Go
theorem jf_lifts : (Rows.journalEntitiesRow.lifted == Tryz.pinned.checked.prog.liftsFinal) = true := by kernel_rfl
end Go.Proofs.YtebdajkknkapcaaGreat
