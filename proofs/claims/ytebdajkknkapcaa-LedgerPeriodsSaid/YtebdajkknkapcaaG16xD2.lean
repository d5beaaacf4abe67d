/- A closed fact of the program. Written by gen_d1.py. -/
import Derived.Test.YtebdajkknkapcaaG16xB12B14
import Derived.Test.YtebdajkknkapcaaG16xI16
import Derived.Test.YtebdajkknkapcaaRows
import Derived.Test.YtebdajkknkapcaaChecked
import Derived.Test.YtebdajkknkapcaaProg
import Derived.JoinedOf
set_option linter.unusedVariables false
namespace Go.Proofs.Ytebdajkknkapcaa
open Go
theorem jf_enter : Try.pinned.checked.prog.mayEnter = true := by kernel_rfl
end Go.Proofs.Ytebdajkknkapcaa
