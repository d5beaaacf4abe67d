/- A closed fact of the program. Written by gen_d1.py. -/
import Derived.Test.YtekelchdbkjjjaaG19xB13B14
import Derived.Test.YtekelchdbkjjjaaG19xI16
import Derived.Test.YtekelchdbkjjjaaRows
import Derived.Test.YtekelchdbkjjjaaChecked
import Derived.Test.YtekelchdbkjjjaaProg
import Derived.JoinedOf
set_option linter.unusedVariables false
namespace Go.Proofs.Ytekelchdbkjjjaa
open Go
theorem jf_make : (Try.pinned.checked.prog.make == some Rows.ledgerOrderRow.make) = true := by kernel_rfl
end Go.Proofs.Ytekelchdbkjjjaa
