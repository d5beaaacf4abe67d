/- A closed fact of the program. Written by gen_d1.py. -/
import Derived.Test.YtekelchdbkjjjaaGreatG20xB14
import Derived.Test.YtekelchdbkjjjaaGreatG20xI3I16
import Derived.Test.YtekelchdbkjjjaaGreatRows
import Derived.Test.YtekelchdbkjjjaaGreatChecked
import Derived.Test.YtekelchdbkjjjaaGreatProg
import Derived.JoinedOf
set_option linter.unusedVariables false
namespace Go.Proofs.YtekelchdbkjjjaaGreat
open Go
theorem jf_lifts : (Rows.ledgerTrialRow.lifted == Tryz.pinned.checked.prog.liftsFinal) = true := by kernel_rfl
end Go.Proofs.YtekelchdbkjjjaaGreat
