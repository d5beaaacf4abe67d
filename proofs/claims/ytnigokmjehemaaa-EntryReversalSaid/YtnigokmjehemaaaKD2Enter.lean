/- A closed fact of the program. Written by gen_d1.py. -/
import Derived.Test.YtnigokmjehemaaaJB14B15
import Derived.Test.YtnigokmjehemaaaRows
import Derived.Test.YtnigokmjehemaaaChecked
import Derived.Test.YtnigokmjehemaaaProg
import Derived.JoinedOf
namespace Go.Proofs.Ytnigokmjehemaaa
open Go
set_option linter.unusedVariables false
theorem jf_enter : Try.pinned.checked.prog.mayEnter = true := by kernel_rfl
end Go.Proofs.Ytnigokmjehemaaa
