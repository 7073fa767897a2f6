/- Contracts of the Go functions that the laws reach, each as a plain Lean function: written by xprint.py, a program of this repo. -/
import Derived.Test.YtbiiccgheblhpaaM0
import Derived.Test.YtbiiccgheblhpaaM1
import Derived.Test.YtbiiccgheblhpaaM2
import Derived.Test.YtbiiccgheblhpaaM3
import Derived.Test.YtbiiccgheblhpaaM6
namespace Go.Proofs.Ytbiiccgheblhpaa.M
open Go.RowKit Go.Proofs.YtbiiccgheblhpaaW.PrintWords Go.Proofs.YtbiiccgheblhpaaW.PrintLast Go.Proofs.YtbiiccgheblhpaaW.PrintMore Go.Proofs.Ytbiiccgheblhpaa.X
attribute [local go_sem] max2_int min2_int max_two min_two max_three min_three max_four min_four   -- for this text's walks alone
set_option linter.unusedVariables false
set_option linter.unusedSimpArgs false

end Go.Proofs.Ytbiiccgheblhpaa.M
