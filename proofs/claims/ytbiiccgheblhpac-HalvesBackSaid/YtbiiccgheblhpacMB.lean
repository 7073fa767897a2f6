/- Contracts of the Go functions that the laws reach, each as a plain Lean function: written by xprint.py, a program of this repo. -/
import Derived.Test.YtbiiccgheblhpacM0
import Derived.Test.YtbiiccgheblhpacM1
import Derived.Test.YtbiiccgheblhpacM2
import Derived.Test.YtbiiccgheblhpacM3
import Derived.Test.YtbiiccgheblhpacM4
import Derived.Test.YtbiiccgheblhpacM5
import Derived.Test.YtbiiccgheblhpacM7
import Derived.Test.YtbiiccgheblhpacM8
namespace Go.Proofs.Ytbiiccgheblhpac.M
open Go.RowKit Go.Proofs.YtbiiccgheblhpacW.PrintWords Go.Proofs.YtbiiccgheblhpacW.PrintLast Go.Proofs.YtbiiccgheblhpacW.PrintMore Go.Proofs.Ytbiiccgheblhpac.X
attribute [local go_sem] max2_int min2_int max_two min_two max_three min_three max_four min_four   -- for this text's walks alone
set_option linter.unusedVariables false
set_option linter.unusedSimpArgs false

end Go.Proofs.Ytbiiccgheblhpac.M
