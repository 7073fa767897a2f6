/- Contracts of the Go functions that the laws reach, each as a plain Lean function: written by xprint.py, a program of this repo. -/
import Derived.Test.YtnmhnihhlakinacM0
import Derived.Test.YtnmhnihhlakinacM1
import Derived.Test.YtnmhnihhlakinacM2
import Derived.Test.YtnmhnihhlakinacM3
import Derived.Test.YtnmhnihhlakinacM4
import Derived.Test.YtnmhnihhlakinacM5
import Derived.Test.YtnmhnihhlakinacM6
import Derived.Test.YtnmhnihhlakinacM7
import Derived.Test.YtnmhnihhlakinacM8
import Derived.Test.YtnmhnihhlakinacM9
import Derived.Test.YtnmhnihhlakinacM10
import Derived.Test.YtnmhnihhlakinacM11
import Derived.Test.YtnmhnihhlakinacM13
import Derived.Test.YtnmhnihhlakinacM14
namespace Go.Proofs.Ytnmhnihhlakinac.M
open Go.RowKit Go.Proofs.YtnmhnihhlakinacW.PrintWords Go.Proofs.YtnmhnihhlakinacW.PrintLast Go.Proofs.YtnmhnihhlakinacW.PrintMore Go.Proofs.Ytnmhnihhlakinac.X
attribute [local go_sem] max2_int min2_int max_two min_two max_three min_three max_four min_four   -- for this text's walks alone
set_option linter.unusedVariables false
set_option linter.unusedSimpArgs false

end Go.Proofs.Ytnmhnihhlakinac.M
