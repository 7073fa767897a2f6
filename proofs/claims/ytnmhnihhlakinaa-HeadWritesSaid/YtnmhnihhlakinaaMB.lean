/- Contracts of the Go functions that the laws reach, each as a plain Lean function: written by xprint.py, a program of this repo. -/
import Derived.Test.YtnmhnihhlakinaaM0
import Derived.Test.YtnmhnihhlakinaaM1
import Derived.Test.YtnmhnihhlakinaaM2
import Derived.Test.YtnmhnihhlakinaaM3
import Derived.Test.YtnmhnihhlakinaaM4
import Derived.Test.YtnmhnihhlakinaaM5
import Derived.Test.YtnmhnihhlakinaaM6
import Derived.Test.YtnmhnihhlakinaaM7
import Derived.Test.YtnmhnihhlakinaaM9
namespace Go.Proofs.Ytnmhnihhlakinaa.M
open Go.RowKit Go.Proofs.YtnmhnihhlakinaaW.PrintWords Go.Proofs.YtnmhnihhlakinaaW.PrintLast Go.Proofs.YtnmhnihhlakinaaW.PrintMore Go.Proofs.Ytnmhnihhlakinaa.X
attribute [local go_sem] max2_int min2_int max_two min_two max_three min_three max_four min_four   -- for this text's walks alone
set_option linter.unusedVariables false
set_option linter.unusedSimpArgs false

end Go.Proofs.Ytnmhnihhlakinaa.M
