/- Contracts of the Go functions that the laws reach, each as a plain Lean function: written by xprint.py, a program of this repo. -/
import Derived.Test.YtblllcmdnmjghaaM0
import Derived.Test.YtblllcmdnmjghaaM1
import Derived.Test.YtblllcmdnmjghaaM2
import Derived.Test.YtblllcmdnmjghaaM3
import Derived.Test.YtblllcmdnmjghaaM4
import Derived.Test.YtblllcmdnmjghaaM5
import Derived.Test.YtblllcmdnmjghaaM7
namespace Go.Proofs.Ytblllcmdnmjghaa.M
open Go.RowKit Go.Proofs.YtblllcmdnmjghaaW.PrintWords Go.Proofs.YtblllcmdnmjghaaW.PrintLast Go.Proofs.YtblllcmdnmjghaaW.PrintMore Go.Proofs.Ytblllcmdnmjghaa.X
attribute [local go_sem] max2_int min2_int max_two min_two max_three min_three max_four min_four   -- for this text's walks alone
set_option linter.unusedVariables false
set_option linter.unusedSimpArgs false

end Go.Proofs.Ytblllcmdnmjghaa.M
