/- Contracts of the Go functions that the laws reach, each as a plain Lean function: written by xprint.py, a program of this repo. -/
import Derived.Test.YtnagjckjibfimaaM0
import Derived.Test.YtnagjckjibfimaaM1
import Derived.Test.YtnagjckjibfimaaM2
import Derived.Test.YtnagjckjibfimaaM3
import Derived.Test.YtnagjckjibfimaaM4
import Derived.Test.YtnagjckjibfimaaM5
import Derived.Test.YtnagjckjibfimaaM7
import Derived.Test.YtnagjckjibfimaaM8
namespace Go.Proofs.Ytnagjckjibfimaa.M
open Go.RowKit Go.Proofs.YtnagjckjibfimaaW.PrintWords Go.Proofs.YtnagjckjibfimaaW.PrintLast Go.Proofs.YtnagjckjibfimaaW.PrintMore Go.Proofs.Ytnagjckjibfimaa.X
attribute [local go_sem] max2_int min2_int max_two min_two max_three min_three max_four min_four   -- for this text's walks alone
set_option linter.unusedVariables false
set_option linter.unusedSimpArgs false

end Go.Proofs.Ytnagjckjibfimaa.M
