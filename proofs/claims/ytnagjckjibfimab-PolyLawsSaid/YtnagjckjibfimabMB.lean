/- Contracts of the Go functions that the laws reach, each as a plain Lean function: written by xprint.py, a program of this repo. -/
import Derived.Test.YtnagjckjibfimabM0
import Derived.Test.YtnagjckjibfimabM1
import Derived.Test.YtnagjckjibfimabM2
import Derived.Test.YtnagjckjibfimabM3
import Derived.Test.YtnagjckjibfimabM4
import Derived.Test.YtnagjckjibfimabM5
import Derived.Test.YtnagjckjibfimabM6
namespace Go.Proofs.Ytnagjckjibfimab.M
open Go.RowKit Go.Proofs.YtnagjckjibfimabW.PrintWords Go.Proofs.YtnagjckjibfimabW.PrintLast Go.Proofs.YtnagjckjibfimabW.PrintMore Go.Proofs.Ytnagjckjibfimab.X
attribute [local go_sem] max2_int min2_int max_two min_two max_three min_three max_four min_four   -- for this text's walks alone
set_option linter.unusedVariables false
set_option linter.unusedSimpArgs false

end Go.Proofs.Ytnagjckjibfimab.M
