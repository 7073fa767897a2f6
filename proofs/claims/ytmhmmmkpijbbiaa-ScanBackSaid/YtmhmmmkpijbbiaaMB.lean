/- Contracts of the Go functions that the laws reach, each as a plain Lean function: written by xprint.py, a program of this repo. -/
import Derived.Test.YtmhmmmkpijbbiaaM0
import Derived.Test.YtmhmmmkpijbbiaaM1
import Derived.Test.YtmhmmmkpijbbiaaM2
import Derived.Test.YtmhmmmkpijbbiaaM3
import Derived.Test.YtmhmmmkpijbbiaaM4
import Derived.Test.YtmhmmmkpijbbiaaM5
import Derived.Test.YtmhmmmkpijbbiaaM6
import Derived.Test.YtmhmmmkpijbbiaaM7
namespace Go.Proofs.Ytmhmmmkpijbbiaa.M
open Go.RowKit Go.Proofs.YtmhmmmkpijbbiaaW.PrintWords Go.Proofs.YtmhmmmkpijbbiaaW.PrintLast Go.Proofs.YtmhmmmkpijbbiaaW.PrintMore Go.Proofs.Ytmhmmmkpijbbiaa.X
attribute [local go_sem] max2_int min2_int max_two min_two max_three min_three max_four min_four   -- for this text's walks alone
set_option linter.unusedVariables false
set_option linter.unusedSimpArgs false

end Go.Proofs.Ytmhmmmkpijbbiaa.M
