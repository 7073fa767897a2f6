/- Contracts of the Go functions that the laws reach, each as a plain Lean function: written by xprint.py, a program of this repo. -/
import Derived.Test.YtmhmmmkpijbbiadM0
import Derived.Test.YtmhmmmkpijbbiadM1
import Derived.Test.YtmhmmmkpijbbiadM2
import Derived.Test.YtmhmmmkpijbbiadM3
import Derived.Test.YtmhmmmkpijbbiadM4
import Derived.Test.YtmhmmmkpijbbiadM5
import Derived.Test.YtmhmmmkpijbbiadM6
import Derived.Test.YtmhmmmkpijbbiadM7
import Derived.Test.YtmhmmmkpijbbiadM8
import Derived.Test.YtmhmmmkpijbbiadM9
import Derived.Test.YtmhmmmkpijbbiadM10
import Derived.Test.YtmhmmmkpijbbiadM11
import Derived.Test.YtmhmmmkpijbbiadM12
import Derived.Test.YtmhmmmkpijbbiadM13
namespace Go.Proofs.Ytmhmmmkpijbbiad.M
open Go.RowKit Go.Proofs.YtmhmmmkpijbbiadW.PrintWords Go.Proofs.YtmhmmmkpijbbiadW.PrintLast Go.Proofs.YtmhmmmkpijbbiadW.PrintMore Go.Proofs.Ytmhmmmkpijbbiad.X
attribute [local go_sem] max2_int min2_int max_two min_two max_three min_three max_four min_four   -- for this text's walks alone
set_option linter.unusedVariables false
set_option linter.unusedSimpArgs false

end Go.Proofs.Ytmhmmmkpijbbiad.M
