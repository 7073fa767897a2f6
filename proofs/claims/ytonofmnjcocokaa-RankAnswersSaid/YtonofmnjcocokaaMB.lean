/- Contracts of the Go functions that the laws reach, each as a plain Lean function: written by xprint.py, a program of this repo. -/
import Derived.Test.YtonofmnjcocokaaM0
import Derived.Test.YtonofmnjcocokaaM1
import Derived.Test.YtonofmnjcocokaaM2
import Derived.Test.YtonofmnjcocokaaM3
import Derived.Test.YtonofmnjcocokaaM4
namespace Go.Proofs.Ytonofmnjcocokaa.M
open Go.RowKit Go.Proofs.YtonofmnjcocokaaW.PrintWords Go.Proofs.YtonofmnjcocokaaW.PrintLast Go.Proofs.YtonofmnjcocokaaW.PrintMore Go.Proofs.Ytonofmnjcocokaa.X
attribute [local go_sem] max2_int min2_int max_two min_two max_three min_three max_four min_four   -- for this text's walks alone
set_option linter.unusedVariables false
set_option linter.unusedSimpArgs false

end Go.Proofs.Ytonofmnjcocokaa.M
