/- Contracts of the Go functions that the laws reach, each as a plain Lean function: written by xprint.py, a program of this repo. -/
import Derived.Test.YtbiiccgheblhpabProg
import Derived.Below
import Derived.Deep.Draws
import Derived.Deep.AppendLies
import Derived.Maps.AppendAt
import Derived.OwnWalk
import Derived.Laws.BytesArg
import Derived.Laws.MakeOwn
import Derived.Laws.OwnMore
import Derived.Deep.OwnRows
import Derived.Tactics
import Derived.Lib.ConvBytes
import Derived.Laws.Slices
import Derived.WalkKit
import Derived.KernelRfl
import Derived.RowKit3
import Derived.Deep.LoopGhost
import Derived.Deep.QuietTactic
import Derived.BigQuiet
import Derived.WideLaws
import Derived.Deep.DeepCutAuto
import Derived.Deep.CutBlock
import Derived.Deep.RegionHeld3
import Derived.Laws.Rows
import Derived.Lib.AppendStr
import Derived.ArgAppend
import Derived.Laws.IdiomCopy
import Derived.OrdersHeld
import Derived.Laws.BitsLemmas
import Derived.RowKit
import Derived.Test.YtbiiccgheblhpabXWords
import Derived.Test.YtbiiccgheblhpabWWords
import Derived.Test.YtbiiccgheblhpabWLast
import Derived.Test.YtbiiccgheblhpabWTab
import Derived.Test.YtbiiccgheblhpabWFour
import Derived.Test.YtbiiccgheblhpabWQPut
import Derived.Test.YtbiiccgheblhpabWApart
import Derived.Test.YtbiiccgheblhpabWArr
import Derived.Test.YtbiiccgheblhpabWZeros
import Derived.Test.YtbiiccgheblhpabWFoot
import Derived.Test.YtbiiccgheblhpabWKept
import Derived.Test.YtbiiccgheblhpabWShare
import Derived.Test.YtbiiccgheblhpabWN
import Derived.Test.YtbiiccgheblhpabWFootNe
import Derived.Test.YtbiiccgheblhpabWAt
import Derived.Test.YtbiiccgheblhpabWEqStruct
import Derived.Test.YtbiiccgheblhpabWRepsOne
import Derived.Test.YtbiiccgheblhpabWInv
import Derived.Test.YtbiiccgheblhpabWInvWords
import Derived.Test.YtbiiccgheblhpabWGuard
import Derived.Test.YtbiiccgheblhpabWNEv
import Derived.Test.YtbiiccgheblhpabWMore
namespace Go.Proofs.Ytbiiccgheblhpab.M
open Go.RowKit Go.Proofs.YtbiiccgheblhpabW.PrintWords Go.Proofs.YtbiiccgheblhpabW.PrintLast Go.Proofs.YtbiiccgheblhpabW.PrintMore Go.Proofs.Ytbiiccgheblhpab.X
attribute [local go_sem] max2_int min2_int max_two min_two max_three min_three max_four min_four   -- for this text's walks alone
set_option linter.unusedVariables false
set_option linter.unusedSimpArgs false



def errW : Option Int → Value
  | none => .nilIface
  | some c => .iface 0 (.int .i64 c)
theorem errW_none : errW none = .nilIface := rfl
theorem errW_some (c : Int) : errW (some c) = .iface 0 (.int .i64 c) := rfl

theorem info3 : (Try.prog.info? 3).map (fun i => (i.zero, i.size, i.bytes)) = some (some (.int .i64 0), 1, 8) := by kernel_rfl
theorem info5 : (Try.prog.info? 5).map (fun i => (i.zero, i.size, i.bytes)) = some (some (.int .u8 0), 1, 1) := by kernel_rfl
theorem info22 : (Try.prog.info? 22).map (fun i => (i.zero, i.size, i.bytes)) = some (some (.int .u64 0), 1, 8) := by kernel_rfl
-- the values' own types

end Go.Proofs.Ytbiiccgheblhpab.M
