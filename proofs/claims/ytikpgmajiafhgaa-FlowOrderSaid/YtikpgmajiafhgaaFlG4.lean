/- flow: alive -/
-- MERGED by wip/tools/merge.py
import Derived.Test.YtikpgmajiafhgaaFlG3
namespace Go.Proofs.Ytikpgmajiafhgaa.Fl
abbrev y1 : Bool := true
abbrev z1 : Bool := false
end Go.Proofs.Ytikpgmajiafhgaa.Fl
/- flow: alive. Written by wip/gen/flal.py. -/
namespace Go.Proofs.Ytikpgmajiafhgaa.Fl
open Go.Shelf
open Go.RowKit Go.Proofs.YtikpgmajiafhgaaW.PrintWords Go.Proofs.YtikpgmajiafhgaaW.PrintLast Go.Proofs.YtikpgmajiafhgaaW.PrintMore Go.Proofs.Ytikpgmajiafhgaa.X Go.Proofs.Ytikpgmajiafhgaa.M
attribute [local go_sem] Oper.semAt_some
set_option linter.unusedVariables false
set_option linter.unusedSimpArgs false

theorem qxalive_19_1 : HeldIn.takeB (HeldIn.regF Try.f8 19) [] [] (Array.replicate 12 false) 0 = true := by kernel_rfl
theorem qxalive_19_2 : HeldIn.takeB (HeldIn.regF Try.f8 19) [] [] #[y1,z1,z1,z1,z1,z1,z1,z1,z1,z1,z1,z1] 1 = true := by kernel_rfl
theorem qxalive_19_3 : HeldIn.takeB (HeldIn.regF Try.f8 19) [] [] #[y1,y1,z1,z1,z1,z1,z1,z1,z1,z1,z1,z1] 2 = true := by kernel_rfl
theorem qxalive_19_4 : HeldIn.takeB (HeldIn.regF Try.f8 19) [] [] #[y1,y1,y1,z1,z1,z1,z1,z1,z1,z1,z1,z1] 3 = true := by kernel_rfl
theorem qxalive_19_5 : HeldIn.oneB (HeldIn.regF Try.f8 19) #[y1,y1,y1,y1,z1,z1,z1,z1,z1,z1,z1,z1] 4 = true := by kernel_rfl
theorem qxalive_19_6 : HeldIn.takeB (HeldIn.regF Try.f8 19) [] [] #[y1,y1,y1,y1,y1,z1,z1,z1,z1,z1,z1,z1] 5 = true := by kernel_rfl
theorem qxalive_19_7 : HeldIn.takeB (HeldIn.regF Try.f8 19) [] [] #[y1,y1,y1,y1,y1,y1,z1,z1,z1,z1,z1,z1] 6 = true := by kernel_rfl
theorem qxalive_19_8 : HeldIn.takeB (HeldIn.regF Try.f8 19) [] [] #[y1,y1,y1,y1,y1,y1,y1,z1,z1,z1,z1,z1] 7 = true := by kernel_rfl
theorem qxalive_19_9 : HeldIn.takeB (HeldIn.regF Try.f8 19) [] [] #[y1,y1,y1,y1,y1,y1,y1,y1,z1,z1,z1,z1] 8 = true := by kernel_rfl
theorem qxalive_19_10 : HeldIn.takeB (HeldIn.regF Try.f8 19) [] [] #[y1,y1,y1,y1,y1,y1,y1,y1,y1,z1,z1,z1] 9 = true := by kernel_rfl
theorem qxalive_19_11 : HeldIn.takeB (HeldIn.regF Try.f8 19) [] [] #[y1,y1,y1,y1,y1,y1,y1,y1,y1,y1,z1,z1] 10 = true := by kernel_rfl
theorem qxalive_19_12 : HeldIn.takeB (HeldIn.regF Try.f8 19) [] [] #[y1,y1,y1,y1,y1,y1,y1,y1,y1,y1,y1,z1] 11 = true := by kernel_rfl
theorem qxalive_19_13 : HeldIn.takeB (HeldIn.regF Try.f8 19) [] [] #[y1,y1,y1,y1,z1,z1,z1,z1,z1,z1,z1,z1] 4 = true := by kernel_rfl
theorem qxalive_23_14 : HeldIn.takeB (HeldIn.regF Try.f8 23) [] [] (Array.replicate 93 false) 0 = true := by kernel_rfl
theorem qxalive_23_15 : HeldIn.takeB (HeldIn.regF Try.f8 23) [] [] #[y1,z1,z1,z1,z1,z1,z1,z1,z1,z1,z1,z1,z1,z1,z1,z1,z1,z1,z1,z1,z1,z1,z1,z1,z1,z1,z1,z1,z1,z1,z1,z1,z1,z1,z1,z1,z1,z1,z1,z1,z1,z1,z1,z1,z1,z1,z1,z1,z1,z1,z1,z1,z1,z1,z1,z1,z1,z1,z1,z1,z1,z1,z1,z1,z1,z1,z1,z1,z1,z1,z1,z1,z1,z1,z1,z1,z1,z1,z1,z1,z1,z1,z1,z1,z1,z1,z1,z1,z1,z1,z1,z1,z1] 1 = true := by kernel_rfl
theorem qxalive_23_16 : HeldIn.takeB (HeldIn.regF Try.f8 23) [] [] #[y1,y1,z1,z1,z1,z1,z1,z1,z1,z1,z1,z1,z1,z1,z1,z1,z1,z1,z1,z1,z1,z1,z1,z1,z1,z1,z1,z1,z1,z1,z1,z1,z1,z1,z1,z1,z1,z1,z1,z1,z1,z1,z1,z1,z1,z1,z1,z1,z1,z1,z1,z1,z1,z1,z1,z1,z1,z1,z1,z1,z1,z1,z1,z1,z1,z1,z1,z1,z1,z1,z1,z1,z1,z1,z1,z1,z1,z1,z1,z1,z1,z1,z1,z1,z1,z1,z1,z1,z1,z1,z1,z1,z1] 2 = true := by kernel_rfl
theorem qxalive_23_17 : HeldIn.takeB (HeldIn.regF Try.f8 23) [] [] #[y1,y1,y1,z1,z1,z1,z1,z1,z1,z1,z1,z1,z1,z1,z1,z1,z1,z1,z1,z1,z1,z1,z1,z1,z1,z1,z1,z1,z1,z1,z1,z1,z1,z1,z1,z1,z1,z1,z1,z1,z1,z1,z1,z1,z1,z1,z1,z1,z1,z1,z1,z1,z1,z1,z1,z1,z1,z1,z1,z1,z1,z1,z1,z1,z1,z1,z1,z1,z1,z1,z1,z1,z1,z1,z1,z1,z1,z1,z1,z1,z1,z1,z1,z1,z1,z1,z1,z1,z1,z1,z1,z1,z1] 3 = true := by kernel_rfl
theorem qxalive_23_18 : HeldIn.takeB (HeldIn.regF Try.f8 23) [] [] #[y1,y1,y1,y1,z1,z1,z1,z1,z1,z1,z1,z1,z1,z1,z1,z1,z1,z1,z1,z1,z1,z1,z1,z1,z1,z1,z1,z1,z1,z1,z1,z1,z1,z1,z1,z1,z1,z1,z1,z1,z1,z1,z1,z1,z1,z1,z1,z1,z1,z1,z1,z1,z1,z1,z1,z1,z1,z1,z1,z1,z1,z1,z1,z1,z1,z1,z1,z1,z1,z1,z1,z1,z1,z1,z1,z1,z1,z1,z1,z1,z1,z1,z1,z1,z1,z1,z1,z1,z1,z1,z1,z1,z1] 4 = true := by kernel_rfl
theorem qxalive_23_19 : HeldIn.takeB (HeldIn.regF Try.f8 23) [] [] #[y1,y1,y1,y1,y1,z1,z1,z1,z1,z1,z1,z1,z1,z1,z1,z1,z1,z1,z1,z1,z1,z1,z1,z1,z1,z1,z1,z1,z1,z1,z1,z1,z1,z1,z1,z1,z1,z1,z1,z1,z1,z1,z1,z1,z1,z1,z1,z1,z1,z1,z1,z1,z1,z1,z1,z1,z1,z1,z1,z1,z1,z1,z1,z1,z1,z1,z1,z1,z1,z1,z1,z1,z1,z1,z1,z1,z1,z1,z1,z1,z1,z1,z1,z1,z1,z1,z1,z1,z1,z1,z1,z1,z1] 5 = true := by kernel_rfl
theorem qxalive_23_20 : HeldIn.takeB (HeldIn.regF Try.f8 23) [] [] #[y1,y1,y1,y1,y1,y1,z1,z1,z1,z1,z1,z1,z1,z1,z1,z1,z1,z1,z1,z1,z1,z1,z1,z1,z1,z1,z1,z1,z1,z1,z1,z1,z1,z1,z1,z1,z1,z1,z1,z1,z1,z1,z1,z1,z1,z1,z1,z1,z1,z1,z1,z1,z1,z1,z1,z1,z1,z1,z1,z1,z1,z1,z1,z1,z1,z1,z1,z1,z1,z1,z1,z1,z1,z1,z1,z1,z1,z1,z1,z1,z1,z1,z1,z1,z1,z1,z1,z1,z1,z1,z1,z1,z1] 6 = true := by kernel_rfl
theorem qxalive_23_21 : HeldIn.takeB (HeldIn.regF Try.f8 23) [] [] #[y1,y1,y1,y1,y1,y1,y1,z1,z1,z1,z1,z1,z1,z1,z1,z1,z1,z1,z1,z1,z1,z1,z1,z1,z1,z1,z1,z1,z1,z1,z1,z1,z1,z1,z1,z1,z1,z1,z1,z1,z1,z1,z1,z1,z1,z1,z1,z1,z1,z1,z1,z1,z1,z1,z1,z1,z1,z1,z1,z1,z1,z1,z1,z1,z1,z1,z1,z1,z1,z1,z1,z1,z1,z1,z1,z1,z1,z1,z1,z1,z1,z1,z1,z1,z1,z1,z1,z1,z1,z1,z1,z1,z1] 7 = true := by kernel_rfl
theorem qxalive_23_22 : HeldIn.takeB (HeldIn.regF Try.f8 23) [] [] #[y1,y1,y1,y1,y1,y1,y1,y1,z1,z1,z1,z1,z1,z1,z1,z1,z1,z1,z1,z1,z1,z1,z1,z1,z1,z1,z1,z1,z1,z1,z1,z1,z1,z1,z1,z1,z1,z1,z1,z1,z1,z1,z1,z1,z1,z1,z1,z1,z1,z1,z1,z1,z1,z1,z1,z1,z1,z1,z1,z1,z1,z1,z1,z1,z1,z1,z1,z1,z1,z1,z1,z1,z1,z1,z1,z1,z1,z1,z1,z1,z1,z1,z1,z1,z1,z1,z1,z1,z1,z1,z1,z1,z1] 8 = true := by kernel_rfl
theorem qxalive_23_23 : HeldIn.takeB (HeldIn.regF Try.f8 23) [] [] #[y1,y1,y1,y1,y1,y1,y1,y1,y1,z1,z1,z1,z1,z1,z1,z1,z1,z1,z1,z1,z1,z1,z1,z1,z1,z1,z1,z1,z1,z1,z1,z1,z1,z1,z1,z1,z1,z1,z1,z1,z1,z1,z1,z1,z1,z1,z1,z1,z1,z1,z1,z1,z1,z1,z1,z1,z1,z1,z1,z1,z1,z1,z1,z1,z1,z1,z1,z1,z1,z1,z1,z1,z1,z1,z1,z1,z1,z1,z1,z1,z1,z1,z1,z1,z1,z1,z1,z1,z1,z1,z1,z1,z1] 9 = true := by kernel_rfl
theorem qxalive_23_24 : HeldIn.takeB (HeldIn.regF Try.f8 23) [] [] #[y1,y1,y1,y1,y1,y1,y1,y1,y1,y1,z1,z1,z1,z1,z1,z1,z1,z1,z1,z1,z1,z1,z1,z1,z1,z1,z1,z1,z1,z1,z1,z1,z1,z1,z1,z1,z1,z1,z1,z1,z1,z1,z1,z1,z1,z1,z1,z1,z1,z1,z1,z1,z1,z1,z1,z1,z1,z1,z1,z1,z1,z1,z1,z1,z1,z1,z1,z1,z1,z1,z1,z1,z1,z1,z1,z1,z1,z1,z1,z1,z1,z1,z1,z1,z1,z1,z1,z1,z1,z1,z1,z1,z1] 10 = true := by kernel_rfl
theorem qxalive_23_25 : HeldIn.takeB (HeldIn.regF Try.f8 23) [] [] #[y1,y1,y1,y1,y1,y1,y1,y1,y1,y1,y1,z1,z1,z1,z1,z1,z1,z1,z1,z1,z1,z1,z1,z1,z1,z1,z1,z1,z1,z1,z1,z1,z1,z1,z1,z1,z1,z1,z1,z1,z1,z1,z1,z1,z1,z1,z1,z1,z1,z1,z1,z1,z1,z1,z1,z1,z1,z1,z1,z1,z1,z1,z1,z1,z1,z1,z1,z1,z1,z1,z1,z1,z1,z1,z1,z1,z1,z1,z1,z1,z1,z1,z1,z1,z1,z1,z1,z1,z1,z1,z1,z1,z1] 11 = true := by kernel_rfl
theorem qxalive_23_26 : HeldIn.takeB (HeldIn.regF Try.f8 23) [] [] #[y1,y1,y1,y1,y1,y1,y1,y1,y1,y1,y1,y1,z1,z1,z1,z1,z1,z1,z1,z1,z1,z1,z1,z1,z1,z1,z1,z1,z1,z1,z1,z1,z1,z1,z1,z1,z1,z1,z1,z1,z1,z1,z1,z1,z1,z1,z1,z1,z1,z1,z1,z1,z1,z1,z1,z1,z1,z1,z1,z1,z1,z1,z1,z1,z1,z1,z1,z1,z1,z1,z1,z1,z1,z1,z1,z1,z1,z1,z1,z1,z1,z1,z1,z1,z1,z1,z1,z1,z1,z1,z1,z1,z1] 12 = true := by kernel_rfl
theorem qxalive_23_27 : HeldIn.takeB (HeldIn.regF Try.f8 23) [] [] #[y1,y1,y1,y1,y1,y1,y1,y1,y1,y1,y1,y1,y1,z1,z1,z1,z1,z1,z1,z1,z1,z1,z1,z1,z1,z1,z1,z1,z1,z1,z1,z1,z1,z1,z1,z1,z1,z1,z1,z1,z1,z1,z1,z1,z1,z1,z1,z1,z1,z1,z1,z1,z1,z1,z1,z1,z1,z1,z1,z1,z1,z1,z1,z1,z1,z1,z1,z1,z1,z1,z1,z1,z1,z1,z1,z1,z1,z1,z1,z1,z1,z1,z1,z1,z1,z1,z1,z1,z1,z1,z1,z1,z1] 13 = true := by kernel_rfl
theorem qxalive_23_28 : HeldIn.takeB (HeldIn.regF Try.f8 23) [] [] #[y1,y1,y1,y1,y1,y1,y1,y1,y1,y1,y1,y1,y1,y1,z1,z1,z1,z1,z1,z1,z1,z1,z1,z1,z1,z1,z1,z1,z1,z1,z1,z1,z1,z1,z1,z1,z1,z1,z1,z1,z1,z1,z1,z1,z1,z1,z1,z1,z1,z1,z1,z1,z1,z1,z1,z1,z1,z1,z1,z1,z1,z1,z1,z1,z1,z1,z1,z1,z1,z1,z1,z1,z1,z1,z1,z1,z1,z1,z1,z1,z1,z1,z1,z1,z1,z1,z1,z1,z1,z1,z1,z1,z1] 14 = true := by kernel_rfl
theorem qxalive_23_29 : HeldIn.takeB (HeldIn.regF Try.f8 23) [] [] #[y1,y1,y1,y1,y1,y1,y1,y1,y1,y1,y1,y1,y1,y1,y1,z1,z1,z1,z1,z1,z1,z1,z1,z1,z1,z1,z1,z1,z1,z1,z1,z1,z1,z1,z1,z1,z1,z1,z1,z1,z1,z1,z1,z1,z1,z1,z1,z1,z1,z1,z1,z1,z1,z1,z1,z1,z1,z1,z1,z1,z1,z1,z1,z1,z1,z1,z1,z1,z1,z1,z1,z1,z1,z1,z1,z1,z1,z1,z1,z1,z1,z1,z1,z1,z1,z1,z1,z1,z1,z1,z1,z1,z1] 15 = true := by kernel_rfl
theorem qxalive_23_30 : HeldIn.takeB (HeldIn.regF Try.f8 23) [] [] #[y1,y1,y1,y1,y1,y1,y1,y1,y1,y1,y1,y1,y1,y1,y1,y1,z1,z1,z1,z1,z1,z1,z1,z1,z1,z1,z1,z1,z1,z1,z1,z1,z1,z1,z1,z1,z1,z1,z1,z1,z1,z1,z1,z1,z1,z1,z1,z1,z1,z1,z1,z1,z1,z1,z1,z1,z1,z1,z1,z1,z1,z1,z1,z1,z1,z1,z1,z1,z1,z1,z1,z1,z1,z1,z1,z1,z1,z1,z1,z1,z1,z1,z1,z1,z1,z1,z1,z1,z1,z1,z1,z1,z1] 16 = true := by kernel_rfl
theorem qxalive_23_31 : HeldIn.takeB (HeldIn.regF Try.f8 23) [] [] #[y1,y1,y1,y1,y1,y1,y1,y1,y1,y1,y1,y1,y1,y1,y1,y1,y1,z1,z1,z1,z1,z1,z1,z1,z1,z1,z1,z1,z1,z1,z1,z1,z1,z1,z1,z1,z1,z1,z1,z1,z1,z1,z1,z1,z1,z1,z1,z1,z1,z1,z1,z1,z1,z1,z1,z1,z1,z1,z1,z1,z1,z1,z1,z1,z1,z1,z1,z1,z1,z1,z1,z1,z1,z1,z1,z1,z1,z1,z1,z1,z1,z1,z1,z1,z1,z1,z1,z1,z1,z1,z1,z1,z1] 17 = true := by kernel_rfl
theorem qxalive_23_32 : HeldIn.oneB (HeldIn.regF Try.f8 23) #[y1,y1,y1,y1,y1,y1,y1,y1,y1,y1,y1,y1,y1,y1,y1,y1,y1,y1,z1,z1,z1,z1,z1,z1,z1,z1,z1,z1,z1,z1,z1,z1,z1,z1,z1,z1,z1,z1,z1,z1,z1,z1,z1,z1,z1,z1,z1,z1,z1,z1,z1,z1,z1,z1,z1,z1,z1,z1,z1,z1,z1,z1,z1,z1,z1,z1,z1,z1,z1,z1,z1,z1,z1,z1,z1,z1,z1,z1,z1,z1,z1,z1,z1,z1,z1,z1,z1,z1,z1,z1,z1,z1,z1] 18 = true := by kernel_rfl
theorem qxalive_23_33 : HeldIn.takeB (HeldIn.regF Try.f8 23) [] [] #[y1,y1,y1,y1,y1,y1,y1,y1,y1,y1,y1,y1,y1,y1,y1,y1,y1,y1,y1,z1,z1,z1,z1,z1,z1,z1,z1,z1,z1,z1,z1,z1,z1,z1,z1,z1,z1,z1,z1,z1,z1,z1,z1,z1,z1,z1,z1,z1,z1,z1,z1,z1,z1,z1,z1,z1,z1,z1,z1,z1,z1,z1,z1,z1,z1,z1,z1,z1,z1,z1,z1,z1,z1,z1,z1,z1,z1,z1,z1,z1,z1,z1,z1,z1,z1,z1,z1,z1,z1,z1,z1,z1,z1] 19 = true := by kernel_rfl
theorem qxalive_23_34 : HeldIn.takeB (HeldIn.regF Try.f8 23) [] [] #[y1,y1,y1,y1,y1,y1,y1,y1,y1,y1,y1,y1,y1,y1,y1,y1,y1,y1,y1,y1,z1,z1,z1,z1,z1,z1,z1,z1,z1,z1,z1,z1,z1,z1,z1,z1,z1,z1,z1,z1,z1,z1,z1,z1,z1,z1,z1,z1,z1,z1,z1,z1,z1,z1,z1,z1,z1,z1,z1,z1,z1,z1,z1,z1,z1,z1,z1,z1,z1,z1,z1,z1,z1,z1,z1,z1,z1,z1,z1,z1,z1,z1,z1,z1,z1,z1,z1,z1,z1,z1,z1,z1,z1] 20 = true := by kernel_rfl
theorem qxalive_23_35 : HeldIn.takeB (HeldIn.regF Try.f8 23) [] [] #[y1,y1,y1,y1,y1,y1,y1,y1,y1,y1,y1,y1,y1,y1,y1,y1,y1,y1,y1,y1,y1,z1,z1,z1,z1,z1,z1,z1,z1,z1,z1,z1,z1,z1,z1,z1,z1,z1,z1,z1,z1,z1,z1,z1,z1,z1,z1,z1,z1,z1,z1,z1,z1,z1,z1,z1,z1,z1,z1,z1,z1,z1,z1,z1,z1,z1,z1,z1,z1,z1,z1,z1,z1,z1,z1,z1,z1,z1,z1,z1,z1,z1,z1,z1,z1,z1,z1,z1,z1,z1,z1,z1,z1] 21 = true := by kernel_rfl
theorem qxalive_23_36 : HeldIn.takeB (HeldIn.regF Try.f8 23) [] [] #[y1,y1,y1,y1,y1,y1,y1,y1,y1,y1,y1,y1,y1,y1,y1,y1,y1,y1,y1,y1,y1,y1,z1,z1,z1,z1,z1,z1,z1,z1,z1,z1,z1,z1,z1,z1,z1,z1,z1,z1,z1,z1,z1,z1,z1,z1,z1,z1,z1,z1,z1,z1,z1,z1,z1,z1,z1,z1,z1,z1,z1,z1,z1,z1,z1,z1,z1,z1,z1,z1,z1,z1,z1,z1,z1,z1,z1,z1,z1,z1,z1,z1,z1,z1,z1,z1,z1,z1,z1,z1,z1,z1,z1] 22 = true := by kernel_rfl
theorem qxalive_23_37 : HeldIn.takeB (HeldIn.regF Try.f8 23) [] [] #[y1,y1,y1,y1,y1,y1,y1,y1,y1,y1,y1,y1,y1,y1,y1,y1,y1,y1,y1,y1,y1,y1,y1,z1,z1,z1,z1,z1,z1,z1,z1,z1,z1,z1,z1,z1,z1,z1,z1,z1,z1,z1,z1,z1,z1,z1,z1,z1,z1,z1,z1,z1,z1,z1,z1,z1,z1,z1,z1,z1,z1,z1,z1,z1,z1,z1,z1,z1,z1,z1,z1,z1,z1,z1,z1,z1,z1,z1,z1,z1,z1,z1,z1,z1,z1,z1,z1,z1,z1,z1,z1,z1,z1] 23 = true := by kernel_rfl
theorem qxalive_23_38 : HeldIn.takeB (HeldIn.regF Try.f8 23) [] [] #[y1,y1,y1,y1,y1,y1,y1,y1,y1,y1,y1,y1,y1,y1,y1,y1,y1,y1,y1,y1,y1,y1,y1,y1,z1,z1,z1,z1,z1,z1,z1,z1,z1,z1,z1,z1,z1,z1,z1,z1,z1,z1,z1,z1,z1,z1,z1,z1,z1,z1,z1,z1,z1,z1,z1,z1,z1,z1,z1,z1,z1,z1,z1,z1,z1,z1,z1,z1,z1,z1,z1,z1,z1,z1,z1,z1,z1,z1,z1,z1,z1,z1,z1,z1,z1,z1,z1,z1,z1,z1,z1,z1,z1] 24 = true := by kernel_rfl
theorem qxalive_23_39 : HeldIn.takeB (HeldIn.regF Try.f8 23) [] [] #[y1,y1,y1,y1,y1,y1,y1,y1,y1,y1,y1,y1,y1,y1,y1,y1,y1,y1,y1,y1,y1,y1,y1,y1,y1,z1,z1,z1,z1,z1,z1,z1,z1,z1,z1,z1,z1,z1,z1,z1,z1,z1,z1,z1,z1,z1,z1,z1,z1,z1,z1,z1,z1,z1,z1,z1,z1,z1,z1,z1,z1,z1,z1,z1,z1,z1,z1,z1,z1,z1,z1,z1,z1,z1,z1,z1,z1,z1,z1,z1,z1,z1,z1,z1,z1,z1,z1,z1,z1,z1,z1,z1,z1] 25 = true := by kernel_rfl
theorem qxalive_23_40 : HeldIn.takeB (HeldIn.regF Try.f8 23) [] [] #[y1,y1,y1,y1,y1,y1,y1,y1,y1,y1,y1,y1,y1,y1,y1,y1,y1,y1,y1,y1,y1,y1,y1,y1,y1,y1,z1,z1,z1,z1,z1,z1,z1,z1,z1,z1,z1,z1,z1,z1,z1,z1,z1,z1,z1,z1,z1,z1,z1,z1,z1,z1,z1,z1,z1,z1,z1,z1,z1,z1,z1,z1,z1,z1,z1,z1,z1,z1,z1,z1,z1,z1,z1,z1,z1,z1,z1,z1,z1,z1,z1,z1,z1,z1,z1,z1,z1,z1,z1,z1,z1,z1,z1] 26 = true := by kernel_rfl
theorem qxalive_23_41 : HeldIn.takeB (HeldIn.regF Try.f8 23) [] [] #[y1,y1,y1,y1,y1,y1,y1,y1,y1,y1,y1,y1,y1,y1,y1,y1,y1,y1,y1,y1,y1,y1,y1,y1,y1,y1,y1,z1,z1,z1,z1,z1,z1,z1,z1,z1,z1,z1,z1,z1,z1,z1,z1,z1,z1,z1,z1,z1,z1,z1,z1,z1,z1,z1,z1,z1,z1,z1,z1,z1,z1,z1,z1,z1,z1,z1,z1,z1,z1,z1,z1,z1,z1,z1,z1,z1,z1,z1,z1,z1,z1,z1,z1,z1,z1,z1,z1,z1,z1,z1,z1,z1,z1] 27 = true := by kernel_rfl
theorem qxalive_23_42 : HeldIn.takeB (HeldIn.regF Try.f8 23) [] [] #[y1,y1,y1,y1,y1,y1,y1,y1,y1,y1,y1,y1,y1,y1,y1,y1,y1,y1,y1,y1,y1,y1,y1,y1,y1,y1,y1,y1,z1,z1,z1,z1,z1,z1,z1,z1,z1,z1,z1,z1,z1,z1,z1,z1,z1,z1,z1,z1,z1,z1,z1,z1,z1,z1,z1,z1,z1,z1,z1,z1,z1,z1,z1,z1,z1,z1,z1,z1,z1,z1,z1,z1,z1,z1,z1,z1,z1,z1,z1,z1,z1,z1,z1,z1,z1,z1,z1,z1,z1,z1,z1,z1,z1] 28 = true := by kernel_rfl
theorem qxalive_23_43 : HeldIn.takeB (HeldIn.regF Try.f8 23) [] [] #[y1,y1,y1,y1,y1,y1,y1,y1,y1,y1,y1,y1,y1,y1,y1,y1,y1,y1,y1,y1,y1,y1,y1,y1,y1,y1,y1,y1,y1,z1,z1,z1,z1,z1,z1,z1,z1,z1,z1,z1,z1,z1,z1,z1,z1,z1,z1,z1,z1,z1,z1,z1,z1,z1,z1,z1,z1,z1,z1,z1,z1,z1,z1,z1,z1,z1,z1,z1,z1,z1,z1,z1,z1,z1,z1,z1,z1,z1,z1,z1,z1,z1,z1,z1,z1,z1,z1,z1,z1,z1,z1,z1,z1] 29 = true := by kernel_rfl
theorem qxalive_23_44 : HeldIn.takeB (HeldIn.regF Try.f8 23) [] [] #[y1,y1,y1,y1,y1,y1,y1,y1,y1,y1,y1,y1,y1,y1,y1,y1,y1,y1,y1,y1,y1,y1,y1,y1,y1,y1,y1,y1,y1,y1,z1,z1,z1,z1,z1,z1,z1,z1,z1,z1,z1,z1,z1,z1,z1,z1,z1,z1,z1,z1,z1,z1,z1,z1,z1,z1,z1,z1,z1,z1,z1,z1,z1,z1,z1,z1,z1,z1,z1,z1,z1,z1,z1,z1,z1,z1,z1,z1,z1,z1,z1,z1,z1,z1,z1,z1,z1,z1,z1,z1,z1,z1,z1] 30 = true := by kernel_rfl
theorem qxalive_23_45 : HeldIn.takeB (HeldIn.regF Try.f8 23) [] [] #[y1,y1,y1,y1,y1,y1,y1,y1,y1,y1,y1,y1,y1,y1,y1,y1,y1,y1,y1,y1,y1,y1,y1,y1,y1,y1,y1,y1,y1,y1,y1,z1,z1,z1,z1,z1,z1,z1,z1,z1,z1,z1,z1,z1,z1,z1,z1,z1,z1,z1,z1,z1,z1,z1,z1,z1,z1,z1,z1,z1,z1,z1,z1,z1,z1,z1,z1,z1,z1,z1,z1,z1,z1,z1,z1,z1,z1,z1,z1,z1,z1,z1,z1,z1,z1,z1,z1,z1,z1,z1,z1,z1,z1] 31 = true := by kernel_rfl
theorem qxalive_23_46 : HeldIn.takeB (HeldIn.regF Try.f8 23) [] [] #[y1,y1,y1,y1,y1,y1,y1,y1,y1,y1,y1,y1,y1,y1,y1,y1,y1,y1,y1,y1,y1,y1,y1,y1,y1,y1,y1,y1,y1,y1,y1,y1,z1,z1,z1,z1,z1,z1,z1,z1,z1,z1,z1,z1,z1,z1,z1,z1,z1,z1,z1,z1,z1,z1,z1,z1,z1,z1,z1,z1,z1,z1,z1,z1,z1,z1,z1,z1,z1,z1,z1,z1,z1,z1,z1,z1,z1,z1,z1,z1,z1,z1,z1,z1,z1,z1,z1,z1,z1,z1,z1,z1,z1] 32 = true := by kernel_rfl
theorem qxalive_23_47 : HeldIn.takeB (HeldIn.regF Try.f8 23) [] [] #[y1,y1,y1,y1,y1,y1,y1,y1,y1,y1,y1,y1,y1,y1,y1,y1,y1,y1,y1,y1,y1,y1,y1,y1,y1,y1,y1,y1,y1,y1,y1,y1,y1,z1,z1,z1,z1,z1,z1,z1,z1,z1,z1,z1,z1,z1,z1,z1,z1,z1,z1,z1,z1,z1,z1,z1,z1,z1,z1,z1,z1,z1,z1,z1,z1,z1,z1,z1,z1,z1,z1,z1,z1,z1,z1,z1,z1,z1,z1,z1,z1,z1,z1,z1,z1,z1,z1,z1,z1,z1,z1,z1,z1] 33 = true := by kernel_rfl
theorem qxalive_23_48 : HeldIn.takeB (HeldIn.regF Try.f8 23) [] [] #[y1,y1,y1,y1,y1,y1,y1,y1,y1,y1,y1,y1,y1,y1,y1,y1,y1,y1,y1,y1,y1,y1,y1,y1,y1,y1,y1,y1,y1,y1,y1,y1,y1,y1,z1,z1,z1,z1,z1,z1,z1,z1,z1,z1,z1,z1,z1,z1,z1,z1,z1,z1,z1,z1,z1,z1,z1,z1,z1,z1,z1,z1,z1,z1,z1,z1,z1,z1,z1,z1,z1,z1,z1,z1,z1,z1,z1,z1,z1,z1,z1,z1,z1,z1,z1,z1,z1,z1,z1,z1,z1,z1,z1] 34 = true := by kernel_rfl
theorem qxalive_23_49 : HeldIn.takeB (HeldIn.regF Try.f8 23) [] [] #[y1,y1,y1,y1,y1,y1,y1,y1,y1,y1,y1,y1,y1,y1,y1,y1,y1,y1,y1,y1,y1,y1,y1,y1,y1,y1,y1,y1,y1,y1,y1,y1,y1,y1,y1,z1,z1,z1,z1,z1,z1,z1,z1,z1,z1,z1,z1,z1,z1,z1,z1,z1,z1,z1,z1,z1,z1,z1,z1,z1,z1,z1,z1,z1,z1,z1,z1,z1,z1,z1,z1,z1,z1,z1,z1,z1,z1,z1,z1,z1,z1,z1,z1,z1,z1,z1,z1,z1,z1,z1,z1,z1,z1] 35 = true := by kernel_rfl
theorem qxalive_23_50 : HeldIn.takeB (HeldIn.regF Try.f8 23) [] [] #[y1,y1,y1,y1,y1,y1,y1,y1,y1,y1,y1,y1,y1,y1,y1,y1,y1,y1,y1,y1,y1,y1,y1,y1,y1,y1,y1,y1,y1,y1,y1,y1,y1,y1,y1,y1,z1,z1,z1,z1,z1,z1,z1,z1,z1,z1,z1,z1,z1,z1,z1,z1,z1,z1,z1,z1,z1,z1,z1,z1,z1,z1,z1,z1,z1,z1,z1,z1,z1,z1,z1,z1,z1,z1,z1,z1,z1,z1,z1,z1,z1,z1,z1,z1,z1,z1,z1,z1,z1,z1,z1,z1,z1] 36 = true := by kernel_rfl
theorem qxalive_23_51 : HeldIn.takeB (HeldIn.regF Try.f8 23) [] [] #[y1,y1,y1,y1,y1,y1,y1,y1,y1,y1,y1,y1,y1,y1,y1,y1,y1,y1,y1,y1,y1,y1,y1,y1,y1,y1,y1,y1,y1,y1,y1,y1,y1,y1,y1,y1,y1,z1,z1,z1,z1,z1,z1,z1,z1,z1,z1,z1,z1,z1,z1,z1,z1,z1,z1,z1,z1,z1,z1,z1,z1,z1,z1,z1,z1,z1,z1,z1,z1,z1,z1,z1,z1,z1,z1,z1,z1,z1,z1,z1,z1,z1,z1,z1,z1,z1,z1,z1,z1,z1,z1,z1,z1] 37 = true := by kernel_rfl
theorem qxalive_23_52 : HeldIn.takeB (HeldIn.regF Try.f8 23) [] [] #[y1,y1,y1,y1,y1,y1,y1,y1,y1,y1,y1,y1,y1,y1,y1,y1,y1,y1,y1,y1,y1,y1,y1,y1,y1,y1,y1,y1,y1,y1,y1,y1,y1,y1,y1,y1,y1,y1,z1,z1,z1,z1,z1,z1,z1,z1,z1,z1,z1,z1,z1,z1,z1,z1,z1,z1,z1,z1,z1,z1,z1,z1,z1,z1,z1,z1,z1,z1,z1,z1,z1,z1,z1,z1,z1,z1,z1,z1,z1,z1,z1,z1,z1,z1,z1,z1,z1,z1,z1,z1,z1,z1,z1] 38 = true := by kernel_rfl
theorem qxalive_23_53 : HeldIn.takeB (HeldIn.regF Try.f8 23) [] [] #[y1,y1,y1,y1,y1,y1,y1,y1,y1,y1,y1,y1,y1,y1,y1,y1,y1,y1,y1,y1,y1,y1,y1,y1,y1,y1,y1,y1,y1,y1,y1,y1,y1,y1,y1,y1,y1,y1,y1,z1,z1,z1,z1,z1,z1,z1,z1,z1,z1,z1,z1,z1,z1,z1,z1,z1,z1,z1,z1,z1,z1,z1,z1,z1,z1,z1,z1,z1,z1,z1,z1,z1,z1,z1,z1,z1,z1,z1,z1,z1,z1,z1,z1,z1,z1,z1,z1,z1,z1,z1,z1,z1,z1] 39 = true := by kernel_rfl
theorem qxalive_23_54 : HeldIn.takeB (HeldIn.regF Try.f8 23) [] [] #[y1,y1,y1,y1,y1,y1,y1,y1,y1,y1,y1,y1,y1,y1,y1,y1,y1,y1,y1,y1,y1,y1,y1,y1,y1,y1,y1,y1,y1,y1,y1,y1,y1,y1,y1,y1,y1,y1,y1,y1,z1,z1,z1,z1,z1,z1,z1,z1,z1,z1,z1,z1,z1,z1,z1,z1,z1,z1,z1,z1,z1,z1,z1,z1,z1,z1,z1,z1,z1,z1,z1,z1,z1,z1,z1,z1,z1,z1,z1,z1,z1,z1,z1,z1,z1,z1,z1,z1,z1,z1,z1,z1,z1] 40 = true := by kernel_rfl
theorem qxalive_23_55 : HeldIn.takeB (HeldIn.regF Try.f8 23) [] [] #[y1,y1,y1,y1,y1,y1,y1,y1,y1,y1,y1,y1,y1,y1,y1,y1,y1,y1,y1,y1,y1,y1,y1,y1,y1,y1,y1,y1,y1,y1,y1,y1,y1,y1,y1,y1,y1,y1,y1,y1,y1,z1,z1,z1,z1,z1,z1,z1,z1,z1,z1,z1,z1,z1,z1,z1,z1,z1,z1,z1,z1,z1,z1,z1,z1,z1,z1,z1,z1,z1,z1,z1,z1,z1,z1,z1,z1,z1,z1,z1,z1,z1,z1,z1,z1,z1,z1,z1,z1,z1,z1,z1,z1] 41 = true := by kernel_rfl
theorem qxalive_23_56 : HeldIn.takeB (HeldIn.regF Try.f8 23) [] [] #[y1,y1,y1,y1,y1,y1,y1,y1,y1,y1,y1,y1,y1,y1,y1,y1,y1,y1,y1,y1,y1,y1,y1,y1,y1,y1,y1,y1,y1,y1,y1,y1,y1,y1,y1,y1,y1,y1,y1,y1,y1,y1,z1,z1,z1,z1,z1,z1,z1,z1,z1,z1,z1,z1,z1,z1,z1,z1,z1,z1,z1,z1,z1,z1,z1,z1,z1,z1,z1,z1,z1,z1,z1,z1,z1,z1,z1,z1,z1,z1,z1,z1,z1,z1,z1,z1,z1,z1,z1,z1,z1,z1,z1] 42 = true := by kernel_rfl
theorem qxalive_23_57 : HeldIn.oneB (HeldIn.regF Try.f8 23) #[y1,y1,y1,y1,y1,y1,y1,y1,y1,y1,y1,y1,y1,y1,y1,y1,y1,y1,y1,y1,y1,y1,y1,y1,y1,y1,y1,y1,y1,y1,y1,y1,y1,y1,y1,y1,y1,y1,y1,y1,y1,y1,y1,z1,z1,z1,z1,z1,z1,z1,z1,z1,z1,z1,z1,z1,z1,z1,z1,z1,z1,z1,z1,z1,z1,z1,z1,z1,z1,z1,z1,z1,z1,z1,z1,z1,z1,z1,z1,z1,z1,z1,z1,z1,z1,z1,z1,z1,z1,z1,z1,z1,z1] 43 = true := by kernel_rfl
theorem qxalive_23_58 : HeldIn.takeB (HeldIn.regF Try.f8 23) [] [] #[y1,y1,y1,y1,y1,y1,y1,y1,y1,y1,y1,y1,y1,y1,y1,y1,y1,y1,y1,y1,y1,y1,y1,y1,y1,y1,y1,y1,y1,y1,y1,y1,y1,y1,y1,y1,y1,y1,y1,y1,y1,y1,y1,y1,z1,z1,z1,z1,z1,z1,z1,z1,z1,z1,z1,z1,z1,z1,z1,z1,z1,z1,z1,z1,z1,z1,z1,z1,z1,z1,z1,z1,z1,z1,z1,z1,z1,z1,z1,z1,z1,z1,z1,z1,z1,z1,z1,z1,z1,z1,z1,z1,z1] 44 = true := by kernel_rfl
theorem qxalive_23_59 : HeldIn.takeB (HeldIn.regF Try.f8 23) [] [] #[y1,y1,y1,y1,y1,y1,y1,y1,y1,y1,y1,y1,y1,y1,y1,y1,y1,y1,y1,y1,y1,y1,y1,y1,y1,y1,y1,y1,y1,y1,y1,y1,y1,y1,y1,y1,y1,y1,y1,y1,y1,y1,y1,y1,y1,z1,z1,z1,z1,z1,z1,z1,z1,z1,z1,z1,z1,z1,z1,z1,z1,z1,z1,z1,z1,z1,z1,z1,z1,z1,z1,z1,z1,z1,z1,z1,z1,z1,z1,z1,z1,z1,z1,z1,z1,z1,z1,z1,z1,z1,z1,z1,z1] 45 = true := by kernel_rfl
theorem qxalive_23_60 : HeldIn.takeB (HeldIn.regF Try.f8 23) [] [] #[y1,y1,y1,y1,y1,y1,y1,y1,y1,y1,y1,y1,y1,y1,y1,y1,y1,y1,y1,y1,y1,y1,y1,y1,y1,y1,y1,y1,y1,y1,y1,y1,y1,y1,y1,y1,y1,y1,y1,y1,y1,y1,y1,y1,y1,y1,z1,z1,z1,z1,z1,z1,z1,z1,z1,z1,z1,z1,z1,z1,z1,z1,z1,z1,z1,z1,z1,z1,z1,z1,z1,z1,z1,z1,z1,z1,z1,z1,z1,z1,z1,z1,z1,z1,z1,z1,z1,z1,z1,z1,z1,z1,z1] 46 = true := by kernel_rfl
theorem qxalive_23_61 : HeldIn.takeB (HeldIn.regF Try.f8 23) [] [] #[y1,y1,y1,y1,y1,y1,y1,y1,y1,y1,y1,y1,y1,y1,y1,y1,y1,y1,y1,y1,y1,y1,y1,y1,y1,y1,y1,y1,y1,y1,y1,y1,y1,y1,y1,y1,y1,y1,y1,y1,y1,y1,y1,y1,y1,y1,y1,z1,z1,z1,z1,z1,z1,z1,z1,z1,z1,z1,z1,z1,z1,z1,z1,z1,z1,z1,z1,z1,z1,z1,z1,z1,z1,z1,z1,z1,z1,z1,z1,z1,z1,z1,z1,z1,z1,z1,z1,z1,z1,z1,z1,z1,z1] 47 = true := by kernel_rfl
theorem qxalive_23_62 : HeldIn.oneB (HeldIn.regF Try.f8 23) #[y1,y1,y1,y1,y1,y1,y1,y1,y1,y1,y1,y1,y1,y1,y1,y1,y1,y1,y1,y1,y1,y1,y1,y1,y1,y1,y1,y1,y1,y1,y1,y1,y1,y1,y1,y1,y1,y1,y1,y1,y1,y1,y1,y1,y1,y1,y1,y1,z1,z1,z1,z1,z1,z1,z1,z1,z1,z1,z1,z1,z1,z1,z1,z1,z1,z1,z1,z1,z1,z1,z1,z1,z1,z1,z1,z1,z1,z1,z1,z1,z1,z1,z1,z1,z1,z1,z1,z1,z1,z1,z1,z1,z1] 48 = true := by kernel_rfl
theorem qxalive_23_63 : HeldIn.takeB (HeldIn.regF Try.f8 23) [] [] #[y1,y1,y1,y1,y1,y1,y1,y1,y1,y1,y1,y1,y1,y1,y1,y1,y1,y1,y1,y1,y1,y1,y1,y1,y1,y1,y1,y1,y1,y1,y1,y1,y1,y1,y1,y1,y1,y1,y1,y1,y1,y1,y1,y1,y1,y1,y1,y1,y1,z1,z1,z1,z1,z1,z1,z1,z1,z1,z1,z1,z1,z1,z1,z1,z1,z1,z1,z1,z1,z1,z1,z1,z1,z1,z1,z1,z1,z1,z1,z1,z1,z1,z1,z1,z1,z1,z1,z1,z1,z1,z1,z1,z1] 49 = true := by kernel_rfl
theorem qxalive_23_64 : HeldIn.takeB (HeldIn.regF Try.f8 23) [] [] #[y1,y1,y1,y1,y1,y1,y1,y1,y1,y1,y1,y1,y1,y1,y1,y1,y1,y1,y1,y1,y1,y1,y1,y1,y1,y1,y1,y1,y1,y1,y1,y1,y1,y1,y1,y1,y1,y1,y1,y1,y1,y1,y1,y1,y1,y1,y1,y1,y1,y1,z1,z1,z1,z1,z1,z1,z1,z1,z1,z1,z1,z1,z1,z1,z1,z1,z1,z1,z1,z1,z1,z1,z1,z1,z1,z1,z1,z1,z1,z1,z1,z1,z1,z1,z1,z1,z1,z1,z1,z1,z1,z1,z1] 50 = true := by kernel_rfl
theorem qxalive_23_65 : HeldIn.takeB (HeldIn.regF Try.f8 23) [] [] #[y1,y1,y1,y1,y1,y1,y1,y1,y1,y1,y1,y1,y1,y1,y1,y1,y1,y1,y1,y1,y1,y1,y1,y1,y1,y1,y1,y1,y1,y1,y1,y1,y1,y1,y1,y1,y1,y1,y1,y1,y1,y1,y1,y1,y1,y1,y1,y1,y1,y1,y1,z1,z1,z1,z1,z1,z1,z1,z1,z1,z1,z1,z1,z1,z1,z1,z1,z1,z1,z1,z1,z1,z1,z1,z1,z1,z1,z1,z1,z1,z1,z1,z1,z1,z1,z1,z1,z1,z1,z1,z1,z1,z1] 51 = true := by kernel_rfl
theorem qxalive_23_66 : HeldIn.takeB (HeldIn.regF Try.f8 23) [] [] #[y1,y1,y1,y1,y1,y1,y1,y1,y1,y1,y1,y1,y1,y1,y1,y1,y1,y1,y1,y1,y1,y1,y1,y1,y1,y1,y1,y1,y1,y1,y1,y1,y1,y1,y1,y1,y1,y1,y1,y1,y1,y1,y1,y1,y1,y1,y1,y1,y1,y1,y1,y1,z1,z1,z1,z1,z1,z1,z1,z1,z1,z1,z1,z1,z1,z1,z1,z1,z1,z1,z1,z1,z1,z1,z1,z1,z1,z1,z1,z1,z1,z1,z1,z1,z1,z1,z1,z1,z1,z1,z1,z1,z1] 52 = true := by kernel_rfl
theorem qxalive_23_67 : HeldIn.takeB (HeldIn.regF Try.f8 23) [] [] #[y1,y1,y1,y1,y1,y1,y1,y1,y1,y1,y1,y1,y1,y1,y1,y1,y1,y1,y1,y1,y1,y1,y1,y1,y1,y1,y1,y1,y1,y1,y1,y1,y1,y1,y1,y1,y1,y1,y1,y1,y1,y1,y1,y1,y1,y1,y1,y1,y1,y1,y1,y1,y1,z1,z1,z1,z1,z1,z1,z1,z1,z1,z1,z1,z1,z1,z1,z1,z1,z1,z1,z1,z1,z1,z1,z1,z1,z1,z1,z1,z1,z1,z1,z1,z1,z1,z1,z1,z1,z1,z1,z1,z1] 53 = true := by kernel_rfl
theorem qxalive_23_68 : HeldIn.takeB (HeldIn.regF Try.f8 23) [] [] #[y1,y1,y1,y1,y1,y1,y1,y1,y1,y1,y1,y1,y1,y1,y1,y1,y1,y1,y1,y1,y1,y1,y1,y1,y1,y1,y1,y1,y1,y1,y1,y1,y1,y1,y1,y1,y1,y1,y1,y1,y1,y1,y1,y1,y1,y1,y1,y1,y1,y1,y1,y1,y1,y1,z1,z1,z1,z1,z1,z1,z1,z1,z1,z1,z1,z1,z1,z1,z1,z1,z1,z1,z1,z1,z1,z1,z1,z1,z1,z1,z1,z1,z1,z1,z1,z1,z1,z1,z1,z1,z1,z1,z1] 54 = true := by kernel_rfl
theorem qxalive_23_69 : HeldIn.takeB (HeldIn.regF Try.f8 23) [] [] #[y1,y1,y1,y1,y1,y1,y1,y1,y1,y1,y1,y1,y1,y1,y1,y1,y1,y1,y1,y1,y1,y1,y1,y1,y1,y1,y1,y1,y1,y1,y1,y1,y1,y1,y1,y1,y1,y1,y1,y1,y1,y1,y1,y1,y1,y1,y1,y1,y1,y1,y1,y1,y1,y1,y1,z1,z1,z1,z1,z1,z1,z1,z1,z1,z1,z1,z1,z1,z1,z1,z1,z1,z1,z1,z1,z1,z1,z1,z1,z1,z1,z1,z1,z1,z1,z1,z1,z1,z1,z1,z1,z1,z1] 55 = true := by kernel_rfl
theorem qxalive_23_70 : HeldIn.takeB (HeldIn.regF Try.f8 23) [] [] #[y1,y1,y1,y1,y1,y1,y1,y1,y1,y1,y1,y1,y1,y1,y1,y1,y1,y1,y1,y1,y1,y1,y1,y1,y1,y1,y1,y1,y1,y1,y1,y1,y1,y1,y1,y1,y1,y1,y1,y1,y1,y1,y1,y1,y1,y1,y1,y1,y1,y1,y1,y1,y1,y1,y1,y1,z1,z1,z1,z1,z1,z1,z1,z1,z1,z1,z1,z1,z1,z1,z1,z1,z1,z1,z1,z1,z1,z1,z1,z1,z1,z1,z1,z1,z1,z1,z1,z1,z1,z1,z1,z1,z1] 56 = true := by kernel_rfl
theorem qxalive_23_71 : HeldIn.oneB (HeldIn.regF Try.f8 23) #[y1,y1,y1,y1,y1,y1,y1,y1,y1,y1,y1,y1,y1,y1,y1,y1,y1,y1,y1,y1,y1,y1,y1,y1,y1,y1,y1,y1,y1,y1,y1,y1,y1,y1,y1,y1,y1,y1,y1,y1,y1,y1,y1,y1,y1,y1,y1,y1,y1,y1,y1,y1,y1,y1,y1,y1,y1,z1,z1,z1,z1,z1,z1,z1,z1,z1,z1,z1,z1,z1,z1,z1,z1,z1,z1,z1,z1,z1,z1,z1,z1,z1,z1,z1,z1,z1,z1,z1,z1,z1,z1,z1,z1] 57 = true := by kernel_rfl
theorem qxalive_23_72 : HeldIn.takeB (HeldIn.regF Try.f8 23) [] [] #[y1,y1,y1,y1,y1,y1,y1,y1,y1,y1,y1,y1,y1,y1,y1,y1,y1,y1,y1,y1,y1,y1,y1,y1,y1,y1,y1,y1,y1,y1,y1,y1,y1,y1,y1,y1,y1,y1,y1,y1,y1,y1,y1,y1,y1,y1,y1,y1,y1,y1,y1,y1,y1,y1,y1,y1,y1,y1,z1,z1,z1,z1,z1,z1,z1,z1,z1,z1,z1,z1,z1,z1,z1,z1,z1,z1,z1,z1,z1,z1,z1,z1,z1,z1,z1,z1,z1,z1,z1,z1,z1,z1,z1] 58 = true := by kernel_rfl
theorem qxalive_23_73 : HeldIn.takeB (HeldIn.regF Try.f8 23) [] [] #[y1,y1,y1,y1,y1,y1,y1,y1,y1,y1,y1,y1,y1,y1,y1,y1,y1,y1,y1,y1,y1,y1,y1,y1,y1,y1,y1,y1,y1,y1,y1,y1,y1,y1,y1,y1,y1,y1,y1,y1,y1,y1,y1,y1,y1,y1,y1,y1,y1,y1,y1,y1,y1,y1,y1,y1,y1,y1,y1,z1,z1,z1,z1,z1,z1,z1,z1,z1,z1,z1,z1,z1,z1,z1,z1,z1,z1,z1,z1,z1,z1,z1,z1,z1,z1,z1,z1,z1,z1,z1,z1,z1,z1] 59 = true := by kernel_rfl
theorem qxalive_23_74 : HeldIn.takeB (HeldIn.regF Try.f8 23) [] [] #[y1,y1,y1,y1,y1,y1,y1,y1,y1,y1,y1,y1,y1,y1,y1,y1,y1,y1,y1,y1,y1,y1,y1,y1,y1,y1,y1,y1,y1,y1,y1,y1,y1,y1,y1,y1,y1,y1,y1,y1,y1,y1,y1,y1,y1,y1,y1,y1,y1,y1,y1,y1,y1,y1,y1,y1,y1,y1,y1,y1,z1,z1,z1,z1,z1,z1,z1,z1,z1,z1,z1,z1,z1,z1,z1,z1,z1,z1,z1,z1,z1,z1,z1,z1,z1,z1,z1,z1,z1,z1,z1,z1,z1] 60 = true := by kernel_rfl
theorem qxalive_23_75 : HeldIn.takeB (HeldIn.regF Try.f8 23) [] [] #[y1,y1,y1,y1,y1,y1,y1,y1,y1,y1,y1,y1,y1,y1,y1,y1,y1,y1,y1,y1,y1,y1,y1,y1,y1,y1,y1,y1,y1,y1,y1,y1,y1,y1,y1,y1,y1,y1,y1,y1,y1,y1,y1,y1,y1,y1,y1,y1,y1,y1,y1,y1,y1,y1,y1,y1,y1,y1,y1,y1,y1,z1,z1,z1,z1,z1,z1,z1,z1,z1,z1,z1,z1,z1,z1,z1,z1,z1,z1,z1,z1,z1,z1,z1,z1,z1,z1,z1,z1,z1,z1,z1,z1] 61 = true := by kernel_rfl
theorem qxalive_23_76 : HeldIn.oneB (HeldIn.regF Try.f8 23) #[y1,y1,y1,y1,y1,y1,y1,y1,y1,y1,y1,y1,y1,y1,y1,y1,y1,y1,y1,y1,y1,y1,y1,y1,y1,y1,y1,y1,y1,y1,y1,y1,y1,y1,y1,y1,y1,y1,y1,y1,y1,y1,y1,y1,y1,y1,y1,y1,y1,y1,y1,y1,y1,y1,y1,y1,y1,y1,y1,y1,y1,y1,z1,z1,z1,z1,z1,z1,z1,z1,z1,z1,z1,z1,z1,z1,z1,z1,z1,z1,z1,z1,z1,z1,z1,z1,z1,z1,z1,z1,z1,z1,z1] 62 = true := by kernel_rfl
theorem qxalive_23_77 : HeldIn.takeB (HeldIn.regF Try.f8 23) [] [] #[y1,y1,y1,y1,y1,y1,y1,y1,y1,y1,y1,y1,y1,y1,y1,y1,y1,y1,y1,y1,y1,y1,y1,y1,y1,y1,y1,y1,y1,y1,y1,y1,y1,y1,y1,y1,y1,y1,y1,y1,y1,y1,y1,y1,y1,y1,y1,y1,y1,y1,y1,y1,y1,y1,y1,y1,y1,y1,y1,y1,y1,y1,y1,z1,z1,z1,z1,z1,z1,z1,z1,z1,z1,z1,z1,z1,z1,z1,z1,z1,z1,z1,z1,z1,z1,z1,z1,z1,z1,z1,z1,z1,z1] 63 = true := by kernel_rfl
theorem qxalive_23_78 : HeldIn.takeB (HeldIn.regF Try.f8 23) [] [] #[y1,y1,y1,y1,y1,y1,y1,y1,y1,y1,y1,y1,y1,y1,y1,y1,y1,y1,y1,y1,y1,y1,y1,y1,y1,y1,y1,y1,y1,y1,y1,y1,y1,y1,y1,y1,y1,y1,y1,y1,y1,y1,y1,y1,y1,y1,y1,y1,y1,y1,y1,y1,y1,y1,y1,y1,y1,y1,y1,y1,y1,y1,y1,y1,z1,z1,z1,z1,z1,z1,z1,z1,z1,z1,z1,z1,z1,z1,z1,z1,z1,z1,z1,z1,z1,z1,z1,z1,z1,z1,z1,z1,z1] 64 = true := by kernel_rfl
theorem qxalive_23_79 : HeldIn.takeB (HeldIn.regF Try.f8 23) [] [] #[y1,y1,y1,y1,y1,y1,y1,y1,y1,y1,y1,y1,y1,y1,y1,y1,y1,y1,y1,y1,y1,y1,y1,y1,y1,y1,y1,y1,y1,y1,y1,y1,y1,y1,y1,y1,y1,y1,y1,y1,y1,y1,y1,y1,y1,y1,y1,y1,y1,y1,y1,y1,y1,y1,y1,y1,y1,y1,y1,y1,y1,y1,y1,y1,y1,z1,z1,z1,z1,z1,z1,z1,z1,z1,z1,z1,z1,z1,z1,z1,z1,z1,z1,z1,z1,z1,z1,z1,z1,z1,z1,z1,z1] 65 = true := by kernel_rfl
theorem qxalive_23_80 : HeldIn.takeB (HeldIn.regF Try.f8 23) [] [] #[y1,y1,y1,y1,y1,y1,y1,y1,y1,y1,y1,y1,y1,y1,y1,y1,y1,y1,y1,y1,y1,y1,y1,y1,y1,y1,y1,y1,y1,y1,y1,y1,y1,y1,y1,y1,y1,y1,y1,y1,y1,y1,y1,y1,y1,y1,y1,y1,y1,y1,y1,y1,y1,y1,y1,y1,y1,y1,y1,y1,y1,y1,y1,y1,y1,y1,z1,z1,z1,z1,z1,z1,z1,z1,z1,z1,z1,z1,z1,z1,z1,z1,z1,z1,z1,z1,z1,z1,z1,z1,z1,z1,z1] 66 = true := by kernel_rfl
theorem qxalive_23_81 : HeldIn.oneB (HeldIn.regF Try.f8 23) #[y1,y1,y1,y1,y1,y1,y1,y1,y1,y1,y1,y1,y1,y1,y1,y1,y1,y1,y1,y1,y1,y1,y1,y1,y1,y1,y1,y1,y1,y1,y1,y1,y1,y1,y1,y1,y1,y1,y1,y1,y1,y1,y1,y1,y1,y1,y1,y1,y1,y1,y1,y1,y1,y1,y1,y1,y1,y1,y1,y1,y1,y1,y1,y1,y1,y1,y1,z1,z1,z1,z1,z1,z1,z1,z1,z1,z1,z1,z1,z1,z1,z1,z1,z1,z1,z1,z1,z1,z1,z1,z1,z1,z1] 67 = true := by kernel_rfl
theorem qxalive_23_82 : HeldIn.takeB (HeldIn.regF Try.f8 23) [] [] #[y1,y1,y1,y1,y1,y1,y1,y1,y1,y1,y1,y1,y1,y1,y1,y1,y1,y1,y1,y1,y1,y1,y1,y1,y1,y1,y1,y1,y1,y1,y1,y1,y1,y1,y1,y1,y1,y1,y1,y1,y1,y1,y1,y1,y1,y1,y1,y1,y1,y1,y1,y1,y1,y1,y1,y1,y1,y1,y1,y1,y1,y1,y1,y1,y1,y1,y1,y1,z1,z1,z1,z1,z1,z1,z1,z1,z1,z1,z1,z1,z1,z1,z1,z1,z1,z1,z1,z1,z1,z1,z1,z1,z1] 68 = true := by kernel_rfl
theorem qxalive_23_83 : HeldIn.takeB (HeldIn.regF Try.f8 23) [] [] #[y1,y1,y1,y1,y1,y1,y1,y1,y1,y1,y1,y1,y1,y1,y1,y1,y1,y1,y1,y1,y1,y1,y1,y1,y1,y1,y1,y1,y1,y1,y1,y1,y1,y1,y1,y1,y1,y1,y1,y1,y1,y1,y1,y1,y1,y1,y1,y1,y1,y1,y1,y1,y1,y1,y1,y1,y1,y1,y1,y1,y1,y1,y1,y1,y1,y1,y1,y1,y1,z1,z1,z1,z1,z1,z1,z1,z1,z1,z1,z1,z1,z1,z1,z1,z1,z1,z1,z1,z1,z1,z1,z1,z1] 69 = true := by kernel_rfl
theorem qxalive_23_84 : HeldIn.takeB (HeldIn.regF Try.f8 23) [] [] #[y1,y1,y1,y1,y1,y1,y1,y1,y1,y1,y1,y1,y1,y1,y1,y1,y1,y1,y1,y1,y1,y1,y1,y1,y1,y1,y1,y1,y1,y1,y1,y1,y1,y1,y1,y1,y1,y1,y1,y1,y1,y1,y1,y1,y1,y1,y1,y1,y1,y1,y1,y1,y1,y1,y1,y1,y1,y1,y1,y1,y1,y1,y1,y1,y1,y1,y1,y1,y1,y1,z1,z1,z1,z1,z1,z1,z1,z1,z1,z1,z1,z1,z1,z1,z1,z1,z1,z1,z1,z1,z1,z1,z1] 70 = true := by kernel_rfl
theorem qxalive_23_85 : HeldIn.takeB (HeldIn.regF Try.f8 23) [] [] #[y1,y1,y1,y1,y1,y1,y1,y1,y1,y1,y1,y1,y1,y1,y1,y1,y1,y1,y1,y1,y1,y1,y1,y1,y1,y1,y1,y1,y1,y1,y1,y1,y1,y1,y1,y1,y1,y1,y1,y1,y1,y1,y1,y1,y1,y1,y1,y1,y1,y1,y1,y1,y1,y1,y1,y1,y1,y1,y1,y1,y1,y1,y1,y1,y1,y1,y1,y1,y1,y1,y1,z1,z1,z1,z1,z1,z1,z1,z1,z1,z1,z1,z1,z1,z1,z1,z1,z1,z1,z1,z1,z1,z1] 71 = true := by kernel_rfl
theorem qxalive_23_86 : HeldIn.oneB (HeldIn.regF Try.f8 23) #[y1,y1,y1,y1,y1,y1,y1,y1,y1,y1,y1,y1,y1,y1,y1,y1,y1,y1,y1,y1,y1,y1,y1,y1,y1,y1,y1,y1,y1,y1,y1,y1,y1,y1,y1,y1,y1,y1,y1,y1,y1,y1,y1,y1,y1,y1,y1,y1,y1,y1,y1,y1,y1,y1,y1,y1,y1,y1,y1,y1,y1,y1,y1,y1,y1,y1,y1,y1,y1,y1,y1,y1,z1,z1,z1,z1,z1,z1,z1,z1,z1,z1,z1,z1,z1,z1,z1,z1,z1,z1,z1,z1,z1] 72 = true := by kernel_rfl
theorem qxalive_23_87 : HeldIn.takeB (HeldIn.regF Try.f8 23) [] [] #[y1,y1,y1,y1,y1,y1,y1,y1,y1,y1,y1,y1,y1,y1,y1,y1,y1,y1,y1,y1,y1,y1,y1,y1,y1,y1,y1,y1,y1,y1,y1,y1,y1,y1,y1,y1,y1,y1,y1,y1,y1,y1,y1,y1,y1,y1,y1,y1,y1,y1,y1,y1,y1,y1,y1,y1,y1,y1,y1,y1,y1,y1,y1,y1,y1,y1,y1,y1,y1,y1,y1,y1,y1,z1,z1,z1,z1,z1,z1,z1,z1,z1,z1,z1,z1,z1,z1,z1,z1,z1,z1,z1,z1] 73 = true := by kernel_rfl
theorem qxalive_23_88 : HeldIn.takeB (HeldIn.regF Try.f8 23) [] [] #[y1,y1,y1,y1,y1,y1,y1,y1,y1,y1,y1,y1,y1,y1,y1,y1,y1,y1,y1,y1,y1,y1,y1,y1,y1,y1,y1,y1,y1,y1,y1,y1,y1,y1,y1,y1,y1,y1,y1,y1,y1,y1,y1,y1,y1,y1,y1,y1,y1,y1,y1,y1,y1,y1,y1,y1,y1,y1,y1,y1,y1,y1,y1,y1,y1,y1,y1,y1,y1,y1,y1,y1,y1,y1,z1,z1,z1,z1,z1,z1,z1,z1,z1,z1,z1,z1,z1,z1,z1,z1,z1,z1,z1] 74 = true := by kernel_rfl
theorem qxalive_23_89 : HeldIn.takeB (HeldIn.regF Try.f8 23) [] [] #[y1,y1,y1,y1,y1,y1,y1,y1,y1,y1,y1,y1,y1,y1,y1,y1,y1,y1,y1,y1,y1,y1,y1,y1,y1,y1,y1,y1,y1,y1,y1,y1,y1,y1,y1,y1,y1,y1,y1,y1,y1,y1,y1,y1,y1,y1,y1,y1,y1,y1,y1,y1,y1,y1,y1,y1,y1,y1,y1,y1,y1,y1,y1,y1,y1,y1,y1,y1,y1,y1,y1,y1,y1,y1,y1,z1,z1,z1,z1,z1,z1,z1,z1,z1,z1,z1,z1,z1,z1,z1,z1,z1,z1] 75 = true := by kernel_rfl
theorem qxalive_23_90 : HeldIn.takeB (HeldIn.regF Try.f8 23) [] [] #[y1,y1,y1,y1,y1,y1,y1,y1,y1,y1,y1,y1,y1,y1,y1,y1,y1,y1,y1,y1,y1,y1,y1,y1,y1,y1,y1,y1,y1,y1,y1,y1,y1,y1,y1,y1,y1,y1,y1,y1,y1,y1,y1,y1,y1,y1,y1,y1,y1,y1,y1,y1,y1,y1,y1,y1,y1,y1,y1,y1,y1,y1,y1,y1,y1,y1,y1,y1,y1,y1,y1,y1,y1,y1,y1,y1,z1,z1,z1,z1,z1,z1,z1,z1,z1,z1,z1,z1,z1,z1,z1,z1,z1] 76 = true := by kernel_rfl
theorem qxalive_23_91 : HeldIn.takeB (HeldIn.regF Try.f8 23) [] [] #[y1,y1,y1,y1,y1,y1,y1,y1,y1,y1,y1,y1,y1,y1,y1,y1,y1,y1,y1,y1,y1,y1,y1,y1,y1,y1,y1,y1,y1,y1,y1,y1,y1,y1,y1,y1,y1,y1,y1,y1,y1,y1,y1,y1,y1,y1,y1,y1,y1,y1,y1,y1,y1,y1,y1,y1,y1,y1,y1,y1,y1,y1,y1,y1,y1,y1,y1,y1,y1,y1,y1,y1,y1,y1,y1,y1,y1,z1,z1,z1,z1,z1,z1,z1,z1,z1,z1,z1,z1,z1,z1,z1,z1] 77 = true := by kernel_rfl
theorem qxalive_23_92 : HeldIn.takeB (HeldIn.regF Try.f8 23) [] [] #[y1,y1,y1,y1,y1,y1,y1,y1,y1,y1,y1,y1,y1,y1,y1,y1,y1,y1,y1,y1,y1,y1,y1,y1,y1,y1,y1,y1,y1,y1,y1,y1,y1,y1,y1,y1,y1,y1,y1,y1,y1,y1,y1,y1,y1,y1,y1,y1,y1,y1,y1,y1,y1,y1,y1,y1,y1,y1,y1,y1,y1,y1,y1,y1,y1,y1,y1,y1,y1,y1,y1,y1,y1,y1,y1,y1,y1,y1,z1,z1,z1,z1,z1,z1,z1,z1,z1,z1,z1,z1,z1,z1,z1] 78 = true := by kernel_rfl
theorem qxalive_23_93 : HeldIn.takeB (HeldIn.regF Try.f8 23) [] [] #[y1,y1,y1,y1,y1,y1,y1,y1,y1,y1,y1,y1,y1,y1,y1,y1,y1,y1,y1,y1,y1,y1,y1,y1,y1,y1,y1,y1,y1,y1,y1,y1,y1,y1,y1,y1,y1,y1,y1,y1,y1,y1,y1,y1,y1,y1,y1,y1,y1,y1,y1,y1,y1,y1,y1,y1,y1,y1,y1,y1,y1,y1,y1,y1,y1,y1,y1,y1,y1,y1,y1,y1,y1,y1,y1,y1,y1,y1,y1,z1,z1,z1,z1,z1,z1,z1,z1,z1,z1,z1,z1,z1,z1] 79 = true := by kernel_rfl
theorem qxalive_23_94 : HeldIn.takeB (HeldIn.regF Try.f8 23) [] [] #[y1,y1,y1,y1,y1,y1,y1,y1,y1,y1,y1,y1,y1,y1,y1,y1,y1,y1,y1,y1,y1,y1,y1,y1,y1,y1,y1,y1,y1,y1,y1,y1,y1,y1,y1,y1,y1,y1,y1,y1,y1,y1,y1,y1,y1,y1,y1,y1,y1,y1,y1,y1,y1,y1,y1,y1,y1,y1,y1,y1,y1,y1,y1,y1,y1,y1,y1,y1,y1,y1,y1,y1,y1,y1,y1,y1,y1,y1,y1,y1,z1,z1,z1,z1,z1,z1,z1,z1,z1,z1,z1,z1,z1] 80 = true := by kernel_rfl
theorem qxalive_23_95 : HeldIn.takeB (HeldIn.regF Try.f8 23) [] [] #[y1,y1,y1,y1,y1,y1,y1,y1,y1,y1,y1,y1,y1,y1,y1,y1,y1,y1,y1,y1,y1,y1,y1,y1,y1,y1,y1,y1,y1,y1,y1,y1,y1,y1,y1,y1,y1,y1,y1,y1,y1,y1,y1,y1,y1,y1,y1,y1,y1,y1,y1,y1,y1,y1,y1,y1,y1,y1,y1,y1,y1,y1,y1,y1,y1,y1,y1,y1,y1,y1,y1,y1,y1,y1,y1,y1,y1,y1,y1,y1,y1,z1,z1,z1,z1,z1,z1,z1,z1,z1,z1,z1,z1] 81 = true := by kernel_rfl
theorem qxalive_23_96 : HeldIn.takeB (HeldIn.regF Try.f8 23) [] [] #[y1,y1,y1,y1,y1,y1,y1,y1,y1,y1,y1,y1,y1,y1,y1,y1,y1,y1,y1,y1,y1,y1,y1,y1,y1,y1,y1,y1,y1,y1,y1,y1,y1,y1,y1,y1,y1,y1,y1,y1,y1,y1,y1,y1,y1,y1,y1,y1,y1,y1,y1,y1,y1,y1,y1,y1,y1,y1,y1,y1,y1,y1,y1,y1,y1,y1,y1,y1,y1,y1,y1,y1,y1,y1,y1,y1,y1,y1,y1,y1,y1,y1,z1,z1,z1,z1,z1,z1,z1,z1,z1,z1,z1] 82 = true := by kernel_rfl
theorem qxalive_23_97 : HeldIn.takeB (HeldIn.regF Try.f8 23) [] [] #[y1,y1,y1,y1,y1,y1,y1,y1,y1,y1,y1,y1,y1,y1,y1,y1,y1,y1,y1,y1,y1,y1,y1,y1,y1,y1,y1,y1,y1,y1,y1,y1,y1,y1,y1,y1,y1,y1,y1,y1,y1,y1,y1,y1,y1,y1,y1,y1,y1,y1,y1,y1,y1,y1,y1,y1,y1,y1,y1,y1,y1,y1,y1,y1,y1,y1,y1,y1,y1,y1,y1,y1,y1,y1,y1,y1,y1,y1,y1,y1,y1,y1,y1,z1,z1,z1,z1,z1,z1,z1,z1,z1,z1] 83 = true := by kernel_rfl
theorem qxalive_23_98 : HeldIn.takeB (HeldIn.regF Try.f8 23) [] [] #[y1,y1,y1,y1,y1,y1,y1,y1,y1,y1,y1,y1,y1,y1,y1,y1,y1,y1,y1,y1,y1,y1,y1,y1,y1,y1,y1,y1,y1,y1,y1,y1,y1,y1,y1,y1,y1,y1,y1,y1,y1,y1,y1,y1,y1,y1,y1,y1,y1,y1,y1,y1,y1,y1,y1,y1,y1,y1,y1,y1,y1,y1,y1,y1,y1,y1,y1,y1,y1,y1,y1,y1,y1,y1,y1,y1,y1,y1,y1,y1,y1,y1,y1,y1,z1,z1,z1,z1,z1,z1,z1,z1,z1] 84 = true := by kernel_rfl
theorem qxalive_23_99 : HeldIn.takeB (HeldIn.regF Try.f8 23) [] [] #[y1,y1,y1,y1,y1,y1,y1,y1,y1,y1,y1,y1,y1,y1,y1,y1,y1,y1,y1,y1,y1,y1,y1,y1,y1,y1,y1,y1,y1,y1,y1,y1,y1,y1,y1,y1,y1,y1,y1,y1,y1,y1,y1,y1,y1,y1,y1,y1,y1,y1,y1,y1,y1,y1,y1,y1,y1,y1,y1,y1,y1,y1,y1,y1,y1,y1,y1,y1,y1,y1,y1,y1,y1,y1,y1,y1,y1,y1,y1,y1,y1,y1,y1,y1,y1,z1,z1,z1,z1,z1,z1,z1,z1] 85 = true := by kernel_rfl
theorem qxalive_23_100 : HeldIn.takeB (HeldIn.regF Try.f8 23) [] [] #[y1,y1,y1,y1,y1,y1,y1,y1,y1,y1,y1,y1,y1,y1,y1,y1,y1,y1,y1,y1,y1,y1,y1,y1,y1,y1,y1,y1,y1,y1,y1,y1,y1,y1,y1,y1,y1,y1,y1,y1,y1,y1,y1,y1,y1,y1,y1,y1,y1,y1,y1,y1,y1,y1,y1,y1,y1,y1,y1,y1,y1,y1,y1,y1,y1,y1,y1,y1,y1,y1,y1,y1,y1,y1,y1,y1,y1,y1,y1,y1,y1,y1,y1,y1,y1,y1,z1,z1,z1,z1,z1,z1,z1] 86 = true := by kernel_rfl
theorem qxalive_23_101 : HeldIn.takeB (HeldIn.regF Try.f8 23) [] [] #[y1,y1,y1,y1,y1,y1,y1,y1,y1,y1,y1,y1,y1,y1,y1,y1,y1,y1,y1,y1,y1,y1,y1,y1,y1,y1,y1,y1,y1,y1,y1,y1,y1,y1,y1,y1,y1,y1,y1,y1,y1,y1,y1,y1,y1,y1,y1,y1,y1,y1,y1,y1,y1,y1,y1,y1,y1,y1,y1,y1,y1,y1,y1,y1,y1,y1,y1,y1,y1,y1,y1,y1,y1,y1,y1,y1,y1,y1,y1,y1,y1,y1,y1,y1,y1,y1,y1,z1,z1,z1,z1,z1,z1] 87 = true := by kernel_rfl
theorem qxalive_23_102 : HeldIn.takeB (HeldIn.regF Try.f8 23) [] [] #[y1,y1,y1,y1,y1,y1,y1,y1,y1,y1,y1,y1,y1,y1,y1,y1,y1,y1,y1,y1,y1,y1,y1,y1,y1,y1,y1,y1,y1,y1,y1,y1,y1,y1,y1,y1,y1,y1,y1,y1,y1,y1,y1,y1,y1,y1,y1,y1,y1,y1,y1,y1,y1,y1,y1,y1,y1,y1,y1,y1,y1,y1,y1,y1,y1,y1,y1,y1,y1,y1,y1,y1,y1,y1,y1,y1,y1,y1,y1,y1,y1,y1,y1,y1,y1,y1,y1,y1,z1,z1,z1,z1,z1] 88 = true := by kernel_rfl
theorem qxalive_23_103 : HeldIn.takeB (HeldIn.regF Try.f8 23) [] [] #[y1,y1,y1,y1,y1,y1,y1,y1,y1,y1,y1,y1,y1,y1,y1,y1,y1,y1,y1,y1,y1,y1,y1,y1,y1,y1,y1,y1,y1,y1,y1,y1,y1,y1,y1,y1,y1,y1,y1,y1,y1,y1,y1,y1,y1,y1,y1,y1,y1,y1,y1,y1,y1,y1,y1,y1,y1,y1,y1,y1,y1,y1,y1,y1,y1,y1,y1,y1,y1,y1,y1,y1,y1,y1,y1,y1,y1,y1,y1,y1,y1,y1,y1,y1,y1,y1,y1,y1,y1,z1,z1,z1,z1] 89 = true := by kernel_rfl
theorem qxalive_23_104 : HeldIn.takeB (HeldIn.regF Try.f8 23) [] [] #[y1,y1,y1,y1,y1,y1,y1,y1,y1,y1,y1,y1,y1,y1,y1,y1,y1,y1,y1,y1,y1,y1,y1,y1,y1,y1,y1,y1,y1,y1,y1,y1,y1,y1,y1,y1,y1,y1,y1,y1,y1,y1,y1,y1,y1,y1,y1,y1,y1,y1,y1,y1,y1,y1,y1,y1,y1,y1,y1,y1,y1,y1,y1,y1,y1,y1,y1,y1,y1,y1,y1,y1,y1,y1,y1,y1,y1,y1,y1,y1,y1,y1,y1,y1,y1,y1,y1,y1,y1,y1,z1,z1,z1] 90 = true := by kernel_rfl
theorem qxalive_23_105 : HeldIn.takeB (HeldIn.regF Try.f8 23) [] [] #[y1,y1,y1,y1,y1,y1,y1,y1,y1,y1,y1,y1,y1,y1,y1,y1,y1,y1,y1,y1,y1,y1,y1,y1,y1,y1,y1,y1,y1,y1,y1,y1,y1,y1,y1,y1,y1,y1,y1,y1,y1,y1,y1,y1,y1,y1,y1,y1,y1,y1,y1,y1,y1,y1,y1,y1,y1,y1,y1,y1,y1,y1,y1,y1,y1,y1,y1,y1,y1,y1,y1,y1,y1,y1,y1,y1,y1,y1,y1,y1,y1,y1,y1,y1,y1,y1,y1,y1,y1,y1,y1,z1,z1] 91 = true := by kernel_rfl
theorem qxalive_23_106 : HeldIn.oneB (HeldIn.regF Try.f8 23) #[y1,y1,y1,y1,y1,y1,y1,y1,y1,y1,y1,y1,y1,y1,y1,y1,y1,y1,y1,y1,y1,y1,y1,y1,y1,y1,y1,y1,y1,y1,y1,y1,y1,y1,y1,y1,y1,y1,y1,y1,y1,y1,y1,y1,y1,y1,y1,y1,y1,y1,y1,y1,y1,y1,y1,y1,y1,y1,y1,y1,y1,y1,y1,y1,y1,y1,y1,y1,y1,y1,y1,y1,y1,y1,y1,y1,y1,y1,y1,y1,y1,y1,y1,y1,y1,y1,y1,y1,y1,y1,y1,y1,z1] 92 = true := by kernel_rfl
set_option maxRecDepth 100000 in
set_option maxHeartbeats 8000000 in
theorem alive_calls (w : World) : Calls Try.prog 8 #[] w fun en w' => en = .returned (.bool true) ∧ Below w.heap.size w w' := by
  have hro : Fence.wide.round = none := rfl
  obtain ⟨k1, hk1⟩ : ∃ k, k = keyP 1 := ⟨_, rfl⟩
  obtain ⟨k2, hk2⟩ : ∃ k, k = keyP 2 := ⟨_, rfl⟩
  obtain ⟨k3, hk3⟩ : ∃ k, k = keyP 3 := ⟨_, rfl⟩
  have K1 := Aside0.mk (show KeyOk k1 by rw [hk1]; exact keyP_ok 1 (by decide) (by decide))
  have Y1 := Aside0.mk (fun w => keyp_calls 1 w)
  rw [← hk1] at Y1
  have K2 := Aside0.mk (show KeyOk k2 by rw [hk2]; exact keyP_ok 2 (by decide) (by decide))
  have Y2 := Aside0.mk (fun w => keyp_calls 2 w)
  rw [← hk2] at Y2
  have K3 := Aside0.mk (show KeyOk k3 by rw [hk3]; exact keyP_ok 3 (by decide) (by decide))
  have Y3 := Aside0.mk (fun w => keyp_calls 3 w)
  rw [← hk3] at Y3
  obtain ⟨z0, hk0⟩ : ∃ k, k = kz := ⟨_, rfl⟩
  have L0 := Aside0.mk (show z0.length = 34 by rw [hk0]; rfl)
  have L1 := Aside0.mk K1.out.len
  have L2 := Aside0.mk K2.out.len
  have L3 := Aside0.mk K3.out.len
  have P1 := Aside0.mk (show putS 2 10 [] k1 5 100 = ([⟨k1, 5, 100⟩], z0, false, 0) by rw [hk0, hk1]; kernel_rfl)
  have P2 := Aside0.mk (show putS 2 10 [⟨k1, 5, 100⟩] k2 6 100 = ([⟨k1, 5, 100⟩, ⟨k2, 6, 100⟩], z0, false, 0) by rw [hk0, hk1, hk2]; kernel_rfl)
  have G3 := Aside0.mk (show getS 10 [⟨k1, 5, 100⟩, ⟨k2, 6, 100⟩] k1 101 = ([⟨k2, 6, 100⟩, ⟨k1, 5, 101⟩], 5, true) by rw [hk1, hk2]; kernel_rfl)
  have P4 := Aside0.mk (show putS 2 10 [⟨k2, 6, 100⟩, ⟨k1, 5, 101⟩] k3 7 102 = ([⟨k1, 5, 101⟩, ⟨k3, 7, 102⟩], k2, true, 0) by rw [hk1, hk2, hk3]; kernel_rfl)
  have P5 := Aside0.mk (show putS 2 10 [⟨k1, 5, 101⟩, ⟨k3, 7, 102⟩] k3 7 102 = ([⟨k1, 5, 101⟩, ⟨k3, 7, 102⟩], z0, false, 16) by rw [hk0, hk1, hk3]; kernel_rfl)
  have O6 := Aside0.mk (show ofS [⟨k1, 5, 101⟩, ⟨k3, 7, 102⟩] k1 = (5, 101, true) by rw [hk1, hk3]; kernel_rfl)
  have G7 := Aside0.mk (show getS 10 [⟨k1, 5, 101⟩, ⟨k3, 7, 102⟩] k1 111 = ([⟨k3, 7, 102⟩], 0, false) by rw [hk1, hk3]; kernel_rfl)
  have S8 := Aside0.mk (show sweepS [⟨k1, 5, 101⟩, ⟨k3, 7, 102⟩] 10 112 = [] by rw [hk1, hk3]; kernel_rfl)
  have F9 := Aside0.mk (show forgetS [⟨k3, 7, 102⟩] 7 = [] by rw [hk3]; kernel_rfl)
  clear hk0 hk1 hk2 hk3
  have hz := zeroK
  have hze := zeroE
  refine (callsIn_wide (n := 4)).1 ?_
  refine callsIn_of_wp_marks Try.func8 rfl trivial ?_ hro
  simp only [Try.ntmps8, List.size_toArray, List.length_cons, List.length_nil, Nat.reduceAdd, Nat.reduceSub, Array.replicate_succ, Array.replicate_zero, List.push_toArray, List.append_toArray, List.nil_append, List.cons_append]
  have E0 := Aside0.mk ((Env.start w).alloc #[.bool false] 4)
  gi_wp2_with fail
  refine ⟨trivial, ?_⟩
  (with_reducible refine (callsIn_wide.2 (new_tw 2 10 (by unfold NewOk; decide) _)).mono ?_)
  rintro en w1 ⟨b, rfl, ⟨O1, hT, hO⟩, hb⟩
  have E1 := Aside0.mk (E0.out.new (thT O1 b 2 10 []) hT hO hb)
  clear E0
  clear hT hO hb
  gi_wp2_with fail
  refine ⟨trivial, ?_⟩
  (with_reducible refine (callsIn_wide.2 (new_bad 0 10 (by decide) _)).mono ?_)
  rintro en _ ⟨rfl, rfl⟩
  gi_wp2_with fail
  refine ⟨trivial, ?_⟩
  (with_reducible refine (callsIn_wide.2 (Y1.out _)).mono ?_)
  rintro en w2 ⟨rfl, hb⟩
  have E2 := Aside0.mk (E1.out.below hb)
  clear E1
  clear hb
  gi_wp2_with fail
  refine ⟨trivial, ?_⟩
  (with_reducible refine (callsIn_wide.2 (put_is (E2.out.at 0 rfl) K1.out P1.out)).mono ?_)
  rintro en w3 ⟨rfl, ho⟩
  obtain ⟨Ow3, hE⟩ := E2.out.out [] ho
  have E_ := Aside0.mk hE
  clear hE ho E2
  have E3 := E_
  clear E_
  gi_wp2_with (first | (refine in_boxK (fun _ => trivial) rfl rfl 5 (.tmp 47) rfl rfl rfl rfl z0 L0.out rfl rfl ?_))
  have E4 := Aside0.mk (E3.out.alloc (encK z0).toArray 29)
  clear E3
  refine ⟨trivial, ?_⟩
  (with_reducible refine (callsIn_wide.2 (Y2.out _)).mono ?_)
  rintro en w4 ⟨rfl, hb⟩
  have E5 := Aside0.mk (E4.out.below hb)
  clear E4
  clear hb
  gi_wp2_with fail
  refine ⟨trivial, ?_⟩
  (with_reducible refine (callsIn_wide.2 (put_is (E5.out.at 1 rfl) K2.out P2.out)).mono ?_)
  rintro en w5 ⟨rfl, ho⟩
  obtain ⟨Ow5, hE⟩ := E5.out.out [thB w3.heap.size (encK z0).toArray 29] ho
  have E_ := Aside0.mk hE
  clear hE ho E5
  have E6 := E_
  clear E_
  gi_wp2_with fail
  refine ⟨trivial, ?_⟩
  (with_reducible refine (callsIn_wide.2 (Y1.out _)).mono ?_)
  rintro en w6 ⟨rfl, hb⟩
  have E7 := Aside0.mk (E6.out.below hb)
  clear E6
  clear hb
  gi_wp2_with fail
  refine ⟨trivial, ?_⟩
  (with_reducible refine (callsIn_wide.2 (get_is (E7.out.at 1 rfl) K1.out G3.out)).mono ?_)
  rintro en w7 ⟨rfl, ho⟩
  obtain ⟨Ow7, hE⟩ := E7.out.out [thB w3.heap.size (encK z0).toArray 29] ho
  have E_ := Aside0.mk hE
  clear hE ho E7
  have E8 := E_
  clear E_
  gi_wp2_with fail
  refine ⟨trivial, ?_⟩
  (with_reducible refine (callsIn_wide.2 (Y3.out _)).mono ?_)
  rintro en w8 ⟨rfl, hb⟩
  have E9 := Aside0.mk (E8.out.below hb)
  clear E8
  clear hb
  gi_wp2_with fail
  refine ⟨trivial, ?_⟩
  (with_reducible refine (callsIn_wide.2 (put_is (E9.out.at 1 rfl) K3.out P4.out)).mono ?_)
  rintro en w9 ⟨rfl, ho⟩
  obtain ⟨Ow9, hE⟩ := E9.out.out [thB w3.heap.size (encK z0).toArray 29] ho
  have E_ := Aside0.mk hE
  clear hE ho E9
  have E10 := E_
  clear E_
  gi_wp2_with (first | (refine in_boxK (fun _ => trivial) rfl rfl 10 (.tmp 63) rfl rfl rfl rfl k2 L2.out rfl rfl ?_))
  have E11 := Aside0.mk (E10.out.alloc (encK k2).toArray 29)
  clear E10
  refine ⟨trivial, ?_⟩
  (with_reducible refine (callsIn_wide.2 (Y3.out _)).mono ?_)
  rintro en w10 ⟨rfl, hb⟩
  have E12 := Aside0.mk (E11.out.below hb)
  clear E11
  clear hb
  gi_wp2_with fail
  refine ⟨trivial, ?_⟩
  (with_reducible refine (callsIn_wide.2 (put_is (E12.out.at 2 rfl) K3.out P5.out)).mono ?_)
  rintro en w11 ⟨rfl, ho⟩
  obtain ⟨Ow11, hE⟩ := E12.out.out [thB w9.heap.size (encK k2).toArray 29, thB w3.heap.size (encK z0).toArray 29] ho
  have E_ := Aside0.mk hE
  clear hE ho E12
  have E13 := E_
  clear E_
  gi_wp2_with (first | (refine in_boxK (fun _ => trivial) rfl rfl 13 (.tmp 70) rfl rfl rfl rfl z0 L0.out rfl rfl ?_))
  have E14 := Aside0.mk (E13.out.alloc (encK z0).toArray 29)
  clear E13
  refine ⟨trivial, ?_⟩
  (with_reducible refine (callsIn_wide.2 (Y1.out _)).mono ?_)
  rintro en w12 ⟨rfl, hb⟩
  have E15 := Aside0.mk (E14.out.below hb)
  clear E14
  clear hb
  gi_wp2_with fail
  refine ⟨trivial, ?_⟩
  (with_reducible refine (callsIn_wide.2 (of_is (E15.out.at 3 rfl) K1.out O6.out)).mono ?_)
  rintro en w13 ⟨rfl, hb⟩
  have E16 := Aside0.mk (E15.out.below hb)
  clear E15
  clear hb
  gi_wp2_with (first | (refine in_boxE (fun _ => trivial) rfl rfl 16 (.tmp 77) rfl rfl rfl rfl 5 101 rfl rfl ?_))
  have E17 := Aside0.mk (E16.out.alloc #[.int .i64 5, .int .u64 101] 43)
  clear E16
  refine ⟨trivial, ?_⟩
  (with_reducible refine (callsIn_wide.2 (clone_tw (E17.out.at 4 rfl))).mono ?_)
  rintro en w14 ⟨c, rfl, ⟨Oc, hT, hO⟩, hb⟩
  have E18 := Aside0.mk (E17.out.new (thT Oc c 2 10 [⟨k1, 5, 101⟩, ⟨k3, 7, 102⟩]) hT hO hb)
  clear E17
  clear hT hO hb
  gi_wp2_with fail
  refine ⟨trivial, ?_⟩
  (with_reducible refine (callsIn_wide.2 (Y1.out _)).mono ?_)
  rintro en w15 ⟨rfl, hb⟩
  have E19 := Aside0.mk (E18.out.below hb)
  clear E18
  clear hb
  gi_wp2_with fail
  refine ⟨trivial, ?_⟩
  (with_reducible refine (callsIn_wide.2 (get_is (E19.out.at 5 rfl) K1.out G7.out)).mono ?_)
  rintro en w16 ⟨rfl, ho⟩
  obtain ⟨Ow16, hE⟩ := E19.out.out [thT Oc c 2 10 [⟨k1, 5, 101⟩, ⟨k3, 7, 102⟩], thB w13.heap.size #[.int .i64 5, .int .u64 101] 43, thB w11.heap.size (encK z0).toArray 29, thB w9.heap.size (encK k2).toArray 29, thB w3.heap.size (encK z0).toArray 29] ho
  have E_ := Aside0.mk hE
  clear hE ho E19
  have E20 := E_
  clear E_
  gi_wp2_with fail
  have E21 := Aside0.mk (E20.out.alloc #[.int .i64 0] 3)
  clear E20
  obtain ⟨wm, hwm⟩ : ∃ W, W = w16.alloc (.cells #[.int .i64 0] 3) := ⟨_, rfl⟩
  rw [← hwm] at E21 ⊢
  clear hwm
  refine ⟨trivial, ?_⟩
  (with_reducible refine (callsIn_wide.2 (all_calls c wm)).mono ?_)
  rintro en w17 ⟨rfl, hw⟩
  have E22 := Aside0.mk ((show Env w w17 _ by rw [hw]; exact E21.out.alloc #[.pointer (some ⟨c, 0, none⟩)] 33))
  clear E21
  clear hw
  gi_wp2_with fail
  have HBS := Aside0.mk (show w.heap.size ≤ w17.heap.size from E22.out.bel.size)
  have HGM := Aside0.mk (show w16.heap.size < w17.heap.size from blk_lt (E22.out.at 1 rfl))
  have HG0 := Aside0.mk (show w.heap.size < w17.heap.size from blk_lt (E22.out.at 8 rfl))
  refine rf_gen (fun A0 hA0 => ?_)
  refine wpIn_rangeFunc_ownH hro (by omega) (gf := 50) (lb := #[.pointer (some ⟨wm.heap.size, 0, none⟩)]) (by rw [hA0]; rfl) trivial (enters_of Try.func50 (by kernel_rfl) rfl)
    (all_stops 3 (by omega) wm.heap.size c w17.heap.size 2 10 [⟨k1, 5, 101⟩, ⟨k3, 7, 102⟩] Oc w17 (E22.out.at 0 rfl) (E22.out.at 2 rfl) (Nat.le_refl _)) (fun h k => KpT.trans h k) (fun W l o o' h1 h2 h3 h4 => KpT.bk W l o o' h1 h2 h3 h4) (Below.refl _ _) (fun _ => rfl)
    (fun pre W => EnvB w17.heap.size w W [thB wm.heap.size #[.pointer (some ⟨c, 0, none⟩)] 33, thB w16.heap.size #[.int .i64 (pre.length : Int)] 3, thT Oc c 2 10 [⟨k1, 5, 101⟩, ⟨k3, 7, 102⟩], thB w13.heap.size #[.int .i64 5, .int .u64 101] 43, thB w11.heap.size (encK z0).toArray 29, thB w9.heap.size (encK k2).toArray 29, thB w3.heap.size (encK z0).toArray 29, thT Ow16 b 2 10 [⟨k3, 7, 102⟩], thB w.heap.size #[.bool false] 4]) (fun c pre _ => c = .ret ∧ ¬ (pre.map (fun r => r.1) <+: [⟨k1, 5, 101⟩, ⟨k3, 7, 102⟩]))
    (ownEnv w HBS.out _) (fun c => ownFrom_pure _ _) (EnvB.mk' E22.out)
    (fun x a' W => ∃ g6 g7, a' = { tmps := (((A0.tmps.setIfInBounds 91 (kv x.1.ky)).setIfInBounds 92 (ev x.1.bk x.1.la)).setIfInBounds 22 (.pointer (some ⟨g6, 0, none⟩))).setIfInBounds 23 (.pointer (some ⟨g7, 0, none⟩)), defers := [] } ∧ Vars w17.heap.size x g6 g7 W) (fun x a' => ownVars x _) ?assign ?body ?done ?stop
  case assign =>
    intro l pre x W K hI hK
    subst hA0
    have H34 := Aside0.mk x.2.len
    simp only [zip2, List.setIfInBounds_toArray, List.set_cons_zero, List.set_cons_succ]
    gi_wp2_with (first | (refine in_boxK (fun _ => trivial) rfl rfl 22 (.tmp 91) rfl rfl rfl rfl x.1.ky H34.out rfl rfl ?_) | (refine in_boxE (fun _ => trivial) rfl rfl 23 (.tmp 92) rfl rfl rfl rfl x.1.bk x.1.la rfl rfl ?_))
    have hb := below_alloc (below_alloc (Below.refl W.heap.size W) (.cells (encK x.1.ky).toArray 29)) (.cells #[.int .i64 x.1.bk, .int .u64 x.1.la] 43)
    exact hK _ _ (keepsFrom_below hb) (KpT.below hb) (hI.below hb) ⟨W.heap.size, W.heap.size + 1, by simp only [List.setIfInBounds_toArray, List.set_cons_zero, List.set_cons_succ], vars_new x W hI.2.2⟩
  case body =>
    rintro l pre x a' W hl hr hI ⟨g6, g7, rfl, hV⟩ hlen
    subst hA0
    simp only [List.setIfInBounds_toArray, List.set_cons_zero, List.set_cons_succ]
    have H34 := Aside0.mk x.2.len
    have HI := Aside0.mk hI
    have HV := Aside0.mk hV
    clear hI hV hl hr
    obtain ⟨wd, hwd⟩ : ∃ wd, wd = W.drew := ⟨_, rfl⟩
    have HBD := Aside0.mk (show Below W.heap.size W wd by rw [hwd]; exact below_drew (Below.refl _ _))
    have HSS := Aside0.mk (Below.refl wd.heap.size wd)
    have HID := Aside0.mk (HI.out.below HBD.out)
    have HVD := Aside0.mk (HV.out.below HBD.out)
    have HMD := Aside0.mk (HID.out.1.at 1 rfl)
    have HLT := Aside0.mk hlen
    clear hlen
    by_cases hp : pre = []
    · subst hp
      by_cases hk : x.1.ky = k1
      · have HK := Aside0.mk (decide_eq_true hk)
        have HKX := Aside0.mk hk
        clear hk
        by_cases hb5 : x.1.bk = 5
        · have HE7 := Aside0.mk HVD.out.2.1
          rw [hb5] at HE7
          clear hb5
          gi_wp2
          refine HeldIn.wp_region_G (S := (fun V : World => Below wd.heap.size wd V)) (L := []) (by kernel_rfl) ?_
          change HeldIn.wpAnyG _ _ _ _ _ _ _ _ 12 (Array.replicate 12 false) _ _
          refine HeldIn.with_ops (HeldIn.regF Try.f8 19) (by kernel_rfl) (fun HO => ?_)
          rw [← hwd]
          clear hwd
          refine HeldIn.wpAnyG_takeQ (fun _ => trivial) [] (i := 0) HO.out qxalive_19_1 (v := (.int .i64 0)) rfl (fun _ _ _ h => h) HSS.out (by first | (with_reducible rfl) | (simp [Region.wanted, yielded, Act.put]; done) | rfl) (fun V hs => by have hc := blk_cell (blk_below HMD.out hs) 0; simp at hc; go_simp) (some 93) rfl #[y1,z1,z1,z1,z1,z1,z1,z1,z1,z1,z1,z1] (by kernel_rfl) ?_
          simp only [Act.put, List.setIfInBounds_toArray, List.set_cons_zero, List.set_cons_succ]
          refine HeldIn.wpAnyG_takeQ (fun _ => trivial) [] (i := 1) HO.out qxalive_19_2 (v := (.bool true)) rfl (fun _ _ _ h => h) HSS.out (by first | (with_reducible rfl) | (simp [Region.wanted, yielded, Act.put]; done) | rfl) (fun V hs => by go_simp) (some 94) rfl #[y1,y1,z1,z1,z1,z1,z1,z1,z1,z1,z1,z1] (by kernel_rfl) ?_
          simp only [Act.put, List.setIfInBounds_toArray, List.set_cons_zero, List.set_cons_succ]
          refine HeldIn.wpAnyG_takeQ (fun _ => trivial) [] (i := 2) HO.out qxalive_19_3 (v := (.bool true)) rfl (fun _ _ _ h => h) HSS.out (by first | (with_reducible rfl) | (simp [Region.wanted, yielded, Act.put]; done) | rfl) (fun W h => by go_simp) (some 95) rfl #[y1,y1,y1,z1,z1,z1,z1,z1,z1,z1,z1,z1] (by kernel_rfl) ?_
          simp only [Act.put, List.setIfInBounds_toArray, List.set_cons_zero, List.set_cons_succ]
          refine HeldIn.wpAnyG_takeQ (fun _ => trivial) [] (i := 3) HO.out qxalive_19_4 (v := (kv x.1.ky)) rfl (fun _ _ _ h => h) HSS.out (by first | (with_reducible rfl) | (simp [Region.wanted, yielded, Act.put]; done) | rfl) (fun V hs => Held.run_load_of 29 (.tmp 22) rfl ⟨g6, 0, none⟩ rfl (box_key H34.out (blk_below HVD.out.1 hs))) (some 96) rfl #[y1,y1,y1,y1,z1,z1,z1,z1,z1,z1,z1,z1] (by kernel_rfl) ?_
          simp only [Act.put, List.setIfInBounds_toArray, List.set_cons_zero, List.set_cons_succ]
          refine HeldIn.wpAnyG_oneQ 4 HO.out qxalive_19_5 rfl #[y1,y1,y1,y1,y1,z1,z1,z1,z1,z1,z1,z1] (by kernel_rfl) (fun K hK => ?_)
          gi_wp2_with fail
          refine ⟨trivial, ?_⟩
          (with_reducible refine (CallsIn.inRound l (callsIn_wide.2 (Y1.out _))).mono ?_)
          rintro en W2 ⟨rfl, hb⟩
          have n1_ := Aside0.mk (HSS.out.trans (hb.mono HSS.out.size))
          clear HSS hb
          have HSS := n1_
          clear n1_
          gi_wp2_with fail
          refine hK _ _ (fun _ => HSS.out) ?_
          clear hK K
          refine HeldIn.wpAnyG_takeQ (fun _ => trivial) [] (i := 5) HO.out qxalive_19_6 (v := (.bool false)) rfl (fun _ _ _ h => h) HSS.out (by first | (with_reducible rfl) | (simp [Region.wanted, yielded, Act.put]; done) | rfl) (fun V hs => (run_neqKF (.tmp 96) (.tmp 97) rfl x.1.ky k1 H34.out L1.out rfl rfl V).trans (by rw [HK.out]; rfl)) (some 98) rfl #[y1,y1,y1,y1,y1,y1,z1,z1,z1,z1,z1,z1] (by kernel_rfl) ?_
          simp only [Act.put, List.setIfInBounds_toArray, List.set_cons_zero, List.set_cons_succ]
          refine HeldIn.wpAnyG_takeQ (fun _ => trivial) [] (i := 6) HO.out qxalive_19_7 (v := (.bool false)) rfl (fun _ _ _ h => h) HSS.out (by first | (with_reducible rfl) | (simp [Region.wanted, yielded, Act.put]; done) | rfl) (fun W h => by go_simp) (some 99) rfl #[y1,y1,y1,y1,y1,y1,y1,z1,z1,z1,z1,z1] (by kernel_rfl) ?_
          simp only [Act.put, List.setIfInBounds_toArray, List.set_cons_zero, List.set_cons_succ]
          refine HeldIn.wpAnyG_takeQ (fun _ => trivial) [] (i := 7) HO.out qxalive_19_8 (v := (.pointer (some ⟨g7, 0, none⟩))) rfl (fun _ _ _ h => h) HSS.out (by first | (with_reducible rfl) | (simp [Region.wanted, yielded, Act.put]; done) | rfl) (fun V hs => by go_simp) (some 100) rfl #[y1,y1,y1,y1,y1,y1,y1,y1,z1,z1,z1,z1] (by kernel_rfl) ?_
          simp only [Act.put, List.setIfInBounds_toArray, List.set_cons_zero, List.set_cons_succ]
          refine HeldIn.wpAnyG_takeQ (fun _ => trivial) [] (i := 8) HO.out qxalive_19_9 (v := (.int .i64 5)) rfl (fun _ _ _ h => h) HSS.out (by first | (with_reducible rfl) | (simp [Region.wanted, yielded, Act.put]; done) | rfl) (fun V hs => by have hc := blk_cell (blk_below HE7.out hs) 0; simp at hc; go_simp) (some 101) rfl #[y1,y1,y1,y1,y1,y1,y1,y1,y1,z1,z1,z1] (by kernel_rfl) ?_
          simp only [Act.put, List.setIfInBounds_toArray, List.set_cons_zero, List.set_cons_succ]
          refine HeldIn.wpAnyG_takeQ (fun _ => trivial) [] (i := 9) HO.out qxalive_19_10 (v := (.bool false)) rfl (fun _ _ _ h => h) HSS.out (by first | (with_reducible rfl) | (simp [Region.wanted, yielded, Act.put]; done) | rfl) (fun V hs => by go_simp) (some 102) rfl #[y1,y1,y1,y1,y1,y1,y1,y1,y1,y1,z1,z1] (by kernel_rfl) ?_
          simp only [Act.put, List.setIfInBounds_toArray, List.set_cons_zero, List.set_cons_succ]
          refine HeldIn.wpAnyG_takeQ (fun _ => trivial) [] (i := 10) HO.out qxalive_19_11 (v := (.bool false)) rfl (fun _ _ _ h => h) HSS.out (by first | (with_reducible rfl) | (simp [Region.wanted, yielded, Act.put]; done) | rfl) (fun V hs => by go_simp) (some 103) rfl #[y1,y1,y1,y1,y1,y1,y1,y1,y1,y1,y1,z1] (by kernel_rfl) ?_
          simp only [Act.put, List.setIfInBounds_toArray, List.set_cons_zero, List.set_cons_succ]
          refine HeldIn.wpAnyG_takeQ (fun _ => trivial) [] (i := 11) HO.out qxalive_19_12 (v := (.bool false)) rfl (fun _ _ _ h => h) HSS.out (by first | (with_reducible rfl) | (simp [Region.wanted, yielded, Act.put]; done) | rfl) (fun V hs => by go_simp) (some 104) rfl #[y1,y1,y1,y1,y1,y1,y1,y1,y1,y1,y1,y1] (by kernel_rfl) ?_
          simp only [Act.put, List.setIfInBounds_toArray, List.set_cons_zero, List.set_cons_succ]
          refine HeldIn.wpAnyG_done (by kernel_rfl) ?_ _
          simp only [HeldIn.NP]
          have HBW := Aside0.mk (HBD.out.trans (HSS.out.mono HBD.out.size))
          have HI2 := Aside0.mk (HID.out.below HSS.out)
          have hm := blk_cell (HI2.out.1.at 1 rfl) 0
          have hmf := blk_frozen (HI2.out.1.at 1 rfl) 0
          simp at hm
          clear HSS HBD HID
          gi_wp2
          refine ⟨(keepsFrom_below HBW.out).trans (keepsFrom_put _ _ _), (KpT.below HBW.out).trans (KpT.put _ HGM.out _), ?_⟩
          exact EnvB.put [thB wm.heap.size #[.pointer (some ⟨c, 0, none⟩)] 33] HI2.out 0 _ (by first | (simp; done) | (have h1 := HLT.out; simp; unfold wrap64; omega))
        · have HE7 := Aside0.mk HVD.out.2.1
          have HB5 := Aside0.mk hb5
          obtain ⟨q5, hq5⟩ : ∃ q, q = x.1.bk := ⟨_, rfl⟩
          rw [← hq5] at HE7 hb5
          have e5 : (q5 = 5) = False := eq_false hb5
          clear hb5 hq5
          gi_wp2
          refine HeldIn.wp_region_G (S := (fun V : World => Below wd.heap.size wd V)) (L := []) (by kernel_rfl) ?_
          change HeldIn.wpAnyG _ _ _ _ _ _ _ _ 12 (Array.replicate 12 false) _ _
          refine HeldIn.with_ops (HeldIn.regF Try.f8 19) (by kernel_rfl) (fun HO => ?_)
          rw [← hwd]
          clear hwd
          refine HeldIn.wpAnyG_takeQ (fun _ => trivial) [] (i := 0) HO.out qxalive_19_1 (v := (.int .i64 0)) rfl (fun _ _ _ h => h) HSS.out (by first | (with_reducible rfl) | (simp [Region.wanted, yielded, Act.put]; done) | rfl) (fun V hs => by have hc := blk_cell (blk_below HMD.out hs) 0; simp at hc; go_simp) (some 93) rfl #[y1,z1,z1,z1,z1,z1,z1,z1,z1,z1,z1,z1] (by kernel_rfl) ?_
          simp only [Act.put, List.setIfInBounds_toArray, List.set_cons_zero, List.set_cons_succ]
          refine HeldIn.wpAnyG_takeQ (fun _ => trivial) [] (i := 1) HO.out qxalive_19_2 (v := (.bool true)) rfl (fun _ _ _ h => h) HSS.out (by first | (with_reducible rfl) | (simp [Region.wanted, yielded, Act.put]; done) | rfl) (fun V hs => by go_simp) (some 94) rfl #[y1,y1,z1,z1,z1,z1,z1,z1,z1,z1,z1,z1] (by kernel_rfl) ?_
          simp only [Act.put, List.setIfInBounds_toArray, List.set_cons_zero, List.set_cons_succ]
          refine HeldIn.wpAnyG_takeQ (fun _ => trivial) [] (i := 2) HO.out qxalive_19_3 (v := (.bool true)) rfl (fun _ _ _ h => h) HSS.out (by first | (with_reducible rfl) | (simp [Region.wanted, yielded, Act.put]; done) | rfl) (fun W h => by go_simp) (some 95) rfl #[y1,y1,y1,z1,z1,z1,z1,z1,z1,z1,z1,z1] (by kernel_rfl) ?_
          simp only [Act.put, List.setIfInBounds_toArray, List.set_cons_zero, List.set_cons_succ]
          refine HeldIn.wpAnyG_takeQ (fun _ => trivial) [] (i := 3) HO.out qxalive_19_4 (v := (kv x.1.ky)) rfl (fun _ _ _ h => h) HSS.out (by first | (with_reducible rfl) | (simp [Region.wanted, yielded, Act.put]; done) | rfl) (fun V hs => Held.run_load_of 29 (.tmp 22) rfl ⟨g6, 0, none⟩ rfl (box_key H34.out (blk_below HVD.out.1 hs))) (some 96) rfl #[y1,y1,y1,y1,z1,z1,z1,z1,z1,z1,z1,z1] (by kernel_rfl) ?_
          simp only [Act.put, List.setIfInBounds_toArray, List.set_cons_zero, List.set_cons_succ]
          refine HeldIn.wpAnyG_oneQ 4 HO.out qxalive_19_5 rfl #[y1,y1,y1,y1,y1,z1,z1,z1,z1,z1,z1,z1] (by kernel_rfl) (fun K hK => ?_)
          gi_wp2_with fail
          refine ⟨trivial, ?_⟩
          (with_reducible refine (CallsIn.inRound l (callsIn_wide.2 (Y1.out _))).mono ?_)
          rintro en W2 ⟨rfl, hb⟩
          have n1_ := Aside0.mk (HSS.out.trans (hb.mono HSS.out.size))
          clear HSS hb
          have HSS := n1_
          clear n1_
          gi_wp2_with fail
          refine hK _ _ (fun _ => HSS.out) ?_
          clear hK K
          refine HeldIn.wpAnyG_takeQ (fun _ => trivial) [] (i := 5) HO.out qxalive_19_6 (v := (.bool false)) rfl (fun _ _ _ h => h) HSS.out (by first | (with_reducible rfl) | (simp [Region.wanted, yielded, Act.put]; done) | rfl) (fun V hs => (run_neqKF (.tmp 96) (.tmp 97) rfl x.1.ky k1 H34.out L1.out rfl rfl V).trans (by rw [HK.out]; rfl)) (some 98) rfl #[y1,y1,y1,y1,y1,y1,z1,z1,z1,z1,z1,z1] (by kernel_rfl) ?_
          simp only [Act.put, List.setIfInBounds_toArray, List.set_cons_zero, List.set_cons_succ]
          refine HeldIn.wpAnyG_takeQ (fun _ => trivial) [] (i := 6) HO.out qxalive_19_7 (v := (.bool false)) rfl (fun _ _ _ h => h) HSS.out (by first | (with_reducible rfl) | (simp [Region.wanted, yielded, Act.put]; done) | rfl) (fun W h => by go_simp) (some 99) rfl #[y1,y1,y1,y1,y1,y1,y1,z1,z1,z1,z1,z1] (by kernel_rfl) ?_
          simp only [Act.put, List.setIfInBounds_toArray, List.set_cons_zero, List.set_cons_succ]
          refine HeldIn.wpAnyG_takeQ (fun _ => trivial) [] (i := 7) HO.out qxalive_19_8 (v := (.pointer (some ⟨g7, 0, none⟩))) rfl (fun _ _ _ h => h) HSS.out (by first | (with_reducible rfl) | (simp [Region.wanted, yielded, Act.put]; done) | rfl) (fun V hs => by go_simp) (some 100) rfl #[y1,y1,y1,y1,y1,y1,y1,y1,z1,z1,z1,z1] (by kernel_rfl) ?_
          simp only [Act.put, List.setIfInBounds_toArray, List.set_cons_zero, List.set_cons_succ]
          refine HeldIn.wpAnyG_takeQ (fun _ => trivial) [] (i := 8) HO.out qxalive_19_9 (v := (.int .i64 q5)) rfl (fun _ _ _ h => h) HSS.out (by first | (with_reducible rfl) | (simp [Region.wanted, yielded, Act.put]; done) | rfl) (fun V hs => by have hc := blk_cell (blk_below HE7.out hs) 0; simp at hc; go_simp) (some 101) rfl #[y1,y1,y1,y1,y1,y1,y1,y1,y1,z1,z1,z1] (by kernel_rfl) ?_
          simp only [Act.put, List.setIfInBounds_toArray, List.set_cons_zero, List.set_cons_succ]
          refine HeldIn.wpAnyG_takeQ (fun _ => trivial) [] (i := 9) HO.out qxalive_19_10 (v := (.bool true)) rfl (fun _ _ _ h => h) HSS.out (by first | (with_reducible rfl) | (simp [Region.wanted, yielded, Act.put]; done) | rfl) (fun V hs => by go_simp) (some 102) rfl #[y1,y1,y1,y1,y1,y1,y1,y1,y1,y1,z1,z1] (by kernel_rfl) ?_
          simp only [Act.put, List.setIfInBounds_toArray, List.set_cons_zero, List.set_cons_succ]
          refine HeldIn.wpAnyG_takeQ (fun _ => trivial) [] (i := 10) HO.out qxalive_19_11 (v := (.bool true)) rfl (fun _ _ _ h => h) HSS.out (by first | (with_reducible rfl) | (simp [Region.wanted, yielded, Act.put]; done) | rfl) (fun V hs => by go_simp) (some 103) rfl #[y1,y1,y1,y1,y1,y1,y1,y1,y1,y1,y1,z1] (by kernel_rfl) ?_
          simp only [Act.put, List.setIfInBounds_toArray, List.set_cons_zero, List.set_cons_succ]
          refine HeldIn.wpAnyG_takeQ (fun _ => trivial) [] (i := 11) HO.out qxalive_19_12 (v := (.bool true)) rfl (fun _ _ _ h => h) HSS.out (by first | (with_reducible rfl) | (simp [Region.wanted, yielded, Act.put]; done) | rfl) (fun V hs => by go_simp) (some 104) rfl #[y1,y1,y1,y1,y1,y1,y1,y1,y1,y1,y1,y1] (by kernel_rfl) ?_
          simp only [Act.put, List.setIfInBounds_toArray, List.set_cons_zero, List.set_cons_succ]
          refine HeldIn.wpAnyG_done (by kernel_rfl) ?_ _
          simp only [HeldIn.NP]
          have HBW := Aside0.mk (HBD.out.trans (HSS.out.mono HBD.out.size))
          have HI2 := Aside0.mk (HID.out.below HSS.out)
          have hm := blk_cell (HI2.out.1.at 8 rfl) 0
          have hmf := blk_frozen (HI2.out.1.at 8 rfl) 0
          simp at hm
          clear HSS HBD HID
          gi_wp2
          refine ⟨(keepsFrom_below HBW.out).trans (keepsFrom_put _ _ _), rfl, ?_⟩
          intro hpx
          simp only [List.nil_append, List.map_cons, List.map_nil] at hpx
          obtain ⟨t, ht⟩ := hpx
          simp only [List.cons_append, List.nil_append, List.cons.injEq] at ht
          exact HB5.out (congrArg Rw.bk ht.1)
      · have HK := Aside0.mk (decide_eq_false hk)
        have HKX := Aside0.mk hk
        clear hk
        gi_wp2
        refine HeldIn.wp_region_G (S := (fun V : World => Below wd.heap.size wd V)) (L := []) (by kernel_rfl) ?_
        change HeldIn.wpAnyG _ _ _ _ _ _ _ _ 12 (Array.replicate 12 false) _ _
        refine HeldIn.with_ops (HeldIn.regF Try.f8 19) (by kernel_rfl) (fun HO => ?_)
        rw [← hwd]
        clear hwd
        refine HeldIn.wpAnyG_takeQ (fun _ => trivial) [] (i := 0) HO.out qxalive_19_1 (v := (.int .i64 0)) rfl (fun _ _ _ h => h) HSS.out (by first | (with_reducible rfl) | (simp [Region.wanted, yielded, Act.put]; done) | rfl) (fun V hs => by have hc := blk_cell (blk_below HMD.out hs) 0; simp at hc; go_simp) (some 93) rfl #[y1,z1,z1,z1,z1,z1,z1,z1,z1,z1,z1,z1] (by kernel_rfl) ?_
        simp only [Act.put, List.setIfInBounds_toArray, List.set_cons_zero, List.set_cons_succ]
        refine HeldIn.wpAnyG_takeQ (fun _ => trivial) [] (i := 1) HO.out qxalive_19_2 (v := (.bool true)) rfl (fun _ _ _ h => h) HSS.out (by first | (with_reducible rfl) | (simp [Region.wanted, yielded, Act.put]; done) | rfl) (fun V hs => by go_simp) (some 94) rfl #[y1,y1,z1,z1,z1,z1,z1,z1,z1,z1,z1,z1] (by kernel_rfl) ?_
        simp only [Act.put, List.setIfInBounds_toArray, List.set_cons_zero, List.set_cons_succ]
        refine HeldIn.wpAnyG_takeQ (fun _ => trivial) [] (i := 2) HO.out qxalive_19_3 (v := (.bool true)) rfl (fun _ _ _ h => h) HSS.out (by first | (with_reducible rfl) | (simp [Region.wanted, yielded, Act.put]; done) | rfl) (fun W h => by go_simp) (some 95) rfl #[y1,y1,y1,z1,z1,z1,z1,z1,z1,z1,z1,z1] (by kernel_rfl) ?_
        simp only [Act.put, List.setIfInBounds_toArray, List.set_cons_zero, List.set_cons_succ]
        refine HeldIn.wpAnyG_takeQ (fun _ => trivial) [] (i := 3) HO.out qxalive_19_4 (v := (kv x.1.ky)) rfl (fun _ _ _ h => h) HSS.out (by first | (with_reducible rfl) | (simp [Region.wanted, yielded, Act.put]; done) | rfl) (fun V hs => Held.run_load_of 29 (.tmp 22) rfl ⟨g6, 0, none⟩ rfl (box_key H34.out (blk_below HVD.out.1 hs))) (some 96) rfl #[y1,y1,y1,y1,z1,z1,z1,z1,z1,z1,z1,z1] (by kernel_rfl) ?_
        simp only [Act.put, List.setIfInBounds_toArray, List.set_cons_zero, List.set_cons_succ]
        refine HeldIn.wpAnyG_oneQ 4 HO.out qxalive_19_5 rfl #[y1,y1,y1,y1,y1,z1,z1,z1,z1,z1,z1,z1] (by kernel_rfl) (fun K hK => ?_)
        gi_wp2_with fail
        refine ⟨trivial, ?_⟩
        (with_reducible refine (CallsIn.inRound l (callsIn_wide.2 (Y1.out _))).mono ?_)
        rintro en W2 ⟨rfl, hb⟩
        have n1_ := Aside0.mk (HSS.out.trans (hb.mono HSS.out.size))
        clear HSS hb
        have HSS := n1_
        clear n1_
        gi_wp2_with fail
        refine hK _ _ (fun _ => HSS.out) ?_
        clear hK K
        refine HeldIn.wpAnyG_takeQ (fun _ => trivial) [] (i := 5) HO.out qxalive_19_6 (v := (.bool true)) rfl (fun _ _ _ h => h) HSS.out (by first | (with_reducible rfl) | (simp [Region.wanted, yielded, Act.put]; done) | rfl) (fun V hs => (run_neqKF (.tmp 96) (.tmp 97) rfl x.1.ky k1 H34.out L1.out rfl rfl V).trans (by rw [HK.out]; rfl)) (some 98) rfl #[y1,y1,y1,y1,y1,y1,z1,z1,z1,z1,z1,z1] (by kernel_rfl) ?_
        simp only [Act.put, List.setIfInBounds_toArray, List.set_cons_zero, List.set_cons_succ]
        refine HeldIn.wpAnyG_takeQ (fun _ => trivial) [] (i := 6) HO.out qxalive_19_7 (v := (.bool true)) rfl (fun _ _ _ h => h) HSS.out (by first | (with_reducible rfl) | (simp [Region.wanted, yielded, Act.put]; done) | rfl) (fun W h => by go_simp) (some 99) rfl #[y1,y1,y1,y1,y1,y1,y1,z1,z1,z1,z1,z1] (by kernel_rfl) ?_
        simp only [Act.put, List.setIfInBounds_toArray, List.set_cons_zero, List.set_cons_succ]
        refine HeldIn.wpAnyG_skipQ (fun _ => trivial) [] (i := 7) HO.out qxalive_19_8 rfl (fun _ _ _ h => h) HSS.out (by first | (with_reducible rfl) | (simp [Region.wanted, yielded, Act.put]; done) | rfl) (some 100) rfl #[y1,y1,y1,y1,y1,y1,y1,y1,z1,z1,z1,z1] (by kernel_rfl) ?_
        simp only [Act.put, List.setIfInBounds_toArray, List.set_cons_zero, List.set_cons_succ]
        refine HeldIn.wpAnyG_skipQ (fun _ => trivial) [] (i := 8) HO.out qxalive_19_9 rfl (fun _ _ _ h => h) HSS.out (by first | (with_reducible rfl) | (simp [Region.wanted, yielded, Act.put]; done) | rfl) (some 101) rfl #[y1,y1,y1,y1,y1,y1,y1,y1,y1,z1,z1,z1] (by kernel_rfl) ?_
        simp only [Act.put, List.setIfInBounds_toArray, List.set_cons_zero, List.set_cons_succ]
        refine HeldIn.wpAnyG_skipQ (fun _ => trivial) [] (i := 9) HO.out qxalive_19_10 rfl (fun _ _ _ h => h) HSS.out (by first | (with_reducible rfl) | (simp [Region.wanted, yielded, Act.put]; done) | rfl) (some 102) rfl #[y1,y1,y1,y1,y1,y1,y1,y1,y1,y1,z1,z1] (by kernel_rfl) ?_
        simp only [Act.put, List.setIfInBounds_toArray, List.set_cons_zero, List.set_cons_succ]
        refine HeldIn.wpAnyG_takeQ (fun _ => trivial) [] (i := 10) HO.out qxalive_19_11 (v := (.bool true)) rfl (fun _ _ _ h => h) HSS.out (by first | (with_reducible rfl) | (simp [Region.wanted, yielded, Act.put]; done) | rfl) (fun V hs => by go_simp) (some 103) rfl #[y1,y1,y1,y1,y1,y1,y1,y1,y1,y1,y1,z1] (by kernel_rfl) ?_
        simp only [Act.put, List.setIfInBounds_toArray, List.set_cons_zero, List.set_cons_succ]
        refine HeldIn.wpAnyG_takeQ (fun _ => trivial) [] (i := 11) HO.out qxalive_19_12 (v := (.bool true)) rfl (fun _ _ _ h => h) HSS.out (by first | (with_reducible rfl) | (simp [Region.wanted, yielded, Act.put]; done) | rfl) (fun V hs => by go_simp) (some 104) rfl #[y1,y1,y1,y1,y1,y1,y1,y1,y1,y1,y1,y1] (by kernel_rfl) ?_
        simp only [Act.put, List.setIfInBounds_toArray, List.set_cons_zero, List.set_cons_succ]
        refine HeldIn.wpAnyG_done (by kernel_rfl) ?_ _
        simp only [HeldIn.NP]
        have HBW := Aside0.mk (HBD.out.trans (HSS.out.mono HBD.out.size))
        have HI2 := Aside0.mk (HID.out.below HSS.out)
        have hm := blk_cell (HI2.out.1.at 8 rfl) 0
        have hmf := blk_frozen (HI2.out.1.at 8 rfl) 0
        simp at hm
        clear HSS HBD HID
        gi_wp2
        refine ⟨(keepsFrom_below HBW.out).trans (keepsFrom_put _ _ _), rfl, ?_⟩
        intro hpx
        simp only [List.nil_append, List.map_cons, List.map_nil] at hpx
        obtain ⟨t, ht⟩ := hpx
        simp only [List.cons_append, List.nil_append, List.cons.injEq] at ht
        exact HKX.out (congrArg Rw.ky ht.1)
    · obtain ⟨m, hm⟩ : ∃ m, m = pre.length := ⟨_, rfl⟩
      have hm0 : m ≠ 0 := by intro h0; exact hp (List.length_eq_zero_iff.1 (by omega))
      rw [← hm] at HMD
      have e1 : ((m : Int) = 0) = False := eq_false (by omega)
      have e2 : (m : Int) ≤ 2000 := by have := HLT.out; omega
      have e3 : (m = 0) = False := eq_false hm0
      have HM := Aside0.mk hm
      have HP := Aside0.mk hp
      have HM0 := Aside0.mk hm0
      clear hm hp hm0
      gi_wp2
      refine HeldIn.wp_region_G (S := (fun V : World => Below wd.heap.size wd V)) (L := []) (by kernel_rfl) ?_
      change HeldIn.wpAnyG _ _ _ _ _ _ _ _ 12 (Array.replicate 12 false) _ _
      refine HeldIn.with_ops (HeldIn.regF Try.f8 19) (by kernel_rfl) (fun HO => ?_)
      rw [← hwd]
      clear hwd
      refine HeldIn.wpAnyG_takeQ (fun _ => trivial) [] (i := 0) HO.out qxalive_19_1 (v := (.int .i64 (m : Int))) rfl (fun _ _ _ h => h) HSS.out (by first | (with_reducible rfl) | (simp [Region.wanted, yielded, Act.put]; done) | rfl) (fun V hs => by have hc := blk_cell (blk_below HMD.out hs) 0; simp at hc; go_simp) (some 93) rfl #[y1,z1,z1,z1,z1,z1,z1,z1,z1,z1,z1,z1] (by kernel_rfl) ?_
      simp only [Act.put, List.setIfInBounds_toArray, List.set_cons_zero, List.set_cons_succ]
      refine HeldIn.wpAnyG_takeQ (fun _ => trivial) [] (i := 1) HO.out qxalive_19_2 (v := (.bool false)) rfl (fun _ _ _ h => h) HSS.out (by first | (with_reducible rfl) | (simp [Region.wanted, yielded, Act.put]; done) | rfl) (fun V hs => by go_simp) (some 94) rfl #[y1,y1,z1,z1,z1,z1,z1,z1,z1,z1,z1,z1] (by kernel_rfl) ?_
      simp only [Act.put, List.setIfInBounds_toArray, List.set_cons_zero, List.set_cons_succ]
      refine HeldIn.wpAnyG_takeQ (fun _ => trivial) [] (i := 2) HO.out qxalive_19_3 (v := (.bool false)) rfl (fun _ _ _ h => h) HSS.out (by first | (with_reducible rfl) | (simp [Region.wanted, yielded, Act.put]; done) | rfl) (fun W h => by go_simp) (some 95) rfl #[y1,y1,y1,z1,z1,z1,z1,z1,z1,z1,z1,z1] (by kernel_rfl) ?_
      simp only [Act.put, List.setIfInBounds_toArray, List.set_cons_zero, List.set_cons_succ]
      refine HeldIn.wpAnyG_skipQ (fun _ => trivial) [] (i := 3) HO.out qxalive_19_4 rfl (fun _ _ _ h => h) HSS.out (by first | (with_reducible rfl) | (simp [Region.wanted, yielded, Act.put]; done) | rfl) (some 96) rfl #[y1,y1,y1,y1,z1,z1,z1,z1,z1,z1,z1,z1] (by kernel_rfl) ?_
      simp only [Act.put, List.setIfInBounds_toArray, List.set_cons_zero, List.set_cons_succ]
      refine HeldIn.wpAnyG_skipQ (fun _ => trivial) [] (i := 4) HO.out qxalive_19_13 rfl (fun _ _ _ h => h) HSS.out (by first | (with_reducible rfl) | (simp [Region.wanted, yielded, Act.put]; done) | rfl) (some 97) rfl #[y1,y1,y1,y1,y1,z1,z1,z1,z1,z1,z1,z1] (by kernel_rfl) ?_
      simp only [Act.put, List.setIfInBounds_toArray, List.set_cons_zero, List.set_cons_succ]
      refine HeldIn.wpAnyG_skipQ (fun _ => trivial) [] (i := 5) HO.out qxalive_19_6 rfl (fun _ _ _ h => h) HSS.out (by first | (with_reducible rfl) | (simp [Region.wanted, yielded, Act.put]; done) | rfl) (some 98) rfl #[y1,y1,y1,y1,y1,y1,z1,z1,z1,z1,z1,z1] (by kernel_rfl) ?_
      simp only [Act.put, List.setIfInBounds_toArray, List.set_cons_zero, List.set_cons_succ]
      refine HeldIn.wpAnyG_skipQ (fun _ => trivial) [] (i := 6) HO.out qxalive_19_7 rfl (fun _ _ _ h => h) HSS.out (by first | (with_reducible rfl) | (simp [Region.wanted, yielded, Act.put]; done) | rfl) (some 99) rfl #[y1,y1,y1,y1,y1,y1,y1,z1,z1,z1,z1,z1] (by kernel_rfl) ?_
      simp only [Act.put, List.setIfInBounds_toArray, List.set_cons_zero, List.set_cons_succ]
      refine HeldIn.wpAnyG_skipQ (fun _ => trivial) [] (i := 7) HO.out qxalive_19_8 rfl (fun _ _ _ h => h) HSS.out (by first | (with_reducible rfl) | (simp [Region.wanted, yielded, Act.put]; done) | rfl) (some 100) rfl #[y1,y1,y1,y1,y1,y1,y1,y1,z1,z1,z1,z1] (by kernel_rfl) ?_
      simp only [Act.put, List.setIfInBounds_toArray, List.set_cons_zero, List.set_cons_succ]
      refine HeldIn.wpAnyG_skipQ (fun _ => trivial) [] (i := 8) HO.out qxalive_19_9 rfl (fun _ _ _ h => h) HSS.out (by first | (with_reducible rfl) | (simp [Region.wanted, yielded, Act.put]; done) | rfl) (some 101) rfl #[y1,y1,y1,y1,y1,y1,y1,y1,y1,z1,z1,z1] (by kernel_rfl) ?_
      simp only [Act.put, List.setIfInBounds_toArray, List.set_cons_zero, List.set_cons_succ]
      refine HeldIn.wpAnyG_skipQ (fun _ => trivial) [] (i := 9) HO.out qxalive_19_10 rfl (fun _ _ _ h => h) HSS.out (by first | (with_reducible rfl) | (simp [Region.wanted, yielded, Act.put]; done) | rfl) (some 102) rfl #[y1,y1,y1,y1,y1,y1,y1,y1,y1,y1,z1,z1] (by kernel_rfl) ?_
      simp only [Act.put, List.setIfInBounds_toArray, List.set_cons_zero, List.set_cons_succ]
      refine HeldIn.wpAnyG_skipQ (fun _ => trivial) [] (i := 10) HO.out qxalive_19_11 rfl (fun _ _ _ h => h) HSS.out (by first | (with_reducible rfl) | (simp [Region.wanted, yielded, Act.put]; done) | rfl) (some 103) rfl #[y1,y1,y1,y1,y1,y1,y1,y1,y1,y1,y1,z1] (by kernel_rfl) ?_
      simp only [Act.put, List.setIfInBounds_toArray, List.set_cons_zero, List.set_cons_succ]
      refine HeldIn.wpAnyG_takeQ (fun _ => trivial) [] (i := 11) HO.out qxalive_19_12 (v := (.bool false)) rfl (fun _ _ _ h => h) HSS.out (by first | (with_reducible rfl) | (simp [Region.wanted, yielded, Act.put]; done) | rfl) (fun V hs => by go_simp) (some 104) rfl #[y1,y1,y1,y1,y1,y1,y1,y1,y1,y1,y1,y1] (by kernel_rfl) ?_
      simp only [Act.put, List.setIfInBounds_toArray, List.set_cons_zero, List.set_cons_succ]
      refine HeldIn.wpAnyG_done (by kernel_rfl) ?_ _
      simp only [HeldIn.NP]
      have HBW := Aside0.mk (HBD.out.trans (HSS.out.mono HBD.out.size))
      have HI2 := Aside0.mk (HID.out.below HSS.out)
      have hm := blk_cell (HI2.out.1.at 1 rfl) 0
      have hmf := blk_frozen (HI2.out.1.at 1 rfl) 0
      simp at hm
      clear HSS HBD HID
      gi_wp2
      refine ⟨(keepsFrom_below HBW.out).trans (keepsFrom_put _ _ _), (KpT.below HBW.out).trans (KpT.put _ HGM.out _), ?_⟩
      exact EnvB.put [thB wm.heap.size #[.pointer (some ⟨c, 0, none⟩)] 33] HI2.out 0 _ (by first | (simp; done) | (have h1 := HLT.out; simp; unfold wrap64; omega))
  case stop =>
    rintro D c pre W _ hSp ⟨_, hn⟩ _
    exact absurd hSp hn
  case done =>
    rintro D xs W hD hS hI hKD
    subst hA0
    have hl : (xs.length : Int) = 2 := by have := congrArg List.length hS; rw [List.length_map] at this; rw [this]; rfl
    rw [hl] at hI
    have E50 := Aside0.mk (hI.addD hD HBS.out hKD)
    clear hI hKD hS hl
    simp only [List.setIfInBounds_toArray, List.set_cons_zero, List.set_cons_succ]
    obtain ⟨aq, haq⟩ : ∃ a, a = adP 258 := ⟨_, rfl⟩
    obtain ⟨kq, hkq⟩ : ∃ k, k = adP 0 ++ adP 258 := ⟨_, rfl⟩
    have HBA := Aside0.mk (buildAP 258)
    have HBK := Aside0.mk (buildKQ 258)
    rw [← hkq] at HBK
    rw [← haq] at HBA HBK
    have HKQ := Aside0.mk (show KeyOk kq by rw [hkq]; exact ⟨(keyP_ok 0 (by decide) (by decide)).1, (keyP_ok 258 (by decide) (by decide)).1⟩)
    have HB4 := Aside0.mk (show (keyB kq)[34]? = some 1 by rw [hkq]; kernel_rfl)
    have HB5 := Aside0.mk (show (keyB kq)[35]? = some 2 by rw [hkq]; kernel_rfl)
    have HBL := Aside0.mk (show 0 < (keyB kq).length by rw [keyB_length HKQ.out.len]; decide)
    clear haq hkq
    gi_wp2_with (first | (refine in_value (fun _ => trivial) rfl (by intro c hc; cases hc) (run_build_of1 27 1 (.const (.int .u16 258)) rfl (u := .int .u16 258) rfl (HBA.out _)) ?_) | (refine in_value (fun _ => trivial) rfl (by intro c hc; cases hc) (run_build_of1 29 1 (.tmp 107) rfl (u := va aq) rfl (HBK.out _)) ?_))
    refine ⟨trivial, ?_⟩
    (with_reducible refine (callsIn_wide.2 (key_calls kq HKQ.out _)).mono ?_)
    rintro en w61 ⟨Aq, cq, rfl, hR, hb⟩
    obtain ⟨gq, rfl, hgq, hcq⟩ := R_u8_cell hR HBL.out
    have E51 := Aside0.mk (E50.out.new (thC gq 34 35 1 2) ⟨hcq _ _ HB4.out, hcq _ _ HB5.out⟩ (fun k hk => by have hk' : k = gq := hk; omega) hb)
    clear E50
    clear hR hgq hcq hb
    gi_wp2_with fail
    obtain ⟨w62, hwd⟩ : ∃ W', W' = w61.drew := ⟨_, rfl⟩
    have E52 := Aside0.mk ((show Env w w62 _ by rw [hwd]; exact E51.out.below (below_drew (Below.refl _ _))))
    clear E51
    refine HeldIn.wp_region_G (S := (fun V : World => ∀ t ∈ ([thC gq 34 35 1 2, thB wm.heap.size #[.pointer (some ⟨c, 0, none⟩)] 33, thB w16.heap.size #[.int .i64 2] 3, thB w13.heap.size #[.int .i64 5, .int .u64 101] 43, thB w11.heap.size (encK z0).toArray 29, thB w9.heap.size (encK k2).toArray 29, thB w3.heap.size (encK z0).toArray 29] : List Th), t.P V)) (L := []) (by kernel_rfl) ?_
    change HeldIn.wpAnyG _ _ _ _ _ _ _ _ 93 (Array.replicate 93 false) _ _
    refine HeldIn.with_ops (HeldIn.regF Try.f8 23) (by kernel_rfl) (fun HO => ?_)
    rw [← hwd]
    clear hwd
    have HSS := Aside0.mk (show ∀ t ∈ ([thC gq 34 35 1 2, thB wm.heap.size #[.pointer (some ⟨c, 0, none⟩)] 33, thB w16.heap.size #[.int .i64 2] 3, thB w13.heap.size #[.int .i64 5, .int .u64 101] 43, thB w11.heap.size (encK z0).toArray 29, thB w9.heap.size (encK k2).toArray 29, thB w3.heap.size (encK z0).toArray 29] : List Th), t.P w62 by intro t ht; simp only [List.mem_cons, List.not_mem_nil, or_false] at ht; rcases ht with rfl | rfl | rfl | rfl | rfl | rfl | rfl <;> first | exact E52.out.at 0 rfl | exact E52.out.at 2 rfl | exact E52.out.at 3 rfl | exact E52.out.at 5 rfl | exact E52.out.at 6 rfl | exact E52.out.at 7 rfl | exact E52.out.at 8 rfl)
    refine HeldIn.wpAnyG_takeQ (fun _ => trivial) [] (i := 0) HO.out qxalive_23_14 (v := (.bool false)) rfl (fun _ _ _ h => h) HSS.out (by first | (with_reducible rfl) | (simp [Region.wanted, yielded, Act.put]; done) | rfl) (fun V hs => by go_simp) (some 110) rfl #[y1,z1,z1,z1,z1,z1,z1,z1,z1,z1,z1,z1,z1,z1,z1,z1,z1,z1,z1,z1,z1,z1,z1,z1,z1,z1,z1,z1,z1,z1,z1,z1,z1,z1,z1,z1,z1,z1,z1,z1,z1,z1,z1,z1,z1,z1,z1,z1,z1,z1,z1,z1,z1,z1,z1,z1,z1,z1,z1,z1,z1,z1,z1,z1,z1,z1,z1,z1,z1,z1,z1,z1,z1,z1,z1,z1,z1,z1,z1,z1,z1,z1,z1,z1,z1,z1,z1,z1,z1,z1,z1,z1,z1] (by kernel_rfl) ?_
    simp only [Act.put, List.setIfInBounds_toArray, List.set_cons_zero, List.set_cons_succ]
    refine HeldIn.wpAnyG_takeQ (fun _ => trivial) [] (i := 1) HO.out qxalive_23_15 (v := (.bool true)) rfl (fun _ _ _ h => h) HSS.out (by first | (with_reducible rfl) | (simp [Region.wanted, yielded, Act.put]; done) | rfl) (fun V hs => by go_simp) (some 111) rfl #[y1,y1,z1,z1,z1,z1,z1,z1,z1,z1,z1,z1,z1,z1,z1,z1,z1,z1,z1,z1,z1,z1,z1,z1,z1,z1,z1,z1,z1,z1,z1,z1,z1,z1,z1,z1,z1,z1,z1,z1,z1,z1,z1,z1,z1,z1,z1,z1,z1,z1,z1,z1,z1,z1,z1,z1,z1,z1,z1,z1,z1,z1,z1,z1,z1,z1,z1,z1,z1,z1,z1,z1,z1,z1,z1,z1,z1,z1,z1,z1,z1,z1,z1,z1,z1,z1,z1,z1,z1,z1,z1,z1,z1] (by kernel_rfl) ?_
    simp only [Act.put, List.setIfInBounds_toArray, List.set_cons_zero, List.set_cons_succ]
    refine HeldIn.wpAnyG_takeQ (fun _ => trivial) [] (i := 2) HO.out qxalive_23_16 (v := (.bool true)) rfl (fun _ _ _ h => h) HSS.out (by first | (with_reducible rfl) | (simp [Region.wanted, yielded, Act.put]; done) | rfl) (fun V hs => by go_simp) (some 112) rfl #[y1,y1,y1,z1,z1,z1,z1,z1,z1,z1,z1,z1,z1,z1,z1,z1,z1,z1,z1,z1,z1,z1,z1,z1,z1,z1,z1,z1,z1,z1,z1,z1,z1,z1,z1,z1,z1,z1,z1,z1,z1,z1,z1,z1,z1,z1,z1,z1,z1,z1,z1,z1,z1,z1,z1,z1,z1,z1,z1,z1,z1,z1,z1,z1,z1,z1,z1,z1,z1,z1,z1,z1,z1,z1,z1,z1,z1,z1,z1,z1,z1,z1,z1,z1,z1,z1,z1,z1,z1,z1,z1,z1,z1] (by kernel_rfl) ?_
    simp only [Act.put, List.setIfInBounds_toArray, List.set_cons_zero, List.set_cons_succ]
    refine HeldIn.wpAnyG_takeQ (fun _ => trivial) [] (i := 3) HO.out qxalive_23_17 (v := (.int .i64 0)) rfl (fun _ _ _ h => h) HSS.out (by first | (with_reducible rfl) | (simp [Region.wanted, yielded, Act.put]; done) | rfl) (fun V hs => by go_simp) (some 113) rfl #[y1,y1,y1,y1,z1,z1,z1,z1,z1,z1,z1,z1,z1,z1,z1,z1,z1,z1,z1,z1,z1,z1,z1,z1,z1,z1,z1,z1,z1,z1,z1,z1,z1,z1,z1,z1,z1,z1,z1,z1,z1,z1,z1,z1,z1,z1,z1,z1,z1,z1,z1,z1,z1,z1,z1,z1,z1,z1,z1,z1,z1,z1,z1,z1,z1,z1,z1,z1,z1,z1,z1,z1,z1,z1,z1,z1,z1,z1,z1,z1,z1,z1,z1,z1,z1,z1,z1,z1,z1,z1,z1,z1,z1] (by kernel_rfl) ?_
    simp only [Act.put, List.setIfInBounds_toArray, List.set_cons_zero, List.set_cons_succ]
    refine HeldIn.wpAnyG_takeQ (fun _ => trivial) [] (i := 4) HO.out qxalive_23_18 (v := (.bool true)) rfl (fun _ _ _ h => h) HSS.out (by first | (with_reducible rfl) | (simp [Region.wanted, yielded, Act.put]; done) | rfl) (fun V hs => by go_simp) (some 114) rfl #[y1,y1,y1,y1,y1,z1,z1,z1,z1,z1,z1,z1,z1,z1,z1,z1,z1,z1,z1,z1,z1,z1,z1,z1,z1,z1,z1,z1,z1,z1,z1,z1,z1,z1,z1,z1,z1,z1,z1,z1,z1,z1,z1,z1,z1,z1,z1,z1,z1,z1,z1,z1,z1,z1,z1,z1,z1,z1,z1,z1,z1,z1,z1,z1,z1,z1,z1,z1,z1,z1,z1,z1,z1,z1,z1,z1,z1,z1,z1,z1,z1,z1,z1,z1,z1,z1,z1,z1,z1,z1,z1,z1,z1] (by kernel_rfl) ?_
    simp only [Act.put, List.setIfInBounds_toArray, List.set_cons_zero, List.set_cons_succ]
    refine HeldIn.wpAnyG_takeQ (fun _ => trivial) [] (i := 5) HO.out qxalive_23_19 (v := (.bool true)) rfl (fun _ _ _ h => h) HSS.out (by first | (with_reducible rfl) | (simp [Region.wanted, yielded, Act.put]; done) | rfl) (fun V hs => by go_simp) (some 115) rfl #[y1,y1,y1,y1,y1,y1,z1,z1,z1,z1,z1,z1,z1,z1,z1,z1,z1,z1,z1,z1,z1,z1,z1,z1,z1,z1,z1,z1,z1,z1,z1,z1,z1,z1,z1,z1,z1,z1,z1,z1,z1,z1,z1,z1,z1,z1,z1,z1,z1,z1,z1,z1,z1,z1,z1,z1,z1,z1,z1,z1,z1,z1,z1,z1,z1,z1,z1,z1,z1,z1,z1,z1,z1,z1,z1,z1,z1,z1,z1,z1,z1,z1,z1,z1,z1,z1,z1,z1,z1,z1,z1,z1,z1] (by kernel_rfl) ?_
    simp only [Act.put, List.setIfInBounds_toArray, List.set_cons_zero, List.set_cons_succ]
    refine HeldIn.wpAnyG_takeQ (fun _ => trivial) [] (i := 6) HO.out qxalive_23_20 (v := (.bool true)) rfl (fun _ _ _ h => h) HSS.out (by first | (with_reducible rfl) | (simp [Region.wanted, yielded, Act.put]; done) | rfl) (fun V hs => by go_simp) (some 116) rfl #[y1,y1,y1,y1,y1,y1,y1,z1,z1,z1,z1,z1,z1,z1,z1,z1,z1,z1,z1,z1,z1,z1,z1,z1,z1,z1,z1,z1,z1,z1,z1,z1,z1,z1,z1,z1,z1,z1,z1,z1,z1,z1,z1,z1,z1,z1,z1,z1,z1,z1,z1,z1,z1,z1,z1,z1,z1,z1,z1,z1,z1,z1,z1,z1,z1,z1,z1,z1,z1,z1,z1,z1,z1,z1,z1,z1,z1,z1,z1,z1,z1,z1,z1,z1,z1,z1,z1,z1,z1,z1,z1,z1,z1] (by kernel_rfl) ?_
    simp only [Act.put, List.setIfInBounds_toArray, List.set_cons_zero, List.set_cons_succ]
    refine HeldIn.wpAnyG_takeQ (fun _ => trivial) [] (i := 7) HO.out qxalive_23_21 (v := (.bool true)) rfl (fun _ _ _ h => h) HSS.out (by first | (with_reducible rfl) | (simp [Region.wanted, yielded, Act.put]; done) | rfl) (fun V hs => by go_simp) (some 117) rfl #[y1,y1,y1,y1,y1,y1,y1,y1,z1,z1,z1,z1,z1,z1,z1,z1,z1,z1,z1,z1,z1,z1,z1,z1,z1,z1,z1,z1,z1,z1,z1,z1,z1,z1,z1,z1,z1,z1,z1,z1,z1,z1,z1,z1,z1,z1,z1,z1,z1,z1,z1,z1,z1,z1,z1,z1,z1,z1,z1,z1,z1,z1,z1,z1,z1,z1,z1,z1,z1,z1,z1,z1,z1,z1,z1,z1,z1,z1,z1,z1,z1,z1,z1,z1,z1,z1,z1,z1,z1,z1,z1,z1,z1] (by kernel_rfl) ?_
    simp only [Act.put, List.setIfInBounds_toArray, List.set_cons_zero, List.set_cons_succ]
    refine HeldIn.wpAnyG_takeQ (fun _ => trivial) [] (i := 8) HO.out qxalive_23_22 (v := (.bool true)) rfl (fun _ _ _ h => h) HSS.out (by first | (with_reducible rfl) | (simp [Region.wanted, yielded, Act.put]; done) | rfl) (fun V hs => by go_simp) (some 118) rfl #[y1,y1,y1,y1,y1,y1,y1,y1,y1,z1,z1,z1,z1,z1,z1,z1,z1,z1,z1,z1,z1,z1,z1,z1,z1,z1,z1,z1,z1,z1,z1,z1,z1,z1,z1,z1,z1,z1,z1,z1,z1,z1,z1,z1,z1,z1,z1,z1,z1,z1,z1,z1,z1,z1,z1,z1,z1,z1,z1,z1,z1,z1,z1,z1,z1,z1,z1,z1,z1,z1,z1,z1,z1,z1,z1,z1,z1,z1,z1,z1,z1,z1,z1,z1,z1,z1,z1,z1,z1,z1,z1,z1,z1] (by kernel_rfl) ?_
    simp only [Act.put, List.setIfInBounds_toArray, List.set_cons_zero, List.set_cons_succ]
    refine HeldIn.wpAnyG_takeQ (fun _ => trivial) [] (i := 9) HO.out qxalive_23_23 (v := (.bool true)) rfl (fun _ _ _ h => h) HSS.out (by first | (with_reducible rfl) | (simp [Region.wanted, yielded, Act.put]; done) | rfl) (fun V hs => by go_simp) (some 119) rfl #[y1,y1,y1,y1,y1,y1,y1,y1,y1,y1,z1,z1,z1,z1,z1,z1,z1,z1,z1,z1,z1,z1,z1,z1,z1,z1,z1,z1,z1,z1,z1,z1,z1,z1,z1,z1,z1,z1,z1,z1,z1,z1,z1,z1,z1,z1,z1,z1,z1,z1,z1,z1,z1,z1,z1,z1,z1,z1,z1,z1,z1,z1,z1,z1,z1,z1,z1,z1,z1,z1,z1,z1,z1,z1,z1,z1,z1,z1,z1,z1,z1,z1,z1,z1,z1,z1,z1,z1,z1,z1,z1,z1,z1] (by kernel_rfl) ?_
    simp only [Act.put, List.setIfInBounds_toArray, List.set_cons_zero, List.set_cons_succ]
    refine HeldIn.wpAnyG_takeQ (fun _ => trivial) [] (i := 10) HO.out qxalive_23_24 (v := (.int .i64 5)) rfl (fun _ _ _ h => h) HSS.out (by first | (with_reducible rfl) | (simp [Region.wanted, yielded, Act.put]; done) | rfl) (fun V hs => by go_simp) (some 120) rfl #[y1,y1,y1,y1,y1,y1,y1,y1,y1,y1,y1,z1,z1,z1,z1,z1,z1,z1,z1,z1,z1,z1,z1,z1,z1,z1,z1,z1,z1,z1,z1,z1,z1,z1,z1,z1,z1,z1,z1,z1,z1,z1,z1,z1,z1,z1,z1,z1,z1,z1,z1,z1,z1,z1,z1,z1,z1,z1,z1,z1,z1,z1,z1,z1,z1,z1,z1,z1,z1,z1,z1,z1,z1,z1,z1,z1,z1,z1,z1,z1,z1,z1,z1,z1,z1,z1,z1,z1,z1,z1,z1,z1,z1] (by kernel_rfl) ?_
    simp only [Act.put, List.setIfInBounds_toArray, List.set_cons_zero, List.set_cons_succ]
    refine HeldIn.wpAnyG_takeQ (fun _ => trivial) [] (i := 11) HO.out qxalive_23_25 (v := (.bool true)) rfl (fun _ _ _ h => h) HSS.out (by first | (with_reducible rfl) | (simp [Region.wanted, yielded, Act.put]; done) | rfl) (fun V hs => by go_simp) (some 121) rfl #[y1,y1,y1,y1,y1,y1,y1,y1,y1,y1,y1,y1,z1,z1,z1,z1,z1,z1,z1,z1,z1,z1,z1,z1,z1,z1,z1,z1,z1,z1,z1,z1,z1,z1,z1,z1,z1,z1,z1,z1,z1,z1,z1,z1,z1,z1,z1,z1,z1,z1,z1,z1,z1,z1,z1,z1,z1,z1,z1,z1,z1,z1,z1,z1,z1,z1,z1,z1,z1,z1,z1,z1,z1,z1,z1,z1,z1,z1,z1,z1,z1,z1,z1,z1,z1,z1,z1,z1,z1,z1,z1,z1,z1] (by kernel_rfl) ?_
    simp only [Act.put, List.setIfInBounds_toArray, List.set_cons_zero, List.set_cons_succ]
    refine HeldIn.wpAnyG_takeQ (fun _ => trivial) [] (i := 12) HO.out qxalive_23_26 (v := (.bool true)) rfl (fun _ _ _ h => h) HSS.out (by first | (with_reducible rfl) | (simp [Region.wanted, yielded, Act.put]; done) | rfl) (fun V hs => by go_simp) (some 122) rfl #[y1,y1,y1,y1,y1,y1,y1,y1,y1,y1,y1,y1,y1,z1,z1,z1,z1,z1,z1,z1,z1,z1,z1,z1,z1,z1,z1,z1,z1,z1,z1,z1,z1,z1,z1,z1,z1,z1,z1,z1,z1,z1,z1,z1,z1,z1,z1,z1,z1,z1,z1,z1,z1,z1,z1,z1,z1,z1,z1,z1,z1,z1,z1,z1,z1,z1,z1,z1,z1,z1,z1,z1,z1,z1,z1,z1,z1,z1,z1,z1,z1,z1,z1,z1,z1,z1,z1,z1,z1,z1,z1,z1,z1] (by kernel_rfl) ?_
    simp only [Act.put, List.setIfInBounds_toArray, List.set_cons_zero, List.set_cons_succ]
    refine HeldIn.wpAnyG_takeQ (fun _ => trivial) [] (i := 13) HO.out qxalive_23_27 (v := (.bool true)) rfl (fun _ _ _ h => h) HSS.out (by first | (with_reducible rfl) | (simp [Region.wanted, yielded, Act.put]; done) | rfl) (fun V hs => by go_simp) (some 123) rfl #[y1,y1,y1,y1,y1,y1,y1,y1,y1,y1,y1,y1,y1,y1,z1,z1,z1,z1,z1,z1,z1,z1,z1,z1,z1,z1,z1,z1,z1,z1,z1,z1,z1,z1,z1,z1,z1,z1,z1,z1,z1,z1,z1,z1,z1,z1,z1,z1,z1,z1,z1,z1,z1,z1,z1,z1,z1,z1,z1,z1,z1,z1,z1,z1,z1,z1,z1,z1,z1,z1,z1,z1,z1,z1,z1,z1,z1,z1,z1,z1,z1,z1,z1,z1,z1,z1,z1,z1,z1,z1,z1,z1,z1] (by kernel_rfl) ?_
    simp only [Act.put, List.setIfInBounds_toArray, List.set_cons_zero, List.set_cons_succ]
    refine HeldIn.wpAnyG_takeQ (fun _ => trivial) [] (i := 14) HO.out qxalive_23_28 (v := (.bool true)) rfl (fun _ _ _ h => h) HSS.out (by first | (with_reducible rfl) | (simp [Region.wanted, yielded, Act.put]; done) | rfl) (fun V hs => by go_simp) (some 124) rfl #[y1,y1,y1,y1,y1,y1,y1,y1,y1,y1,y1,y1,y1,y1,y1,z1,z1,z1,z1,z1,z1,z1,z1,z1,z1,z1,z1,z1,z1,z1,z1,z1,z1,z1,z1,z1,z1,z1,z1,z1,z1,z1,z1,z1,z1,z1,z1,z1,z1,z1,z1,z1,z1,z1,z1,z1,z1,z1,z1,z1,z1,z1,z1,z1,z1,z1,z1,z1,z1,z1,z1,z1,z1,z1,z1,z1,z1,z1,z1,z1,z1,z1,z1,z1,z1,z1,z1,z1,z1,z1,z1,z1,z1] (by kernel_rfl) ?_
    simp only [Act.put, List.setIfInBounds_toArray, List.set_cons_zero, List.set_cons_succ]
    refine HeldIn.wpAnyG_takeQ (fun _ => trivial) [] (i := 15) HO.out qxalive_23_29 (v := (.bool true)) rfl (fun _ _ _ h => h) HSS.out (by first | (with_reducible rfl) | (simp [Region.wanted, yielded, Act.put]; done) | rfl) (fun V hs => by go_simp) (some 125) rfl #[y1,y1,y1,y1,y1,y1,y1,y1,y1,y1,y1,y1,y1,y1,y1,y1,z1,z1,z1,z1,z1,z1,z1,z1,z1,z1,z1,z1,z1,z1,z1,z1,z1,z1,z1,z1,z1,z1,z1,z1,z1,z1,z1,z1,z1,z1,z1,z1,z1,z1,z1,z1,z1,z1,z1,z1,z1,z1,z1,z1,z1,z1,z1,z1,z1,z1,z1,z1,z1,z1,z1,z1,z1,z1,z1,z1,z1,z1,z1,z1,z1,z1,z1,z1,z1,z1,z1,z1,z1,z1,z1,z1,z1] (by kernel_rfl) ?_
    simp only [Act.put, List.setIfInBounds_toArray, List.set_cons_zero, List.set_cons_succ]
    refine HeldIn.wpAnyG_takeQ (fun _ => trivial) [] (i := 16) HO.out qxalive_23_30 (v := (.bool true)) rfl (fun _ _ _ h => h) HSS.out (by first | (with_reducible rfl) | (simp [Region.wanted, yielded, Act.put]; done) | rfl) (fun V hs => by go_simp) (some 126) rfl #[y1,y1,y1,y1,y1,y1,y1,y1,y1,y1,y1,y1,y1,y1,y1,y1,y1,z1,z1,z1,z1,z1,z1,z1,z1,z1,z1,z1,z1,z1,z1,z1,z1,z1,z1,z1,z1,z1,z1,z1,z1,z1,z1,z1,z1,z1,z1,z1,z1,z1,z1,z1,z1,z1,z1,z1,z1,z1,z1,z1,z1,z1,z1,z1,z1,z1,z1,z1,z1,z1,z1,z1,z1,z1,z1,z1,z1,z1,z1,z1,z1,z1,z1,z1,z1,z1,z1,z1,z1,z1,z1,z1,z1] (by kernel_rfl) ?_
    simp only [Act.put, List.setIfInBounds_toArray, List.set_cons_zero, List.set_cons_succ]
    refine HeldIn.wpAnyG_takeQ (fun _ => trivial) [] (i := 17) HO.out qxalive_23_31 (v := (kv k2)) rfl (fun _ _ _ h => h) HSS.out (by first | (with_reducible rfl) | (simp [Region.wanted, yielded, Act.put]; done) | rfl) (fun V hs => Held.run_load_of 29 (.tmp 10) rfl ⟨w9.heap.size, 0, none⟩ rfl (box_key L2.out (hs _ (List.mem_of_getElem? (i := 5) rfl)))) (some 127) rfl #[y1,y1,y1,y1,y1,y1,y1,y1,y1,y1,y1,y1,y1,y1,y1,y1,y1,y1,z1,z1,z1,z1,z1,z1,z1,z1,z1,z1,z1,z1,z1,z1,z1,z1,z1,z1,z1,z1,z1,z1,z1,z1,z1,z1,z1,z1,z1,z1,z1,z1,z1,z1,z1,z1,z1,z1,z1,z1,z1,z1,z1,z1,z1,z1,z1,z1,z1,z1,z1,z1,z1,z1,z1,z1,z1,z1,z1,z1,z1,z1,z1,z1,z1,z1,z1,z1,z1,z1,z1,z1,z1,z1,z1] (by kernel_rfl) ?_
    simp only [Act.put, List.setIfInBounds_toArray, List.set_cons_zero, List.set_cons_succ]
    refine HeldIn.wpAnyG_oneQ 18 HO.out qxalive_23_32 rfl #[y1,y1,y1,y1,y1,y1,y1,y1,y1,y1,y1,y1,y1,y1,y1,y1,y1,y1,y1,z1,z1,z1,z1,z1,z1,z1,z1,z1,z1,z1,z1,z1,z1,z1,z1,z1,z1,z1,z1,z1,z1,z1,z1,z1,z1,z1,z1,z1,z1,z1,z1,z1,z1,z1,z1,z1,z1,z1,z1,z1,z1,z1,z1,z1,z1,z1,z1,z1,z1,z1,z1,z1,z1,z1,z1,z1,z1,z1,z1,z1,z1,z1,z1,z1,z1,z1,z1,z1,z1,z1,z1,z1,z1] (by kernel_rfl) (fun K hK => ?_)
    gi_wp2_with fail
    refine ⟨trivial, ?_⟩
    (with_reducible refine (callsIn_wide.2 (Y2.out _)).mono ?_)
    rintro en w63 ⟨rfl, hb⟩
    have E53 := Aside0.mk (E52.out.below hb)
    clear E52
    clear hb
    clear HSS
    have HSS := Aside0.mk (show ∀ t ∈ ([thC gq 34 35 1 2, thB wm.heap.size #[.pointer (some ⟨c, 0, none⟩)] 33, thB w16.heap.size #[.int .i64 2] 3, thB w13.heap.size #[.int .i64 5, .int .u64 101] 43, thB w11.heap.size (encK z0).toArray 29, thB w9.heap.size (encK k2).toArray 29, thB w3.heap.size (encK z0).toArray 29] : List Th), t.P w63 by intro t ht; simp only [List.mem_cons, List.not_mem_nil, or_false] at ht; rcases ht with rfl | rfl | rfl | rfl | rfl | rfl | rfl <;> first | exact E53.out.at 0 rfl | exact E53.out.at 2 rfl | exact E53.out.at 3 rfl | exact E53.out.at 5 rfl | exact E53.out.at 6 rfl | exact E53.out.at 7 rfl | exact E53.out.at 8 rfl)
    gi_wp2_with fail
    refine hK _ _ (fun _ => HSS.out) ?_
    clear hK K
    refine HeldIn.wpAnyG_takeQ (fun _ => trivial) [] (i := 19) HO.out qxalive_23_33 (v := (.bool true)) rfl (fun _ _ _ h => h) HSS.out (by first | (with_reducible rfl) | (simp [Region.wanted, yielded, Act.put]; done) | rfl) (fun V hs => (run_eqlKF (.tmp 127) (.tmp 128) rfl k2 k2 L2.out L2.out rfl rfl V).trans (by rw [decide_eq_true rfl])) (some 129) rfl #[y1,y1,y1,y1,y1,y1,y1,y1,y1,y1,y1,y1,y1,y1,y1,y1,y1,y1,y1,y1,z1,z1,z1,z1,z1,z1,z1,z1,z1,z1,z1,z1,z1,z1,z1,z1,z1,z1,z1,z1,z1,z1,z1,z1,z1,z1,z1,z1,z1,z1,z1,z1,z1,z1,z1,z1,z1,z1,z1,z1,z1,z1,z1,z1,z1,z1,z1,z1,z1,z1,z1,z1,z1,z1,z1,z1,z1,z1,z1,z1,z1,z1,z1,z1,z1,z1,z1,z1,z1,z1,z1,z1,z1] (by kernel_rfl) ?_
    simp only [Act.put, List.setIfInBounds_toArray, List.set_cons_zero, List.set_cons_succ]
    refine HeldIn.wpAnyG_takeQ (fun _ => trivial) [] (i := 20) HO.out qxalive_23_34 (v := (.bool true)) rfl (fun _ _ _ h => h) HSS.out (by first | (with_reducible rfl) | (simp [Region.wanted, yielded, Act.put]; done) | rfl) (fun V hs => by go_simp) (some 130) rfl #[y1,y1,y1,y1,y1,y1,y1,y1,y1,y1,y1,y1,y1,y1,y1,y1,y1,y1,y1,y1,y1,z1,z1,z1,z1,z1,z1,z1,z1,z1,z1,z1,z1,z1,z1,z1,z1,z1,z1,z1,z1,z1,z1,z1,z1,z1,z1,z1,z1,z1,z1,z1,z1,z1,z1,z1,z1,z1,z1,z1,z1,z1,z1,z1,z1,z1,z1,z1,z1,z1,z1,z1,z1,z1,z1,z1,z1,z1,z1,z1,z1,z1,z1,z1,z1,z1,z1,z1,z1,z1,z1,z1,z1] (by kernel_rfl) ?_
    simp only [Act.put, List.setIfInBounds_toArray, List.set_cons_zero, List.set_cons_succ]
    refine HeldIn.wpAnyG_takeQ (fun _ => trivial) [] (i := 21) HO.out qxalive_23_35 (v := (.bool true)) rfl (fun _ _ _ h => h) HSS.out (by first | (with_reducible rfl) | (simp [Region.wanted, yielded, Act.put]; done) | rfl) (fun V hs => by go_simp) (some 131) rfl #[y1,y1,y1,y1,y1,y1,y1,y1,y1,y1,y1,y1,y1,y1,y1,y1,y1,y1,y1,y1,y1,y1,z1,z1,z1,z1,z1,z1,z1,z1,z1,z1,z1,z1,z1,z1,z1,z1,z1,z1,z1,z1,z1,z1,z1,z1,z1,z1,z1,z1,z1,z1,z1,z1,z1,z1,z1,z1,z1,z1,z1,z1,z1,z1,z1,z1,z1,z1,z1,z1,z1,z1,z1,z1,z1,z1,z1,z1,z1,z1,z1,z1,z1,z1,z1,z1,z1,z1,z1,z1,z1,z1,z1] (by kernel_rfl) ?_
    simp only [Act.put, List.setIfInBounds_toArray, List.set_cons_zero, List.set_cons_succ]
    refine HeldIn.wpAnyG_takeQ (fun _ => trivial) [] (i := 22) HO.out qxalive_23_36 (v := (.int .i64 0)) rfl (fun _ _ _ h => h) HSS.out (by first | (with_reducible rfl) | (simp [Region.wanted, yielded, Act.put]; done) | rfl) (fun V hs => by go_simp) (some 132) rfl #[y1,y1,y1,y1,y1,y1,y1,y1,y1,y1,y1,y1,y1,y1,y1,y1,y1,y1,y1,y1,y1,y1,y1,z1,z1,z1,z1,z1,z1,z1,z1,z1,z1,z1,z1,z1,z1,z1,z1,z1,z1,z1,z1,z1,z1,z1,z1,z1,z1,z1,z1,z1,z1,z1,z1,z1,z1,z1,z1,z1,z1,z1,z1,z1,z1,z1,z1,z1,z1,z1,z1,z1,z1,z1,z1,z1,z1,z1,z1,z1,z1,z1,z1,z1,z1,z1,z1,z1,z1,z1,z1,z1,z1] (by kernel_rfl) ?_
    simp only [Act.put, List.setIfInBounds_toArray, List.set_cons_zero, List.set_cons_succ]
    refine HeldIn.wpAnyG_takeQ (fun _ => trivial) [] (i := 23) HO.out qxalive_23_37 (v := (.bool true)) rfl (fun _ _ _ h => h) HSS.out (by first | (with_reducible rfl) | (simp [Region.wanted, yielded, Act.put]; done) | rfl) (fun V hs => by go_simp) (some 133) rfl #[y1,y1,y1,y1,y1,y1,y1,y1,y1,y1,y1,y1,y1,y1,y1,y1,y1,y1,y1,y1,y1,y1,y1,y1,z1,z1,z1,z1,z1,z1,z1,z1,z1,z1,z1,z1,z1,z1,z1,z1,z1,z1,z1,z1,z1,z1,z1,z1,z1,z1,z1,z1,z1,z1,z1,z1,z1,z1,z1,z1,z1,z1,z1,z1,z1,z1,z1,z1,z1,z1,z1,z1,z1,z1,z1,z1,z1,z1,z1,z1,z1,z1,z1,z1,z1,z1,z1,z1,z1,z1,z1,z1,z1] (by kernel_rfl) ?_
    simp only [Act.put, List.setIfInBounds_toArray, List.set_cons_zero, List.set_cons_succ]
    refine HeldIn.wpAnyG_takeQ (fun _ => trivial) [] (i := 24) HO.out qxalive_23_38 (v := (.bool true)) rfl (fun _ _ _ h => h) HSS.out (by first | (with_reducible rfl) | (simp [Region.wanted, yielded, Act.put]; done) | rfl) (fun V hs => by go_simp) (some 134) rfl #[y1,y1,y1,y1,y1,y1,y1,y1,y1,y1,y1,y1,y1,y1,y1,y1,y1,y1,y1,y1,y1,y1,y1,y1,y1,z1,z1,z1,z1,z1,z1,z1,z1,z1,z1,z1,z1,z1,z1,z1,z1,z1,z1,z1,z1,z1,z1,z1,z1,z1,z1,z1,z1,z1,z1,z1,z1,z1,z1,z1,z1,z1,z1,z1,z1,z1,z1,z1,z1,z1,z1,z1,z1,z1,z1,z1,z1,z1,z1,z1,z1,z1,z1,z1,z1,z1,z1,z1,z1,z1,z1,z1,z1] (by kernel_rfl) ?_
    simp only [Act.put, List.setIfInBounds_toArray, List.set_cons_zero, List.set_cons_succ]
    refine HeldIn.wpAnyG_takeQ (fun _ => trivial) [] (i := 25) HO.out qxalive_23_39 (v := (.bool true)) rfl (fun _ _ _ h => h) HSS.out (by first | (with_reducible rfl) | (simp [Region.wanted, yielded, Act.put]; done) | rfl) (fun V hs => by go_simp) (some 135) rfl #[y1,y1,y1,y1,y1,y1,y1,y1,y1,y1,y1,y1,y1,y1,y1,y1,y1,y1,y1,y1,y1,y1,y1,y1,y1,y1,z1,z1,z1,z1,z1,z1,z1,z1,z1,z1,z1,z1,z1,z1,z1,z1,z1,z1,z1,z1,z1,z1,z1,z1,z1,z1,z1,z1,z1,z1,z1,z1,z1,z1,z1,z1,z1,z1,z1,z1,z1,z1,z1,z1,z1,z1,z1,z1,z1,z1,z1,z1,z1,z1,z1,z1,z1,z1,z1,z1,z1,z1,z1,z1,z1,z1,z1] (by kernel_rfl) ?_
    simp only [Act.put, List.setIfInBounds_toArray, List.set_cons_zero, List.set_cons_succ]
    refine HeldIn.wpAnyG_takeQ (fun _ => trivial) [] (i := 26) HO.out qxalive_23_40 (v := (.int .i64 16)) rfl (fun _ _ _ h => h) HSS.out (by first | (with_reducible rfl) | (simp [Region.wanted, yielded, Act.put]; done) | rfl) (fun V hs => by go_simp) (some 136) rfl #[y1,y1,y1,y1,y1,y1,y1,y1,y1,y1,y1,y1,y1,y1,y1,y1,y1,y1,y1,y1,y1,y1,y1,y1,y1,y1,y1,z1,z1,z1,z1,z1,z1,z1,z1,z1,z1,z1,z1,z1,z1,z1,z1,z1,z1,z1,z1,z1,z1,z1,z1,z1,z1,z1,z1,z1,z1,z1,z1,z1,z1,z1,z1,z1,z1,z1,z1,z1,z1,z1,z1,z1,z1,z1,z1,z1,z1,z1,z1,z1,z1,z1,z1,z1,z1,z1,z1,z1,z1,z1,z1,z1,z1] (by kernel_rfl) ?_
    simp only [Act.put, List.setIfInBounds_toArray, List.set_cons_zero, List.set_cons_succ]
    refine HeldIn.wpAnyG_takeQ (fun _ => trivial) [] (i := 27) HO.out qxalive_23_41 (v := (.bool true)) rfl (fun _ _ _ h => h) HSS.out (by first | (with_reducible rfl) | (simp [Region.wanted, yielded, Act.put]; done) | rfl) (fun V hs => by go_simp) (some 137) rfl #[y1,y1,y1,y1,y1,y1,y1,y1,y1,y1,y1,y1,y1,y1,y1,y1,y1,y1,y1,y1,y1,y1,y1,y1,y1,y1,y1,y1,z1,z1,z1,z1,z1,z1,z1,z1,z1,z1,z1,z1,z1,z1,z1,z1,z1,z1,z1,z1,z1,z1,z1,z1,z1,z1,z1,z1,z1,z1,z1,z1,z1,z1,z1,z1,z1,z1,z1,z1,z1,z1,z1,z1,z1,z1,z1,z1,z1,z1,z1,z1,z1,z1,z1,z1,z1,z1,z1,z1,z1,z1,z1,z1,z1] (by kernel_rfl) ?_
    simp only [Act.put, List.setIfInBounds_toArray, List.set_cons_zero, List.set_cons_succ]
    refine HeldIn.wpAnyG_takeQ (fun _ => trivial) [] (i := 28) HO.out qxalive_23_42 (v := (.bool true)) rfl (fun _ _ _ h => h) HSS.out (by first | (with_reducible rfl) | (simp [Region.wanted, yielded, Act.put]; done) | rfl) (fun V hs => by go_simp) (some 138) rfl #[y1,y1,y1,y1,y1,y1,y1,y1,y1,y1,y1,y1,y1,y1,y1,y1,y1,y1,y1,y1,y1,y1,y1,y1,y1,y1,y1,y1,y1,z1,z1,z1,z1,z1,z1,z1,z1,z1,z1,z1,z1,z1,z1,z1,z1,z1,z1,z1,z1,z1,z1,z1,z1,z1,z1,z1,z1,z1,z1,z1,z1,z1,z1,z1,z1,z1,z1,z1,z1,z1,z1,z1,z1,z1,z1,z1,z1,z1,z1,z1,z1,z1,z1,z1,z1,z1,z1,z1,z1,z1,z1,z1,z1] (by kernel_rfl) ?_
    simp only [Act.put, List.setIfInBounds_toArray, List.set_cons_zero, List.set_cons_succ]
    refine HeldIn.wpAnyG_takeQ (fun _ => trivial) [] (i := 29) HO.out qxalive_23_43 (v := (.bool true)) rfl (fun _ _ _ h => h) HSS.out (by first | (with_reducible rfl) | (simp [Region.wanted, yielded, Act.put]; done) | rfl) (fun V hs => by go_simp) (some 139) rfl #[y1,y1,y1,y1,y1,y1,y1,y1,y1,y1,y1,y1,y1,y1,y1,y1,y1,y1,y1,y1,y1,y1,y1,y1,y1,y1,y1,y1,y1,y1,z1,z1,z1,z1,z1,z1,z1,z1,z1,z1,z1,z1,z1,z1,z1,z1,z1,z1,z1,z1,z1,z1,z1,z1,z1,z1,z1,z1,z1,z1,z1,z1,z1,z1,z1,z1,z1,z1,z1,z1,z1,z1,z1,z1,z1,z1,z1,z1,z1,z1,z1,z1,z1,z1,z1,z1,z1,z1,z1,z1,z1,z1,z1] (by kernel_rfl) ?_
    simp only [Act.put, List.setIfInBounds_toArray, List.set_cons_zero, List.set_cons_succ]
    refine HeldIn.wpAnyG_takeQ (fun _ => trivial) [] (i := 30) HO.out qxalive_23_44 (v := (.bool true)) rfl (fun _ _ _ h => h) HSS.out (by first | (with_reducible rfl) | (simp [Region.wanted, yielded, Act.put]; done) | rfl) (fun V hs => by go_simp) (some 140) rfl #[y1,y1,y1,y1,y1,y1,y1,y1,y1,y1,y1,y1,y1,y1,y1,y1,y1,y1,y1,y1,y1,y1,y1,y1,y1,y1,y1,y1,y1,y1,y1,z1,z1,z1,z1,z1,z1,z1,z1,z1,z1,z1,z1,z1,z1,z1,z1,z1,z1,z1,z1,z1,z1,z1,z1,z1,z1,z1,z1,z1,z1,z1,z1,z1,z1,z1,z1,z1,z1,z1,z1,z1,z1,z1,z1,z1,z1,z1,z1,z1,z1,z1,z1,z1,z1,z1,z1,z1,z1,z1,z1,z1,z1] (by kernel_rfl) ?_
    simp only [Act.put, List.setIfInBounds_toArray, List.set_cons_zero, List.set_cons_succ]
    refine HeldIn.wpAnyG_takeQ (fun _ => trivial) [] (i := 31) HO.out qxalive_23_45 (v := (.bool true)) rfl (fun _ _ _ h => h) HSS.out (by first | (with_reducible rfl) | (simp [Region.wanted, yielded, Act.put]; done) | rfl) (fun V hs => by go_simp) (some 141) rfl #[y1,y1,y1,y1,y1,y1,y1,y1,y1,y1,y1,y1,y1,y1,y1,y1,y1,y1,y1,y1,y1,y1,y1,y1,y1,y1,y1,y1,y1,y1,y1,y1,z1,z1,z1,z1,z1,z1,z1,z1,z1,z1,z1,z1,z1,z1,z1,z1,z1,z1,z1,z1,z1,z1,z1,z1,z1,z1,z1,z1,z1,z1,z1,z1,z1,z1,z1,z1,z1,z1,z1,z1,z1,z1,z1,z1,z1,z1,z1,z1,z1,z1,z1,z1,z1,z1,z1,z1,z1,z1,z1,z1,z1] (by kernel_rfl) ?_
    simp only [Act.put, List.setIfInBounds_toArray, List.set_cons_zero, List.set_cons_succ]
    refine HeldIn.wpAnyG_takeQ (fun _ => trivial) [] (i := 32) HO.out qxalive_23_46 (v := (.bool true)) rfl (fun _ _ _ h => h) HSS.out (by first | (with_reducible rfl) | (simp [Region.wanted, yielded, Act.put]; done) | rfl) (fun V hs => by go_simp) (some 142) rfl #[y1,y1,y1,y1,y1,y1,y1,y1,y1,y1,y1,y1,y1,y1,y1,y1,y1,y1,y1,y1,y1,y1,y1,y1,y1,y1,y1,y1,y1,y1,y1,y1,y1,z1,z1,z1,z1,z1,z1,z1,z1,z1,z1,z1,z1,z1,z1,z1,z1,z1,z1,z1,z1,z1,z1,z1,z1,z1,z1,z1,z1,z1,z1,z1,z1,z1,z1,z1,z1,z1,z1,z1,z1,z1,z1,z1,z1,z1,z1,z1,z1,z1,z1,z1,z1,z1,z1,z1,z1,z1,z1,z1,z1] (by kernel_rfl) ?_
    simp only [Act.put, List.setIfInBounds_toArray, List.set_cons_zero, List.set_cons_succ]
    refine HeldIn.wpAnyG_takeQ (fun _ => trivial) [] (i := 33) HO.out qxalive_23_47 (v := (.pointer (some ⟨w13.heap.size, 1, none⟩))) rfl (fun _ _ _ h => h) HSS.out (by first | (with_reducible rfl) | (simp [Region.wanted, yielded, Act.put]; done) | rfl) (fun V hs => by go_simp) (some 143) rfl #[y1,y1,y1,y1,y1,y1,y1,y1,y1,y1,y1,y1,y1,y1,y1,y1,y1,y1,y1,y1,y1,y1,y1,y1,y1,y1,y1,y1,y1,y1,y1,y1,y1,y1,z1,z1,z1,z1,z1,z1,z1,z1,z1,z1,z1,z1,z1,z1,z1,z1,z1,z1,z1,z1,z1,z1,z1,z1,z1,z1,z1,z1,z1,z1,z1,z1,z1,z1,z1,z1,z1,z1,z1,z1,z1,z1,z1,z1,z1,z1,z1,z1,z1,z1,z1,z1,z1,z1,z1,z1,z1,z1,z1] (by kernel_rfl) ?_
    simp only [Act.put, List.setIfInBounds_toArray, List.set_cons_zero, List.set_cons_succ]
    refine HeldIn.wpAnyG_takeQ (fun _ => trivial) [] (i := 34) HO.out qxalive_23_48 (v := (.int .u64 101)) rfl (fun _ _ _ h => h) HSS.out (by first | (with_reducible rfl) | (simp [Region.wanted, yielded, Act.put]; done) | rfl) (fun V hs => by have hc := blk_cell (g := w13.heap.size) (hs _ (List.mem_of_getElem? (i := 3) rfl)) 1; simp at hc; go_simp) (some 144) rfl #[y1,y1,y1,y1,y1,y1,y1,y1,y1,y1,y1,y1,y1,y1,y1,y1,y1,y1,y1,y1,y1,y1,y1,y1,y1,y1,y1,y1,y1,y1,y1,y1,y1,y1,y1,z1,z1,z1,z1,z1,z1,z1,z1,z1,z1,z1,z1,z1,z1,z1,z1,z1,z1,z1,z1,z1,z1,z1,z1,z1,z1,z1,z1,z1,z1,z1,z1,z1,z1,z1,z1,z1,z1,z1,z1,z1,z1,z1,z1,z1,z1,z1,z1,z1,z1,z1,z1,z1,z1,z1,z1,z1,z1] (by kernel_rfl) ?_
    simp only [Act.put, List.setIfInBounds_toArray, List.set_cons_zero, List.set_cons_succ]
    refine HeldIn.wpAnyG_takeQ (fun _ => trivial) [] (i := 35) HO.out qxalive_23_49 (v := (.bool true)) rfl (fun _ _ _ h => h) HSS.out (by first | (with_reducible rfl) | (simp [Region.wanted, yielded, Act.put]; done) | rfl) (fun V hs => by go_simp) (some 145) rfl #[y1,y1,y1,y1,y1,y1,y1,y1,y1,y1,y1,y1,y1,y1,y1,y1,y1,y1,y1,y1,y1,y1,y1,y1,y1,y1,y1,y1,y1,y1,y1,y1,y1,y1,y1,y1,z1,z1,z1,z1,z1,z1,z1,z1,z1,z1,z1,z1,z1,z1,z1,z1,z1,z1,z1,z1,z1,z1,z1,z1,z1,z1,z1,z1,z1,z1,z1,z1,z1,z1,z1,z1,z1,z1,z1,z1,z1,z1,z1,z1,z1,z1,z1,z1,z1,z1,z1,z1,z1,z1,z1,z1,z1] (by kernel_rfl) ?_
    simp only [Act.put, List.setIfInBounds_toArray, List.set_cons_zero, List.set_cons_succ]
    refine HeldIn.wpAnyG_takeQ (fun _ => trivial) [] (i := 36) HO.out qxalive_23_50 (v := (.bool true)) rfl (fun _ _ _ h => h) HSS.out (by first | (with_reducible rfl) | (simp [Region.wanted, yielded, Act.put]; done) | rfl) (fun V hs => by go_simp) (some 146) rfl #[y1,y1,y1,y1,y1,y1,y1,y1,y1,y1,y1,y1,y1,y1,y1,y1,y1,y1,y1,y1,y1,y1,y1,y1,y1,y1,y1,y1,y1,y1,y1,y1,y1,y1,y1,y1,y1,z1,z1,z1,z1,z1,z1,z1,z1,z1,z1,z1,z1,z1,z1,z1,z1,z1,z1,z1,z1,z1,z1,z1,z1,z1,z1,z1,z1,z1,z1,z1,z1,z1,z1,z1,z1,z1,z1,z1,z1,z1,z1,z1,z1,z1,z1,z1,z1,z1,z1,z1,z1,z1,z1,z1,z1] (by kernel_rfl) ?_
    simp only [Act.put, List.setIfInBounds_toArray, List.set_cons_zero, List.set_cons_succ]
    refine HeldIn.wpAnyG_takeQ (fun _ => trivial) [] (i := 37) HO.out qxalive_23_51 (v := (.bool true)) rfl (fun _ _ _ h => h) HSS.out (by first | (with_reducible rfl) | (simp [Region.wanted, yielded, Act.put]; done) | rfl) (fun V hs => by go_simp) (some 147) rfl #[y1,y1,y1,y1,y1,y1,y1,y1,y1,y1,y1,y1,y1,y1,y1,y1,y1,y1,y1,y1,y1,y1,y1,y1,y1,y1,y1,y1,y1,y1,y1,y1,y1,y1,y1,y1,y1,y1,z1,z1,z1,z1,z1,z1,z1,z1,z1,z1,z1,z1,z1,z1,z1,z1,z1,z1,z1,z1,z1,z1,z1,z1,z1,z1,z1,z1,z1,z1,z1,z1,z1,z1,z1,z1,z1,z1,z1,z1,z1,z1,z1,z1,z1,z1,z1,z1,z1,z1,z1,z1,z1,z1,z1] (by kernel_rfl) ?_
    simp only [Act.put, List.setIfInBounds_toArray, List.set_cons_zero, List.set_cons_succ]
    refine HeldIn.wpAnyG_takeQ (fun _ => trivial) [] (i := 38) HO.out qxalive_23_52 (v := (.bool false)) rfl (fun _ _ _ h => h) HSS.out (by first | (with_reducible rfl) | (simp [Region.wanted, yielded, Act.put]; done) | rfl) (fun V hs => by go_simp) (some 148) rfl #[y1,y1,y1,y1,y1,y1,y1,y1,y1,y1,y1,y1,y1,y1,y1,y1,y1,y1,y1,y1,y1,y1,y1,y1,y1,y1,y1,y1,y1,y1,y1,y1,y1,y1,y1,y1,y1,y1,y1,z1,z1,z1,z1,z1,z1,z1,z1,z1,z1,z1,z1,z1,z1,z1,z1,z1,z1,z1,z1,z1,z1,z1,z1,z1,z1,z1,z1,z1,z1,z1,z1,z1,z1,z1,z1,z1,z1,z1,z1,z1,z1,z1,z1,z1,z1,z1,z1,z1,z1,z1,z1,z1,z1] (by kernel_rfl) ?_
    simp only [Act.put, List.setIfInBounds_toArray, List.set_cons_zero, List.set_cons_succ]
    refine HeldIn.wpAnyG_takeQ (fun _ => trivial) [] (i := 39) HO.out qxalive_23_53 (v := (.bool true)) rfl (fun _ _ _ h => h) HSS.out (by first | (with_reducible rfl) | (simp [Region.wanted, yielded, Act.put]; done) | rfl) (fun V hs => by go_simp) (some 149) rfl #[y1,y1,y1,y1,y1,y1,y1,y1,y1,y1,y1,y1,y1,y1,y1,y1,y1,y1,y1,y1,y1,y1,y1,y1,y1,y1,y1,y1,y1,y1,y1,y1,y1,y1,y1,y1,y1,y1,y1,y1,z1,z1,z1,z1,z1,z1,z1,z1,z1,z1,z1,z1,z1,z1,z1,z1,z1,z1,z1,z1,z1,z1,z1,z1,z1,z1,z1,z1,z1,z1,z1,z1,z1,z1,z1,z1,z1,z1,z1,z1,z1,z1,z1,z1,z1,z1,z1,z1,z1,z1,z1,z1,z1] (by kernel_rfl) ?_
    simp only [Act.put, List.setIfInBounds_toArray, List.set_cons_zero, List.set_cons_succ]
    refine HeldIn.wpAnyG_takeQ (fun _ => trivial) [] (i := 40) HO.out qxalive_23_54 (v := (.bool true)) rfl (fun _ _ _ h => h) HSS.out (by first | (with_reducible rfl) | (simp [Region.wanted, yielded, Act.put]; done) | rfl) (fun V hs => by go_simp) (some 150) rfl #[y1,y1,y1,y1,y1,y1,y1,y1,y1,y1,y1,y1,y1,y1,y1,y1,y1,y1,y1,y1,y1,y1,y1,y1,y1,y1,y1,y1,y1,y1,y1,y1,y1,y1,y1,y1,y1,y1,y1,y1,y1,z1,z1,z1,z1,z1,z1,z1,z1,z1,z1,z1,z1,z1,z1,z1,z1,z1,z1,z1,z1,z1,z1,z1,z1,z1,z1,z1,z1,z1,z1,z1,z1,z1,z1,z1,z1,z1,z1,z1,z1,z1,z1,z1,z1,z1,z1,z1,z1,z1,z1,z1,z1] (by kernel_rfl) ?_
    simp only [Act.put, List.setIfInBounds_toArray, List.set_cons_zero, List.set_cons_succ]
    refine HeldIn.wpAnyG_takeQ (fun _ => trivial) [] (i := 41) HO.out qxalive_23_55 (v := (.bool true)) rfl (fun _ _ _ h => h) HSS.out (by first | (with_reducible rfl) | (simp [Region.wanted, yielded, Act.put]; done) | rfl) (fun V hs => by go_simp) (some 151) rfl #[y1,y1,y1,y1,y1,y1,y1,y1,y1,y1,y1,y1,y1,y1,y1,y1,y1,y1,y1,y1,y1,y1,y1,y1,y1,y1,y1,y1,y1,y1,y1,y1,y1,y1,y1,y1,y1,y1,y1,y1,y1,y1,z1,z1,z1,z1,z1,z1,z1,z1,z1,z1,z1,z1,z1,z1,z1,z1,z1,z1,z1,z1,z1,z1,z1,z1,z1,z1,z1,z1,z1,z1,z1,z1,z1,z1,z1,z1,z1,z1,z1,z1,z1,z1,z1,z1,z1,z1,z1,z1,z1,z1,z1] (by kernel_rfl) ?_
    simp only [Act.put, List.setIfInBounds_toArray, List.set_cons_zero, List.set_cons_succ]
    refine HeldIn.wpAnyG_takeQ (fun _ => trivial) [] (i := 42) HO.out qxalive_23_56 (v := (.pointer (some ⟨b, 0, none⟩))) rfl (fun _ _ _ h => h) HSS.out (by first | (with_reducible rfl) | (simp [Region.wanted, yielded, Act.put]; done) | rfl) (fun V hs => by go_simp) (some 152) rfl #[y1,y1,y1,y1,y1,y1,y1,y1,y1,y1,y1,y1,y1,y1,y1,y1,y1,y1,y1,y1,y1,y1,y1,y1,y1,y1,y1,y1,y1,y1,y1,y1,y1,y1,y1,y1,y1,y1,y1,y1,y1,y1,y1,z1,z1,z1,z1,z1,z1,z1,z1,z1,z1,z1,z1,z1,z1,z1,z1,z1,z1,z1,z1,z1,z1,z1,z1,z1,z1,z1,z1,z1,z1,z1,z1,z1,z1,z1,z1,z1,z1,z1,z1,z1,z1,z1,z1,z1,z1,z1,z1,z1,z1] (by kernel_rfl) ?_
    simp only [Act.put, List.setIfInBounds_toArray, List.set_cons_zero, List.set_cons_succ]
    refine HeldIn.wpAnyG_oneQ 43 HO.out qxalive_23_57 rfl #[y1,y1,y1,y1,y1,y1,y1,y1,y1,y1,y1,y1,y1,y1,y1,y1,y1,y1,y1,y1,y1,y1,y1,y1,y1,y1,y1,y1,y1,y1,y1,y1,y1,y1,y1,y1,y1,y1,y1,y1,y1,y1,y1,y1,z1,z1,z1,z1,z1,z1,z1,z1,z1,z1,z1,z1,z1,z1,z1,z1,z1,z1,z1,z1,z1,z1,z1,z1,z1,z1,z1,z1,z1,z1,z1,z1,z1,z1,z1,z1,z1,z1,z1,z1,z1,z1,z1,z1,z1,z1,z1,z1,z1] (by kernel_rfl) (fun K hK => ?_)
    gi_wp2_with fail
    refine ⟨trivial, ?_⟩
    (with_reducible refine (callsIn_wide.2 (len_is (E53.out.at 9 rfl) (c := 1) rfl)).mono ?_)
    rintro en w_ ⟨rfl, hw⟩
    have hw2 := hw.symm
    subst hw2
    clear hw
    gi_wp2_with fail
    refine hK _ _ (fun _ => HSS.out) ?_
    clear hK K
    refine HeldIn.wpAnyG_takeQ (fun _ => trivial) [] (i := 44) HO.out qxalive_23_58 (v := (.bool true)) rfl (fun _ _ _ h => h) HSS.out (by first | (with_reducible rfl) | (simp [Region.wanted, yielded, Act.put]; done) | rfl) (fun V hs => by go_simp) (some 154) rfl #[y1,y1,y1,y1,y1,y1,y1,y1,y1,y1,y1,y1,y1,y1,y1,y1,y1,y1,y1,y1,y1,y1,y1,y1,y1,y1,y1,y1,y1,y1,y1,y1,y1,y1,y1,y1,y1,y1,y1,y1,y1,y1,y1,y1,y1,z1,z1,z1,z1,z1,z1,z1,z1,z1,z1,z1,z1,z1,z1,z1,z1,z1,z1,z1,z1,z1,z1,z1,z1,z1,z1,z1,z1,z1,z1,z1,z1,z1,z1,z1,z1,z1,z1,z1,z1,z1,z1,z1,z1,z1,z1,z1,z1] (by kernel_rfl) ?_
    simp only [Act.put, List.setIfInBounds_toArray, List.set_cons_zero, List.set_cons_succ]
    refine HeldIn.wpAnyG_takeQ (fun _ => trivial) [] (i := 45) HO.out qxalive_23_59 (v := (.bool true)) rfl (fun _ _ _ h => h) HSS.out (by first | (with_reducible rfl) | (simp [Region.wanted, yielded, Act.put]; done) | rfl) (fun V hs => by go_simp) (some 155) rfl #[y1,y1,y1,y1,y1,y1,y1,y1,y1,y1,y1,y1,y1,y1,y1,y1,y1,y1,y1,y1,y1,y1,y1,y1,y1,y1,y1,y1,y1,y1,y1,y1,y1,y1,y1,y1,y1,y1,y1,y1,y1,y1,y1,y1,y1,y1,z1,z1,z1,z1,z1,z1,z1,z1,z1,z1,z1,z1,z1,z1,z1,z1,z1,z1,z1,z1,z1,z1,z1,z1,z1,z1,z1,z1,z1,z1,z1,z1,z1,z1,z1,z1,z1,z1,z1,z1,z1,z1,z1,z1,z1,z1,z1] (by kernel_rfl) ?_
    simp only [Act.put, List.setIfInBounds_toArray, List.set_cons_zero, List.set_cons_succ]
    refine HeldIn.wpAnyG_takeQ (fun _ => trivial) [] (i := 46) HO.out qxalive_23_60 (v := (.bool true)) rfl (fun _ _ _ h => h) HSS.out (by first | (with_reducible rfl) | (simp [Region.wanted, yielded, Act.put]; done) | rfl) (fun V hs => by go_simp) (some 156) rfl #[y1,y1,y1,y1,y1,y1,y1,y1,y1,y1,y1,y1,y1,y1,y1,y1,y1,y1,y1,y1,y1,y1,y1,y1,y1,y1,y1,y1,y1,y1,y1,y1,y1,y1,y1,y1,y1,y1,y1,y1,y1,y1,y1,y1,y1,y1,y1,z1,z1,z1,z1,z1,z1,z1,z1,z1,z1,z1,z1,z1,z1,z1,z1,z1,z1,z1,z1,z1,z1,z1,z1,z1,z1,z1,z1,z1,z1,z1,z1,z1,z1,z1,z1,z1,z1,z1,z1,z1,z1,z1,z1,z1,z1] (by kernel_rfl) ?_
    simp only [Act.put, List.setIfInBounds_toArray, List.set_cons_zero, List.set_cons_succ]
    refine HeldIn.wpAnyG_takeQ (fun _ => trivial) [] (i := 47) HO.out qxalive_23_61 (v := (.pointer (some ⟨c, 0, none⟩))) rfl (fun _ _ _ h => h) HSS.out (by first | (with_reducible rfl) | (simp [Region.wanted, yielded, Act.put]; done) | rfl) (fun V hs => by go_simp) (some 157) rfl #[y1,y1,y1,y1,y1,y1,y1,y1,y1,y1,y1,y1,y1,y1,y1,y1,y1,y1,y1,y1,y1,y1,y1,y1,y1,y1,y1,y1,y1,y1,y1,y1,y1,y1,y1,y1,y1,y1,y1,y1,y1,y1,y1,y1,y1,y1,y1,y1,z1,z1,z1,z1,z1,z1,z1,z1,z1,z1,z1,z1,z1,z1,z1,z1,z1,z1,z1,z1,z1,z1,z1,z1,z1,z1,z1,z1,z1,z1,z1,z1,z1,z1,z1,z1,z1,z1,z1,z1,z1,z1,z1,z1,z1] (by kernel_rfl) ?_
    simp only [Act.put, List.setIfInBounds_toArray, List.set_cons_zero, List.set_cons_succ]
    refine HeldIn.wpAnyG_oneQ 48 HO.out qxalive_23_62 rfl #[y1,y1,y1,y1,y1,y1,y1,y1,y1,y1,y1,y1,y1,y1,y1,y1,y1,y1,y1,y1,y1,y1,y1,y1,y1,y1,y1,y1,y1,y1,y1,y1,y1,y1,y1,y1,y1,y1,y1,y1,y1,y1,y1,y1,y1,y1,y1,y1,y1,z1,z1,z1,z1,z1,z1,z1,z1,z1,z1,z1,z1,z1,z1,z1,z1,z1,z1,z1,z1,z1,z1,z1,z1,z1,z1,z1,z1,z1,z1,z1,z1,z1,z1,z1,z1,z1,z1,z1,z1,z1,z1,z1,z1] (by kernel_rfl) (fun K hK => ?_)
    gi_wp2_with fail
    refine ⟨trivial, ?_⟩
    (with_reducible refine (callsIn_wide.2 (len_is (E53.out.at 4 rfl) (c := 2) rfl)).mono ?_)
    rintro en w_ ⟨rfl, hw⟩
    have hw2 := hw.symm
    subst hw2
    clear hw
    gi_wp2_with fail
    refine hK _ _ (fun _ => HSS.out) ?_
    clear hK K
    refine HeldIn.wpAnyG_takeQ (fun _ => trivial) [] (i := 49) HO.out qxalive_23_63 (v := (.bool true)) rfl (fun _ _ _ h => h) HSS.out (by first | (with_reducible rfl) | (simp [Region.wanted, yielded, Act.put]; done) | rfl) (fun V hs => by go_simp) (some 159) rfl #[y1,y1,y1,y1,y1,y1,y1,y1,y1,y1,y1,y1,y1,y1,y1,y1,y1,y1,y1,y1,y1,y1,y1,y1,y1,y1,y1,y1,y1,y1,y1,y1,y1,y1,y1,y1,y1,y1,y1,y1,y1,y1,y1,y1,y1,y1,y1,y1,y1,y1,z1,z1,z1,z1,z1,z1,z1,z1,z1,z1,z1,z1,z1,z1,z1,z1,z1,z1,z1,z1,z1,z1,z1,z1,z1,z1,z1,z1,z1,z1,z1,z1,z1,z1,z1,z1,z1,z1,z1,z1,z1,z1,z1] (by kernel_rfl) ?_
    simp only [Act.put, List.setIfInBounds_toArray, List.set_cons_zero, List.set_cons_succ]
    refine HeldIn.wpAnyG_takeQ (fun _ => trivial) [] (i := 50) HO.out qxalive_23_64 (v := (.bool true)) rfl (fun _ _ _ h => h) HSS.out (by first | (with_reducible rfl) | (simp [Region.wanted, yielded, Act.put]; done) | rfl) (fun V hs => by go_simp) (some 160) rfl #[y1,y1,y1,y1,y1,y1,y1,y1,y1,y1,y1,y1,y1,y1,y1,y1,y1,y1,y1,y1,y1,y1,y1,y1,y1,y1,y1,y1,y1,y1,y1,y1,y1,y1,y1,y1,y1,y1,y1,y1,y1,y1,y1,y1,y1,y1,y1,y1,y1,y1,y1,z1,z1,z1,z1,z1,z1,z1,z1,z1,z1,z1,z1,z1,z1,z1,z1,z1,z1,z1,z1,z1,z1,z1,z1,z1,z1,z1,z1,z1,z1,z1,z1,z1,z1,z1,z1,z1,z1,z1,z1,z1,z1] (by kernel_rfl) ?_
    simp only [Act.put, List.setIfInBounds_toArray, List.set_cons_zero, List.set_cons_succ]
    refine HeldIn.wpAnyG_takeQ (fun _ => trivial) [] (i := 51) HO.out qxalive_23_65 (v := (.bool true)) rfl (fun _ _ _ h => h) HSS.out (by first | (with_reducible rfl) | (simp [Region.wanted, yielded, Act.put]; done) | rfl) (fun V hs => by go_simp) (some 161) rfl #[y1,y1,y1,y1,y1,y1,y1,y1,y1,y1,y1,y1,y1,y1,y1,y1,y1,y1,y1,y1,y1,y1,y1,y1,y1,y1,y1,y1,y1,y1,y1,y1,y1,y1,y1,y1,y1,y1,y1,y1,y1,y1,y1,y1,y1,y1,y1,y1,y1,y1,y1,y1,z1,z1,z1,z1,z1,z1,z1,z1,z1,z1,z1,z1,z1,z1,z1,z1,z1,z1,z1,z1,z1,z1,z1,z1,z1,z1,z1,z1,z1,z1,z1,z1,z1,z1,z1,z1,z1,z1,z1,z1,z1] (by kernel_rfl) ?_
    simp only [Act.put, List.setIfInBounds_toArray, List.set_cons_zero, List.set_cons_succ]
    refine HeldIn.wpAnyG_takeQ (fun _ => trivial) [] (i := 52) HO.out qxalive_23_66 (v := (.int .i64 2)) rfl (fun _ _ _ h => h) HSS.out (by first | (with_reducible rfl) | (simp [Region.wanted, yielded, Act.put]; done) | rfl) (fun V hs => by have hc := blk_cell (g := w16.heap.size) (hs _ (List.mem_of_getElem? (i := 2) rfl)) 0; simp at hc; go_simp) (some 162) rfl #[y1,y1,y1,y1,y1,y1,y1,y1,y1,y1,y1,y1,y1,y1,y1,y1,y1,y1,y1,y1,y1,y1,y1,y1,y1,y1,y1,y1,y1,y1,y1,y1,y1,y1,y1,y1,y1,y1,y1,y1,y1,y1,y1,y1,y1,y1,y1,y1,y1,y1,y1,y1,y1,z1,z1,z1,z1,z1,z1,z1,z1,z1,z1,z1,z1,z1,z1,z1,z1,z1,z1,z1,z1,z1,z1,z1,z1,z1,z1,z1,z1,z1,z1,z1,z1,z1,z1,z1,z1,z1,z1,z1,z1] (by kernel_rfl) ?_
    simp only [Act.put, List.setIfInBounds_toArray, List.set_cons_zero, List.set_cons_succ]
    refine HeldIn.wpAnyG_takeQ (fun _ => trivial) [] (i := 53) HO.out qxalive_23_67 (v := (.bool true)) rfl (fun _ _ _ h => h) HSS.out (by first | (with_reducible rfl) | (simp [Region.wanted, yielded, Act.put]; done) | rfl) (fun V hs => by go_simp) (some 163) rfl #[y1,y1,y1,y1,y1,y1,y1,y1,y1,y1,y1,y1,y1,y1,y1,y1,y1,y1,y1,y1,y1,y1,y1,y1,y1,y1,y1,y1,y1,y1,y1,y1,y1,y1,y1,y1,y1,y1,y1,y1,y1,y1,y1,y1,y1,y1,y1,y1,y1,y1,y1,y1,y1,y1,z1,z1,z1,z1,z1,z1,z1,z1,z1,z1,z1,z1,z1,z1,z1,z1,z1,z1,z1,z1,z1,z1,z1,z1,z1,z1,z1,z1,z1,z1,z1,z1,z1,z1,z1,z1,z1,z1,z1] (by kernel_rfl) ?_
    simp only [Act.put, List.setIfInBounds_toArray, List.set_cons_zero, List.set_cons_succ]
    refine HeldIn.wpAnyG_takeQ (fun _ => trivial) [] (i := 54) HO.out qxalive_23_68 (v := (.bool true)) rfl (fun _ _ _ h => h) HSS.out (by first | (with_reducible rfl) | (simp [Region.wanted, yielded, Act.put]; done) | rfl) (fun V hs => by go_simp) (some 164) rfl #[y1,y1,y1,y1,y1,y1,y1,y1,y1,y1,y1,y1,y1,y1,y1,y1,y1,y1,y1,y1,y1,y1,y1,y1,y1,y1,y1,y1,y1,y1,y1,y1,y1,y1,y1,y1,y1,y1,y1,y1,y1,y1,y1,y1,y1,y1,y1,y1,y1,y1,y1,y1,y1,y1,y1,z1,z1,z1,z1,z1,z1,z1,z1,z1,z1,z1,z1,z1,z1,z1,z1,z1,z1,z1,z1,z1,z1,z1,z1,z1,z1,z1,z1,z1,z1,z1,z1,z1,z1,z1,z1,z1,z1] (by kernel_rfl) ?_
    simp only [Act.put, List.setIfInBounds_toArray, List.set_cons_zero, List.set_cons_succ]
    refine HeldIn.wpAnyG_takeQ (fun _ => trivial) [] (i := 55) HO.out qxalive_23_69 (v := (.bool true)) rfl (fun _ _ _ h => h) HSS.out (by first | (with_reducible rfl) | (simp [Region.wanted, yielded, Act.put]; done) | rfl) (fun V hs => by go_simp) (some 165) rfl #[y1,y1,y1,y1,y1,y1,y1,y1,y1,y1,y1,y1,y1,y1,y1,y1,y1,y1,y1,y1,y1,y1,y1,y1,y1,y1,y1,y1,y1,y1,y1,y1,y1,y1,y1,y1,y1,y1,y1,y1,y1,y1,y1,y1,y1,y1,y1,y1,y1,y1,y1,y1,y1,y1,y1,y1,z1,z1,z1,z1,z1,z1,z1,z1,z1,z1,z1,z1,z1,z1,z1,z1,z1,z1,z1,z1,z1,z1,z1,z1,z1,z1,z1,z1,z1,z1,z1,z1,z1,z1,z1,z1,z1] (by kernel_rfl) ?_
    simp only [Act.put, List.setIfInBounds_toArray, List.set_cons_zero, List.set_cons_succ]
    refine HeldIn.wpAnyG_takeQ (fun _ => trivial) [] (i := 56) HO.out qxalive_23_70 (v := (.pointer (some ⟨c, 0, none⟩))) rfl (fun _ _ _ h => h) HSS.out (by first | (with_reducible rfl) | (simp [Region.wanted, yielded, Act.put]; done) | rfl) (fun V hs => by go_simp) (some 166) rfl #[y1,y1,y1,y1,y1,y1,y1,y1,y1,y1,y1,y1,y1,y1,y1,y1,y1,y1,y1,y1,y1,y1,y1,y1,y1,y1,y1,y1,y1,y1,y1,y1,y1,y1,y1,y1,y1,y1,y1,y1,y1,y1,y1,y1,y1,y1,y1,y1,y1,y1,y1,y1,y1,y1,y1,y1,y1,z1,z1,z1,z1,z1,z1,z1,z1,z1,z1,z1,z1,z1,z1,z1,z1,z1,z1,z1,z1,z1,z1,z1,z1,z1,z1,z1,z1,z1,z1,z1,z1,z1,z1,z1,z1] (by kernel_rfl) ?_
    simp only [Act.put, List.setIfInBounds_toArray, List.set_cons_zero, List.set_cons_succ]
    refine HeldIn.wpAnyG_oneQ 57 HO.out qxalive_23_71 rfl #[y1,y1,y1,y1,y1,y1,y1,y1,y1,y1,y1,y1,y1,y1,y1,y1,y1,y1,y1,y1,y1,y1,y1,y1,y1,y1,y1,y1,y1,y1,y1,y1,y1,y1,y1,y1,y1,y1,y1,y1,y1,y1,y1,y1,y1,y1,y1,y1,y1,y1,y1,y1,y1,y1,y1,y1,y1,y1,z1,z1,z1,z1,z1,z1,z1,z1,z1,z1,z1,z1,z1,z1,z1,z1,z1,z1,z1,z1,z1,z1,z1,z1,z1,z1,z1,z1,z1,z1,z1,z1,z1,z1,z1] (by kernel_rfl) (fun K hK => ?_)
    gi_wp2_with fail
    refine ⟨trivial, ?_⟩
    (with_reducible refine (callsIn_wide.2 (sweep_is (E53.out.at 4 rfl) S8.out (c := 2) rfl)).mono ?_)
    rintro en w64 ⟨rfl, ho⟩
    obtain ⟨Ow64, hE⟩ := E53.out.out [thC gq 34 35 1 2, thD D, thB wm.heap.size #[.pointer (some ⟨c, 0, none⟩)] 33, thB w16.heap.size #[.int .i64 2] 3] ho
    have E_ := Aside0.mk hE
    clear hE ho E53
    have E54 := E_
    clear E_
    clear HSS
    have HSS := Aside0.mk (show ∀ t ∈ ([thC gq 34 35 1 2, thB wm.heap.size #[.pointer (some ⟨c, 0, none⟩)] 33, thB w16.heap.size #[.int .i64 2] 3, thB w13.heap.size #[.int .i64 5, .int .u64 101] 43, thB w11.heap.size (encK z0).toArray 29, thB w9.heap.size (encK k2).toArray 29, thB w3.heap.size (encK z0).toArray 29] : List Th), t.P w64 by intro t ht; simp only [List.mem_cons, List.not_mem_nil, or_false] at ht; rcases ht with rfl | rfl | rfl | rfl | rfl | rfl | rfl <;> first | exact E54.out.at 0 rfl | exact E54.out.at 2 rfl | exact E54.out.at 3 rfl | exact E54.out.at 5 rfl | exact E54.out.at 6 rfl | exact E54.out.at 7 rfl | exact E54.out.at 8 rfl)
    gi_wp2_with fail
    refine hK _ _ (fun _ => HSS.out) ?_
    clear hK K
    refine HeldIn.wpAnyG_takeQ (fun _ => trivial) [] (i := 58) HO.out qxalive_23_72 (v := (.bool true)) rfl (fun _ _ _ h => h) HSS.out (by first | (with_reducible rfl) | (simp [Region.wanted, yielded, Act.put]; done) | rfl) (fun V hs => by go_simp) (some 168) rfl #[y1,y1,y1,y1,y1,y1,y1,y1,y1,y1,y1,y1,y1,y1,y1,y1,y1,y1,y1,y1,y1,y1,y1,y1,y1,y1,y1,y1,y1,y1,y1,y1,y1,y1,y1,y1,y1,y1,y1,y1,y1,y1,y1,y1,y1,y1,y1,y1,y1,y1,y1,y1,y1,y1,y1,y1,y1,y1,y1,z1,z1,z1,z1,z1,z1,z1,z1,z1,z1,z1,z1,z1,z1,z1,z1,z1,z1,z1,z1,z1,z1,z1,z1,z1,z1,z1,z1,z1,z1,z1,z1,z1,z1] (by kernel_rfl) ?_
    simp only [Act.put, List.setIfInBounds_toArray, List.set_cons_zero, List.set_cons_succ]
    refine HeldIn.wpAnyG_takeQ (fun _ => trivial) [] (i := 59) HO.out qxalive_23_73 (v := (.bool true)) rfl (fun _ _ _ h => h) HSS.out (by first | (with_reducible rfl) | (simp [Region.wanted, yielded, Act.put]; done) | rfl) (fun V hs => by go_simp) (some 169) rfl #[y1,y1,y1,y1,y1,y1,y1,y1,y1,y1,y1,y1,y1,y1,y1,y1,y1,y1,y1,y1,y1,y1,y1,y1,y1,y1,y1,y1,y1,y1,y1,y1,y1,y1,y1,y1,y1,y1,y1,y1,y1,y1,y1,y1,y1,y1,y1,y1,y1,y1,y1,y1,y1,y1,y1,y1,y1,y1,y1,y1,z1,z1,z1,z1,z1,z1,z1,z1,z1,z1,z1,z1,z1,z1,z1,z1,z1,z1,z1,z1,z1,z1,z1,z1,z1,z1,z1,z1,z1,z1,z1,z1,z1] (by kernel_rfl) ?_
    simp only [Act.put, List.setIfInBounds_toArray, List.set_cons_zero, List.set_cons_succ]
    refine HeldIn.wpAnyG_takeQ (fun _ => trivial) [] (i := 60) HO.out qxalive_23_74 (v := (.bool true)) rfl (fun _ _ _ h => h) HSS.out (by first | (with_reducible rfl) | (simp [Region.wanted, yielded, Act.put]; done) | rfl) (fun V hs => by go_simp) (some 170) rfl #[y1,y1,y1,y1,y1,y1,y1,y1,y1,y1,y1,y1,y1,y1,y1,y1,y1,y1,y1,y1,y1,y1,y1,y1,y1,y1,y1,y1,y1,y1,y1,y1,y1,y1,y1,y1,y1,y1,y1,y1,y1,y1,y1,y1,y1,y1,y1,y1,y1,y1,y1,y1,y1,y1,y1,y1,y1,y1,y1,y1,y1,z1,z1,z1,z1,z1,z1,z1,z1,z1,z1,z1,z1,z1,z1,z1,z1,z1,z1,z1,z1,z1,z1,z1,z1,z1,z1,z1,z1,z1,z1,z1,z1] (by kernel_rfl) ?_
    simp only [Act.put, List.setIfInBounds_toArray, List.set_cons_zero, List.set_cons_succ]
    refine HeldIn.wpAnyG_takeQ (fun _ => trivial) [] (i := 61) HO.out qxalive_23_75 (v := (.pointer (some ⟨b, 0, none⟩))) rfl (fun _ _ _ h => h) HSS.out (by first | (with_reducible rfl) | (simp [Region.wanted, yielded, Act.put]; done) | rfl) (fun V hs => by go_simp) (some 171) rfl #[y1,y1,y1,y1,y1,y1,y1,y1,y1,y1,y1,y1,y1,y1,y1,y1,y1,y1,y1,y1,y1,y1,y1,y1,y1,y1,y1,y1,y1,y1,y1,y1,y1,y1,y1,y1,y1,y1,y1,y1,y1,y1,y1,y1,y1,y1,y1,y1,y1,y1,y1,y1,y1,y1,y1,y1,y1,y1,y1,y1,y1,y1,z1,z1,z1,z1,z1,z1,z1,z1,z1,z1,z1,z1,z1,z1,z1,z1,z1,z1,z1,z1,z1,z1,z1,z1,z1,z1,z1,z1,z1,z1,z1] (by kernel_rfl) ?_
    simp only [Act.put, List.setIfInBounds_toArray, List.set_cons_zero, List.set_cons_succ]
    refine HeldIn.wpAnyG_oneQ 62 HO.out qxalive_23_76 rfl #[y1,y1,y1,y1,y1,y1,y1,y1,y1,y1,y1,y1,y1,y1,y1,y1,y1,y1,y1,y1,y1,y1,y1,y1,y1,y1,y1,y1,y1,y1,y1,y1,y1,y1,y1,y1,y1,y1,y1,y1,y1,y1,y1,y1,y1,y1,y1,y1,y1,y1,y1,y1,y1,y1,y1,y1,y1,y1,y1,y1,y1,y1,y1,z1,z1,z1,z1,z1,z1,z1,z1,z1,z1,z1,z1,z1,z1,z1,z1,z1,z1,z1,z1,z1,z1,z1,z1,z1,z1,z1,z1,z1,z1] (by kernel_rfl) (fun K hK => ?_)
    gi_wp2_with fail
    refine ⟨trivial, ?_⟩
    (with_reducible refine (callsIn_wide.2 (forget_is (E54.out.at 9 rfl) F9.out (c := 1) rfl)).mono ?_)
    rintro en w65 ⟨rfl, ho⟩
    obtain ⟨Ow65, hE⟩ := E54.out.out [thC gq 34 35 1 2, thD D, thB wm.heap.size #[.pointer (some ⟨c, 0, none⟩)] 33, thB w16.heap.size #[.int .i64 2] 3, thT Ow64 c 2 10 [], thB w13.heap.size #[.int .i64 5, .int .u64 101] 43, thB w11.heap.size (encK z0).toArray 29, thB w9.heap.size (encK k2).toArray 29, thB w3.heap.size (encK z0).toArray 29] ho
    have E_ := Aside0.mk hE
    clear hE ho E54
    have E55 := E_
    clear E_
    clear HSS
    have HSS := Aside0.mk (show ∀ t ∈ ([thC gq 34 35 1 2, thB wm.heap.size #[.pointer (some ⟨c, 0, none⟩)] 33, thB w16.heap.size #[.int .i64 2] 3, thB w13.heap.size #[.int .i64 5, .int .u64 101] 43, thB w11.heap.size (encK z0).toArray 29, thB w9.heap.size (encK k2).toArray 29, thB w3.heap.size (encK z0).toArray 29] : List Th), t.P w65 by intro t ht; simp only [List.mem_cons, List.not_mem_nil, or_false] at ht; rcases ht with rfl | rfl | rfl | rfl | rfl | rfl | rfl <;> first | exact E55.out.at 0 rfl | exact E55.out.at 2 rfl | exact E55.out.at 3 rfl | exact E55.out.at 5 rfl | exact E55.out.at 6 rfl | exact E55.out.at 7 rfl | exact E55.out.at 8 rfl)
    gi_wp2_with fail
    refine hK _ _ (fun _ => HSS.out) ?_
    clear hK K
    refine HeldIn.wpAnyG_takeQ (fun _ => trivial) [] (i := 63) HO.out qxalive_23_77 (v := (.bool true)) rfl (fun _ _ _ h => h) HSS.out (by first | (with_reducible rfl) | (simp [Region.wanted, yielded, Act.put]; done) | rfl) (fun V hs => by go_simp) (some 173) rfl #[y1,y1,y1,y1,y1,y1,y1,y1,y1,y1,y1,y1,y1,y1,y1,y1,y1,y1,y1,y1,y1,y1,y1,y1,y1,y1,y1,y1,y1,y1,y1,y1,y1,y1,y1,y1,y1,y1,y1,y1,y1,y1,y1,y1,y1,y1,y1,y1,y1,y1,y1,y1,y1,y1,y1,y1,y1,y1,y1,y1,y1,y1,y1,y1,z1,z1,z1,z1,z1,z1,z1,z1,z1,z1,z1,z1,z1,z1,z1,z1,z1,z1,z1,z1,z1,z1,z1,z1,z1,z1,z1,z1,z1] (by kernel_rfl) ?_
    simp only [Act.put, List.setIfInBounds_toArray, List.set_cons_zero, List.set_cons_succ]
    refine HeldIn.wpAnyG_takeQ (fun _ => trivial) [] (i := 64) HO.out qxalive_23_78 (v := (.bool true)) rfl (fun _ _ _ h => h) HSS.out (by first | (with_reducible rfl) | (simp [Region.wanted, yielded, Act.put]; done) | rfl) (fun V hs => by go_simp) (some 174) rfl #[y1,y1,y1,y1,y1,y1,y1,y1,y1,y1,y1,y1,y1,y1,y1,y1,y1,y1,y1,y1,y1,y1,y1,y1,y1,y1,y1,y1,y1,y1,y1,y1,y1,y1,y1,y1,y1,y1,y1,y1,y1,y1,y1,y1,y1,y1,y1,y1,y1,y1,y1,y1,y1,y1,y1,y1,y1,y1,y1,y1,y1,y1,y1,y1,y1,z1,z1,z1,z1,z1,z1,z1,z1,z1,z1,z1,z1,z1,z1,z1,z1,z1,z1,z1,z1,z1,z1,z1,z1,z1,z1,z1,z1] (by kernel_rfl) ?_
    simp only [Act.put, List.setIfInBounds_toArray, List.set_cons_zero, List.set_cons_succ]
    refine HeldIn.wpAnyG_takeQ (fun _ => trivial) [] (i := 65) HO.out qxalive_23_79 (v := (.bool true)) rfl (fun _ _ _ h => h) HSS.out (by first | (with_reducible rfl) | (simp [Region.wanted, yielded, Act.put]; done) | rfl) (fun V hs => by go_simp) (some 175) rfl #[y1,y1,y1,y1,y1,y1,y1,y1,y1,y1,y1,y1,y1,y1,y1,y1,y1,y1,y1,y1,y1,y1,y1,y1,y1,y1,y1,y1,y1,y1,y1,y1,y1,y1,y1,y1,y1,y1,y1,y1,y1,y1,y1,y1,y1,y1,y1,y1,y1,y1,y1,y1,y1,y1,y1,y1,y1,y1,y1,y1,y1,y1,y1,y1,y1,y1,z1,z1,z1,z1,z1,z1,z1,z1,z1,z1,z1,z1,z1,z1,z1,z1,z1,z1,z1,z1,z1,z1,z1,z1,z1,z1,z1] (by kernel_rfl) ?_
    simp only [Act.put, List.setIfInBounds_toArray, List.set_cons_zero, List.set_cons_succ]
    refine HeldIn.wpAnyG_takeQ (fun _ => trivial) [] (i := 66) HO.out qxalive_23_80 (v := (.pointer (some ⟨b, 0, none⟩))) rfl (fun _ _ _ h => h) HSS.out (by first | (with_reducible rfl) | (simp [Region.wanted, yielded, Act.put]; done) | rfl) (fun V hs => by go_simp) (some 176) rfl #[y1,y1,y1,y1,y1,y1,y1,y1,y1,y1,y1,y1,y1,y1,y1,y1,y1,y1,y1,y1,y1,y1,y1,y1,y1,y1,y1,y1,y1,y1,y1,y1,y1,y1,y1,y1,y1,y1,y1,y1,y1,y1,y1,y1,y1,y1,y1,y1,y1,y1,y1,y1,y1,y1,y1,y1,y1,y1,y1,y1,y1,y1,y1,y1,y1,y1,y1,z1,z1,z1,z1,z1,z1,z1,z1,z1,z1,z1,z1,z1,z1,z1,z1,z1,z1,z1,z1,z1,z1,z1,z1,z1,z1] (by kernel_rfl) ?_
    simp only [Act.put, List.setIfInBounds_toArray, List.set_cons_zero, List.set_cons_succ]
    refine HeldIn.wpAnyG_oneQ 67 HO.out qxalive_23_81 rfl #[y1,y1,y1,y1,y1,y1,y1,y1,y1,y1,y1,y1,y1,y1,y1,y1,y1,y1,y1,y1,y1,y1,y1,y1,y1,y1,y1,y1,y1,y1,y1,y1,y1,y1,y1,y1,y1,y1,y1,y1,y1,y1,y1,y1,y1,y1,y1,y1,y1,y1,y1,y1,y1,y1,y1,y1,y1,y1,y1,y1,y1,y1,y1,y1,y1,y1,y1,y1,z1,z1,z1,z1,z1,z1,z1,z1,z1,z1,z1,z1,z1,z1,z1,z1,z1,z1,z1,z1,z1,z1,z1,z1,z1] (by kernel_rfl) (fun K hK => ?_)
    gi_wp2_with fail
    refine ⟨trivial, ?_⟩
    (with_reducible refine (callsIn_wide.2 (len_is (E55.out.at 9 rfl) (c := 0) rfl)).mono ?_)
    rintro en w_ ⟨rfl, hw⟩
    have hw2 := hw.symm
    subst hw2
    clear hw
    gi_wp2_with fail
    refine hK _ _ (fun _ => HSS.out) ?_
    clear hK K
    refine HeldIn.wpAnyG_takeQ (fun _ => trivial) [] (i := 68) HO.out qxalive_23_82 (v := (.bool true)) rfl (fun _ _ _ h => h) HSS.out (by first | (with_reducible rfl) | (simp [Region.wanted, yielded, Act.put]; done) | rfl) (fun V hs => by go_simp) (some 178) rfl #[y1,y1,y1,y1,y1,y1,y1,y1,y1,y1,y1,y1,y1,y1,y1,y1,y1,y1,y1,y1,y1,y1,y1,y1,y1,y1,y1,y1,y1,y1,y1,y1,y1,y1,y1,y1,y1,y1,y1,y1,y1,y1,y1,y1,y1,y1,y1,y1,y1,y1,y1,y1,y1,y1,y1,y1,y1,y1,y1,y1,y1,y1,y1,y1,y1,y1,y1,y1,y1,z1,z1,z1,z1,z1,z1,z1,z1,z1,z1,z1,z1,z1,z1,z1,z1,z1,z1,z1,z1,z1,z1,z1,z1] (by kernel_rfl) ?_
    simp only [Act.put, List.setIfInBounds_toArray, List.set_cons_zero, List.set_cons_succ]
    refine HeldIn.wpAnyG_takeQ (fun _ => trivial) [] (i := 69) HO.out qxalive_23_83 (v := (.bool true)) rfl (fun _ _ _ h => h) HSS.out (by first | (with_reducible rfl) | (simp [Region.wanted, yielded, Act.put]; done) | rfl) (fun V hs => by go_simp) (some 179) rfl #[y1,y1,y1,y1,y1,y1,y1,y1,y1,y1,y1,y1,y1,y1,y1,y1,y1,y1,y1,y1,y1,y1,y1,y1,y1,y1,y1,y1,y1,y1,y1,y1,y1,y1,y1,y1,y1,y1,y1,y1,y1,y1,y1,y1,y1,y1,y1,y1,y1,y1,y1,y1,y1,y1,y1,y1,y1,y1,y1,y1,y1,y1,y1,y1,y1,y1,y1,y1,y1,y1,z1,z1,z1,z1,z1,z1,z1,z1,z1,z1,z1,z1,z1,z1,z1,z1,z1,z1,z1,z1,z1,z1,z1] (by kernel_rfl) ?_
    simp only [Act.put, List.setIfInBounds_toArray, List.set_cons_zero, List.set_cons_succ]
    refine HeldIn.wpAnyG_takeQ (fun _ => trivial) [] (i := 70) HO.out qxalive_23_84 (v := (.bool true)) rfl (fun _ _ _ h => h) HSS.out (by first | (with_reducible rfl) | (simp [Region.wanted, yielded, Act.put]; done) | rfl) (fun V hs => by go_simp) (some 180) rfl #[y1,y1,y1,y1,y1,y1,y1,y1,y1,y1,y1,y1,y1,y1,y1,y1,y1,y1,y1,y1,y1,y1,y1,y1,y1,y1,y1,y1,y1,y1,y1,y1,y1,y1,y1,y1,y1,y1,y1,y1,y1,y1,y1,y1,y1,y1,y1,y1,y1,y1,y1,y1,y1,y1,y1,y1,y1,y1,y1,y1,y1,y1,y1,y1,y1,y1,y1,y1,y1,y1,y1,z1,z1,z1,z1,z1,z1,z1,z1,z1,z1,z1,z1,z1,z1,z1,z1,z1,z1,z1,z1,z1,z1] (by kernel_rfl) ?_
    simp only [Act.put, List.setIfInBounds_toArray, List.set_cons_zero, List.set_cons_succ]
    refine HeldIn.wpAnyG_takeQ (fun _ => trivial) [] (i := 71) HO.out qxalive_23_85 (v := (.pointer (some ⟨b, 0, none⟩))) rfl (fun _ _ _ h => h) HSS.out (by first | (with_reducible rfl) | (simp [Region.wanted, yielded, Act.put]; done) | rfl) (fun V hs => by go_simp) (some 181) rfl #[y1,y1,y1,y1,y1,y1,y1,y1,y1,y1,y1,y1,y1,y1,y1,y1,y1,y1,y1,y1,y1,y1,y1,y1,y1,y1,y1,y1,y1,y1,y1,y1,y1,y1,y1,y1,y1,y1,y1,y1,y1,y1,y1,y1,y1,y1,y1,y1,y1,y1,y1,y1,y1,y1,y1,y1,y1,y1,y1,y1,y1,y1,y1,y1,y1,y1,y1,y1,y1,y1,y1,y1,z1,z1,z1,z1,z1,z1,z1,z1,z1,z1,z1,z1,z1,z1,z1,z1,z1,z1,z1,z1,z1] (by kernel_rfl) ?_
    simp only [Act.put, List.setIfInBounds_toArray, List.set_cons_zero, List.set_cons_succ]
    refine HeldIn.wpAnyG_oneQ 72 HO.out qxalive_23_86 rfl #[y1,y1,y1,y1,y1,y1,y1,y1,y1,y1,y1,y1,y1,y1,y1,y1,y1,y1,y1,y1,y1,y1,y1,y1,y1,y1,y1,y1,y1,y1,y1,y1,y1,y1,y1,y1,y1,y1,y1,y1,y1,y1,y1,y1,y1,y1,y1,y1,y1,y1,y1,y1,y1,y1,y1,y1,y1,y1,y1,y1,y1,y1,y1,y1,y1,y1,y1,y1,y1,y1,y1,y1,y1,z1,z1,z1,z1,z1,z1,z1,z1,z1,z1,z1,z1,z1,z1,z1,z1,z1,z1,z1,z1] (by kernel_rfl) (fun K hK => ?_)
    gi_wp2_with fail
    refine ⟨trivial, ?_⟩
    (with_reducible refine (callsIn_wide.2 (most_tw (E55.out.at 9 rfl))).mono ?_)
    rintro en w_ ⟨rfl, hw⟩
    have hw2 := hw.symm
    subst hw2
    clear hw
    gi_wp2_with fail
    refine hK _ _ (fun _ => HSS.out) ?_
    clear hK K
    refine HeldIn.wpAnyG_takeQ (fun _ => trivial) [] (i := 73) HO.out qxalive_23_87 (v := (.bool true)) rfl (fun _ _ _ h => h) HSS.out (by first | (with_reducible rfl) | (simp [Region.wanted, yielded, Act.put]; done) | rfl) (fun V hs => by go_simp) (some 183) rfl #[y1,y1,y1,y1,y1,y1,y1,y1,y1,y1,y1,y1,y1,y1,y1,y1,y1,y1,y1,y1,y1,y1,y1,y1,y1,y1,y1,y1,y1,y1,y1,y1,y1,y1,y1,y1,y1,y1,y1,y1,y1,y1,y1,y1,y1,y1,y1,y1,y1,y1,y1,y1,y1,y1,y1,y1,y1,y1,y1,y1,y1,y1,y1,y1,y1,y1,y1,y1,y1,y1,y1,y1,y1,y1,z1,z1,z1,z1,z1,z1,z1,z1,z1,z1,z1,z1,z1,z1,z1,z1,z1,z1,z1] (by kernel_rfl) ?_
    simp only [Act.put, List.setIfInBounds_toArray, List.set_cons_zero, List.set_cons_succ]
    refine HeldIn.wpAnyG_takeQ (fun _ => trivial) [] (i := 74) HO.out qxalive_23_88 (v := (.bool true)) rfl (fun _ _ _ h => h) HSS.out (by first | (with_reducible rfl) | (simp [Region.wanted, yielded, Act.put]; done) | rfl) (fun V hs => by go_simp) (some 184) rfl #[y1,y1,y1,y1,y1,y1,y1,y1,y1,y1,y1,y1,y1,y1,y1,y1,y1,y1,y1,y1,y1,y1,y1,y1,y1,y1,y1,y1,y1,y1,y1,y1,y1,y1,y1,y1,y1,y1,y1,y1,y1,y1,y1,y1,y1,y1,y1,y1,y1,y1,y1,y1,y1,y1,y1,y1,y1,y1,y1,y1,y1,y1,y1,y1,y1,y1,y1,y1,y1,y1,y1,y1,y1,y1,y1,z1,z1,z1,z1,z1,z1,z1,z1,z1,z1,z1,z1,z1,z1,z1,z1,z1,z1] (by kernel_rfl) ?_
    simp only [Act.put, List.setIfInBounds_toArray, List.set_cons_zero, List.set_cons_succ]
    refine HeldIn.wpAnyG_takeQ (fun _ => trivial) [] (i := 75) HO.out qxalive_23_89 (v := (.bool true)) rfl (fun _ _ _ h => h) HSS.out (by first | (with_reducible rfl) | (simp [Region.wanted, yielded, Act.put]; done) | rfl) (fun V hs => by go_simp) (some 185) rfl #[y1,y1,y1,y1,y1,y1,y1,y1,y1,y1,y1,y1,y1,y1,y1,y1,y1,y1,y1,y1,y1,y1,y1,y1,y1,y1,y1,y1,y1,y1,y1,y1,y1,y1,y1,y1,y1,y1,y1,y1,y1,y1,y1,y1,y1,y1,y1,y1,y1,y1,y1,y1,y1,y1,y1,y1,y1,y1,y1,y1,y1,y1,y1,y1,y1,y1,y1,y1,y1,y1,y1,y1,y1,y1,y1,y1,z1,z1,z1,z1,z1,z1,z1,z1,z1,z1,z1,z1,z1,z1,z1,z1,z1] (by kernel_rfl) ?_
    simp only [Act.put, List.setIfInBounds_toArray, List.set_cons_zero, List.set_cons_succ]
    refine HeldIn.wpAnyG_takeQ (fun _ => trivial) [] (i := 76) HO.out qxalive_23_90 (v := (.slice (some ⟨gq, 0, none⟩) 36 cq)) rfl (fun _ _ _ h => h) HSS.out (by first | (with_reducible rfl) | (simp [Region.wanted, yielded, Act.put]; done) | rfl) (fun V hs => by go_simp) (some 186) rfl #[y1,y1,y1,y1,y1,y1,y1,y1,y1,y1,y1,y1,y1,y1,y1,y1,y1,y1,y1,y1,y1,y1,y1,y1,y1,y1,y1,y1,y1,y1,y1,y1,y1,y1,y1,y1,y1,y1,y1,y1,y1,y1,y1,y1,y1,y1,y1,y1,y1,y1,y1,y1,y1,y1,y1,y1,y1,y1,y1,y1,y1,y1,y1,y1,y1,y1,y1,y1,y1,y1,y1,y1,y1,y1,y1,y1,y1,z1,z1,z1,z1,z1,z1,z1,z1,z1,z1,z1,z1,z1,z1,z1,z1] (by kernel_rfl) ?_
    simp only [Act.put, List.setIfInBounds_toArray, List.set_cons_zero, List.set_cons_succ]
    refine HeldIn.wpAnyG_takeQ (fun _ => trivial) [] (i := 77) HO.out qxalive_23_91 (v := (.int .i64 36)) rfl (fun _ _ _ h => h) HSS.out (by first | (with_reducible rfl) | (simp [Region.wanted, yielded, Act.put]; done) | rfl) (fun V hs => by go_simp) (some 187) rfl #[y1,y1,y1,y1,y1,y1,y1,y1,y1,y1,y1,y1,y1,y1,y1,y1,y1,y1,y1,y1,y1,y1,y1,y1,y1,y1,y1,y1,y1,y1,y1,y1,y1,y1,y1,y1,y1,y1,y1,y1,y1,y1,y1,y1,y1,y1,y1,y1,y1,y1,y1,y1,y1,y1,y1,y1,y1,y1,y1,y1,y1,y1,y1,y1,y1,y1,y1,y1,y1,y1,y1,y1,y1,y1,y1,y1,y1,y1,z1,z1,z1,z1,z1,z1,z1,z1,z1,z1,z1,z1,z1,z1,z1] (by kernel_rfl) ?_
    simp only [Act.put, List.setIfInBounds_toArray, List.set_cons_zero, List.set_cons_succ]
    refine HeldIn.wpAnyG_takeQ (fun _ => trivial) [] (i := 78) HO.out qxalive_23_92 (v := (.bool true)) rfl (fun _ _ _ h => h) HSS.out (by first | (with_reducible rfl) | (simp [Region.wanted, yielded, Act.put]; done) | rfl) (fun V hs => by go_simp) (some 188) rfl #[y1,y1,y1,y1,y1,y1,y1,y1,y1,y1,y1,y1,y1,y1,y1,y1,y1,y1,y1,y1,y1,y1,y1,y1,y1,y1,y1,y1,y1,y1,y1,y1,y1,y1,y1,y1,y1,y1,y1,y1,y1,y1,y1,y1,y1,y1,y1,y1,y1,y1,y1,y1,y1,y1,y1,y1,y1,y1,y1,y1,y1,y1,y1,y1,y1,y1,y1,y1,y1,y1,y1,y1,y1,y1,y1,y1,y1,y1,y1,z1,z1,z1,z1,z1,z1,z1,z1,z1,z1,z1,z1,z1,z1] (by kernel_rfl) ?_
    simp only [Act.put, List.setIfInBounds_toArray, List.set_cons_zero, List.set_cons_succ]
    refine HeldIn.wpAnyG_takeQ (fun _ => trivial) [] (i := 79) HO.out qxalive_23_93 (v := (.bool true)) rfl (fun _ _ _ h => h) HSS.out (by first | (with_reducible rfl) | (simp [Region.wanted, yielded, Act.put]; done) | rfl) (fun V hs => by go_simp) (some 189) rfl #[y1,y1,y1,y1,y1,y1,y1,y1,y1,y1,y1,y1,y1,y1,y1,y1,y1,y1,y1,y1,y1,y1,y1,y1,y1,y1,y1,y1,y1,y1,y1,y1,y1,y1,y1,y1,y1,y1,y1,y1,y1,y1,y1,y1,y1,y1,y1,y1,y1,y1,y1,y1,y1,y1,y1,y1,y1,y1,y1,y1,y1,y1,y1,y1,y1,y1,y1,y1,y1,y1,y1,y1,y1,y1,y1,y1,y1,y1,y1,y1,z1,z1,z1,z1,z1,z1,z1,z1,z1,z1,z1,z1,z1] (by kernel_rfl) ?_
    simp only [Act.put, List.setIfInBounds_toArray, List.set_cons_zero, List.set_cons_succ]
    refine HeldIn.wpAnyG_takeQ (fun _ => trivial) [] (i := 80) HO.out qxalive_23_94 (v := (.bool true)) rfl (fun _ _ _ h => h) HSS.out (by first | (with_reducible rfl) | (simp [Region.wanted, yielded, Act.put]; done) | rfl) (fun V hs => by go_simp) (some 190) rfl #[y1,y1,y1,y1,y1,y1,y1,y1,y1,y1,y1,y1,y1,y1,y1,y1,y1,y1,y1,y1,y1,y1,y1,y1,y1,y1,y1,y1,y1,y1,y1,y1,y1,y1,y1,y1,y1,y1,y1,y1,y1,y1,y1,y1,y1,y1,y1,y1,y1,y1,y1,y1,y1,y1,y1,y1,y1,y1,y1,y1,y1,y1,y1,y1,y1,y1,y1,y1,y1,y1,y1,y1,y1,y1,y1,y1,y1,y1,y1,y1,y1,z1,z1,z1,z1,z1,z1,z1,z1,z1,z1,z1,z1] (by kernel_rfl) ?_
    simp only [Act.put, List.setIfInBounds_toArray, List.set_cons_zero, List.set_cons_succ]
    refine HeldIn.wpAnyG_takeQ (fun _ => trivial) [] (i := 81) HO.out qxalive_23_95 (v := (.slice (some ⟨gq, 0, none⟩) 36 cq)) rfl (fun _ _ _ h => h) HSS.out (by first | (with_reducible rfl) | (simp [Region.wanted, yielded, Act.put]; done) | rfl) (fun V hs => by go_simp) (some 191) rfl #[y1,y1,y1,y1,y1,y1,y1,y1,y1,y1,y1,y1,y1,y1,y1,y1,y1,y1,y1,y1,y1,y1,y1,y1,y1,y1,y1,y1,y1,y1,y1,y1,y1,y1,y1,y1,y1,y1,y1,y1,y1,y1,y1,y1,y1,y1,y1,y1,y1,y1,y1,y1,y1,y1,y1,y1,y1,y1,y1,y1,y1,y1,y1,y1,y1,y1,y1,y1,y1,y1,y1,y1,y1,y1,y1,y1,y1,y1,y1,y1,y1,y1,z1,z1,z1,z1,z1,z1,z1,z1,z1,z1,z1] (by kernel_rfl) ?_
    simp only [Act.put, List.setIfInBounds_toArray, List.set_cons_zero, List.set_cons_succ]
    refine HeldIn.wpAnyG_takeQ (fun _ => trivial) [] (i := 82) HO.out qxalive_23_96 (v := (.pointer (some ⟨gq, 34, none⟩))) rfl (fun _ _ _ h => h) HSS.out (by first | (with_reducible rfl) | (simp [Region.wanted, yielded, Act.put]; done) | rfl) (fun V hs => by go_simp) (some 192) rfl #[y1,y1,y1,y1,y1,y1,y1,y1,y1,y1,y1,y1,y1,y1,y1,y1,y1,y1,y1,y1,y1,y1,y1,y1,y1,y1,y1,y1,y1,y1,y1,y1,y1,y1,y1,y1,y1,y1,y1,y1,y1,y1,y1,y1,y1,y1,y1,y1,y1,y1,y1,y1,y1,y1,y1,y1,y1,y1,y1,y1,y1,y1,y1,y1,y1,y1,y1,y1,y1,y1,y1,y1,y1,y1,y1,y1,y1,y1,y1,y1,y1,y1,y1,z1,z1,z1,z1,z1,z1,z1,z1,z1,z1] (by kernel_rfl) ?_
    simp only [Act.put, List.setIfInBounds_toArray, List.set_cons_zero, List.set_cons_succ]
    refine HeldIn.wpAnyG_takeQ (fun _ => trivial) [] (i := 83) HO.out qxalive_23_97 (v := (.int .u8 1)) rfl (fun _ _ _ h => h) HSS.out (by first | (with_reducible rfl) | (simp [Region.wanted, yielded, Act.put]; done) | rfl) (fun V hs => by have hc := ((hs _ (List.mem_of_getElem? (i := 0) rfl)) : (thC gq 34 35 1 2).P V).1; go_simp) (some 193) rfl #[y1,y1,y1,y1,y1,y1,y1,y1,y1,y1,y1,y1,y1,y1,y1,y1,y1,y1,y1,y1,y1,y1,y1,y1,y1,y1,y1,y1,y1,y1,y1,y1,y1,y1,y1,y1,y1,y1,y1,y1,y1,y1,y1,y1,y1,y1,y1,y1,y1,y1,y1,y1,y1,y1,y1,y1,y1,y1,y1,y1,y1,y1,y1,y1,y1,y1,y1,y1,y1,y1,y1,y1,y1,y1,y1,y1,y1,y1,y1,y1,y1,y1,y1,y1,z1,z1,z1,z1,z1,z1,z1,z1,z1] (by kernel_rfl) ?_
    simp only [Act.put, List.setIfInBounds_toArray, List.set_cons_zero, List.set_cons_succ]
    refine HeldIn.wpAnyG_takeQ (fun _ => trivial) [] (i := 84) HO.out qxalive_23_98 (v := (.bool true)) rfl (fun _ _ _ h => h) HSS.out (by first | (with_reducible rfl) | (simp [Region.wanted, yielded, Act.put]; done) | rfl) (fun V hs => by go_simp) (some 194) rfl #[y1,y1,y1,y1,y1,y1,y1,y1,y1,y1,y1,y1,y1,y1,y1,y1,y1,y1,y1,y1,y1,y1,y1,y1,y1,y1,y1,y1,y1,y1,y1,y1,y1,y1,y1,y1,y1,y1,y1,y1,y1,y1,y1,y1,y1,y1,y1,y1,y1,y1,y1,y1,y1,y1,y1,y1,y1,y1,y1,y1,y1,y1,y1,y1,y1,y1,y1,y1,y1,y1,y1,y1,y1,y1,y1,y1,y1,y1,y1,y1,y1,y1,y1,y1,y1,z1,z1,z1,z1,z1,z1,z1,z1] (by kernel_rfl) ?_
    simp only [Act.put, List.setIfInBounds_toArray, List.set_cons_zero, List.set_cons_succ]
    refine HeldIn.wpAnyG_takeQ (fun _ => trivial) [] (i := 85) HO.out qxalive_23_99 (v := (.bool true)) rfl (fun _ _ _ h => h) HSS.out (by first | (with_reducible rfl) | (simp [Region.wanted, yielded, Act.put]; done) | rfl) (fun V hs => by go_simp) (some 195) rfl #[y1,y1,y1,y1,y1,y1,y1,y1,y1,y1,y1,y1,y1,y1,y1,y1,y1,y1,y1,y1,y1,y1,y1,y1,y1,y1,y1,y1,y1,y1,y1,y1,y1,y1,y1,y1,y1,y1,y1,y1,y1,y1,y1,y1,y1,y1,y1,y1,y1,y1,y1,y1,y1,y1,y1,y1,y1,y1,y1,y1,y1,y1,y1,y1,y1,y1,y1,y1,y1,y1,y1,y1,y1,y1,y1,y1,y1,y1,y1,y1,y1,y1,y1,y1,y1,y1,z1,z1,z1,z1,z1,z1,z1] (by kernel_rfl) ?_
    simp only [Act.put, List.setIfInBounds_toArray, List.set_cons_zero, List.set_cons_succ]
    refine HeldIn.wpAnyG_takeQ (fun _ => trivial) [] (i := 86) HO.out qxalive_23_100 (v := (.bool true)) rfl (fun _ _ _ h => h) HSS.out (by first | (with_reducible rfl) | (simp [Region.wanted, yielded, Act.put]; done) | rfl) (fun V hs => by go_simp) (some 196) rfl #[y1,y1,y1,y1,y1,y1,y1,y1,y1,y1,y1,y1,y1,y1,y1,y1,y1,y1,y1,y1,y1,y1,y1,y1,y1,y1,y1,y1,y1,y1,y1,y1,y1,y1,y1,y1,y1,y1,y1,y1,y1,y1,y1,y1,y1,y1,y1,y1,y1,y1,y1,y1,y1,y1,y1,y1,y1,y1,y1,y1,y1,y1,y1,y1,y1,y1,y1,y1,y1,y1,y1,y1,y1,y1,y1,y1,y1,y1,y1,y1,y1,y1,y1,y1,y1,y1,y1,z1,z1,z1,z1,z1,z1] (by kernel_rfl) ?_
    simp only [Act.put, List.setIfInBounds_toArray, List.set_cons_zero, List.set_cons_succ]
    refine HeldIn.wpAnyG_takeQ (fun _ => trivial) [] (i := 87) HO.out qxalive_23_101 (v := (.slice (some ⟨gq, 0, none⟩) 36 cq)) rfl (fun _ _ _ h => h) HSS.out (by first | (with_reducible rfl) | (simp [Region.wanted, yielded, Act.put]; done) | rfl) (fun V hs => by go_simp) (some 197) rfl #[y1,y1,y1,y1,y1,y1,y1,y1,y1,y1,y1,y1,y1,y1,y1,y1,y1,y1,y1,y1,y1,y1,y1,y1,y1,y1,y1,y1,y1,y1,y1,y1,y1,y1,y1,y1,y1,y1,y1,y1,y1,y1,y1,y1,y1,y1,y1,y1,y1,y1,y1,y1,y1,y1,y1,y1,y1,y1,y1,y1,y1,y1,y1,y1,y1,y1,y1,y1,y1,y1,y1,y1,y1,y1,y1,y1,y1,y1,y1,y1,y1,y1,y1,y1,y1,y1,y1,y1,z1,z1,z1,z1,z1] (by kernel_rfl) ?_
    simp only [Act.put, List.setIfInBounds_toArray, List.set_cons_zero, List.set_cons_succ]
    refine HeldIn.wpAnyG_takeQ (fun _ => trivial) [] (i := 88) HO.out qxalive_23_102 (v := (.pointer (some ⟨gq, 35, none⟩))) rfl (fun _ _ _ h => h) HSS.out (by first | (with_reducible rfl) | (simp [Region.wanted, yielded, Act.put]; done) | rfl) (fun V hs => by go_simp) (some 198) rfl #[y1,y1,y1,y1,y1,y1,y1,y1,y1,y1,y1,y1,y1,y1,y1,y1,y1,y1,y1,y1,y1,y1,y1,y1,y1,y1,y1,y1,y1,y1,y1,y1,y1,y1,y1,y1,y1,y1,y1,y1,y1,y1,y1,y1,y1,y1,y1,y1,y1,y1,y1,y1,y1,y1,y1,y1,y1,y1,y1,y1,y1,y1,y1,y1,y1,y1,y1,y1,y1,y1,y1,y1,y1,y1,y1,y1,y1,y1,y1,y1,y1,y1,y1,y1,y1,y1,y1,y1,y1,z1,z1,z1,z1] (by kernel_rfl) ?_
    simp only [Act.put, List.setIfInBounds_toArray, List.set_cons_zero, List.set_cons_succ]
    refine HeldIn.wpAnyG_takeQ (fun _ => trivial) [] (i := 89) HO.out qxalive_23_103 (v := (.int .u8 2)) rfl (fun _ _ _ h => h) HSS.out (by first | (with_reducible rfl) | (simp [Region.wanted, yielded, Act.put]; done) | rfl) (fun V hs => by have hc := ((hs _ (List.mem_of_getElem? (i := 0) rfl)) : (thC gq 34 35 1 2).P V).2; go_simp) (some 199) rfl #[y1,y1,y1,y1,y1,y1,y1,y1,y1,y1,y1,y1,y1,y1,y1,y1,y1,y1,y1,y1,y1,y1,y1,y1,y1,y1,y1,y1,y1,y1,y1,y1,y1,y1,y1,y1,y1,y1,y1,y1,y1,y1,y1,y1,y1,y1,y1,y1,y1,y1,y1,y1,y1,y1,y1,y1,y1,y1,y1,y1,y1,y1,y1,y1,y1,y1,y1,y1,y1,y1,y1,y1,y1,y1,y1,y1,y1,y1,y1,y1,y1,y1,y1,y1,y1,y1,y1,y1,y1,y1,z1,z1,z1] (by kernel_rfl) ?_
    simp only [Act.put, List.setIfInBounds_toArray, List.set_cons_zero, List.set_cons_succ]
    refine HeldIn.wpAnyG_takeQ (fun _ => trivial) [] (i := 90) HO.out qxalive_23_104 (v := (.bool true)) rfl (fun _ _ _ h => h) HSS.out (by first | (with_reducible rfl) | (simp [Region.wanted, yielded, Act.put]; done) | rfl) (fun V hs => by go_simp) (some 200) rfl #[y1,y1,y1,y1,y1,y1,y1,y1,y1,y1,y1,y1,y1,y1,y1,y1,y1,y1,y1,y1,y1,y1,y1,y1,y1,y1,y1,y1,y1,y1,y1,y1,y1,y1,y1,y1,y1,y1,y1,y1,y1,y1,y1,y1,y1,y1,y1,y1,y1,y1,y1,y1,y1,y1,y1,y1,y1,y1,y1,y1,y1,y1,y1,y1,y1,y1,y1,y1,y1,y1,y1,y1,y1,y1,y1,y1,y1,y1,y1,y1,y1,y1,y1,y1,y1,y1,y1,y1,y1,y1,y1,z1,z1] (by kernel_rfl) ?_
    simp only [Act.put, List.setIfInBounds_toArray, List.set_cons_zero, List.set_cons_succ]
    refine HeldIn.wpAnyG_takeQ (fun _ => trivial) [] (i := 91) HO.out qxalive_23_105 (v := (.bool true)) rfl (fun _ _ _ h => h) HSS.out (by first | (with_reducible rfl) | (simp [Region.wanted, yielded, Act.put]; done) | rfl) (fun V hs => by go_simp) (some 201) rfl #[y1,y1,y1,y1,y1,y1,y1,y1,y1,y1,y1,y1,y1,y1,y1,y1,y1,y1,y1,y1,y1,y1,y1,y1,y1,y1,y1,y1,y1,y1,y1,y1,y1,y1,y1,y1,y1,y1,y1,y1,y1,y1,y1,y1,y1,y1,y1,y1,y1,y1,y1,y1,y1,y1,y1,y1,y1,y1,y1,y1,y1,y1,y1,y1,y1,y1,y1,y1,y1,y1,y1,y1,y1,y1,y1,y1,y1,y1,y1,y1,y1,y1,y1,y1,y1,y1,y1,y1,y1,y1,y1,y1,z1] (by kernel_rfl) ?_
    simp only [Act.put, List.setIfInBounds_toArray, List.set_cons_zero, List.set_cons_succ]
    have hc0 := blk_cell (E55.out.at 10 rfl) 0
    have hf0 := blk_frozen (E55.out.at 10 rfl) 0
    simp at hc0
    refine HeldIn.wpAnyG_oneQ 92 HO.out qxalive_23_106 rfl #[y1,y1,y1,y1,y1,y1,y1,y1,y1,y1,y1,y1,y1,y1,y1,y1,y1,y1,y1,y1,y1,y1,y1,y1,y1,y1,y1,y1,y1,y1,y1,y1,y1,y1,y1,y1,y1,y1,y1,y1,y1,y1,y1,y1,y1,y1,y1,y1,y1,y1,y1,y1,y1,y1,y1,y1,y1,y1,y1,y1,y1,y1,y1,y1,y1,y1,y1,y1,y1,y1,y1,y1,y1,y1,y1,y1,y1,y1,y1,y1,y1,y1,y1,y1,y1,y1,y1,y1,y1,y1,y1,y1,y1] (by kernel_rfl) (fun K hK => ?_)
    gi_wp2_with fail
    have E56 := Aside0.mk ((show Env w (w65.setCell ⟨w.heap.size, 0, none⟩ (.bool true)) _ from E55.out.put [thC gq 34 35 1 2, thD D, thB wm.heap.size #[.pointer (some ⟨c, 0, none⟩)] 33, thB w16.heap.size #[.int .i64 2] 3, thT Ow64 c 2 10 [], thB w13.heap.size #[.int .i64 5, .int .u64 101] 43, thB w11.heap.size (encK z0).toArray 29, thB w9.heap.size (encK k2).toArray 29, thB w3.heap.size (encK z0).toArray 29, thT Ow65 b 2 10 []] 0 (.bool true) rfl))
    clear E55
    clear HSS
    have HSS := Aside0.mk (show ∀ t ∈ ([thC gq 34 35 1 2, thB wm.heap.size #[.pointer (some ⟨c, 0, none⟩)] 33, thB w16.heap.size #[.int .i64 2] 3, thB w13.heap.size #[.int .i64 5, .int .u64 101] 43, thB w11.heap.size (encK z0).toArray 29, thB w9.heap.size (encK k2).toArray 29, thB w3.heap.size (encK z0).toArray 29] : List Th), t.P (w65.setCell ⟨w.heap.size, 0, none⟩ (.bool true)) by intro t ht; simp only [List.mem_cons, List.not_mem_nil, or_false] at ht; rcases ht with rfl | rfl | rfl | rfl | rfl | rfl | rfl <;> first | exact E56.out.at 0 rfl | exact E56.out.at 2 rfl | exact E56.out.at 3 rfl | exact E56.out.at 5 rfl | exact E56.out.at 6 rfl | exact E56.out.at 7 rfl | exact E56.out.at 8 rfl)
    refine hK _ _ (fun _ => HSS.out) ?_
    clear hK K hc0 hf0
    refine HeldIn.wpAnyG_done (by kernel_rfl) ?_ _
    simp only [HeldIn.NP]
    gi_wp2
    have EF := E56.out
    exact leave_D (v := .bool true) EF.drop (fun W' hE => ⟨results_cell1 rfl _ _ w.heap.size rfl (load_b (hE.at 8 rfl)), rfl, hE.bel⟩)
end Go.Proofs.Ytikpgmajiafhgaa.Fl
