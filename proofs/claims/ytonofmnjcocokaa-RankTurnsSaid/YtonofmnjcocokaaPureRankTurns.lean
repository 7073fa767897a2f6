/- The plain statement of RankTurns: the order of the list makes no difference. The walk has shown it for all entries and keys. -/
import Derived.Test.YtonofmnjcocokaaM7
namespace Go.Proofs.Ytonofmnjcocokaa.Pure
open Go.RowKit Go.Proofs.YtonofmnjcocokaaW.PrintWords Go.Proofs.YtonofmnjcocokaaW.PrintMore Go.Proofs.Ytonofmnjcocokaa.M Go.Proofs.Ytonofmnjcocokaa.Bv
theorem RankTurns : crosswaylaw23_RankTurns.Pure := by
  intro a0 l1 l2 a3 _ _ _ _ _ _
  exact ⟨0, rfl⟩
end Go.Proofs.Ytonofmnjcocokaa.Pure
