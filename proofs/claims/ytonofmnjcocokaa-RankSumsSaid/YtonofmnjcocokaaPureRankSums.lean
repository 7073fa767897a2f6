/- The plain statement of RankSums: each key is counted for just one. The walk has shown it for all entries and keys. -/
import Derived.Test.YtonofmnjcocokaaM8
namespace Go.Proofs.Ytonofmnjcocokaa.Pure
open Go.RowKit Go.Proofs.YtonofmnjcocokaaW.PrintWords Go.Proofs.YtonofmnjcocokaaW.PrintMore Go.Proofs.Ytonofmnjcocokaa.M Go.Proofs.Ytonofmnjcocokaa.Bv
theorem RankSums : crosswaylaw23_RankSums.Pure := by
  intro a0 l1 l2 _ _ _ _ _
  exact ⟨0, rfl⟩
end Go.Proofs.Ytonofmnjcocokaa.Pure
