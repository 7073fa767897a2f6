/- The plain statement of RankAnswers: every Score, Order, First and Chosen. The walk has shown it for all entries and keys. -/
import Derived.Test.YtonofmnjcocokaaM5
namespace Go.Proofs.Ytonofmnjcocokaa.Pure
open Go.RowKit Go.Proofs.YtonofmnjcocokaaW.PrintWords Go.Proofs.YtonofmnjcocokaaW.PrintMore Go.Proofs.Ytonofmnjcocokaa.M Go.Proofs.Ytonofmnjcocokaa.Bv
theorem RankAnswers : crosswaylaw23_RankAnswers.Pure := by
  intro a0 l1 a2_0 a2_1 l3 _ _ _ _ _ _ _
  exact ⟨0, rfl⟩
end Go.Proofs.Ytonofmnjcocokaa.Pure
