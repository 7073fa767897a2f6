/- The plain statement of RankFew: an entry more changes the first one to itself, or not at all. The walk has shown it for all entries and keys. -/
import Derived.Test.YtonofmnjcocokaaM6
namespace Go.Proofs.Ytonofmnjcocokaa.Pure
open Go.RowKit Go.Proofs.YtonofmnjcocokaaW.PrintWords Go.Proofs.YtonofmnjcocokaaW.PrintMore Go.Proofs.Ytonofmnjcocokaa.M Go.Proofs.Ytonofmnjcocokaa.Bv
theorem RankFew : crosswaylaw23_RankFew.Pure := by
  intro a0 l1 l2 a3 a4 _ _ _ _ _ _ _
  exact ⟨0, rfl⟩
end Go.Proofs.Ytonofmnjcocokaa.Pure
