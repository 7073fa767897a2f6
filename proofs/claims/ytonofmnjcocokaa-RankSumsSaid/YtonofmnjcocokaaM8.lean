/- Contracts of the Go functions that the laws reach, each as a plain Lean function: written by xprint.py, a program of this repo. -/
import Derived.Test.YtonofmnjcocokaaRkSums
import Derived.Test.YtonofmnjcocokaaM0
namespace Go.Proofs.Ytonofmnjcocokaa.M
open Go.RowKit Go.Proofs.YtonofmnjcocokaaW.PrintWords Go.Proofs.YtonofmnjcocokaaW.PrintLast Go.Proofs.YtonofmnjcocokaaW.PrintMore Go.Proofs.Ytonofmnjcocokaa.X
attribute [local go_sem] max2_int min2_int max_two min_two max_three min_three max_four min_four   -- for this text's walks alone
set_option linter.unusedVariables false
set_option linter.unusedSimpArgs false

/-! ### crosswaylaw23_RankSums: function 6, typed by hand -/
-- IMPORT Derived.Test.YtonofmnjcocokaaRkSums
def crosswaylaw23_RankSums.f (k : Nat) (a0 : Int) (l1 : List (List Int)) (l2 : List S25) : Option Bool := some true
theorem crosswaylaw23_RankSums.mono : ∀ k (a0 : Int) (l1 : List (List Int)) (l2 : List S25), LeO (crosswaylaw23_RankSums.f k a0 l1 l2) (crosswaylaw23_RankSums.f (k + 1) a0 l1 l2) := fun _ _ _ _ => LeO.refl _
theorem crosswaylaw23_RankSums.calls (k : Nat) (a0 : Int) (A1 : Option Addr) (c1 : Nat) (l1 : List (List Int)) (A2 : Option Addr) (c2 : Nat) (l2 : List S25) (r : Bool) (w : World) (hr1 : Kd.C (Kd.slice 5 (Kd.int .u8)) w A1 l1.length l1) (hc1 : l1.length ≤ c1) (hr2 : Kd.C k25 w A2 l2.length l2) (hc2 : l2.length ≤ c2) (h : crosswaylaw23_RankSums.f k a0 l1 l2 = some r) :
    Calls Try.prog 6 #[.int .u64 a0, .slice A1 l1.length c1, .slice A2 l2.length c2] w fun e w' => e = .returned (.bool r) ∧ Below w.heap.size w w' := by
  obtain rfl : true = r := Option.some.inj h
  exact Rk.sums_calls a0 l1 _ rfl l2 _ rfl A1 c1 A2 c2 w hr1 hc1 hr2 hc2


/-- The one pure statement of crosswaylaw23_RankSums. -/
def crosswaylaw23_RankSums.Pure : Prop := ∀ (a0 : Int) (l1 : List (List Int)) (l2 : List (S25)), (Lit.int .u64 a0).wf = true → l1.length ≤ maxLen → (∀ x ∈ l1, x.length ≤ maxLen ∧ ∀ xx ∈ x, (Lit.int .u8 xx).wf = true) → l2.length ≤ maxLen → (∀ x ∈ l2, ((Lit.int .i64 x.f0).wf = true) ∧ ((Lit.int .i64 x.f1).wf = true) ∧ True) → ∃ k, crosswaylaw23_RankSums.f k a0 l1 l2 = some true

end Go.Proofs.Ytonofmnjcocokaa.M
