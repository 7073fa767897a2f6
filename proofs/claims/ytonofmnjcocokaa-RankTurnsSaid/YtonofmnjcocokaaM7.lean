/- Contracts of the Go functions that the laws reach, each as a plain Lean function: written by xprint.py, a program of this repo. -/
import Derived.Test.YtonofmnjcocokaaRkTurn
import Derived.Test.YtonofmnjcocokaaM0
namespace Go.Proofs.Ytonofmnjcocokaa.M
open Go.RowKit Go.Proofs.YtonofmnjcocokaaW.PrintWords Go.Proofs.YtonofmnjcocokaaW.PrintLast Go.Proofs.YtonofmnjcocokaaW.PrintMore Go.Proofs.Ytonofmnjcocokaa.X
attribute [local go_sem] max2_int min2_int max_two min_two max_three min_three max_four min_four   -- for this text's walks alone
set_option linter.unusedVariables false
set_option linter.unusedSimpArgs false

/-! ### crosswaylaw23_RankTurns: function 5, typed by hand -/
-- IMPORT Derived.Test.YtonofmnjcocokaaRkTurn
def crosswaylaw23_RankTurns.f (k : Nat) (a0 : Int) (l1 : List Int) (l2 : List S25) (a3 : Int) : Option Bool := some true
theorem crosswaylaw23_RankTurns.mono : ∀ k (a0 : Int) (l1 : List Int) (l2 : List S25) (a3 : Int), LeO (crosswaylaw23_RankTurns.f k a0 l1 l2 a3) (crosswaylaw23_RankTurns.f (k + 1) a0 l1 l2 a3) := fun _ _ _ _ _ => LeO.refl _
theorem crosswaylaw23_RankTurns.calls (k : Nat) (a0 : Int) (A1 : Option Addr) (c1 : Nat) (l1 : List Int) (A2 : Option Addr) (c2 : Nat) (l2 : List S25) (a3 : Int) (r : Bool) (w : World) (hr1 : Kd.C (Kd.int .u8) w A1 l1.length l1) (hc1 : l1.length ≤ c1) (hr2 : Kd.C k25 w A2 l2.length l2) (hc2 : l2.length ≤ c2) (h : crosswaylaw23_RankTurns.f k a0 l1 l2 a3 = some r) :
    Calls Try.prog 5 #[.int .u64 a0, .slice A1 l1.length c1, .slice A2 l2.length c2, .int .i64 a3] w fun e w' => e = .returned (.bool r) ∧ Below w.heap.size w w' := by
  obtain rfl : true = r := Option.some.inj h
  exact Rk.turns_calls a0 l1 _ rfl l2 _ rfl a3 A1 c1 A2 c2 w hr1 hc1 hr2 hc2


/-- The one pure statement of crosswaylaw23_RankTurns. -/
def crosswaylaw23_RankTurns.Pure : Prop := ∀ (a0 : Int) (l1 : List Int) (l2 : List (S25)) (a3 : Int), (Lit.int .u64 a0).wf = true → l1.length ≤ maxLen → (∀ x ∈ l1, (Lit.int .u8 x).wf = true) → l2.length ≤ maxLen → (∀ x ∈ l2, ((Lit.int .i64 x.f0).wf = true) ∧ ((Lit.int .i64 x.f1).wf = true) ∧ True) → (Lit.int .i64 a3).wf = true → ∃ k, crosswaylaw23_RankTurns.f k a0 l1 l2 a3 = some true

end Go.Proofs.Ytonofmnjcocokaa.M
