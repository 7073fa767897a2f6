/- Contracts of the Go functions that the laws reach, each as a plain Lean function: written by xprint.py, a program of this repo. -/
import Derived.Test.YtonofmnjcocokaaRkAns
import Derived.Test.YtonofmnjcocokaaM0
namespace Go.Proofs.Ytonofmnjcocokaa.M
open Go.RowKit Go.Proofs.YtonofmnjcocokaaW.PrintWords Go.Proofs.YtonofmnjcocokaaW.PrintLast Go.Proofs.YtonofmnjcocokaaW.PrintMore Go.Proofs.Ytonofmnjcocokaa.X
attribute [local go_sem] max2_int min2_int max_two min_two max_three min_three max_four min_four   -- for this text's walks alone
set_option linter.unusedVariables false
set_option linter.unusedSimpArgs false

/-! ### crosswaylaw23_RankAnswers: function 3, typed by hand -/
-- IMPORT Derived.Test.YtonofmnjcocokaaRkAns
def crosswaylaw23_RankAnswers.f (k : Nat) (a0 : Int) (l1 : List (List Int)) (a2_0 a2_1 : Int) (l3 : List S25) : Option Bool := some true
theorem crosswaylaw23_RankAnswers.mono : ∀ k (a0 : Int) (l1 : List (List Int)) (a2_0 a2_1 : Int) (l3 : List S25), LeO (crosswaylaw23_RankAnswers.f k a0 l1 a2_0 a2_1 l3) (crosswaylaw23_RankAnswers.f (k + 1) a0 l1 a2_0 a2_1 l3) := fun _ _ _ _ _ _ => LeO.refl _
theorem crosswaylaw23_RankAnswers.calls (k : Nat) (a0 : Int) (A1 : Option Addr) (c1 : Nat) (l1 : List (List Int)) (a2_0 a2_1 : Int) (A3 : Option Addr) (c3 : Nat) (l3 : List S25) (r : Bool) (w : World) (hr1 : Kd.C (Kd.slice 5 (Kd.int .u8)) w A1 l1.length l1) (hc1 : l1.length ≤ c1) (hr3 : Kd.C k25 w A3 l3.length l3) (hc3 : l3.length ≤ c3) (h : crosswaylaw23_RankAnswers.f k a0 l1 a2_0 a2_1 l3 = some r) :
    Calls Try.prog 3 #[.int .u64 a0, .slice A1 l1.length c1, .agg #[.int .i64 a2_0, .int .i64 a2_1], .slice A3 l3.length c3] w fun e w' => e = .returned (.bool r) ∧ Below w.heap.size w w' := by
  obtain rfl : true = r := Option.some.inj h
  exact Rk.answers_calls a0 l1 _ rfl a2_0 a2_1 l3 _ rfl A1 c1 A3 c3 w hr1 hc1 hr3 hc3


/-- The one pure statement of crosswaylaw23_RankAnswers. -/
def crosswaylaw23_RankAnswers.Pure : Prop := ∀ (a0 : Int) (l1 : List (List Int)) (a2_0 : Int) (a2_1 : Int) (l3 : List (S25)), (Lit.int .u64 a0).wf = true → l1.length ≤ maxLen → (∀ x ∈ l1, x.length ≤ maxLen ∧ ∀ xx ∈ x, (Lit.int .u8 xx).wf = true) → (Lit.int .i64 a2_0).wf = true → (Lit.int .i64 a2_1).wf = true → l3.length ≤ maxLen → (∀ x ∈ l3, ((Lit.int .i64 x.f0).wf = true) ∧ ((Lit.int .i64 x.f1).wf = true) ∧ True) → ∃ k, crosswaylaw23_RankAnswers.f k a0 l1 a2_0 a2_1 l3 = some true

end Go.Proofs.Ytonofmnjcocokaa.M
