/- Contracts of the Go functions that the laws reach, each as a plain Lean function: written by xprint.py, a program of this repo. -/
import Derived.Test.YtmhmmmkpijbbiabGhFolds
import Derived.Test.YtmhmmmkpijbbiabM0
namespace Go.Proofs.Ytmhmmmkpijbbiab.M
open Go.RowKit Go.Proofs.YtmhmmmkpijbbiabW.PrintWords Go.Proofs.YtmhmmmkpijbbiabW.PrintLast Go.Proofs.YtmhmmmkpijbbiabW.PrintMore Go.Proofs.Ytmhmmmkpijbbiab.X
attribute [local go_sem] max2_int min2_int max_two min_two max_three min_three max_four min_four   -- for this text's walks alone
set_option linter.unusedVariables false
set_option linter.unusedSimpArgs false

/-! ### crosswaylaw05_GhashFolds: function 4, typed by hand -/
-- IMPORT Derived.Test.YtmhmmmkpijbbiabGhFolds
def crosswaylaw05_GhashFolds.f (k : Nat) (l0 : List Int) (a1_0 a1_1 : Int) (l2 : List S36) : Option Bool := if Gh.byteL l0 && Gh.fineB a1_0 a1_1 && Gh.fineL l2 then some true else none
theorem crosswaylaw05_GhashFolds.mono : ∀ k (l0 : List Int) (a1_0 a1_1 : Int) (l2 : List S36), LeO (crosswaylaw05_GhashFolds.f k l0 a1_0 a1_1 l2) (crosswaylaw05_GhashFolds.f (k + 1) l0 a1_0 a1_1 l2) := fun _ _ _ _ _ => LeO.refl _
theorem crosswaylaw05_GhashFolds.calls (k : Nat) (A0 : Option Addr) (c0 : Nat) (l0 : List Int) (a1_0 a1_1 : Int) (A2 : Option Addr) (c2 : Nat) (l2 : List S36) (r : Bool) (w : World) (hr0 : Kd.C (Kd.int .u8) w A0 l0.length l0) (hc0 : l0.length ≤ c0) (hr2 : Kd.C k36 w A2 l2.length l2) (hc2 : l2.length ≤ c2) (h : crosswaylaw05_GhashFolds.f k l0 a1_0 a1_1 l2 = some r) :
    Calls Try.prog 4 #[.slice A0 l0.length c0, .agg #[.int .u64 a1_0, .int .u64 a1_1], .slice A2 l2.length c2] w fun e w' => e = .returned (.bool r) ∧ Below w.heap.size w w' := by
  unfold crosswaylaw05_GhashFolds.f at h
  split at h
  · next hq =>
    simp only [Bool.and_eq_true] at hq
    obtain ⟨⟨q0, q1⟩, q2⟩ := hq
    obtain rfl : true = r := Option.some.inj h
    exact Gh.folds_calls w l0 ((Gh.byteL_iff l0).1 q0) A0 c0 hr0 hc0 a1_0 a1_1 ((Gh.fineB_iff _ _).1 q1) l2 ((Gh.fineL_iff l2).1 q2) A2 c2 hr2 hc2
  · cases h


/-- The one pure statement of crosswaylaw05_GhashFolds. -/
def crosswaylaw05_GhashFolds.Pure : Prop := ∀ (l0 : List Int) (a1_0 : Int) (a1_1 : Int) (l2 : List (S36)), l0.length ≤ maxLen → (∀ x ∈ l0, (Lit.int .u8 x).wf = true) → (Lit.int .u64 a1_0).wf = true → (Lit.int .u64 a1_1).wf = true → l2.length ≤ maxLen → (∀ x ∈ l2, ((Lit.int .u64 x.f0).wf = true) ∧ ((Lit.int .u64 x.f1).wf = true) ∧ True) → ∃ k, crosswaylaw05_GhashFolds.f k l0 a1_0 a1_1 l2 = some true

end Go.Proofs.Ytmhmmmkpijbbiab.M
