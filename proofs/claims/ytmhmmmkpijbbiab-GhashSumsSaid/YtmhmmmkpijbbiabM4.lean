/- Contracts of the Go functions that the laws reach, each as a plain Lean function: written by xprint.py, a program of this repo. -/
import Derived.Test.YtmhmmmkpijbbiabGhSums
import Derived.Test.YtmhmmmkpijbbiabM0
namespace Go.Proofs.Ytmhmmmkpijbbiab.M
open Go.RowKit Go.Proofs.YtmhmmmkpijbbiabW.PrintWords Go.Proofs.YtmhmmmkpijbbiabW.PrintLast Go.Proofs.YtmhmmmkpijbbiabW.PrintMore Go.Proofs.Ytmhmmmkpijbbiab.X
attribute [local go_sem] max2_int min2_int max_two min_two max_three min_three max_four min_four   -- for this text's walks alone
set_option linter.unusedVariables false
set_option linter.unusedSimpArgs false

/-! ### crosswaylaw05_GhashSums: function 3, typed by hand -/
-- IMPORT Derived.Test.YtmhmmmkpijbbiabGhSums
def crosswaylaw05_GhashSums.f (k : Nat) (l0 : List Int) (l1 : List Int) (l2 : List Int) : Option Bool := if Gh.byteL l0 && Gh.byteL l1 && Gh.byteL l2 then some true else none
theorem crosswaylaw05_GhashSums.mono : ∀ k (l0 : List Int) (l1 : List Int) (l2 : List Int), LeO (crosswaylaw05_GhashSums.f k l0 l1 l2) (crosswaylaw05_GhashSums.f (k + 1) l0 l1 l2) := fun _ _ _ _ => LeO.refl _
theorem crosswaylaw05_GhashSums.calls (k : Nat) (A0 : Option Addr) (c0 : Nat) (l0 : List Int) (A1 : Option Addr) (c1 : Nat) (l1 : List Int) (A2 : Option Addr) (c2 : Nat) (l2 : List Int) (r : Bool) (w : World) (hr0 : Kd.C (Kd.int .u8) w A0 l0.length l0) (hc0 : l0.length ≤ c0) (hr1 : Kd.C (Kd.int .u8) w A1 l1.length l1) (hc1 : l1.length ≤ c1) (hr2 : Kd.C (Kd.int .u8) w A2 l2.length l2) (hc2 : l2.length ≤ c2) (h : crosswaylaw05_GhashSums.f k l0 l1 l2 = some r) :
    Calls Try.prog 3 #[.slice A0 l0.length c0, .slice A1 l1.length c1, .slice A2 l2.length c2] w fun e w' => e = .returned (.bool r) ∧ Below w.heap.size w w' := by
  unfold crosswaylaw05_GhashSums.f at h
  split at h
  · next hq =>
    simp only [Bool.and_eq_true] at hq
    obtain ⟨⟨q0, q1⟩, q2⟩ := hq
    obtain rfl : true = r := Option.some.inj h
    exact Gh.sums_calls w l0 l1 l2 ((Gh.byteL_iff l0).1 q0) ((Gh.byteL_iff l1).1 q1) ((Gh.byteL_iff l2).1 q2) A0 c0 hr0 hc0 A1 c1 hr1 hc1 A2 c2 hr2 hc2
  · cases h


/-- The one pure statement of crosswaylaw05_GhashSums. -/
def crosswaylaw05_GhashSums.Pure : Prop := ∀ (l0 : List Int) (l1 : List Int) (l2 : List Int), l0.length ≤ maxLen → (∀ x ∈ l0, (Lit.int .u8 x).wf = true) → l1.length ≤ maxLen → (∀ x ∈ l1, (Lit.int .u8 x).wf = true) → l2.length ≤ maxLen → (∀ x ∈ l2, (Lit.int .u8 x).wf = true) → ∃ k, crosswaylaw05_GhashSums.f k l0 l1 l2 = some true

end Go.Proofs.Ytmhmmmkpijbbiab.M
