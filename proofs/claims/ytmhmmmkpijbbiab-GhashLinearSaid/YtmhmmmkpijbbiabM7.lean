/- Contracts of the Go functions that the laws reach, each as a plain Lean function: written by xprint.py, a program of this repo. -/
import Derived.Test.YtmhmmmkpijbbiabGhLinear
import Derived.Test.YtmhmmmkpijbbiabM0
namespace Go.Proofs.Ytmhmmmkpijbbiab.M
open Go.RowKit Go.Proofs.YtmhmmmkpijbbiabW.PrintWords Go.Proofs.YtmhmmmkpijbbiabW.PrintLast Go.Proofs.YtmhmmmkpijbbiabW.PrintMore Go.Proofs.Ytmhmmmkpijbbiab.X
attribute [local go_sem] max2_int min2_int max_two min_two max_three min_three max_four min_four   -- for this text's walks alone
set_option linter.unusedVariables false
set_option linter.unusedSimpArgs false

/-! ### crosswaylaw05_GhashLinear: function 6, typed by hand -/
-- IMPORT Derived.Test.YtmhmmmkpijbbiabGhLinear
def crosswaylaw05_GhashLinear.f (k : Nat) (l0 : List Int) (a1_0 a1_1 : Int) (a2_0 a2_1 : Int) (l3 : List Int) (l4 : List Int) : Option Bool := if Gh.byteL l0 && Gh.fineB a1_0 a1_1 && Gh.fineB a2_0 a2_1 && Gh.byteL l3 && Gh.byteL l4 then some true else none
theorem crosswaylaw05_GhashLinear.mono : ∀ k (l0 : List Int) (a1_0 a1_1 : Int) (a2_0 a2_1 : Int) (l3 : List Int) (l4 : List Int), LeO (crosswaylaw05_GhashLinear.f k l0 a1_0 a1_1 a2_0 a2_1 l3 l4) (crosswaylaw05_GhashLinear.f (k + 1) l0 a1_0 a1_1 a2_0 a2_1 l3 l4) := fun _ _ _ _ _ _ _ _ => LeO.refl _
theorem crosswaylaw05_GhashLinear.calls (k : Nat) (A0 : Option Addr) (c0 : Nat) (l0 : List Int) (a1_0 a1_1 : Int) (a2_0 a2_1 : Int) (A3 : Option Addr) (c3 : Nat) (l3 : List Int) (A4 : Option Addr) (c4 : Nat) (l4 : List Int) (r : Bool) (w : World) (hr0 : Kd.C (Kd.int .u8) w A0 l0.length l0) (hc0 : l0.length ≤ c0) (hr3 : Kd.C (Kd.int .u8) w A3 l3.length l3) (hc3 : l3.length ≤ c3) (hr4 : Kd.C (Kd.int .u8) w A4 l4.length l4) (hc4 : l4.length ≤ c4) (h : crosswaylaw05_GhashLinear.f k l0 a1_0 a1_1 a2_0 a2_1 l3 l4 = some r) :
    Calls Try.prog 6 #[.slice A0 l0.length c0, .agg #[.int .u64 a1_0, .int .u64 a1_1], .agg #[.int .u64 a2_0, .int .u64 a2_1], .slice A3 l3.length c3, .slice A4 l4.length c4] w fun e w' => e = .returned (.bool r) ∧ Below w.heap.size w w' := by
  unfold crosswaylaw05_GhashLinear.f at h
  split at h
  · next hq =>
    simp only [Bool.and_eq_true] at hq
    obtain ⟨⟨⟨⟨q0, q1⟩, q2⟩, q3⟩, q4⟩ := hq
    obtain rfl : true = r := Option.some.inj h
    exact Gh.linear_calls w l0 ((Gh.byteL_iff l0).1 q0) A0 c0 hr0 hc0 a1_0 a1_1 a2_0 a2_1 ((Gh.fineB_iff _ _).1 q1) ((Gh.fineB_iff _ _).1 q2) l3 l4 ((Gh.byteL_iff l3).1 q3) ((Gh.byteL_iff l4).1 q4) A3 c3 hr3 hc3 A4 c4 hr4 hc4
  · cases h


/-- The one pure statement of crosswaylaw05_GhashLinear. -/
def crosswaylaw05_GhashLinear.Pure : Prop := ∀ (l0 : List Int) (a1_0 : Int) (a1_1 : Int) (a2_0 : Int) (a2_1 : Int) (l3 : List Int) (l4 : List Int), l0.length ≤ maxLen → (∀ x ∈ l0, (Lit.int .u8 x).wf = true) → (Lit.int .u64 a1_0).wf = true → (Lit.int .u64 a1_1).wf = true → (Lit.int .u64 a2_0).wf = true → (Lit.int .u64 a2_1).wf = true → l3.length ≤ maxLen → (∀ x ∈ l3, (Lit.int .u8 x).wf = true) → l4.length ≤ maxLen → (∀ x ∈ l4, (Lit.int .u8 x).wf = true) → ∃ k, crosswaylaw05_GhashLinear.f k l0 a1_0 a1_1 a2_0 a2_1 l3 l4 = some true

end Go.Proofs.Ytmhmmmkpijbbiab.M
