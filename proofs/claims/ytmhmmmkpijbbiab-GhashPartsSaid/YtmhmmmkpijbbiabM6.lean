/- Contracts of the Go functions that the laws reach, each as a plain Lean function: written by xprint.py, a program of this repo. -/
import Derived.Test.YtmhmmmkpijbbiabGhParts
import Derived.Test.YtmhmmmkpijbbiabM0
namespace Go.Proofs.Ytmhmmmkpijbbiab.M
open Go.RowKit Go.Proofs.YtmhmmmkpijbbiabW.PrintWords Go.Proofs.YtmhmmmkpijbbiabW.PrintLast Go.Proofs.YtmhmmmkpijbbiabW.PrintMore Go.Proofs.Ytmhmmmkpijbbiab.X
attribute [local go_sem] max2_int min2_int max_two min_two max_three min_three max_four min_four   -- for this text's walks alone
set_option linter.unusedVariables false
set_option linter.unusedSimpArgs false

/-! ### crosswaylaw05_GhashParts: function 5, typed by hand -/
-- IMPORT Derived.Test.YtmhmmmkpijbbiabGhParts
def crosswaylaw05_GhashParts.f (k : Nat) (l0 : List Int) (a1_0 a1_1 : Int) (l2 : List S36) (l3 : List S36) (a4 : Int) : Option Bool := if Gh.byteL l0 && Gh.fineB a1_0 a1_1 && Gh.fineL l2 && Gh.fineL l3 then some true else none
theorem crosswaylaw05_GhashParts.mono : ∀ k (l0 : List Int) (a1_0 a1_1 : Int) (l2 : List S36) (l3 : List S36) (a4 : Int), LeO (crosswaylaw05_GhashParts.f k l0 a1_0 a1_1 l2 l3 a4) (crosswaylaw05_GhashParts.f (k + 1) l0 a1_0 a1_1 l2 l3 a4) := fun _ _ _ _ _ _ _ => LeO.refl _
theorem crosswaylaw05_GhashParts.calls (k : Nat) (A0 : Option Addr) (c0 : Nat) (l0 : List Int) (a1_0 a1_1 : Int) (A2 : Option Addr) (c2 : Nat) (l2 : List S36) (A3 : Option Addr) (c3 : Nat) (l3 : List S36) (a4 : Int) (r : Bool) (w : World) (hr0 : Kd.C (Kd.int .u8) w A0 l0.length l0) (hc0 : l0.length ≤ c0) (hr2 : Kd.C k36 w A2 l2.length l2) (hc2 : l2.length ≤ c2) (hr3 : Kd.C k36 w A3 l3.length l3) (hc3 : l3.length ≤ c3) (h : crosswaylaw05_GhashParts.f k l0 a1_0 a1_1 l2 l3 a4 = some r) :
    Calls Try.prog 5 #[.slice A0 l0.length c0, .agg #[.int .u64 a1_0, .int .u64 a1_1], .slice A2 l2.length c2, .slice A3 l3.length c3, .int .i64 a4] w fun e w' => e = .returned (.bool r) ∧ Below w.heap.size w w' := by
  unfold crosswaylaw05_GhashParts.f at h
  split at h
  · next hq =>
    simp only [Bool.and_eq_true] at hq
    obtain ⟨⟨⟨q0, q1⟩, q2⟩, q3⟩ := hq
    obtain rfl : true = r := Option.some.inj h
    exact Gh.parts_calls w l0 ((Gh.byteL_iff l0).1 q0) A0 c0 hr0 hc0 a1_0 a1_1 ((Gh.fineB_iff _ _).1 q1) l2 l3 ((Gh.fineL_iff l2).1 q2) ((Gh.fineL_iff l3).1 q3) A2 c2 hr2 hc2 A3 c3 hr3 hc3 a4
  · cases h


/-- The one pure statement of crosswaylaw05_GhashParts. -/
def crosswaylaw05_GhashParts.Pure : Prop := ∀ (l0 : List Int) (a1_0 : Int) (a1_1 : Int) (l2 : List (S36)) (l3 : List (S36)) (a4 : Int), l0.length ≤ maxLen → (∀ x ∈ l0, (Lit.int .u8 x).wf = true) → (Lit.int .u64 a1_0).wf = true → (Lit.int .u64 a1_1).wf = true → l2.length ≤ maxLen → (∀ x ∈ l2, ((Lit.int .u64 x.f0).wf = true) ∧ ((Lit.int .u64 x.f1).wf = true) ∧ True) → l3.length ≤ maxLen → (∀ x ∈ l3, ((Lit.int .u64 x.f0).wf = true) ∧ ((Lit.int .u64 x.f1).wf = true) ∧ True) → (Lit.int .i64 a4).wf = true → ∃ k, crosswaylaw05_GhashParts.f k l0 a1_0 a1_1 l2 l3 a4 = some true

end Go.Proofs.Ytmhmmmkpijbbiab.M
