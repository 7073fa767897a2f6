/- The row of the law OfferMakes: for every input it returns true and its arguments read as they did. No condition. The walk is M's, the plain law is Pure's. -/
import Derived.Test.YtnmhnihhlakinacRows
import Derived.Test.YtnmhnihhlakinacM12
import Derived.Test.YtnmhnihhlakinacPureOfferMakes
import Derived.Test.YtnmhnihhlakinacXWords
import Derived.WalkKit
import Derived.ProofKit
import Derived.OpenShut
import Derived.ShutString
import Derived.ChangeOld
import Derived.Below
import Derived.SizedLaws
import Derived.Lib.SmallJoins
namespace Go.Proofs.Ytnmhnihhlakinac.offerMakes
open Go.ChangeShapes Go.WideShapes Go.ChangeAt Go.RowKit
open Go.ChangeMaps (open_string shut_string)
open Go.Proofs.YtnmhnihhlakinacW.PrintWords Go.Proofs.YtnmhnihhlakinacW.PrintMore Go.Proofs.Ytnmhnihhlakinac.X Go.Proofs.Ytnmhnihhlakinac.M
theorem own : ownKnob Try.prog.godebug = none := by kernel_rfl
theorem laidOut : laidOutB Try.prog = true := by kernel_rfl
set_option maxRecDepth 100000 in
theorem lifted (os : Os) (started : os.Started) (H : Type) (enc : TypeId × Value → H) :
    ReturnsInHanded {} Try.checked os 3 .any (Rows.offerMakesSpec.pre6 enc Try.prog Try.f3 Rows.offerMakesRow.domain false) (Rows.offerMakesSpec.post enc Try.prog Try.f3 false true false false) := by
  refine returnsInHanded_of_change_sized (C := Try.checked) own started (by kernel_rfl) Try.func3
    (ChangeSpec.witness6 (enc := enc) (C := Try.checked) false ⟨#[], #[.slice none 0 0, .int .u8 0, .slice none 0 0, .slice none 0 0, .slice none 0 0], []⟩ 8 (by kernel_rfl) (by kernel_rfl) (by kernel_rfl) (by kernel_rfl)) ?_
  intro W base args ds gs before hval0 hW hcnd hsz0 _
  have hval : ∀ (j : Nat) t v, Try.f3.params[j]? = some t → args[j]? = some v → Value.okWide Try.prog W .any base t v := hval0
  have hW' := hW
  obtain ⟨p, q, hA0, hV, rfl, hfz, hnd⟩ := hW
  have hA : DataW.TrodAll enc Try.prog W 0 (fun _ => true) true Try.f3.params.toList args.toList ds p := hA0
  rw [Try.params3] at hA hval
  obtain ⟨v0, vs0, d0, ds0, p0, q0, hargs, rfl, rfl, h0, r0⟩ := trodAll_cons hA
  obtain ⟨v1, vs1, d1, ds1, p1, q1, rfl, rfl, rfl, h1, r1⟩ := trodAll_cons r0
  obtain ⟨v2, vs2, d2, ds2, p2, q2, rfl, rfl, rfl, h2, r2⟩ := trodAll_cons r1
  obtain ⟨v3, vs3, d3, ds3, p3, q3, rfl, rfl, rfl, h3, r3⟩ := trodAll_cons r2
  obtain ⟨v4, vs4, d4, ds4, p4, q4, rfl, rfl, rfl, h4, r4⟩ := trodAll_cons r3
  obtain ⟨rfl, rfl, rfl⟩ := trodAll_nil r4
  obtain rfl : args = #[v0, v1, v2, v3, v4] := by cases args; simp_all
  obtain ⟨rfl, rfl⟩ := trodVars_none hV
  obtain ⟨a0, len0, cap0, rfl⟩ := okWide_slice Try.underlying22 (hval 0 22 v0 rfl rfl)
  have k0 := h0
  have lt0 : ∀ x ∈ p0, x.block < W.heap.size := by obtain ⟨m, hm⟩ := k0; exact DataW.trod_lt m _ _ _ hm
  obtain ⟨l0, ⟨b0, c0, e0, hc0, hr0⟩, hm0, hw0⟩ : ∃ v, (Kd.slice 5 (Kd.int .u8)).K W v [.slice a0 len0 cap0] ∧ (v.length ≤ maxLen ∧ ∀ xv ∈ v, (Lit.int .u8 xv).wf = true) := by
    obtain ⟨fuel, hf⟩ := h0
    exact (opens_slice Try.underlying22 (by kernel_rfl) (opens_int Try.underlying5)) H enc W fuel _ _ (by simpa [Value.cells] using hf)
  simp only [List.cons.injEq, Value.slice.injEq, and_true] at e0
  obtain ⟨rfl, rfl, rfl⟩ := e0
  obtain ⟨a1, rfl, rfl, rfl, w1⟩ := open_int Try.underlying5 (hval 1 5 v1 rfl rfl) h1
  obtain ⟨a2, len2, cap2, rfl⟩ := okWide_slice Try.underlying22 (hval 2 22 v2 rfl rfl)
  have k2 := h2
  have lt2 : ∀ x ∈ p2, x.block < W.heap.size := by obtain ⟨m, hm⟩ := k2; exact DataW.trod_lt m _ _ _ hm
  obtain ⟨l2, ⟨b2, c2, e2, hc2, hr2⟩, hm2, hw2⟩ : ∃ v, (Kd.slice 5 (Kd.int .u8)).K W v [.slice a2 len2 cap2] ∧ (v.length ≤ maxLen ∧ ∀ xv ∈ v, (Lit.int .u8 xv).wf = true) := by
    obtain ⟨fuel, hf⟩ := h2
    exact (opens_slice Try.underlying22 (by kernel_rfl) (opens_int Try.underlying5)) H enc W fuel _ _ (by simpa [Value.cells] using hf)
  simp only [List.cons.injEq, Value.slice.injEq, and_true] at e2
  obtain ⟨rfl, rfl, rfl⟩ := e2
  obtain ⟨a3, len3, cap3, rfl⟩ := okWide_slice Try.underlying22 (hval 3 22 v3 rfl rfl)
  have k3 := h3
  have lt3 : ∀ x ∈ p3, x.block < W.heap.size := by obtain ⟨m, hm⟩ := k3; exact DataW.trod_lt m _ _ _ hm
  obtain ⟨l3, ⟨b3, c3, e3, hc3, hr3⟩, hm3, hw3⟩ : ∃ v, (Kd.slice 5 (Kd.int .u8)).K W v [.slice a3 len3 cap3] ∧ (v.length ≤ maxLen ∧ ∀ xv ∈ v, (Lit.int .u8 xv).wf = true) := by
    obtain ⟨fuel, hf⟩ := h3
    exact (opens_slice Try.underlying22 (by kernel_rfl) (opens_int Try.underlying5)) H enc W fuel _ _ (by simpa [Value.cells] using hf)
  simp only [List.cons.injEq, Value.slice.injEq, and_true] at e3
  obtain ⟨rfl, rfl, rfl⟩ := e3
  obtain ⟨a4, len4, cap4, rfl⟩ := okWide_slice Try.underlying23 (hval 4 23 v4 rfl rfl)
  have k4 := h4
  have lt4 : ∀ x ∈ p4, x.block < W.heap.size := by obtain ⟨m, hm⟩ := k4; exact DataW.trod_lt m _ _ _ hm
  obtain ⟨l4, ⟨b4, c4, e4, hc4, hr4⟩, hm4, hw4⟩ : ∃ v, (Kd.slice 34 (Kd.int .u32)).K W v [.slice a4 len4 cap4] ∧ (v.length ≤ maxLen ∧ ∀ xv ∈ v, (Lit.int .u32 xv).wf = true) := by
    obtain ⟨fuel, hf⟩ := h4
    exact (opens_slice Try.underlying23 (by kernel_rfl) (opens_int Try.underlying34)) H enc W fuel _ _ (by simpa [Value.cells] using hf)
  simp only [List.cons.injEq, Value.slice.injEq, and_true] at e4
  obtain ⟨rfl, rfl, rfl⟩ := e4
  clear hA0 hval0 hsz0
  obtain ⟨k, h⟩ := Pure.OfferMakes l0 a1 l2 l3 l4 hm0 hw0 w1 hm2 hw2 hm3 hw3 hm4 hw4
  refine (M.crosswaylaw13_OfferMakes.calls k _ _ l0 a1 _ _ l2 _ _ l3 _ _ l4 true W hr0 hc0 hr2 hc2 hr3 hc3 hr4 hc4 h).mono fun e W' ⟨he, bel0⟩ => ?_
  have bel : Below W.heap.size W W' := bel0
  subst he
  exact ⟨_, rfl, _, _, _, [], _, [], hW', trodAll_mk1 (shut_bool Try.underlying4 _), (trodAll_cons_mk (Below.trod laidOut (by kernel_rfl) (of_decide_eq_true (by kernel_rfl)) k0 bel lt0) (trodAll_cons_mk (shut_int Try.underlying5 w1) (trodAll_cons_mk (Below.trod laidOut (by kernel_rfl) (of_decide_eq_true (by kernel_rfl)) k2 bel lt2) (trodAll_cons_mk (Below.trod laidOut (by kernel_rfl) (of_decide_eq_true (by kernel_rfl)) k3 bel lt3) (trodAll_cons_mk (Below.trod laidOut (by kernel_rfl) (of_decide_eq_true (by kernel_rfl)) k4 bel lt4) trodAll_mk0))))), rfl, bel.frame _, fun h => by cases h⟩
theorem over : Rows.offerMakesRow.holds Try.pinned (OpenSpec.ofChange Rows.offerMakesSpec) :=
  OpenClaim.holds_of_wide 3 Try.f3 rfl rfl rfl rfl rfl rfl rfl ⟨rfl, rfl, rfl, rfl, rfl⟩ rfl rfl rfl rfl rfl (by kernel_rfl) Try.func3 (by kernel_rfl)
    (of_decide_eq_true (by kernel_rfl)) (by unfold Func.isWrapper; first | (rw [if_pos (by decide +kernel)]; kernel_rfl) | (rw [if_neg (by decide +kernel)]; exact ⟨rfl, rfl⟩))
    (fun os started H enc _ => lifted os started H enc)
theorem proved : Rows.OfferMakesSaid := over
end Go.Proofs.Ytnmhnihhlakinac.offerMakes
namespace Go.Proofs.Ytnmhnihhlakinac
/-- The row, under a short name, for the claim. -/
theorem offerMakes_holds : Rows.OfferMakesSaid := offerMakes.proved
#print axioms offerMakes_holds
end Go.Proofs.Ytnmhnihhlakinac
