/- The row of the law VariBack: for every input it returns true and its arguments read as they did. No condition. The walk is M's, the plain law is Pure's. -/
import Derived.Test.YtbiiccgheblhpabRows
import Derived.Test.YtbiiccgheblhpabM9
import Derived.Test.YtbiiccgheblhpabPureVariBack
import Derived.Test.YtbiiccgheblhpabXWords
import Derived.WalkKit
import Derived.ProofKit
import Derived.OpenShut
import Derived.ShutString
import Derived.ChangeOld
import Derived.Below
import Derived.SizedLaws
import Derived.Lib.SmallJoins
namespace Go.Proofs.Ytbiiccgheblhpab.variBack
open Go.ChangeShapes Go.WideShapes Go.ChangeAt Go.RowKit
open Go.ChangeMaps (open_string shut_string)
open Go.Proofs.YtbiiccgheblhpabW.PrintWords Go.Proofs.YtbiiccgheblhpabW.PrintMore Go.Proofs.Ytbiiccgheblhpab.X Go.Proofs.Ytbiiccgheblhpab.M
theorem own : ownKnob Try.prog.godebug = none := by kernel_rfl
theorem laidOut : laidOutB Try.prog = true := by kernel_rfl
set_option maxRecDepth 100000 in
theorem lifted (os : Os) (started : os.Started) (H : Type) (enc : TypeId × Value → H) :
    ReturnsInHanded {} Try.checked os 5 .any (Rows.variBackSpec.pre6 enc Try.prog Try.f5 Rows.variBackRow.domain false) (Rows.variBackSpec.post enc Try.prog Try.f5 false true false false) := by
  refine returnsInHanded_of_change_sized (C := Try.checked) own started (by kernel_rfl) Try.func5
    (ChangeSpec.witness6 (enc := enc) (C := Try.checked) false ⟨#[], #[.slice none 0 0, .int .i64 0, .slice none 0 0], []⟩ 8 (by kernel_rfl) (by kernel_rfl) (by kernel_rfl) (by kernel_rfl)) ?_
  intro W base args ds gs before hval0 hW hcnd hsz0 _
  have hval : ∀ (j : Nat) t v, Try.f5.params[j]? = some t → args[j]? = some v → Value.okWide Try.prog W .any base t v := hval0
  have hW' := hW
  obtain ⟨p, q, hA0, hV, rfl, hfz, hnd⟩ := hW
  have hA : DataW.TrodAll enc Try.prog W 0 (fun _ => true) true Try.f5.params.toList args.toList ds p := hA0
  rw [Try.params5] at hA hval
  obtain ⟨v0, vs0, d0, ds0, p0, q0, hargs, rfl, rfl, h0, r0⟩ := trodAll_cons hA
  obtain ⟨v1, vs1, d1, ds1, p1, q1, rfl, rfl, rfl, h1, r1⟩ := trodAll_cons r0
  obtain ⟨v2, vs2, d2, ds2, p2, q2, rfl, rfl, rfl, h2, r2⟩ := trodAll_cons r1
  obtain ⟨rfl, rfl, rfl⟩ := trodAll_nil r2
  obtain rfl : args = #[v0, v1, v2] := by cases args; simp_all
  obtain ⟨rfl, rfl⟩ := trodVars_none hV
  obtain ⟨a0, len0, cap0, rfl⟩ := okWide_slice Try.underlying23 (hval 0 23 v0 rfl rfl)
  have k0 := h0
  have lt0 : ∀ x ∈ p0, x.block < W.heap.size := by obtain ⟨m, hm⟩ := k0; exact DataW.trod_lt m _ _ _ hm
  obtain ⟨l0, ⟨b0, c0, e0, hc0, hr0⟩, hm0, hw0⟩ : ∃ v, (Kd.slice 22 (Kd.int .u64)).K W v [.slice a0 len0 cap0] ∧ (v.length ≤ maxLen ∧ ∀ xv ∈ v, (Lit.int .u64 xv).wf = true) := by
    obtain ⟨fuel, hf⟩ := h0
    exact (opens_slice Try.underlying23 (by kernel_rfl) (opens_int Try.underlying22)) H enc W fuel _ _ (by simpa [Value.cells] using hf)
  simp only [List.cons.injEq, Value.slice.injEq, and_true] at e0
  obtain ⟨rfl, rfl, rfl⟩ := e0
  obtain ⟨a1, rfl, rfl, rfl, w1⟩ := open_int Try.underlying3 (hval 1 3 v1 rfl rfl) h1
  obtain ⟨a2, len2, cap2, rfl⟩ := okWide_slice Try.underlying25 (hval 2 25 v2 rfl rfl)
  have k2 := h2
  have lt2 : ∀ x ∈ p2, x.block < W.heap.size := by obtain ⟨m, hm⟩ := k2; exact DataW.trod_lt m _ _ _ hm
  obtain ⟨l2, ⟨b2, c2, e2, hc2, hr2⟩, hm2, hw2⟩ : ∃ v, (Kd.slice 5 (Kd.int .u8)).K W v [.slice a2 len2 cap2] ∧ (v.length ≤ maxLen ∧ ∀ xv ∈ v, (Lit.int .u8 xv).wf = true) := by
    obtain ⟨fuel, hf⟩ := h2
    exact (opens_slice Try.underlying25 (by kernel_rfl) (opens_int Try.underlying5)) H enc W fuel _ _ (by simpa [Value.cells] using hf)
  simp only [List.cons.injEq, Value.slice.injEq, and_true] at e2
  obtain ⟨rfl, rfl, rfl⟩ := e2
  clear hA0 hval0 hsz0
  obtain ⟨k, h⟩ := Pure.VariBack l0 a1 l2 hm0 hw0 w1 hm2 hw2
  refine (M.crosswaylaw08_VariBack.calls k _ _ l0 a1 _ _ l2 true W hr0 hc0 hr2 hc2 h).mono fun e W' ⟨he, bel0⟩ => ?_
  have bel : Below W.heap.size W W' := bel0
  subst he
  exact ⟨_, rfl, _, _, _, [], _, [], hW', trodAll_mk1 (shut_bool Try.underlying4 _), (trodAll_cons_mk (Below.trod laidOut (by kernel_rfl) (of_decide_eq_true (by kernel_rfl)) k0 bel lt0) (trodAll_cons_mk (shut_int Try.underlying3 w1) (trodAll_cons_mk (Below.trod laidOut (by kernel_rfl) (of_decide_eq_true (by kernel_rfl)) k2 bel lt2) trodAll_mk0))), rfl, bel.frame _, fun h => by cases h⟩
theorem over : Rows.variBackRow.holds Try.pinned (OpenSpec.ofChange Rows.variBackSpec) :=
  OpenClaim.holds_of_wide 5 Try.f5 rfl rfl rfl rfl rfl rfl rfl ⟨rfl, rfl, rfl, rfl, rfl⟩ rfl rfl rfl rfl rfl (by kernel_rfl) Try.func5 (by kernel_rfl)
    (of_decide_eq_true (by kernel_rfl)) (by unfold Func.isWrapper; first | (rw [if_pos (by decide +kernel)]; kernel_rfl) | (rw [if_neg (by decide +kernel)]; exact ⟨rfl, rfl⟩))
    (fun os started H enc _ => lifted os started H enc)
theorem proved : Rows.VariBackSaid := over
end Go.Proofs.Ytbiiccgheblhpab.variBack
namespace Go.Proofs.Ytbiiccgheblhpab
/-- The row, under a short name, for the claim. -/
theorem variBack_holds : Rows.VariBackSaid := variBack.proved
#print axioms variBack_holds
end Go.Proofs.Ytbiiccgheblhpab
