/- The row of the law PolyInverse: for every input it returns true and its arguments read as they did. No condition. The walk is M's, the plain law is Pure's. -/
import Derived.Test.YtnagjckjibfimabRows
import Derived.Test.YtnagjckjibfimabM8
import Derived.Test.YtnagjckjibfimabPurePolyInverse
import Derived.Test.YtnagjckjibfimabXWords
import Derived.WalkKit
import Derived.ProofKit
import Derived.OpenShut
import Derived.ShutString
import Derived.ChangeOld
import Derived.Below
import Derived.SizedLaws
import Derived.Lib.SmallJoins
namespace Go.Proofs.Ytnagjckjibfimab.polyInverse
open Go.ChangeShapes Go.WideShapes Go.ChangeAt Go.RowKit
open Go.ChangeMaps (open_string shut_string)
open Go.Proofs.YtnagjckjibfimabW.PrintWords Go.Proofs.YtnagjckjibfimabW.PrintMore Go.Proofs.Ytnagjckjibfimab.X Go.Proofs.Ytnagjckjibfimab.M
theorem own : ownKnob Try.prog.godebug = none := by kernel_rfl
theorem laidOut : laidOutB Try.prog = true := by kernel_rfl
theorem cells_k24 : Try.prog.cellsOf 24 = 2 := by kernel_rfl
theorem cells_k24_0 : Try.prog.cellsOf 22 = 1 := by kernel_rfl
theorem cells_k24_1 : Try.prog.cellsOf 22 = 1 := by kernel_rfl
theorem open_k24 : Opens Try.prog 24 k24 (fun x => ((Lit.int .u64 x.f0).wf = true) ∧ ((Lit.int .u64 x.f1).wf = true) ∧ True) := by
  intro H enc w fuel cs x h
  obtain ⟨xs, n, _, _, hl, hlen, hf⟩ := DataW.trod_struct Try.underlying24 h
  rw [cells_k24] at hl
  obtain ⟨y0, e0⟩ : ∃ y, xs[0]? = some y := ⟨xs[0]'(by rw [hlen]; decide), List.getElem?_eq_getElem _⟩
  have g0 := hf 0 _ rfl
  rw [e0] at g0
  change DataW.trod enc Try.prog w 0 (fun _ => true) true n 22 (List.take (Try.prog.cellsOf 22) (List.drop 0 cs)) = some y0 at g0
  rw [cells_k24_0] at g0
  obtain ⟨v0, b0, p0⟩ := (opens_int Try.underlying22) H enc w n _ _ g0
  obtain ⟨y1, e1⟩ : ∃ y, xs[1]? = some y := ⟨xs[1]'(by rw [hlen]; decide), List.getElem?_eq_getElem _⟩
  have g1 := hf 1 _ rfl
  rw [e1] at g1
  change DataW.trod enc Try.prog w 0 (fun _ => true) true n 22 (List.take (Try.prog.cellsOf 22) (List.drop 1 cs)) = some y1 at g1
  rw [cells_k24_1] at g1
  obtain ⟨v1, b1, p1⟩ := (opens_int Try.underlying22) H enc w n _ _ g1
  clear hf h
  match cs, hl, b0, b1 with
  | [c_0, c_1], _, b0, b1 => exact ⟨⟨v0, v1⟩, ⟨[c_0], [c_1], rfl, b0, b1⟩, p0, p1, trivial⟩
set_option maxRecDepth 100000 in
theorem lifted (os : Os) (started : os.Started) (H : Type) (enc : TypeId × Value → H) :
    ReturnsInHanded {} Try.checked os 7 .any (Rows.polyInverseSpec.pre6 enc Try.prog Try.f7 Rows.polyInverseRow.domain false) (Rows.polyInverseSpec.post enc Try.prog Try.f7 false true false false) := by
  refine returnsInHanded_of_change_sized (C := Try.checked) own started (by kernel_rfl) Try.func7
    (ChangeSpec.witness6 (enc := enc) (C := Try.checked) false ⟨#[], #[.agg #[.int .u64 0, .int .u64 0]], []⟩ 8 (by kernel_rfl) (by kernel_rfl) (by kernel_rfl) (by kernel_rfl)) ?_
  intro W base args ds gs before hval0 hW hcnd hsz0 _
  have hval : ∀ (j : Nat) t v, Try.f7.params[j]? = some t → args[j]? = some v → Value.okWide Try.prog W .any base t v := hval0
  have hW' := hW
  obtain ⟨p, q, hA0, hV, rfl, hfz, hnd⟩ := hW
  have hA : DataW.TrodAll enc Try.prog W 0 (fun _ => true) true Try.f7.params.toList args.toList ds p := hA0
  rw [Try.params7] at hA hval
  obtain ⟨v0, vs0, d0, ds0, p0, q0, hargs, rfl, rfl, h0, r0⟩ := trodAll_cons hA
  obtain ⟨rfl, rfl, rfl⟩ := trodAll_nil r0
  obtain rfl : args = #[v0] := by cases args; simp_all
  obtain ⟨rfl, rfl⟩ := trodVars_none hV
  obtain ⟨cs0, rfl, hz0⟩ := okWide_struct Try.underlying24 (hval 0 24 v0 rfl rfl)
  have k0 := h0
  have lt0 : ∀ x ∈ p0, x.block < W.heap.size := by obtain ⟨m, hm⟩ := k0; exact DataW.trod_lt m _ _ _ hm
  obtain ⟨x0, hK0, hF0⟩ : ∃ v, k24.K W v cs0.toList ∧ (((Lit.int .u64 v.f0).wf = true) ∧ ((Lit.int .u64 v.f1).wf = true) ∧ True) := by
    obtain ⟨fuel, hf⟩ := h0
    exact open_k24 H enc W fuel _ _ (by simpa [Value.cells] using hf)
  obtain ⟨a0_0, a0_1⟩ := x0
  have ho0 := k24_open hK0
  (try dsimp only at ho0 hF0)
  obtain rfl : cs0 = #[.int .u64 a0_0, .int .u64 a0_1] := by cases cs0; simp at ho0; subst ho0; rfl
  obtain ⟨w0_0, w0_1, _⟩ := hF0
  clear hA0 hval0 hsz0
  obtain ⟨k, h⟩ := Pure.PolyInverse a0_0 a0_1 w0_0 w0_1
  refine (M.crosswaylaw04_PolyInverse.calls k a0_0 a0_1 true W  h).mono fun e W' ⟨he, bel0⟩ => ?_
  have bel : Below W.heap.size W W' := bel0
  subst he
  exact ⟨_, rfl, _, _, _, [], _, [], hW', trodAll_mk1 (shut_bool Try.underlying4 _), (trodAll_cons_mk (Below.trod laidOut (by kernel_rfl) (of_decide_eq_true (by kernel_rfl)) k0 bel lt0) trodAll_mk0), rfl, bel.frame _, fun h => by cases h⟩
theorem over : Rows.polyInverseRow.holds Try.pinned (OpenSpec.ofChange Rows.polyInverseSpec) :=
  OpenClaim.holds_of_wide 7 Try.f7 rfl rfl rfl rfl rfl rfl rfl ⟨rfl, rfl, rfl, rfl, rfl⟩ rfl rfl rfl rfl rfl (by kernel_rfl) Try.func7 (by kernel_rfl)
    (of_decide_eq_true (by kernel_rfl)) (by unfold Func.isWrapper; first | (rw [if_pos (by decide +kernel)]; kernel_rfl) | (rw [if_neg (by decide +kernel)]; exact ⟨rfl, rfl⟩))
    (fun os started H enc _ => lifted os started H enc)
theorem proved : Rows.PolyInverseSaid := over
end Go.Proofs.Ytnagjckjibfimab.polyInverse
namespace Go.Proofs.Ytnagjckjibfimab
/-- The row, under a short name, for the claim. -/
theorem polyInverse_holds : Rows.PolyInverseSaid := polyInverse.proved
#print axioms polyInverse_holds
end Go.Proofs.Ytnagjckjibfimab
