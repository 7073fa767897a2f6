/- The row of the law PolyLaws: for every input it returns true and its arguments read as they did. No condition. The walk is M's, the plain law is Pure's. -/
import Derived.Test.YtnagjckjibfimabRows
import Derived.Test.YtnagjckjibfimabM7
import Derived.Test.YtnagjckjibfimabPurePolyLaws
import Derived.Test.YtnagjckjibfimabXWords
import Derived.WalkKit
import Derived.ProofKit
import Derived.OpenShut
import Derived.ShutString
import Derived.ChangeOld
import Derived.Below
import Derived.SizedLaws
import Derived.Lib.SmallJoins
namespace Go.Proofs.Ytnagjckjibfimab.polyLaws
open Go.ChangeShapes Go.WideShapes Go.ChangeAt Go.RowKit
open Go.ChangeMaps (open_string shut_string)
open Go.Proofs.YtnagjckjibfimabW.PrintWords Go.Proofs.YtnagjckjibfimabW.PrintMore Go.Proofs.Ytnagjckjibfimab.X Go.Proofs.Ytnagjckjibfimab.M
theorem own : ownKnob Try.prog.godebug = none := by kernel_rfl
theorem laidOut : laidOutB Try.prog = true := by kernel_rfl
theorem cells_k24 : Try.prog.cellsOf 24 = 2 := by kernel_rfl
theorem cells_k24_0 : Try.prog.cellsOf 22 = 1 := by kernel_rfl
theorem cells_k24_1 : Try.prog.cellsOf 22 = 1 := by kernel_rfl
theorem open_k24 : Opens Try.prog 24 k24 (fun x => ((Lit.int .u64 x.f0).wf = true) ∧ ((Lit.int .u64 x.f1).wf = true) ∧ True) := by
  intro H enc w fuel cs x h
  obtain ⟨xs, n, _, _, hl, hlen, hf⟩ := DataW.trod_struct Try.underlying24 h
  rw [cells_k24] at hl
  obtain ⟨y0, e0⟩ : ∃ y, xs[0]? = some y := ⟨xs[0]'(by rw [hlen]; decide), List.getElem?_eq_getElem _⟩
  have g0 := hf 0 _ rfl
  rw [e0] at g0
  change DataW.trod enc Try.prog w 0 (fun _ => true) true n 22 (List.take (Try.prog.cellsOf 22) (List.drop 0 cs)) = some y0 at g0
  rw [cells_k24_0] at g0
  obtain ⟨v0, b0, p0⟩ := (opens_int Try.underlying22) H enc w n _ _ g0
  obtain ⟨y1, e1⟩ : ∃ y, xs[1]? = some y := ⟨xs[1]'(by rw [hlen]; decide), List.getElem?_eq_getElem _⟩
  have g1 := hf 1 _ rfl
  rw [e1] at g1
  change DataW.trod enc Try.prog w 0 (fun _ => true) true n 22 (List.take (Try.prog.cellsOf 22) (List.drop 1 cs)) = some y1 at g1
  rw [cells_k24_1] at g1
  obtain ⟨v1, b1, p1⟩ := (opens_int Try.underlying22) H enc w n _ _ g1
  clear hf h
  match cs, hl, b0, b1 with
  | [c_0, c_1], _, b0, b1 => exact ⟨⟨v0, v1⟩, ⟨[c_0], [c_1], rfl, b0, b1⟩, p0, p1, trivial⟩
set_option maxRecDepth 100000 in
theorem lifted (os : Os) (started : os.Started) (H : Type) (enc : TypeId × Value → H) :
    ReturnsInHanded {} Try.checked os 5 .any (Rows.polyLawsSpec.pre6 enc Try.prog Try.f5 Rows.polyLawsRow.domain false) (Rows.polyLawsSpec.post enc Try.prog Try.f5 false true false false) := by
  refine returnsInHanded_of_change_sized (C := Try.checked) own started (by kernel_rfl) Try.func5
    (ChangeSpec.witness6 (enc := enc) (C := Try.checked) false ⟨#[], #[.agg #[.int .u64 0, .int .u64 0], .agg #[.int .u64 0, .int .u64 0], .agg #[.int .u64 0, .int .u64 0], .int .u32 0, .int .u32 0], []⟩ 8 (by kernel_rfl) (by kernel_rfl) (by kernel_rfl) (by kernel_rfl)) ?_
  intro W base args ds gs before hval0 hW hcnd hsz0 _
  have hval : ∀ (j : Nat) t v, Try.f5.params[j]? = some t → args[j]? = some v → Value.okWide Try.prog W .any base t v := hval0
  have hW' := hW
  obtain ⟨p, q, hA0, hV, rfl, hfz, hnd⟩ := hW
  have hA : DataW.TrodAll enc Try.prog W 0 (fun _ => true) true Try.f5.params.toList args.toList ds p := hA0
  rw [Try.params5] at hA hval
  obtain ⟨v0, vs0, d0, ds0, p0, q0, hargs, rfl, rfl, h0, r0⟩ := trodAll_cons hA
  obtain ⟨v1, vs1, d1, ds1, p1, q1, rfl, rfl, rfl, h1, r1⟩ := trodAll_cons r0
  obtain ⟨v2, vs2, d2, ds2, p2, q2, rfl, rfl, rfl, h2, r2⟩ := trodAll_cons r1
  obtain ⟨v3, vs3, d3, ds3, p3, q3, rfl, rfl, rfl, h3, r3⟩ := trodAll_cons r2
  obtain ⟨v4, vs4, d4, ds4, p4, q4, rfl, rfl, rfl, h4, r4⟩ := trodAll_cons r3
  obtain ⟨rfl, rfl, rfl⟩ := trodAll_nil r4
  obtain rfl : args = #[v0, v1, v2, v3, v4] := by cases args; simp_all
  obtain ⟨rfl, rfl⟩ := trodVars_none hV
  obtain ⟨cs0, rfl, hz0⟩ := okWide_struct Try.underlying24 (hval 0 24 v0 rfl rfl)
  have k0 := h0
  have lt0 : ∀ x ∈ p0, x.block < W.heap.size := by obtain ⟨m, hm⟩ := k0; exact DataW.trod_lt m _ _ _ hm
  obtain ⟨x0, hK0, hF0⟩ : ∃ v, k24.K W v cs0.toList ∧ (((Lit.int .u64 v.f0).wf = true) ∧ ((Lit.int .u64 v.f1).wf = true) ∧ True) := by
    obtain ⟨fuel, hf⟩ := h0
    exact open_k24 H enc W fuel _ _ (by simpa [Value.cells] using hf)
  obtain ⟨a0_0, a0_1⟩ := x0
  have ho0 := k24_open hK0
  (try dsimp only at ho0 hF0)
  obtain rfl : cs0 = #[.int .u64 a0_0, .int .u64 a0_1] := by cases cs0; simp at ho0; subst ho0; rfl
  obtain ⟨w0_0, w0_1, _⟩ := hF0
  obtain ⟨cs1, rfl, hz1⟩ := okWide_struct Try.underlying24 (hval 1 24 v1 rfl rfl)
  have k1 := h1
  have lt1 : ∀ x ∈ p1, x.block < W.heap.size := by obtain ⟨m, hm⟩ := k1; exact DataW.trod_lt m _ _ _ hm
  obtain ⟨x1, hK1, hF1⟩ : ∃ v, k24.K W v cs1.toList ∧ (((Lit.int .u64 v.f0).wf = true) ∧ ((Lit.int .u64 v.f1).wf = true) ∧ True) := by
    obtain ⟨fuel, hf⟩ := h1
    exact open_k24 H enc W fuel _ _ (by simpa [Value.cells] using hf)
  obtain ⟨a1_0, a1_1⟩ := x1
  have ho1 := k24_open hK1
  (try dsimp only at ho1 hF1)
  obtain rfl : cs1 = #[.int .u64 a1_0, .int .u64 a1_1] := by cases cs1; simp at ho1; subst ho1; rfl
  obtain ⟨w1_0, w1_1, _⟩ := hF1
  obtain ⟨cs2, rfl, hz2⟩ := okWide_struct Try.underlying24 (hval 2 24 v2 rfl rfl)
  have k2 := h2
  have lt2 : ∀ x ∈ p2, x.block < W.heap.size := by obtain ⟨m, hm⟩ := k2; exact DataW.trod_lt m _ _ _ hm
  obtain ⟨x2, hK2, hF2⟩ : ∃ v, k24.K W v cs2.toList ∧ (((Lit.int .u64 v.f0).wf = true) ∧ ((Lit.int .u64 v.f1).wf = true) ∧ True) := by
    obtain ⟨fuel, hf⟩ := h2
    exact open_k24 H enc W fuel _ _ (by simpa [Value.cells] using hf)
  obtain ⟨a2_0, a2_1⟩ := x2
  have ho2 := k24_open hK2
  (try dsimp only at ho2 hF2)
  obtain rfl : cs2 = #[.int .u64 a2_0, .int .u64 a2_1] := by cases cs2; simp at ho2; subst ho2; rfl
  obtain ⟨w2_0, w2_1, _⟩ := hF2
  obtain ⟨a3, rfl, rfl, rfl, w3⟩ := open_int Try.underlying46 (hval 3 46 v3 rfl rfl) h3
  obtain ⟨a4, rfl, rfl, rfl, w4⟩ := open_int Try.underlying46 (hval 4 46 v4 rfl rfl) h4
  clear hA0 hval0 hsz0
  obtain ⟨k, h⟩ := Pure.PolyLaws a0_0 a0_1 a1_0 a1_1 a2_0 a2_1 a3 a4 w0_0 w0_1 w1_0 w1_1 w2_0 w2_1 w3 w4
  refine (M.crosswaylaw04_PolyLaws.calls k a0_0 a0_1 a1_0 a1_1 a2_0 a2_1 a3 a4 true W  h).mono fun e W' ⟨he, bel0⟩ => ?_
  have bel : Below W.heap.size W W' := bel0
  subst he
  exact ⟨_, rfl, _, _, _, [], _, [], hW', trodAll_mk1 (shut_bool Try.underlying4 _), (trodAll_cons_mk (Below.trod laidOut (by kernel_rfl) (of_decide_eq_true (by kernel_rfl)) k0 bel lt0) (trodAll_cons_mk (Below.trod laidOut (by kernel_rfl) (of_decide_eq_true (by kernel_rfl)) k1 bel lt1) (trodAll_cons_mk (Below.trod laidOut (by kernel_rfl) (of_decide_eq_true (by kernel_rfl)) k2 bel lt2) (trodAll_cons_mk (shut_int Try.underlying46 w3) (trodAll_cons_mk (shut_int Try.underlying46 w4) trodAll_mk0))))), rfl, bel.frame _, fun h => by cases h⟩
theorem over : Rows.polyLawsRow.holds Try.pinned (OpenSpec.ofChange Rows.polyLawsSpec) :=
  OpenClaim.holds_of_wide 5 Try.f5 rfl rfl rfl rfl rfl rfl rfl ⟨rfl, rfl, rfl, rfl, rfl⟩ rfl rfl rfl rfl rfl (by kernel_rfl) Try.func5 (by kernel_rfl)
    (of_decide_eq_true (by kernel_rfl)) (by unfold Func.isWrapper; first | (rw [if_pos (by decide +kernel)]; kernel_rfl) | (rw [if_neg (by decide +kernel)]; exact ⟨rfl, rfl⟩))
    (fun os started H enc _ => lifted os started H enc)
theorem proved : Rows.PolyLawsSaid := over
end Go.Proofs.Ytnagjckjibfimab.polyLaws
namespace Go.Proofs.Ytnagjckjibfimab
/-- The row, under a short name, for the claim. -/
theorem polyLaws_holds : Rows.PolyLawsSaid := polyLaws.proved
#print axioms polyLaws_holds
end Go.Proofs.Ytnagjckjibfimab
