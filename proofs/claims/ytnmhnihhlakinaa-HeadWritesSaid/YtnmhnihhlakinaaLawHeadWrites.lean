/- The row of the law HeadWrites: for every input it returns true and its arguments read as they did. No condition. The walk is M's, the plain law is Pure's. -/
import Derived.Test.YtnmhnihhlakinaaRows
import Derived.Test.YtnmhnihhlakinaaM10
import Derived.Test.YtnmhnihhlakinaaPureHeadWrites
import Derived.Test.YtnmhnihhlakinaaXWords
import Derived.WalkKit
import Derived.ProofKit
import Derived.OpenShut
import Derived.ShutString
import Derived.ChangeOld
import Derived.Below
import Derived.SizedLaws
import Derived.Lib.SmallJoins
namespace Go.Proofs.Ytnmhnihhlakinaa.headWrites
open Go.ChangeShapes Go.WideShapes Go.ChangeAt Go.RowKit
open Go.ChangeMaps (open_string shut_string)
open Go.Proofs.YtnmhnihhlakinaaW.PrintWords Go.Proofs.YtnmhnihhlakinaaW.PrintMore Go.Proofs.Ytnmhnihhlakinaa.X Go.Proofs.Ytnmhnihhlakinaa.M
theorem own : ownKnob Try.prog.godebug = none := by kernel_rfl
theorem laidOut : laidOutB Try.prog = true := by kernel_rfl
theorem cells_k27 : Try.prog.cellsOf 27 = 4 := by kernel_rfl
theorem cells_k27_0 : Try.prog.cellsOf 5 = 1 := by kernel_rfl
theorem cells_k27_1 : Try.prog.cellsOf 25 = 1 := by kernel_rfl
theorem cells_k27_2 : Try.prog.cellsOf 22 = 1 := by kernel_rfl
theorem cells_k27_3 : Try.prog.cellsOf 22 = 1 := by kernel_rfl
theorem open_k27 : Opens Try.prog 27 k27 (fun x => ((Lit.int .u8 x.f0).wf = true) ∧ ((Lit.int .u32 x.f1).wf = true) ∧ (x.f2.length ≤ maxLen ∧ ∀ xx_f2 ∈ x.f2, (Lit.int .u8 xx_f2).wf = true) ∧ (x.f3.length ≤ maxLen ∧ ∀ xx_f3 ∈ x.f3, (Lit.int .u8 xx_f3).wf = true) ∧ True) := by
  intro H enc w fuel cs x h
  obtain ⟨xs, n, _, _, hl, hlen, hf⟩ := DataW.trod_struct Try.underlying27 h
  rw [cells_k27] at hl
  obtain ⟨y0, e0⟩ : ∃ y, xs[0]? = some y := ⟨xs[0]'(by rw [hlen]; decide), List.getElem?_eq_getElem _⟩
  have g0 := hf 0 _ rfl
  rw [e0] at g0
  change DataW.trod enc Try.prog w 0 (fun _ => true) true n 5 (List.take (Try.prog.cellsOf 5) (List.drop 0 cs)) = some y0 at g0
  rw [cells_k27_0] at g0
  obtain ⟨v0, b0, p0⟩ := (opens_int Try.underlying5) H enc w n _ _ g0
  obtain ⟨y1, e1⟩ : ∃ y, xs[1]? = some y := ⟨xs[1]'(by rw [hlen]; decide), List.getElem?_eq_getElem _⟩
  have g1 := hf 1 _ rfl
  rw [e1] at g1
  change DataW.trod enc Try.prog w 0 (fun _ => true) true n 25 (List.take (Try.prog.cellsOf 25) (List.drop 1 cs)) = some y1 at g1
  rw [cells_k27_1] at g1
  obtain ⟨v1, b1, p1⟩ := (opens_int Try.underlying25) H enc w n _ _ g1
  obtain ⟨y2, e2⟩ : ∃ y, xs[2]? = some y := ⟨xs[2]'(by rw [hlen]; decide), List.getElem?_eq_getElem _⟩
  have g2 := hf 2 _ rfl
  rw [e2] at g2
  change DataW.trod enc Try.prog w 0 (fun _ => true) true n 22 (List.take (Try.prog.cellsOf 22) (List.drop 2 cs)) = some y2 at g2
  rw [cells_k27_2] at g2
  obtain ⟨v2, b2, p2⟩ := (opens_slice Try.underlying22 (by kernel_rfl) (opens_int Try.underlying5)) H enc w n _ _ g2
  obtain ⟨y3, e3⟩ : ∃ y, xs[3]? = some y := ⟨xs[3]'(by rw [hlen]; decide), List.getElem?_eq_getElem _⟩
  have g3 := hf 3 _ rfl
  rw [e3] at g3
  change DataW.trod enc Try.prog w 0 (fun _ => true) true n 22 (List.take (Try.prog.cellsOf 22) (List.drop 3 cs)) = some y3 at g3
  rw [cells_k27_3] at g3
  obtain ⟨v3, b3, p3⟩ := (opens_slice Try.underlying22 (by kernel_rfl) (opens_int Try.underlying5)) H enc w n _ _ g3
  clear hf h
  match cs, hl, b0, b1, b2, b3 with
  | [c_0, c_1, c_2, c_3], _, b0, b1, b2, b3 => exact ⟨⟨v0, v1, v2, v3⟩, ⟨[c_0], [c_1, c_2, c_3], rfl, b0, ⟨[c_1], [c_2, c_3], rfl, b1, ⟨[c_2], [c_3], rfl, b2, b3⟩⟩⟩, p0, p1, p2, p3, trivial⟩
set_option maxRecDepth 100000 in
theorem lifted (os : Os) (started : os.Started) (H : Type) (enc : TypeId × Value → H) :
    ReturnsInHanded {} Try.checked os 4 .any (Rows.headWritesSpec.pre6 enc Try.prog Try.f4 Rows.headWritesRow.domain false) (Rows.headWritesSpec.post enc Try.prog Try.f4 false true false false) := by
  refine returnsInHanded_of_change_sized (C := Try.checked) own started (by kernel_rfl) Try.func4
    (ChangeSpec.witness6 (enc := enc) (C := Try.checked) false ⟨#[], #[.agg #[.int .u8 0, .int .u32 0, .slice none 0 0, .slice none 0 0], .agg #[.int .u8 0, .int .u32 0, .slice none 0 0, .slice none 0 0], .slice none 0 0], []⟩ 8 (by kernel_rfl) (by kernel_rfl) (by kernel_rfl) (by kernel_rfl)) ?_
  intro W base args ds gs before hval0 hW hcnd hsz0 _
  have hval : ∀ (j : Nat) t v, Try.f4.params[j]? = some t → args[j]? = some v → Value.okWide Try.prog W .any base t v := hval0
  have hW' := hW
  obtain ⟨p, q, hA0, hV, rfl, hfz, hnd⟩ := hW
  have hA : DataW.TrodAll enc Try.prog W 0 (fun _ => true) true Try.f4.params.toList args.toList ds p := hA0
  rw [Try.params4] at hA hval
  obtain ⟨v0, vs0, d0, ds0, p0, q0, hargs, rfl, rfl, h0, r0⟩ := trodAll_cons hA
  obtain ⟨v1, vs1, d1, ds1, p1, q1, rfl, rfl, rfl, h1, r1⟩ := trodAll_cons r0
  obtain ⟨v2, vs2, d2, ds2, p2, q2, rfl, rfl, rfl, h2, r2⟩ := trodAll_cons r1
  obtain ⟨rfl, rfl, rfl⟩ := trodAll_nil r2
  obtain rfl : args = #[v0, v1, v2] := by cases args; simp_all
  obtain ⟨rfl, rfl⟩ := trodVars_none hV
  obtain ⟨cs0, rfl, hz0⟩ := okWide_struct Try.underlying27 (hval 0 27 v0 rfl rfl)
  have k0 := h0
  have lt0 : ∀ x ∈ p0, x.block < W.heap.size := by obtain ⟨m, hm⟩ := k0; exact DataW.trod_lt m _ _ _ hm
  obtain ⟨x0, hK0, hF0⟩ : ∃ v, k27.K W v cs0.toList ∧ (((Lit.int .u8 v.f0).wf = true) ∧ ((Lit.int .u32 v.f1).wf = true) ∧ (v.f2.length ≤ maxLen ∧ ∀ xv_f2 ∈ v.f2, (Lit.int .u8 xv_f2).wf = true) ∧ (v.f3.length ≤ maxLen ∧ ∀ xv_f3 ∈ v.f3, (Lit.int .u8 xv_f3).wf = true) ∧ True) := by
    obtain ⟨fuel, hf⟩ := h0
    exact open_k27 H enc W fuel _ _ (by simpa [Value.cells] using hf)
  obtain ⟨a0_0, a0_1, l0_2, l0_3⟩ := x0
  obtain ⟨Ad0_2, ca0_2, Ad0_3, ca0_3, ho0, hc0_2, hr0_2, hc0_3, hr0_3⟩ := k27_open hK0
  (try dsimp only at ho0 hF0 hc0_2 hr0_2 hc0_3 hr0_3)
  obtain rfl : cs0 = #[.int .u8 a0_0, .int .u32 a0_1, .slice Ad0_2 l0_2.length ca0_2, .slice Ad0_3 l0_3.length ca0_3] := by cases cs0; simp at ho0; subst ho0; rfl
  obtain ⟨w0_0, w0_1, ⟨hm0_2, hw0_2⟩, ⟨hm0_3, hw0_3⟩, _⟩ := hF0
  obtain ⟨cs1, rfl, hz1⟩ := okWide_struct Try.underlying27 (hval 1 27 v1 rfl rfl)
  have k1 := h1
  have lt1 : ∀ x ∈ p1, x.block < W.heap.size := by obtain ⟨m, hm⟩ := k1; exact DataW.trod_lt m _ _ _ hm
  obtain ⟨x1, hK1, hF1⟩ : ∃ v, k27.K W v cs1.toList ∧ (((Lit.int .u8 v.f0).wf = true) ∧ ((Lit.int .u32 v.f1).wf = true) ∧ (v.f2.length ≤ maxLen ∧ ∀ xv_f2 ∈ v.f2, (Lit.int .u8 xv_f2).wf = true) ∧ (v.f3.length ≤ maxLen ∧ ∀ xv_f3 ∈ v.f3, (Lit.int .u8 xv_f3).wf = true) ∧ True) := by
    obtain ⟨fuel, hf⟩ := h1
    exact open_k27 H enc W fuel _ _ (by simpa [Value.cells] using hf)
  obtain ⟨a1_0, a1_1, l1_2, l1_3⟩ := x1
  obtain ⟨Ad1_2, ca1_2, Ad1_3, ca1_3, ho1, hc1_2, hr1_2, hc1_3, hr1_3⟩ := k27_open hK1
  (try dsimp only at ho1 hF1 hc1_2 hr1_2 hc1_3 hr1_3)
  obtain rfl : cs1 = #[.int .u8 a1_0, .int .u32 a1_1, .slice Ad1_2 l1_2.length ca1_2, .slice Ad1_3 l1_3.length ca1_3] := by cases cs1; simp at ho1; subst ho1; rfl
  obtain ⟨w1_0, w1_1, ⟨hm1_2, hw1_2⟩, ⟨hm1_3, hw1_3⟩, _⟩ := hF1
  obtain ⟨a2, len2, cap2, rfl⟩ := okWide_slice Try.underlying22 (hval 2 22 v2 rfl rfl)
  have k2 := h2
  have lt2 : ∀ x ∈ p2, x.block < W.heap.size := by obtain ⟨m, hm⟩ := k2; exact DataW.trod_lt m _ _ _ hm
  obtain ⟨l2, ⟨b2, c2, e2, hc2, hr2⟩, hm2, hw2⟩ : ∃ v, (Kd.slice 5 (Kd.int .u8)).K W v [.slice a2 len2 cap2] ∧ (v.length ≤ maxLen ∧ ∀ xv ∈ v, (Lit.int .u8 xv).wf = true) := by
    obtain ⟨fuel, hf⟩ := h2
    exact (opens_slice Try.underlying22 (by kernel_rfl) (opens_int Try.underlying5)) H enc W fuel _ _ (by simpa [Value.cells] using hf)
  simp only [List.cons.injEq, Value.slice.injEq, and_true] at e2
  obtain ⟨rfl, rfl, rfl⟩ := e2
  clear hA0 hval0 hsz0
  obtain ⟨k, h⟩ := Pure.HeadWrites a0_0 a0_1 l0_2 l0_3 a1_0 a1_1 l1_2 l1_3 l2 w0_0 w0_1 hm0_2 hw0_2 hm0_3 hw0_3 w1_0 w1_1 hm1_2 hw1_2 hm1_3 hw1_3 hm2 hw2
  refine (M.crosswaylaw10_HeadWrites.calls k a0_0 a0_1 _ _ l0_2 _ _ l0_3 a1_0 a1_1 _ _ l1_2 _ _ l1_3 _ _ l2 true W hr0_2 hc0_2 hr0_3 hc0_3 hr1_2 hc1_2 hr1_3 hc1_3 hr2 hc2 h).mono fun e W' ⟨he, bel0⟩ => ?_
  have bel : Below W.heap.size W W' := bel0
  subst he
  exact ⟨_, rfl, _, _, _, [], _, [], hW', trodAll_mk1 (shut_bool Try.underlying4 _), (trodAll_cons_mk (Below.trod laidOut (by kernel_rfl) (of_decide_eq_true (by kernel_rfl)) k0 bel lt0) (trodAll_cons_mk (Below.trod laidOut (by kernel_rfl) (of_decide_eq_true (by kernel_rfl)) k1 bel lt1) (trodAll_cons_mk (Below.trod laidOut (by kernel_rfl) (of_decide_eq_true (by kernel_rfl)) k2 bel lt2) trodAll_mk0))), rfl, bel.frame _, fun h => by cases h⟩
theorem over : Rows.headWritesRow.holds Try.pinned (OpenSpec.ofChange Rows.headWritesSpec) :=
  OpenClaim.holds_of_wide 4 Try.f4 rfl rfl rfl rfl rfl rfl rfl ⟨rfl, rfl, rfl, rfl, rfl⟩ rfl rfl rfl rfl rfl (by kernel_rfl) Try.func4 (by kernel_rfl)
    (of_decide_eq_true (by kernel_rfl)) (by unfold Func.isWrapper; first | (rw [if_pos (by decide +kernel)]; kernel_rfl) | (rw [if_neg (by decide +kernel)]; exact ⟨rfl, rfl⟩))
    (fun os started H enc _ => lifted os started H enc)
theorem proved : Rows.HeadWritesSaid := over
end Go.Proofs.Ytnmhnihhlakinaa.headWrites
namespace Go.Proofs.Ytnmhnihhlakinaa
/-- The row, under a short name, for the claim. -/
theorem headWrites_holds : Rows.HeadWritesSaid := headWrites.proved
#print axioms headWrites_holds
end Go.Proofs.Ytnmhnihhlakinaa
