/- The row of the law GhashFolds: for every input it returns true and its arguments read as they did. No condition. The walk is M's, the plain law is Pure's. -/
import Derived.Test.YtmhmmmkpijbbiabRows
import Derived.Test.YtmhmmmkpijbbiabM5
import Derived.Test.YtmhmmmkpijbbiabPureGhashFolds
import Derived.Test.YtmhmmmkpijbbiabXWords
import Derived.WalkKit
import Derived.ProofKit
import Derived.OpenShut
import Derived.ShutString
import Derived.ChangeOld
import Derived.Below
import Derived.SizedLaws
import Derived.Lib.SmallJoins
namespace Go.Proofs.Ytmhmmmkpijbbiab.ghashFolds
open Go.ChangeShapes Go.WideShapes Go.ChangeAt Go.RowKit
open Go.ChangeMaps (open_string shut_string)
open Go.Proofs.YtmhmmmkpijbbiabW.PrintWords Go.Proofs.YtmhmmmkpijbbiabW.PrintMore Go.Proofs.Ytmhmmmkpijbbiab.X Go.Proofs.Ytmhmmmkpijbbiab.M
theorem own : ownKnob Try.prog.godebug = none := by kernel_rfl
theorem laidOut : laidOutB Try.prog = true := by kernel_rfl
theorem cells_k36 : Try.prog.cellsOf 36 = 2 := by kernel_rfl
theorem cells_k36_0 : Try.prog.cellsOf 34 = 1 := by kernel_rfl
theorem cells_k36_1 : Try.prog.cellsOf 34 = 1 := by kernel_rfl
theorem open_k36 : Opens Try.prog 36 k36 (fun x => ((Lit.int .u64 x.f0).wf = true) ∧ ((Lit.int .u64 x.f1).wf = true) ∧ True) := by
  intro H enc w fuel cs x h
  obtain ⟨xs, n, _, _, hl, hlen, hf⟩ := DataW.trod_struct Try.underlying36 h
  rw [cells_k36] at hl
  obtain ⟨y0, e0⟩ : ∃ y, xs[0]? = some y := ⟨xs[0]'(by rw [hlen]; decide), List.getElem?_eq_getElem _⟩
  have g0 := hf 0 _ rfl
  rw [e0] at g0
  change DataW.trod enc Try.prog w 0 (fun _ => true) true n 34 (List.take (Try.prog.cellsOf 34) (List.drop 0 cs)) = some y0 at g0
  rw [cells_k36_0] at g0
  obtain ⟨v0, b0, p0⟩ := (opens_int Try.underlying34) H enc w n _ _ g0
  obtain ⟨y1, e1⟩ : ∃ y, xs[1]? = some y := ⟨xs[1]'(by rw [hlen]; decide), List.getElem?_eq_getElem _⟩
  have g1 := hf 1 _ rfl
  rw [e1] at g1
  change DataW.trod enc Try.prog w 0 (fun _ => true) true n 34 (List.take (Try.prog.cellsOf 34) (List.drop 1 cs)) = some y1 at g1
  rw [cells_k36_1] at g1
  obtain ⟨v1, b1, p1⟩ := (opens_int Try.underlying34) H enc w n _ _ g1
  clear hf h
  match cs, hl, b0, b1 with
  | [c_0, c_1], _, b0, b1 => exact ⟨⟨v0, v1⟩, ⟨[c_0], [c_1], rfl, b0, b1⟩, p0, p1, trivial⟩
set_option maxRecDepth 100000 in
theorem lifted (os : Os) (started : os.Started) (H : Type) (enc : TypeId × Value → H) :
    ReturnsInHanded {} Try.checked os 4 .any (Rows.ghashFoldsSpec.pre6 enc Try.prog Try.f4 Rows.ghashFoldsRow.domain false) (Rows.ghashFoldsSpec.post enc Try.prog Try.f4 false true false false) := by
  refine returnsInHanded_of_change_sized (C := Try.checked) own started (by kernel_rfl) Try.func4
    (ChangeSpec.witness6 (enc := enc) (C := Try.checked) false ⟨#[], #[.slice none 0 0, .agg #[.int .u64 0, .int .u64 0], .slice none 0 0], []⟩ 8 (by kernel_rfl) (by kernel_rfl) (by kernel_rfl) (by kernel_rfl)) ?_
  intro W base args ds gs before hval0 hW hcnd hsz0 _
  have hval : ∀ (j : Nat) t v, Try.f4.params[j]? = some t → args[j]? = some v → Value.okWide Try.prog W .any base t v := hval0
  have hW' := hW
  obtain ⟨p, q, hA0, hV, rfl, hfz, hnd⟩ := hW
  have hA : DataW.TrodAll enc Try.prog W 0 (fun _ => true) true Try.f4.params.toList args.toList ds p := hA0
  rw [Try.params4] at hA hval
  obtain ⟨v0, vs0, d0, ds0, p0, q0, hargs, rfl, rfl, h0, r0⟩ := trodAll_cons hA
  obtain ⟨v1, vs1, d1, ds1, p1, q1, rfl, rfl, rfl, h1, r1⟩ := trodAll_cons r0
  obtain ⟨v2, vs2, d2, ds2, p2, q2, rfl, rfl, rfl, h2, r2⟩ := trodAll_cons r1
  obtain ⟨rfl, rfl, rfl⟩ := trodAll_nil r2
  obtain rfl : args = #[v0, v1, v2] := by cases args; simp_all
  obtain ⟨rfl, rfl⟩ := trodVars_none hV
  obtain ⟨a0, len0, cap0, rfl⟩ := okWide_slice Try.underlying22 (hval 0 22 v0 rfl rfl)
  have k0 := h0
  have lt0 : ∀ x ∈ p0, x.block < W.heap.size := by obtain ⟨m, hm⟩ := k0; exact DataW.trod_lt m _ _ _ hm
  obtain ⟨l0, ⟨b0, c0, e0, hc0, hr0⟩, hm0, hw0⟩ : ∃ v, (Kd.slice 5 (Kd.int .u8)).K W v [.slice a0 len0 cap0] ∧ (v.length ≤ maxLen ∧ ∀ xv ∈ v, (Lit.int .u8 xv).wf = true) := by
    obtain ⟨fuel, hf⟩ := h0
    exact (opens_slice Try.underlying22 (by kernel_rfl) (opens_int Try.underlying5)) H enc W fuel _ _ (by simpa [Value.cells] using hf)
  simp only [List.cons.injEq, Value.slice.injEq, and_true] at e0
  obtain ⟨rfl, rfl, rfl⟩ := e0
  obtain ⟨cs1, rfl, hz1⟩ := okWide_struct Try.underlying36 (hval 1 36 v1 rfl rfl)
  have k1 := h1
  have lt1 : ∀ x ∈ p1, x.block < W.heap.size := by obtain ⟨m, hm⟩ := k1; exact DataW.trod_lt m _ _ _ hm
  obtain ⟨x1, hK1, hF1⟩ : ∃ v, k36.K W v cs1.toList ∧ (((Lit.int .u64 v.f0).wf = true) ∧ ((Lit.int .u64 v.f1).wf = true) ∧ True) := by
    obtain ⟨fuel, hf⟩ := h1
    exact open_k36 H enc W fuel _ _ (by simpa [Value.cells] using hf)
  obtain ⟨a1_0, a1_1⟩ := x1
  have ho1 := k36_open hK1
  (try dsimp only at ho1 hF1)
  obtain rfl : cs1 = #[.int .u64 a1_0, .int .u64 a1_1] := by cases cs1; simp at ho1; subst ho1; rfl
  obtain ⟨w1_0, w1_1, _⟩ := hF1
  obtain ⟨a2, len2, cap2, rfl⟩ := okWide_slice Try.underlying29 (hval 2 29 v2 rfl rfl)
  have k2 := h2
  have lt2 : ∀ x ∈ p2, x.block < W.heap.size := by obtain ⟨m, hm⟩ := k2; exact DataW.trod_lt m _ _ _ hm
  obtain ⟨l2, ⟨b2, c2, e2, hc2, hr2⟩, hm2, hw2⟩ : ∃ v, (Kd.slice 36 k36).K W v [.slice a2 len2 cap2] ∧ (v.length ≤ maxLen ∧ ∀ xv ∈ v, ((Lit.int .u64 xv.f0).wf = true) ∧ ((Lit.int .u64 xv.f1).wf = true) ∧ True) := by
    obtain ⟨fuel, hf⟩ := h2
    exact (opens_slice Try.underlying29 (by kernel_rfl) open_k36) H enc W fuel _ _ (by simpa [Value.cells] using hf)
  simp only [List.cons.injEq, Value.slice.injEq, and_true] at e2
  obtain ⟨rfl, rfl, rfl⟩ := e2
  clear hA0 hval0 hsz0
  obtain ⟨k, h⟩ := Pure.GhashFolds l0 a1_0 a1_1 l2 hm0 hw0 w1_0 w1_1 hm2 hw2
  refine (M.crosswaylaw05_GhashFolds.calls k _ _ l0 a1_0 a1_1 _ _ l2 true W hr0 hc0 hr2 hc2 h).mono fun e W' ⟨he, bel0⟩ => ?_
  have bel : Below W.heap.size W W' := bel0
  subst he
  exact ⟨_, rfl, _, _, _, [], _, [], hW', trodAll_mk1 (shut_bool Try.underlying4 _), (trodAll_cons_mk (Below.trod laidOut (by kernel_rfl) (of_decide_eq_true (by kernel_rfl)) k0 bel lt0) (trodAll_cons_mk (Below.trod laidOut (by kernel_rfl) (of_decide_eq_true (by kernel_rfl)) k1 bel lt1) (trodAll_cons_mk (Below.trod laidOut (by kernel_rfl) (of_decide_eq_true (by kernel_rfl)) k2 bel lt2) trodAll_mk0))), rfl, bel.frame _, fun h => by cases h⟩
theorem over : Rows.ghashFoldsRow.holds Try.pinned (OpenSpec.ofChange Rows.ghashFoldsSpec) :=
  OpenClaim.holds_of_wide 4 Try.f4 rfl rfl rfl rfl rfl rfl rfl ⟨rfl, rfl, rfl, rfl, rfl⟩ rfl rfl rfl rfl rfl (by kernel_rfl) Try.func4 (by kernel_rfl)
    (of_decide_eq_true (by kernel_rfl)) (by unfold Func.isWrapper; first | (rw [if_pos (by decide +kernel)]; kernel_rfl) | (rw [if_neg (by decide +kernel)]; exact ⟨rfl, rfl⟩))
    (fun os started H enc _ => lifted os started H enc)
theorem proved : Rows.GhashFoldsSaid := over
end Go.Proofs.Ytmhmmmkpijbbiab.ghashFolds
namespace Go.Proofs.Ytmhmmmkpijbbiab
/-- The row, under a short name, for the claim. -/
theorem ghashFolds_holds : Rows.GhashFoldsSaid := ghashFolds.proved
#print axioms ghashFolds_holds
end Go.Proofs.Ytmhmmmkpijbbiab
