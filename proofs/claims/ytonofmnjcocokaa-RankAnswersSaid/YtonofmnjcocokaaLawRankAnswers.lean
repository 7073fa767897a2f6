/- The row of the law RankAnswers: for every input it returns true and its arguments read as they did. No condition. The walk is M's, the plain law is Pure's. -/
import Derived.Test.YtonofmnjcocokaaRows
import Derived.Test.YtonofmnjcocokaaM5
import Derived.Test.YtonofmnjcocokaaPureRankAnswers
import Derived.Test.YtonofmnjcocokaaXWords
import Derived.WalkKit
import Derived.ProofKit
import Derived.OpenShut
import Derived.ShutString
import Derived.ChangeOld
import Derived.Below
import Derived.SizedLaws
import Derived.Lib.SmallJoins
namespace Go.Proofs.Ytonofmnjcocokaa.rankAnswers
open Go.ChangeShapes Go.WideShapes Go.ChangeAt Go.RowKit
open Go.ChangeMaps (open_string shut_string)
open Go.Proofs.YtonofmnjcocokaaW.PrintWords Go.Proofs.YtonofmnjcocokaaW.PrintMore Go.Proofs.Ytonofmnjcocokaa.X Go.Proofs.Ytonofmnjcocokaa.M
theorem own : ownKnob Try.prog.godebug = none := by kernel_rfl
theorem laidOut : laidOutB Try.prog = true := by kernel_rfl
theorem cells_k25 : Try.prog.cellsOf 25 = 2 := by kernel_rfl
theorem cells_k25_0 : Try.prog.cellsOf 3 = 1 := by kernel_rfl
theorem cells_k25_1 : Try.prog.cellsOf 3 = 1 := by kernel_rfl
theorem open_k25 : Opens Try.prog 25 k25 (fun x => ((Lit.int .i64 x.f0).wf = true) ∧ ((Lit.int .i64 x.f1).wf = true) ∧ True) := by
  intro H enc w fuel cs x h
  obtain ⟨xs, n, _, _, hl, hlen, hf⟩ := DataW.trod_struct Try.underlying25 h
  rw [cells_k25] at hl
  obtain ⟨y0, e0⟩ : ∃ y, xs[0]? = some y := ⟨xs[0]'(by rw [hlen]; decide), List.getElem?_eq_getElem _⟩
  have g0 := hf 0 _ rfl
  rw [e0] at g0
  change DataW.trod enc Try.prog w 0 (fun _ => true) true n 3 (List.take (Try.prog.cellsOf 3) (List.drop 0 cs)) = some y0 at g0
  rw [cells_k25_0] at g0
  obtain ⟨v0, b0, p0⟩ := (opens_int Try.underlying3) H enc w n _ _ g0
  obtain ⟨y1, e1⟩ : ∃ y, xs[1]? = some y := ⟨xs[1]'(by rw [hlen]; decide), List.getElem?_eq_getElem _⟩
  have g1 := hf 1 _ rfl
  rw [e1] at g1
  change DataW.trod enc Try.prog w 0 (fun _ => true) true n 3 (List.take (Try.prog.cellsOf 3) (List.drop 1 cs)) = some y1 at g1
  rw [cells_k25_1] at g1
  obtain ⟨v1, b1, p1⟩ := (opens_int Try.underlying3) H enc w n _ _ g1
  clear hf h
  match cs, hl, b0, b1 with
  | [c_0, c_1], _, b0, b1 => exact ⟨⟨v0, v1⟩, ⟨[c_0], [c_1], rfl, b0, b1⟩, p0, p1, trivial⟩
set_option maxRecDepth 100000 in
theorem lifted (os : Os) (started : os.Started) (H : Type) (enc : TypeId × Value → H) :
    ReturnsInHanded {} Try.checked os 3 .any (Rows.rankAnswersSpec.pre6 enc Try.prog Try.f3 Rows.rankAnswersRow.domain false) (Rows.rankAnswersSpec.post enc Try.prog Try.f3 false true false false) := by
  refine returnsInHanded_of_change_sized (C := Try.checked) own started (by kernel_rfl) Try.func3
    (ChangeSpec.witness6 (enc := enc) (C := Try.checked) false ⟨#[], #[.int .u64 0, .slice none 0 0, .agg #[.int .i64 0, .int .i64 0], .slice none 0 0], []⟩ 8 (by kernel_rfl) (by kernel_rfl) (by kernel_rfl) (by kernel_rfl)) ?_
  intro W base args ds gs before hval0 hW hcnd hsz0 _
  have hval : ∀ (j : Nat) t v, Try.f3.params[j]? = some t → args[j]? = some v → Value.okWide Try.prog W .any base t v := hval0
  have hW' := hW
  obtain ⟨p, q, hA0, hV, rfl, hfz, hnd⟩ := hW
  have hA : DataW.TrodAll enc Try.prog W 0 (fun _ => true) true Try.f3.params.toList args.toList ds p := hA0
  rw [Try.params3] at hA hval
  obtain ⟨v0, vs0, d0, ds0, p0, q0, hargs, rfl, rfl, h0, r0⟩ := trodAll_cons hA
  obtain ⟨v1, vs1, d1, ds1, p1, q1, rfl, rfl, rfl, h1, r1⟩ := trodAll_cons r0
  obtain ⟨v2, vs2, d2, ds2, p2, q2, rfl, rfl, rfl, h2, r2⟩ := trodAll_cons r1
  obtain ⟨v3, vs3, d3, ds3, p3, q3, rfl, rfl, rfl, h3, r3⟩ := trodAll_cons r2
  obtain ⟨rfl, rfl, rfl⟩ := trodAll_nil r3
  obtain rfl : args = #[v0, v1, v2, v3] := by cases args; simp_all
  obtain ⟨rfl, rfl⟩ := trodVars_none hV
  obtain ⟨a0, rfl, rfl, rfl, w0⟩ := open_int Try.underlying22 (hval 0 22 v0 rfl rfl) h0
  obtain ⟨a1, len1, cap1, rfl⟩ := okWide_slice Try.underlying23 (hval 1 23 v1 rfl rfl)
  have k1 := h1
  have lt1 : ∀ x ∈ p1, x.block < W.heap.size := by obtain ⟨m, hm⟩ := k1; exact DataW.trod_lt m _ _ _ hm
  obtain ⟨l1, ⟨b1, c1, e1, hc1, hr1⟩, hm1, hw1⟩ : ∃ v, (Kd.slice 32 (Kd.slice 5 (Kd.int .u8))).K W v [.slice a1 len1 cap1] ∧ (v.length ≤ maxLen ∧ ∀ xv ∈ v, xv.length ≤ maxLen ∧ ∀ xxv ∈ xv, (Lit.int .u8 xxv).wf = true) := by
    obtain ⟨fuel, hf⟩ := h1
    exact (opens_slice Try.underlying23 (by kernel_rfl) (opens_slice Try.underlying32 (by kernel_rfl) (opens_int Try.underlying5))) H enc W fuel _ _ (by simpa [Value.cells] using hf)
  simp only [List.cons.injEq, Value.slice.injEq, and_true] at e1
  obtain ⟨rfl, rfl, rfl⟩ := e1
  obtain ⟨cs2, rfl, hz2⟩ := okWide_struct Try.underlying25 (hval 2 25 v2 rfl rfl)
  have k2 := h2
  have lt2 : ∀ x ∈ p2, x.block < W.heap.size := by obtain ⟨m, hm⟩ := k2; exact DataW.trod_lt m _ _ _ hm
  obtain ⟨x2, hK2, hF2⟩ : ∃ v, k25.K W v cs2.toList ∧ (((Lit.int .i64 v.f0).wf = true) ∧ ((Lit.int .i64 v.f1).wf = true) ∧ True) := by
    obtain ⟨fuel, hf⟩ := h2
    exact open_k25 H enc W fuel _ _ (by simpa [Value.cells] using hf)
  obtain ⟨a2_0, a2_1⟩ := x2
  have ho2 := k25_open hK2
  (try dsimp only at ho2 hF2)
  obtain rfl : cs2 = #[.int .i64 a2_0, .int .i64 a2_1] := by cases cs2; simp at ho2; subst ho2; rfl
  obtain ⟨w2_0, w2_1, _⟩ := hF2
  obtain ⟨a3, len3, cap3, rfl⟩ := okWide_slice Try.underlying26 (hval 3 26 v3 rfl rfl)
  have k3 := h3
  have lt3 : ∀ x ∈ p3, x.block < W.heap.size := by obtain ⟨m, hm⟩ := k3; exact DataW.trod_lt m _ _ _ hm
  obtain ⟨l3, ⟨b3, c3, e3, hc3, hr3⟩, hm3, hw3⟩ : ∃ v, (Kd.slice 25 k25).K W v [.slice a3 len3 cap3] ∧ (v.length ≤ maxLen ∧ ∀ xv ∈ v, ((Lit.int .i64 xv.f0).wf = true) ∧ ((Lit.int .i64 xv.f1).wf = true) ∧ True) := by
    obtain ⟨fuel, hf⟩ := h3
    exact (opens_slice Try.underlying26 (by kernel_rfl) open_k25) H enc W fuel _ _ (by simpa [Value.cells] using hf)
  simp only [List.cons.injEq, Value.slice.injEq, and_true] at e3
  obtain ⟨rfl, rfl, rfl⟩ := e3
  clear hA0 hval0 hsz0
  obtain ⟨k, h⟩ := Pure.RankAnswers a0 l1 a2_0 a2_1 l3 w0 hm1 hw1 w2_0 w2_1 hm3 hw3
  refine (M.crosswaylaw23_RankAnswers.calls k a0 _ _ l1 a2_0 a2_1 _ _ l3 true W hr1 hc1 hr3 hc3 h).mono fun e W' ⟨he, bel0⟩ => ?_
  have bel : Below W.heap.size W W' := bel0
  subst he
  exact ⟨_, rfl, _, _, _, [], _, [], hW', trodAll_mk1 (shut_bool Try.underlying4 _), (trodAll_cons_mk (shut_int Try.underlying22 w0) (trodAll_cons_mk (Below.trod laidOut (by kernel_rfl) (of_decide_eq_true (by kernel_rfl)) k1 bel lt1) (trodAll_cons_mk (Below.trod laidOut (by kernel_rfl) (of_decide_eq_true (by kernel_rfl)) k2 bel lt2) (trodAll_cons_mk (Below.trod laidOut (by kernel_rfl) (of_decide_eq_true (by kernel_rfl)) k3 bel lt3) trodAll_mk0)))), rfl, bel.frame _, fun h => by cases h⟩
theorem over : Rows.rankAnswersRow.holds Try.pinned (OpenSpec.ofChange Rows.rankAnswersSpec) :=
  OpenClaim.holds_of_wide 3 Try.f3 rfl rfl rfl rfl rfl rfl rfl ⟨rfl, rfl, rfl, rfl, rfl⟩ rfl rfl rfl rfl rfl (by kernel_rfl) Try.func3 (by kernel_rfl)
    (of_decide_eq_true (by kernel_rfl)) (by unfold Func.isWrapper; first | (rw [if_pos (by decide +kernel)]; kernel_rfl) | (rw [if_neg (by decide +kernel)]; exact ⟨rfl, rfl⟩))
    (fun os started H enc _ => lifted os started H enc)
theorem proved : Rows.RankAnswersSaid := over
end Go.Proofs.Ytonofmnjcocokaa.rankAnswers
namespace Go.Proofs.Ytonofmnjcocokaa
/-- The row, under a short name, for the claim. -/
theorem rankAnswers_holds : Rows.RankAnswersSaid := rankAnswers.proved
#print axioms rankAnswers_holds
end Go.Proofs.Ytonofmnjcocokaa
