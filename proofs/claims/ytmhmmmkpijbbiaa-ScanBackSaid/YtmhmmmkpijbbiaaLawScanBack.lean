/- The row of the law ScanBack: for every input it returns true and its arguments read as they did. No condition. The walk is M's, the plain law is Pure's. -/
import Derived.Test.YtmhmmmkpijbbiaaRows
import Derived.Test.YtmhmmmkpijbbiaaM10
import Derived.Test.YtmhmmmkpijbbiaaPureScanBack
import Derived.Test.YtmhmmmkpijbbiaaXWords
import Derived.WalkKit
import Derived.ProofKit
import Derived.OpenShut
import Derived.ShutString
import Derived.ChangeOld
import Derived.Below
import Derived.SizedLaws
import Derived.Lib.SmallJoins
namespace Go.Proofs.Ytmhmmmkpijbbiaa.scanBack
open Go.ChangeShapes Go.WideShapes Go.ChangeAt Go.RowKit
open Go.ChangeMaps (open_string shut_string)
open Go.Proofs.YtmhmmmkpijbbiaaW.PrintWords Go.Proofs.YtmhmmmkpijbbiaaW.PrintMore Go.Proofs.Ytmhmmmkpijbbiaa.X Go.Proofs.Ytmhmmmkpijbbiaa.M
theorem own : ownKnob Try.prog.godebug = none := by kernel_rfl
theorem laidOut : laidOutB Try.prog = true := by kernel_rfl
theorem cells_k35 : Try.prog.cellsOf 35 = 4 := by kernel_rfl
theorem cells_k35_0 : Try.prog.cellsOf 3 = 1 := by kernel_rfl
theorem cells_k35_1 : Try.prog.cellsOf 3 = 1 := by kernel_rfl
theorem cells_k35_2 : Try.prog.cellsOf 33 = 1 := by kernel_rfl
theorem cells_k35_3 : Try.prog.cellsOf 28 = 1 := by kernel_rfl
theorem open_k35 : Opens Try.prog 35 k35 (fun x => ((Lit.int .i64 x.f0).wf = true) ∧ ((Lit.int .i64 x.f1).wf = true) ∧ ((Lit.int .u64 x.f2).wf = true) ∧ (x.f3.length ≤ maxLen ∧ ∀ xx_f3 ∈ x.f3, (Lit.int .u8 xx_f3).wf = true) ∧ True) := by
  intro H enc w fuel cs x h
  obtain ⟨xs, n, _, _, hl, hlen, hf⟩ := DataW.trod_struct Try.underlying35 h
  rw [cells_k35] at hl
  obtain ⟨y0, e0⟩ : ∃ y, xs[0]? = some y := ⟨xs[0]'(by rw [hlen]; decide), List.getElem?_eq_getElem _⟩
  have g0 := hf 0 _ rfl
  rw [e0] at g0
  change DataW.trod enc Try.prog w 0 (fun _ => true) true n 3 (List.take (Try.prog.cellsOf 3) (List.drop 0 cs)) = some y0 at g0
  rw [cells_k35_0] at g0
  obtain ⟨v0, b0, p0⟩ := (opens_int Try.underlying3) H enc w n _ _ g0
  obtain ⟨y1, e1⟩ : ∃ y, xs[1]? = some y := ⟨xs[1]'(by rw [hlen]; decide), List.getElem?_eq_getElem _⟩
  have g1 := hf 1 _ rfl
  rw [e1] at g1
  change DataW.trod enc Try.prog w 0 (fun _ => true) true n 3 (List.take (Try.prog.cellsOf 3) (List.drop 1 cs)) = some y1 at g1
  rw [cells_k35_1] at g1
  obtain ⟨v1, b1, p1⟩ := (opens_int Try.underlying3) H enc w n _ _ g1
  obtain ⟨y2, e2⟩ : ∃ y, xs[2]? = some y := ⟨xs[2]'(by rw [hlen]; decide), List.getElem?_eq_getElem _⟩
  have g2 := hf 2 _ rfl
  rw [e2] at g2
  change DataW.trod enc Try.prog w 0 (fun _ => true) true n 33 (List.take (Try.prog.cellsOf 33) (List.drop 2 cs)) = some y2 at g2
  rw [cells_k35_2] at g2
  obtain ⟨v2, b2, p2⟩ := (opens_int Try.underlying33) H enc w n _ _ g2
  obtain ⟨y3, e3⟩ : ∃ y, xs[3]? = some y := ⟨xs[3]'(by rw [hlen]; decide), List.getElem?_eq_getElem _⟩
  have g3 := hf 3 _ rfl
  rw [e3] at g3
  change DataW.trod enc Try.prog w 0 (fun _ => true) true n 28 (List.take (Try.prog.cellsOf 28) (List.drop 3 cs)) = some y3 at g3
  rw [cells_k35_3] at g3
  obtain ⟨v3, b3, p3⟩ := (opens_slice Try.underlying28 (by kernel_rfl) (opens_int Try.underlying5)) H enc w n _ _ g3
  clear hf h
  match cs, hl, b0, b1, b2, b3 with
  | [c_0, c_1, c_2, c_3], _, b0, b1, b2, b3 => exact ⟨⟨v0, v1, v2, v3⟩, ⟨[c_0], [c_1, c_2, c_3], rfl, b0, ⟨[c_1], [c_2, c_3], rfl, b1, ⟨[c_2], [c_3], rfl, b2, b3⟩⟩⟩, p0, p1, p2, p3, trivial⟩
set_option maxRecDepth 100000 in
theorem lifted (os : Os) (started : os.Started) (H : Type) (enc : TypeId × Value → H) :
    ReturnsInHanded {} Try.checked os 5 .any (Rows.scanBackSpec.pre6 enc Try.prog Try.f5 Rows.scanBackRow.domain false) (Rows.scanBackSpec.post enc Try.prog Try.f5 false true false false) := by
  refine returnsInHanded_of_change_sized (C := Try.checked) own started (by kernel_rfl) Try.func5
    (ChangeSpec.witness6 (enc := enc) (C := Try.checked) false ⟨#[], #[.slice none 0 0, .int .i64 0], []⟩ 8 (by kernel_rfl) (by kernel_rfl) (by kernel_rfl) (by kernel_rfl)) ?_
  intro W base args ds gs before hval0 hW hcnd hsz0 _
  have hval : ∀ (j : Nat) t v, Try.f5.params[j]? = some t → args[j]? = some v → Value.okWide Try.prog W .any base t v := hval0
  have hW' := hW
  obtain ⟨p, q, hA0, hV, rfl, hfz, hnd⟩ := hW
  have hA : DataW.TrodAll enc Try.prog W 0 (fun _ => true) true Try.f5.params.toList args.toList ds p := hA0
  rw [Try.params5] at hA hval
  obtain ⟨v0, vs0, d0, ds0, p0, q0, hargs, rfl, rfl, h0, r0⟩ := trodAll_cons hA
  obtain ⟨v1, vs1, d1, ds1, p1, q1, rfl, rfl, rfl, h1, r1⟩ := trodAll_cons r0
  obtain ⟨rfl, rfl, rfl⟩ := trodAll_nil r1
  obtain rfl : args = #[v0, v1] := by cases args; simp_all
  obtain ⟨rfl, rfl⟩ := trodVars_none hV
  obtain ⟨a0, len0, cap0, rfl⟩ := okWide_slice Try.underlying22 (hval 0 22 v0 rfl rfl)
  have k0 := h0
  have lt0 : ∀ x ∈ p0, x.block < W.heap.size := by obtain ⟨m, hm⟩ := k0; exact DataW.trod_lt m _ _ _ hm
  obtain ⟨l0, ⟨b0, c0, e0, hc0, hr0⟩, hm0, hw0⟩ : ∃ v, (Kd.slice 35 k35).K W v [.slice a0 len0 cap0] ∧ (v.length ≤ maxLen ∧ ∀ xv ∈ v, ((Lit.int .i64 xv.f0).wf = true) ∧ ((Lit.int .i64 xv.f1).wf = true) ∧ ((Lit.int .u64 xv.f2).wf = true) ∧ (xv.f3.length ≤ maxLen ∧ ∀ xxv_f3 ∈ xv.f3, (Lit.int .u8 xxv_f3).wf = true) ∧ True) := by
    obtain ⟨fuel, hf⟩ := h0
    exact (opens_slice Try.underlying22 (by kernel_rfl) open_k35) H enc W fuel _ _ (by simpa [Value.cells] using hf)
  simp only [List.cons.injEq, Value.slice.injEq, and_true] at e0
  obtain ⟨rfl, rfl, rfl⟩ := e0
  obtain ⟨a1, rfl, rfl, rfl, w1⟩ := open_int Try.underlying3 (hval 1 3 v1 rfl rfl) h1
  clear hA0 hval0 hsz0
  obtain ⟨k, h⟩ := Pure.ScanBack l0 a1 hm0 hw0 w1
  refine (M.crosswaylaw09_ScanBack.calls k _ _ l0 a1 true W hr0 hc0 h).mono fun e W' ⟨he, bel0⟩ => ?_
  have bel : Below W.heap.size W W' := bel0
  subst he
  exact ⟨_, rfl, _, _, _, [], _, [], hW', trodAll_mk1 (shut_bool Try.underlying4 _), (trodAll_cons_mk (Below.trod laidOut (by kernel_rfl) (of_decide_eq_true (by kernel_rfl)) k0 bel lt0) (trodAll_cons_mk (shut_int Try.underlying3 w1) trodAll_mk0)), rfl, bel.frame _, fun h => by cases h⟩
theorem over : Rows.scanBackRow.holds Try.pinned (OpenSpec.ofChange Rows.scanBackSpec) :=
  OpenClaim.holds_of_wide 5 Try.f5 rfl rfl rfl rfl rfl rfl rfl ⟨rfl, rfl, rfl, rfl, rfl⟩ rfl rfl rfl rfl rfl (by kernel_rfl) Try.func5 (by kernel_rfl)
    (of_decide_eq_true (by kernel_rfl)) (by unfold Func.isWrapper; first | (rw [if_pos (by decide +kernel)]; kernel_rfl) | (rw [if_neg (by decide +kernel)]; exact ⟨rfl, rfl⟩))
    (fun os started H enc _ => lifted os started H enc)
theorem proved : Rows.ScanBackSaid := over
end Go.Proofs.Ytmhmmmkpijbbiaa.scanBack
namespace Go.Proofs.Ytmhmmmkpijbbiaa
/-- The row, under a short name, for the claim. -/
theorem scanBack_holds : Rows.ScanBackSaid := scanBack.proved
#print axioms scanBack_holds
end Go.Proofs.Ytmhmmmkpijbbiaa
