/- The row of the law PolyBytes: for every input it returns true and its arguments read as they did. No condition. The walk is M's, the plain law is Pure's. -/
import Derived.Test.YtblllcmdnmjghaaRows
import Derived.Test.YtblllcmdnmjghaaM8
import Derived.Test.YtblllcmdnmjghaaPurePolyBytes
import Derived.Test.YtblllcmdnmjghaaXWords
import Derived.WalkKit
import Derived.ProofKit
import Derived.OpenShut
import Derived.ShutString
import Derived.ChangeOld
import Derived.Below
import Derived.SizedLaws
import Derived.Lib.SmallJoins
namespace Go.Proofs.Ytblllcmdnmjghaa.polyBytes
open Go.ChangeShapes Go.WideShapes Go.ChangeAt Go.RowKit
open Go.ChangeMaps (open_string shut_string)
open Go.Proofs.YtblllcmdnmjghaaW.PrintWords Go.Proofs.YtblllcmdnmjghaaW.PrintMore Go.Proofs.Ytblllcmdnmjghaa.X Go.Proofs.Ytblllcmdnmjghaa.M
theorem own : ownKnob Try.prog.godebug = none := by kernel_rfl
theorem laidOut : laidOutB Try.prog = true := by kernel_rfl
theorem cells_k24 : Try.prog.cellsOf 24 = 2 := by kernel_rfl
theorem cells_k24_0 : Try.prog.cellsOf 22 = 1 := by kernel_rfl
theorem cells_k24_1 : Try.prog.cellsOf 22 = 1 := by kernel_rfl
theorem open_k24 : Opens Try.prog 24 k24 (fun x => ((Lit.int .u64 x.f0).wf = true) ∧ ((Lit.int .u64 x.f1).wf = true) ∧ True) := by
  intro H enc w fuel cs x h
  obtain ⟨xs, n, _, _, hl, hlen, hf⟩ := DataW.trod_struct Try.underlying24 h
  rw [cells_k24] at hl
  obtain ⟨y0, e0⟩ : ∃ y, xs[0]? = some y := ⟨xs[0]'(by rw [hlen]; decide), List.getElem?_eq_getElem _⟩
  have g0 := hf 0 _ rfl
  rw [e0] at g0
  change DataW.trod enc Try.prog w 0 (fun _ => true) true n 22 (List.take (Try.prog.cellsOf 22) (List.drop 0 cs)) = some y0 at g0
  rw [cells_k24_0] at g0
  obtain ⟨v0, b0, p0⟩ := (opens_int Try.underlying22) H enc w n _ _ g0
  obtain ⟨y1, e1⟩ : ∃ y, xs[1]? = some y := ⟨xs[1]'(by rw [hlen]; decide), List.getElem?_eq_getElem _⟩
  have g1 := hf 1 _ rfl
  rw [e1] at g1
  change DataW.trod enc Try.prog w 0 (fun _ => true) true n 22 (List.take (Try.prog.cellsOf 22) (List.drop 1 cs)) = some y1 at g1
  rw [cells_k24_1] at g1
  obtain ⟨v1, b1, p1⟩ := (opens_int Try.underlying22) H enc w n _ _ g1
  clear hf h
  match cs, hl, b0, b1 with
  | [c_0, c_1], _, b0, b1 => exact ⟨⟨v0, v1⟩, ⟨[c_0], [c_1], rfl, b0, b1⟩, p0, p1, trivial⟩
set_option maxRecDepth 100000 in
theorem lifted (os : Os) (started : os.Started) (H : Type) (enc : TypeId × Value → H) :
    ReturnsInHanded {} Try.checked os 4 .any (Rows.polyBytesSpec.pre6 enc Try.prog Try.f4 Rows.polyBytesRow.domain false) (Rows.polyBytesSpec.post enc Try.prog Try.f4 false true false false) := by
  refine returnsInHanded_of_change_sized (C := Try.checked) own started (by kernel_rfl) Try.func4
    (ChangeSpec.witness6 (enc := enc) (C := Try.checked) false ⟨#[], #[.agg #[.int .u64 0, .int .u64 0], .slice none 0 0, .int .u64 0], []⟩ 8 (by kernel_rfl) (by kernel_rfl) (by kernel_rfl) (by kernel_rfl)) ?_
  intro W base args ds gs before hval0 hW hcnd hsz0 _
  have hval : ∀ (j : Nat) t v, Try.f4.params[j]? = some t → args[j]? = some v → Value.okWide Try.prog W .any base t v := hval0
  have hW' := hW
  obtain ⟨p, q, hA0, hV, rfl, hfz, hnd⟩ := hW
  have hA : DataW.TrodAll enc Try.prog W 0 (fun _ => true) true Try.f4.params.toList args.toList ds p := hA0
  rw [Try.params4] at hA hval
  obtain ⟨v0, vs0, d0, ds0, p0, q0, hargs, rfl, rfl, h0, r0⟩ := trodAll_cons hA
  obtain ⟨v1, vs1, d1, ds1, p1, q1, rfl, rfl, rfl, h1, r1⟩ := trodAll_cons r0
  obtain ⟨v2, vs2, d2, ds2, p2, q2, rfl, rfl, rfl, h2, r2⟩ := trodAll_cons r1
  obtain ⟨rfl, rfl, rfl⟩ := trodAll_nil r2
  obtain rfl : args = #[v0, v1, v2] := by cases args; simp_all
  obtain ⟨rfl, rfl⟩ := trodVars_none hV
  obtain ⟨cs0, rfl, hz0⟩ := okWide_struct Try.underlying24 (hval 0 24 v0 rfl rfl)
  have k0 := h0
  have lt0 : ∀ x ∈ p0, x.block < W.heap.size := by obtain ⟨m, hm⟩ := k0; exact DataW.trod_lt m _ _ _ hm
  obtain ⟨x0, hK0, hF0⟩ : ∃ v, k24.K W v cs0.toList ∧ (((Lit.int .u64 v.f0).wf = true) ∧ ((Lit.int .u64 v.f1).wf = true) ∧ True) := by
    obtain ⟨fuel, hf⟩ := h0
    exact open_k24 H enc W fuel _ _ (by simpa [Value.cells] using hf)
  obtain ⟨a0_0, a0_1⟩ := x0
  have ho0 := k24_open hK0
  (try dsimp only at ho0 hF0)
  obtain rfl : cs0 = #[.int .u64 a0_0, .int .u64 a0_1] := by cases cs0; simp at ho0; subst ho0; rfl
  obtain ⟨w0_0, w0_1, _⟩ := hF0
  obtain ⟨a1, len1, cap1, rfl⟩ := okWide_slice Try.underlying35 (hval 1 35 v1 rfl rfl)
  have k1 := h1
  have lt1 : ∀ x ∈ p1, x.block < W.heap.size := by obtain ⟨m, hm⟩ := k1; exact DataW.trod_lt m _ _ _ hm
  obtain ⟨l1, ⟨b1, c1, e1, hc1, hr1⟩, hm1, hw1⟩ : ∃ v, (Kd.slice 5 (Kd.int .u8)).K W v [.slice a1 len1 cap1] ∧ (v.length ≤ maxLen ∧ ∀ xv ∈ v, (Lit.int .u8 xv).wf = true) := by
    obtain ⟨fuel, hf⟩ := h1
    exact (opens_slice Try.underlying35 (by kernel_rfl) (opens_int Try.underlying5)) H enc W fuel _ _ (by simpa [Value.cells] using hf)
  simp only [List.cons.injEq, Value.slice.injEq, and_true] at e1
  obtain ⟨rfl, rfl, rfl⟩ := e1
  obtain ⟨a2, rfl, rfl, rfl, w2⟩ := open_int Try.underlying22 (hval 2 22 v2 rfl rfl) h2
  clear hA0 hval0 hsz0
  obtain ⟨k, h⟩ := Pure.PolyBytes a0_0 a0_1 l1 a2 w0_0 w0_1 hm1 hw1 w2
  refine (M.crosswaylaw04_PolyBytes.calls k a0_0 a0_1 _ _ l1 a2 true W hr1 hc1 h).mono fun e W' ⟨he, bel0⟩ => ?_
  have bel : Below W.heap.size W W' := bel0
  subst he
  exact ⟨_, rfl, _, _, _, [], _, [], hW', trodAll_mk1 (shut_bool Try.underlying4 _), (trodAll_cons_mk (Below.trod laidOut (by kernel_rfl) (of_decide_eq_true (by kernel_rfl)) k0 bel lt0) (trodAll_cons_mk (Below.trod laidOut (by kernel_rfl) (of_decide_eq_true (by kernel_rfl)) k1 bel lt1) (trodAll_cons_mk (shut_int Try.underlying22 w2) trodAll_mk0))), rfl, bel.frame _, fun h => by cases h⟩
theorem over : Rows.polyBytesRow.holds Try.pinned (OpenSpec.ofChange Rows.polyBytesSpec) :=
  OpenClaim.holds_of_wide 4 Try.f4 rfl rfl rfl rfl rfl rfl rfl ⟨rfl, rfl, rfl, rfl, rfl⟩ rfl rfl rfl rfl rfl (by kernel_rfl) Try.func4 (by kernel_rfl)
    (of_decide_eq_true (by kernel_rfl)) (by unfold Func.isWrapper; first | (rw [if_pos (by decide +kernel)]; kernel_rfl) | (rw [if_neg (by decide +kernel)]; exact ⟨rfl, rfl⟩))
    (fun os started H enc _ => lifted os started H enc)
theorem proved : Rows.PolyBytesSaid := over
end Go.Proofs.Ytblllcmdnmjghaa.polyBytes
namespace Go.Proofs.Ytblllcmdnmjghaa
/-- The row, under a short name, for the claim. -/
theorem polyBytes_holds : Rows.PolyBytesSaid := polyBytes.proved
#print axioms polyBytes_holds
end Go.Proofs.Ytblllcmdnmjghaa
