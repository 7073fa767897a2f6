/- rank: what RankAnswers leans on. -/
import Derived.Test.YtonofmnjcocokaaRkRef
import Derived.Test.YtonofmnjcocokaaRkSums
namespace Go.Proofs.Ytonofmnjcocokaa.Rk
open Go.RowKit Go.Proofs.YtonofmnjcocokaaW.PrintWords Go.Proofs.YtonofmnjcocokaaW.PrintLast Go.Proofs.YtonofmnjcocokaaW.PrintMore Go.Proofs.Ytonofmnjcocokaa.X Go.Proofs.Ytonofmnjcocokaa.M Go.Proofs.Ytonofmnjcocokaa.Bv Go.Proofs.Ytonofmnjcocokaa.PuLib Go.Proofs.Ytonofmnjcocokaa.PuMix
set_option linter.unusedVariables false
set_option linter.unusedSimpArgs false
theorem ChosenAt.look2 {w : World} {b : Nat} {cs : List Int} (h : ChosenAt w b cs) (id : Int) (hid : 0 ≤ id ∧ id < 64) : (Instr.lookup 44 (.map (some b)) (.int .i64 id) true).run Try.prog w = .ok (.tuple #[.int .i64 (cs.count id : Int), .bool (decide (0 < cs.count id))]) w := by
  obtain ⟨D, hown, h2, h3, h4, _⟩ := h
  have hkey := Maps.keyOf_int_mk (P := Try.prog) Try.underlying3 (a := id) (WalkArith.wf_i64 (by omega))
  have hz : (zeroValue 3).run Try.prog w = .ok (.int .i64 0) w := by kernel_rfl
  obtain ⟨v, ps, hr, hv⟩ := hown.look_ok lawI lawCI hz (plainElem_int Try.underlying3 (by decide : (Lit.int .i64 0).wf = true)) (key := .int .i64 id) hkey
  rw [h3] at hv
  obtain ⟨c, rfl, hc, hwc⟩ := plainElem_int_inv Try.underlying3 hv
  simp only [Prod.mk.injEq, DataW.lit.injEq, Lit.int.injEq] at hc
  rw [hr, h4, hc.1.2]
theorem at_SL {w : World} {ad : Addr} {n : Nat} {raws : List SL} (h : Kd.C kSl w (some ad) n raws) {k : Nat} {v : SL} (hv : raws[k]? = some v) : w.cell? (ad.add k) = some (.slice v.1 v.2.1 v.2.2) := by
  have hk := (List.getElem?_eq_some_iff.1 hv).1
  have hn : raws.length = n := h.1
  obtain ⟨ad2, e, hc⟩ := h.2.2 (by omega)
  obtain rfl := Option.some.inj e
  obtain ⟨cs, _, hK, hcell⟩ := hc k v hv
  have hK' : cs = [.slice v.1 v.2.1 v.2.2] := hK
  subst hK'
  have h1 := hcell 0 _ rfl
  have hsz : kSl.sz = 1 := rfl
  rw [hsz, Nat.mul_one, Nat.add_zero] at h1
  exact h1
theorem load_box {W : World} {g t : Nat} {x y : Int} (h : W.heap[g]? = some (.cells #[.int .i64 x, .int .i64 y] t (0, 0))) : (loadVar 25 ⟨g, 0, none⟩).run Try.prog W = .ok (.agg #[.int .i64 x, .int .i64 y]) W := by
  refine load_adE (x := ⟨x, y⟩) (fun j v hv => ?_)
  rw [add_plain]
  exact (blk_cell h j).trans (by simpa using hv)
theorem eqE (d : Nat) (w : World) (x y : Int) : (Op.equalIn (d + 2) 25 (.agg #[.int .i64 x, .int .i64 y]) (.agg #[.int .i64 x, .int .i64 y])).run Try.prog w = .ok true w := by
  have hp : Try.prog.stoodInHeld 25 = false := by kernel_rfl
  refine eqA_of Try.underlying25 hp ?_
  simp [Op.eqFields, part, isAgg, Sem.run_bind, run_underlying (P := Try.prog) Try.underlying3 w, Op.equalIn]
theorem run_neqE {o : Oper} {a : Act} (x y : Operand) (ho : o.op = .binOp .neq 25 x y 25) (p q : Int) (hx : a.eval x = .agg #[.int .i64 p, .int .i64 q]) (hy : a.eval y = .agg #[.int .i64 p, .int .i64 q]) (W : World) :
    (execOp a.eval o).run Try.prog W = .ok (.value (.bool false)) W := by
  have he : (Op.equalIn 10000 25 (.agg #[.int .i64 p, .int .i64 q]) (.agg #[.int .i64 p, .int .i64 q])).run Try.prog W = .ok true W := eqE 9998 W p q
  have hg : Try.prog.eqGuardType Try.prog.depth 25 = false := by kernel_rfl
  unfold execOp
  simp only [ho, hx, hy]
  go_simp
end Go.Proofs.Ytonofmnjcocokaa.Rk
