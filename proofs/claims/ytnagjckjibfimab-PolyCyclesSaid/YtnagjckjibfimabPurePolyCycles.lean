/- The plain statement of PolyCycles: squared 128 times an element is as it was; the product with x. -/
import Derived.Test.YtnagjckjibfimabM7
import Derived.Test.YtnagjckjibfimabPuPoly
namespace Go.Proofs.Ytnagjckjibfimab.Pure
open Go.RowKit Go.Proofs.YtnagjckjibfimabW.PrintWords Go.Proofs.YtnagjckjibfimabW.PrintMore Go.Proofs.Ytnagjckjibfimab.M Go.Proofs.Ytnagjckjibfimab.Bv Go.Proofs.Ytnagjckjibfimab.Gf Go.Proofs.Ytnagjckjibfimab.PuPoly
theorem cyc_l1 (s : Nat) (hs : s < 256) (a : Nat) : ∀ (d i y : Nat), i + d = s → y < top → (y = 0 ↔ a = 0) → Ev (fun k => crosswaylaw04_PolyCycles.l1 k (s : Int) (i : Int) (E a).1 (E a).2 (E y).1 (E y).2 (E y).1 (E y).2) true := by
  intro d
  induction d with
  | zero =>
    intro i y hi hy hz
    refine Ev.step (f := fun _ => some true) (fun k => ?_) (Ev.now _)
    simp only [crosswaylaw04_PolyCycles.l1]
    rw [if_neg (by omega), if_pos (by rw [eq_E]; simp), zero_E, zero_E]
    simp [hz]
  | succ d ih =>
    intro i y hi hy hz
    have e : ((i : Int) + 1) % 256 = ((i + 1 : Nat) : Int) := by omega
    have hg : E gen = (4611686018427387904, 0) := by decide
    have ht := times_E hy gen_lt
    rw [hg, mul_comm hy gen_lt, mul_gen] at ht
    dsimp only at ht
    refine Ev.step (fun k => ?_) (ih (i + 1) (nx y) (by omega) (nx_lt hy) ((nx_eq_zero hy).trans hz))
    simp only [crosswaylaw04_PolyCycles.l1]
    rw [if_pos (by omega), next_E hy, Option.bind_some, ht, Option.bind_some, e]
theorem cyc_l0 (s : Nat) (hs : s < 256) (a : Nat) (ha : a < top) : ∀ (d i x : Nat), i + d = 128 → x < top → F d x = a → Ev (fun k => crosswaylaw04_PolyCycles.l0 k (s : Int) (i : Int) (E a).1 (E a).2 (E x).1 (E x).2) true := by
  intro d
  induction d with
  | zero =>
    intro i x hi hx h
    have hxa : x = a := h
    rw [hxa]
    refine Ev.step (fun k => ?_) (cyc_l1 s hs a s 0 a (by omega) ha Iff.rfl)
    simp only [crosswaylaw04_PolyCycles.l0]
    rw [if_neg (by omega), if_neg (by rw [ne_E]; simp)]
    rfl
  | succ d ih =>
    intro i x hi hx h
    refine Ev.step (fun k => ?_) (ih (i + 1) (sq x) (by omega) (sq_lt hx) h)
    simp only [crosswaylaw04_PolyCycles.l0]
    rw [if_pos (by omega), times_E hx hx, Option.bind_some, w64_up i (by omega)]
    rfl
theorem PolyCycles : crosswaylaw04_PolyCycles.Pure := by
  intro hi lo n h1 h2 h3
  obtain ⟨x0, x1⟩ := wf_u64 h1
  obtain ⟨y0, y1⟩ := wf_u64 h2
  obtain ⟨n0, n1⟩ := wf_u8 h3
  obtain ⟨a, ha, rfl, rfl⟩ := E_of x0 x1 y0 y1
  obtain ⟨s, rfl⟩ := Int.eq_ofNat_of_zero_le n0
  refine Ev.rounds (Ev.congr (fun k => rfl) (Ev.bind alive_ev (Ev.congr (fun k => if_pos rfl) ?_)))
  exact cyc_l0 s (by omega) a ha 128 0 a (by omega) ha (F_id ha)
end Go.Proofs.Ytnagjckjibfimab.Pure
