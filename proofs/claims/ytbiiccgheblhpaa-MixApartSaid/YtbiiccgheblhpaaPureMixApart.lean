/- The plain statement of MixApart: unlike numbers have unlike ends, and unlike folds of the same bytes; what is left is below its bound. -/
import Derived.Test.YtbiiccgheblhpaaM5
import Derived.Test.YtbiiccgheblhpaaPuMix
namespace Go.Proofs.Ytbiiccgheblhpaa.Pure
open Go.RowKit Go.Proofs.YtbiiccgheblhpaaW.PrintWords Go.Proofs.YtbiiccgheblhpaaW.PrintMore Go.Proofs.Ytbiiccgheblhpaa.M Go.Proofs.Ytbiiccgheblhpaa.Bv Go.Proofs.Ytbiiccgheblhpaa.PuLib Go.Proofs.Ytbiiccgheblhpaa.PuMix
theorem MixApart : crosswaylaw22_MixApart.Pure := by
  intro a b l m ha hb hl hr hm
  obtain ⟨a0, a1⟩ := wf_u64 ha
  obtain ⟨b0, b1⟩ := wf_u64 hb
  obtain ⟨m0, m1⟩ := wf_i64 hm
  refine Ev.rounds (Ev.congr (fun k => rfl) (Ev.bind alive_ev (Ev.congr (fun k => if_pos rfl) ?_)))
  by_cases h2 : (l.length : Int) > 300
  · exact Ev.congr (fun k => if_pos h2) (Ev.now _)
  have t1 := same_test (x := endS a) (y := endS b) (a := a) (b := b) ⟨endS_inj a0 a1 b0 b1, fun e => by rw [e]⟩
  have t2 := same_test (x := foldS a l) (y := foldS b l) (a := a) (b := b) ⟨foldS_inj l a0 a1 b0 b1, fun e => by rw [e]⟩
  refine Ev.congr (fun k => by rw [if_neg h2, end_eq, Option.bind_some, end_eq, Option.bind_some, t1, if_neg (by decide)]) ?_
  refine Ev.bind (fold_ev a l (by omega)) (Ev.bind (fold_ev b l (by omega)) (Ev.congr (f := fun _ => some true) (fun k => ?_) (Ev.now _)))
  rw [t2, if_neg (by decide), below_some a m a0 m1, Option.bind_some]
  by_cases h : m < 1
  · rw [belowS, if_pos h, if_pos (by omega), if_neg (by omega), if_pos h]
    rfl
  · have hlt : a % m < m := Int.emod_lt_of_pos _ (by omega)
    have hge : 0 ≤ a % m := Int.emod_nonneg _ (by omega)
    rw [belowS, if_neg h, if_pos hge, if_pos hlt]
end Go.Proofs.Ytbiiccgheblhpaa.Pure
