/- The plain statement of VariTakes: every Take of any bytes tells what the document's tells. -/
import Derived.Test.YtbiiccgheblhpabM8
import Derived.Test.YtbiiccgheblhpabPuVari
namespace Go.Proofs.Ytbiiccgheblhpab.Pure
open Go.RowKit Go.Proofs.YtbiiccgheblhpabW.PrintWords Go.Proofs.YtbiiccgheblhpabW.PrintMore Go.Proofs.Ytbiiccgheblhpab.M Go.Proofs.Ytbiiccgheblhpab.Bv Go.Proofs.Ytbiiccgheblhpab.PuLib Go.Proofs.Ytbiiccgheblhpab.PuVari
theorem VariTakes : crosswaylaw08_VariTakes.Pure := by
  intro b hl hr
  have hb : ∀ x ∈ b, 0 ≤ x ∧ x < 256 := fun x h => wf_u8 (hr x h)
  refine Ev.rounds (Ev.congr (fun k => rfl) (Ev.bind alive_ev (Ev.congr (fun k => if_pos rfl) ?_)))
  by_cases h1 : (b.length : Int) > 3000
  · exact Ev.congr (fun k => if_pos h1) (Ev.now _)
  refine Ev.congr (fun k => by rw [if_neg h1, copy_eq b (by omega), Option.bind_some]) ?_
  refine Ev.bind (take_ev b hb (by omega)) (Ev.bind (rtake_ev b hb (by omega)) (Ev.congr (fun k => by rw [if_pos rfl, if_pos rfl, if_pos rfl]) ?_))
  exact Ev.bind (ev_eq (same_ev b b (by omega)) (decide_eq_true rfl)) (Ev.now _)
end Go.Proofs.Ytbiiccgheblhpab.Pure
