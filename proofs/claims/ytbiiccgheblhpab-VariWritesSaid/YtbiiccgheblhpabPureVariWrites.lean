/- The plain statement of VariWrites: every Size, Put, Wide and Row tells what the document's tell. -/
import Derived.Test.YtbiiccgheblhpabM6
import Derived.Test.YtbiiccgheblhpabPuVari
namespace Go.Proofs.Ytbiiccgheblhpab.Pure
open Go.RowKit Go.Proofs.YtbiiccgheblhpabW.PrintWords Go.Proofs.YtbiiccgheblhpabW.PrintMore Go.Proofs.Ytbiiccgheblhpab.M Go.Proofs.Ytbiiccgheblhpab.Bv Go.Proofs.Ytbiiccgheblhpab.PuLib Go.Proofs.Ytbiiccgheblhpab.PuVari
theorem VariWrites : crosswaylaw08_VariWrites.Pure := by
  intro v size l hv hs hl hr
  obtain ⟨v0, v1⟩ := wf_u64 hv
  have hr' : ∀ x ∈ l, 0 ≤ x ∧ x < 18446744073709551616 := fun x h => wf_u64 (hr x h)
  refine Ev.rounds (Ev.congr (fun k => rfl) (Ev.bind alive_ev (Ev.congr (fun k => if_pos rfl) ?_)))
  by_cases h1 : (l.length : Int) > 100
  · exact Ev.congr (fun k => if_pos h1) (Ev.now _)
  have hw : (wideV v size).1.length ≤ 8 := by
    unfold wideV
    split
    · exact putF_len (by omega) v
    split
    · exact putF_len (by omega) v
    split
    · exact putF_len (by omega) v
    split
    · exact putF_len (by omega) v
    · simp
  have hp := putV_len v
  have hrow := rowV_len l []
  rw [List.length_nil] at hrow
  refine Ev.congr (fun k => if_neg h1) (Ev.bind (vput_ev v0) (Ev.bind (rput8_ev v0 v1) (Ev.bind (wide_ev v0 size) (Ev.bind (rwide_ev v0 v1 size) (Ev.bind (row_ev l hr' (by omega)) (Ev.bind (rrow_ev l hr' (by omega)) ?_))))))
  refine Ev.bind (vsize_ev v0) (Ev.bind (rsize_ev v) (Ev.congr (fun k => if_pos rfl) ?_))
  refine Ev.bind (ev_eq (same_ev _ _ (by omega)) (decide_eq_true rfl)) (Ev.congr (fun k => by rw [if_pos rfl, if_pos rfl]) ?_)
  refine Ev.bind (ev_eq (same_ev _ _ (by omega)) (decide_eq_true rfl)) (Ev.congr (fun k => by rw [if_pos rfl, if_pos rfl]) ?_)
  refine Ev.bind (ev_eq (same_ev _ _ (by omega)) (decide_eq_true rfl)) (Ev.congr (fun k => by rw [if_pos rfl, beq_self_eq_true]) (Ev.now _))
end Go.Proofs.Ytbiiccgheblhpab.Pure
