/- The plain statement of HalvesCuts: the program's cuts are the document's. -/
import Derived.Test.YtbiiccgheblhpacM6
import Derived.Test.YtbiiccgheblhpacPuHalves
namespace Go.Proofs.Ytbiiccgheblhpac.Pure
open Go.RowKit Go.Proofs.YtbiiccgheblhpacW.PrintWords Go.Proofs.YtbiiccgheblhpacW.PrintMore Go.Proofs.Ytbiiccgheblhpac.M Go.Proofs.Ytbiiccgheblhpac.Bv Go.Proofs.Ytbiiccgheblhpac.PuLib Go.Proofs.Ytbiiccgheblhpac.PuHalves
theorem HalvesCuts : crosswaylaw14_HalvesCuts.Pure := by
  intro l n hl hw hn
  have hb : By l := fun x h => wf_u8 (hw x h)
  have hn2 := wf_i64 hn
  refine Ev.rounds (Ev.congr (fun k => rfl) (Ev.bind alive_ev (Ev.congr (fun k => if_pos rfl) ?_)))
  by_cases h1 : (l.length : Int) > 300
  · exact Ev.congr (fun k => if_pos h1) (Ev.now _)
  have h2 := cutS_length l
  refine Ev.congr (fun k => by rw [if_neg h1, copy_eq l (by omega), Option.bind_some, cut_eq l (by omega), Option.bind_some]) (Ev.bind (rcut_ev l hb (by omega)) (Ev.congr (fun k => if_pos rfl) (Ev.bind (same_self _ (by omega)) (Ev.congr (fun k => if_pos rfl) (Ev.bind (same_self _ (by omega)) (Ev.congr (fun k => if_pos rfl) (Ev.bind (same_self _ (by omega)) (Ev.congr (fun k => if_pos rfl) ?_))))))))
  refine Ev.congr (f := fun _ => some true) (fun k => ?_) (Ev.now _)
  rw [size_eq n (by omega), Option.bind_some, rsize_eq n (by omega), Option.bind_some, beq_self_eq_true]
end Go.Proofs.Ytbiiccgheblhpac.Pure
