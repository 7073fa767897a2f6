/- The plain statement of HalvesJoins: the program's joins, trims and blocks are the document's. -/
import Derived.Test.YtbiiccgheblhpacM9
import Derived.Test.YtbiiccgheblhpacPuHalves
namespace Go.Proofs.Ytbiiccgheblhpac.Pure
open Go.RowKit Go.Proofs.YtbiiccgheblhpacW.PrintWords Go.Proofs.YtbiiccgheblhpacW.PrintMore Go.Proofs.Ytbiiccgheblhpac.M Go.Proofs.Ytbiiccgheblhpac.Bv Go.Proofs.Ytbiiccgheblhpac.PuLib Go.Proofs.Ytbiiccgheblhpac.PuHalves
theorem HalvesJoins : crosswaylaw14_HalvesJoins.Pure := by
  intro l r n p side hl hw hr hwr hn hp
  have hb : By l := fun x h => wf_u8 (hw x h)
  have hc : By r := fun x h => wf_u8 (hwr x h)
  refine Ev.rounds (Ev.congr (fun k => rfl) (Ev.bind alive_ev (Ev.congr (fun k => if_pos rfl) ?_)))
  have stop : Ev (fun k => crosswaylaw14_HalvesJoins.j0 k l r n p side true) true := Ev.step (f := fun _ => some true) (fun k => rfl) (Ev.now _)
  by_cases h1 : (l.length : Int) > 300
  · exact Ev.congr (fun k => if_pos h1) stop
  refine Ev.congr (fun k => if_neg h1) ?_
  by_cases h2 : (r.length : Int) > 300
  · rw [decide_eq_true h2]; exact stop
  rw [decide_eq_false h2]
  have a1 := joinS_length l r n
  have a2 := trimS_length l n side
  have a3 := blockS_length l n p
  refine Ev.step (fun k => by simp only [crosswaylaw14_HalvesJoins.j0]; rw [if_neg (by decide), copy_eq l (by omega), Option.bind_some]) ?_
  refine Ev.bind (join_ev l r n (by omega) (by omega)) (Ev.bind (rjoin_ev l r n hb hc) ?_)
  refine Ev.congr (fun k => by rw [trim_eq, Option.bind_some]) (Ev.bind (rtrim_ev l n side hb) (Ev.bind (block_ev l n p) (Ev.bind (rblock_ev l n p) ?_)))
  exact Ev.congr (fun k => if_pos rfl) (Ev.bind (same_self _ (by omega)) (Ev.congr (fun k => if_pos rfl) (Ev.congr (fun k => if_pos rfl) (Ev.bind (same_self _ (by omega)) (Ev.congr (fun k => if_pos rfl) (Ev.congr (fun k => if_pos rfl) (Ev.bind (same_self _ (by omega)) (Ev.congr (fun k => if_pos rfl) (Ev.bind (same_self _ (by omega)) (Ev.now _))))))))))
end Go.Proofs.Ytbiiccgheblhpac.Pure
