/- The plain statement of OctetAnswers: the program's exclusive or, sameness, numbers and digits are the document's. -/
import Derived.Test.YtnagjckjibfimaaM6
import Derived.Test.YtnagjckjibfimaaPuOctet
namespace Go.Proofs.Ytnagjckjibfimaa.Pure
open Go.RowKit Go.Proofs.YtnagjckjibfimaaW.PrintWords Go.Proofs.YtnagjckjibfimaaW.PrintMore Go.Proofs.Ytnagjckjibfimaa.M Go.Proofs.Ytnagjckjibfimaa.Bv Go.Proofs.Ytnagjckjibfimaa.PuLib Go.Proofs.Ytnagjckjibfimaa.PuCat Go.Proofs.Ytnagjckjibfimaa.PuOctet
theorem OctetAnswers : crosswaylaw01_OctetAnswers.Pure := by
  intro a b ha hwa hb hwb
  have ya : By a := fun x h => wf_u8 (hwa x h)
  have yb : By b := fun x h => wf_u8 (hwb x h)
  refine Ev.rounds (Ev.congr (fun k => rfl) (Ev.bind alive_ev (Ev.congr (fun k => if_pos rfl) ?_)))
  have stop : Ev (fun k => crosswaylaw01_OctetAnswers.j0 k a b true) true := Ev.step (f := fun _ => some true) (fun k => rfl) (Ev.now _)
  by_cases h1 : (a.length : Int) > 3000
  · exact Ev.congr (fun k => if_pos h1) stop
  refine Ev.congr (fun k => if_neg h1) ?_
  by_cases h2 : (b.length : Int) > 3000
  · rw [decide_eq_true h2]; exact stop
  rw [decide_eq_false h2]
  have hx : (xorS a b).1.length ≤ 100000 := by
    rw [xorS]
    split
    · rename_i h; have := xorL_length h; show (xorL a b).length ≤ 100000; omega
    · simp
  refine Ev.step (fun k => by simp only [crosswaylaw01_OctetAnswers.j0]; rw [if_neg (by decide)]) (Ev.bind (xor_ev a b (by omega)) (Ev.bind (rxor_ev a b (by omega) ya yb) (Ev.bind (num_ev a ya) (Ev.bind (rnum_ev a ya) ?_))))
  refine Ev.congr (fun k => if_pos rfl) (Ev.bind (same_self _ hx) (Ev.congr (fun k => if_pos rfl) (Ev.bind (equal_ev a b (by omega) ya yb) (Ev.bind (same_ev a b (by omega)) (Ev.congr (fun k => if_pos (beq_self_eq_true _)) ?_)))))
  refine Ev.congr (fun k => by rw [copy_eq a (by omega), Option.bind_some]) (Ev.bind (equal_ev a a (by omega) ya ya) ?_)
  refine Ev.congr (fun k => by rw [decide_eq_true rfl, if_pos rfl, if_pos rfl, if_pos rfl, hex_eq a (by omega) ya, Option.bind_some]) (Ev.bind (rhex_ev a (by omega) ya) (ev_eq (Ev.now _) (beq_self_eq_true _)))
end Go.Proofs.Ytnagjckjibfimaa.Pure
