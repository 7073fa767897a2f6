/- The plain statement of OfferMakes: every Make and Answer answers what the document says. -/
import Derived.Test.YtnmhnihhlakinacM12
import Derived.Test.YtnmhnihhlakinacPuOffer
namespace Go.Proofs.Ytnmhnihhlakinac.Pure
open Go.RowKit Go.Proofs.YtnmhnihhlakinacW.PrintWords Go.Proofs.YtnmhnihhlakinacW.PrintMore Go.Proofs.Ytnmhnihhlakinac.M Go.Proofs.Ytnmhnihhlakinac.Bv Go.Proofs.Ytnmhnihhlakinac.PuLib Go.Proofs.Ytnmhnihhlakinac.PuHead Go.Proofs.Ytnmhnihhlakinac.PuOffer
theorem alive_ev : Ev (fun k => crosswaylaw13_alive.f k) true := Ev.of crosswaylaw13_alive.mono (k := 100) (by decide +kernel)
theorem OfferMakes : crosswaylaw13_OfferMakes.Pure := by
  intro l a x y vs ll lw aw xl xw yl yw vl vw
  obtain ⟨a0, a1⟩ := wf_u8 aw
  have hb : By l := fun z h => wf_u8 (lw z h)
  have hv : Wd vs := fun z h => wf_u32 (vw z h)
  refine Ev.rounds (Ev.congr (fun k => rfl) (Ev.bind alive_ev (Ev.congr (fun k => if_pos rfl) ?_)))
  have stop : Ev (fun k => crosswaylaw13_OfferMakes.j0 k l a x y vs true) true := Ev.step (f := fun _ => some true) (fun k => by simp only [crosswaylaw13_OfferMakes.j0]; rfl) (Ev.now _)
  by_cases h1 : (l.length : Int) > 3000
  · exact Ev.congr (fun k => if_pos h1) stop
  refine Ev.congr (fun k => if_neg h1) ?_
  by_cases h2 : (x.length : Int) > 400
  · exact Ev.congr (fun k => if_pos h2) stop
  refine Ev.congr (fun k => if_neg h2) ?_
  by_cases h3 : (y.length : Int) > 400
  · exact Ev.congr (fun k => if_pos h3) stop
  refine Ev.congr (fun k => if_neg h3) ?_
  by_cases h4 : (vs.length : Int) > 200
  · rw [decide_eq_true h4]; exact stop
  rw [decide_eq_false h4]
  have q1 := make_ev a0 a1 (x := x) (y := y) (by omega) (by omega) hv (by omega)
  have q2 := rmake_ev a0 a1 (x := x) (y := y) (vs := vs) (by omega) (by omega)
  have q3 := answer_ev hb (by omega) a0 a1 hv (by omega)
  have q4 := ranswer_ev (vs := vs) hb (by omega) a0 a1
  have s1 := same_ev (makeS a x y vs).1 (makeS a x y vs).1 (by have := make_len a x y vs; omega)
  have s2 := same_ev (answerS l a vs).1 (answerS l a vs).1 (by have := answer_len l a vs; omega)
  have s3 := vsame_ev vs vs (by omega)
  rw [decide_eq_true rfl] at s1 s2 s3
  refine Ev.step (fun k => by simp only [crosswaylaw13_OfferMakes.j0]; rw [if_neg (by decide), Option.bind_some, if_pos (by simp; omega), Option.bind_some, List.nil_append]) (Ev.bind q1 (Ev.bind q2 (Ev.bind q3 (Ev.bind q4 ?_))))
  refine Ev.congr (fun k => if_pos rfl) (Ev.bind s1 (Ev.congr (fun k => by rw [if_pos rfl, if_pos rfl]) (Ev.bind s2 (Ev.congr (fun k => if_pos rfl) (Ev.bind s3 (Ev.now _))))))
end Go.Proofs.Ytnmhnihhlakinac.Pure
