/- The plain statement of OfferParses: every Parse and Has of any bytes answers what the document says. -/
import Derived.Test.YtnmhnihhlakinacM15
import Derived.Test.YtnmhnihhlakinacPuOffer
namespace Go.Proofs.Ytnmhnihhlakinac.Pure
open Go.RowKit Go.Proofs.YtnmhnihhlakinacW.PrintWords Go.Proofs.YtnmhnihhlakinacW.PrintMore Go.Proofs.Ytnmhnihhlakinac.M Go.Proofs.Ytnmhnihhlakinac.Bv Go.Proofs.Ytnmhnihhlakinac.PuLib Go.Proofs.Ytnmhnihhlakinac.PuHead Go.Proofs.Ytnmhnihhlakinac.PuOffer
theorem alive_ev : Ev (fun k => crosswaylaw13_alive.f k) true := Ev.of crosswaylaw13_alive.mono (k := 100) (by decide +kernel)
theorem OfferParses : crosswaylaw13_OfferParses.Pure := by
  intro l v ll lw vw
  have hb : By l := fun z h => wf_u8 (lw z h)
  refine Ev.rounds (Ev.congr (fun k => rfl) (Ev.bind alive_ev (Ev.congr (fun k => if_pos rfl) ?_)))
  by_cases h1 : (l.length : Int) > 3000
  · exact Ev.congr (f := fun _ => some true) (fun k => if_pos h1) (Ev.now _)
  have hl := off_lens hb (by omega)
  have s1 := same_ev l l (by omega)
  have s3 := vsame_ev (offS l).2.2.2.2.1 (offS l).2.2.2.2.1 (by omega)
  rw [decide_eq_true rfl] at s1 s3
  refine Ev.congr (fun k => by rw [if_neg h1, copy_eq l (by omega), Option.bind_some]) (Ev.bind (offparse_ev l hb (by omega)) (Ev.bind (roffparse_ev l hb (by omega)) ?_))
  refine Ev.congr (fun k => by rw [if_pos rfl, of_eq _ _ _ _ (by omega) (by omega), Option.bind_some, rsame_refl, Option.bind_some, if_pos rfl]) (Ev.bind s3 (Ev.congr (fun k => if_pos rfl) (Ev.bind (has_ev v hb (by omega)) (Ev.bind (rhas_ev v hb (by omega)) ?_))))
  exact Ev.congr (fun k => if_pos (by simp)) (Ev.bind s1 (Ev.now _))
end Go.Proofs.Ytnmhnihhlakinac.Pure
