/- The plain statement of MixAnswers: for all numbers and rows of bytes the program's Fold, End, Mix and Below tell what the document's tell. -/
import Derived.Test.YtbiiccgheblhpaaM4
import Derived.Test.YtbiiccgheblhpaaPuMix
namespace Go.Proofs.Ytbiiccgheblhpaa.Pure
open Go.RowKit Go.Proofs.YtbiiccgheblhpaaW.PrintWords Go.Proofs.YtbiiccgheblhpaaW.PrintMore Go.Proofs.Ytbiiccgheblhpaa.M Go.Proofs.Ytbiiccgheblhpaa.Bv Go.Proofs.Ytbiiccgheblhpaa.PuLib Go.Proofs.Ytbiiccgheblhpaa.PuMix
theorem MixAnswers : crosswaylaw22_MixAnswers.Pure := by
  intro a l1 l2 m ha hl1 hr1 hl2 hr2 hm
  obtain ⟨a0, a1⟩ := wf_u64 ha
  obtain ⟨m0, m1⟩ := wf_i64 hm
  refine Ev.rounds (Ev.congr (fun k => rfl) (Ev.bind alive_ev (Ev.congr (fun k => if_pos rfl) ?_)))
  obtain ⟨b, hb, hbr⟩ := long_ev l1 3000 (by decide)
  refine Ev.bind hb ?_
  have stop : Ev (fun k => crosswaylaw22_MixAnswers.j0 k a l1 l2 m true) true := Ev.step (f := fun _ => some true) (fun k => rfl) (Ev.now _)
  cases b with
  | true => exact Ev.congr (fun k => if_pos rfl) stop
  | false =>
    refine Ev.congr (fun k => if_neg (by decide)) ?_
    by_cases h2 : (l2.length : Int) > 3000
    · rw [decide_eq_true h2]
      exact stop
    rw [decide_eq_false h2]
    obtain ⟨hn, hp⟩ := hbr rfl
    have hp' : ∀ p ∈ l1, p.length ≤ 9223372036854775807 := fun p h => by have := hp p h; omega
    refine Ev.step (fun k => by simp only [crosswaylaw22_MixAnswers.j0]; rw [if_neg (by decide), copy_eq l2 (by omega), Option.bind_some]) ?_
    refine Ev.bind (fold_ev a l2 (by omega)) (Ev.bind (rfold_ev a l2 (by omega)) (Ev.congr (fun k => by rw [if_pos rfl, end_eq, Option.bind_some, rend_eq a a0 a1, Option.bind_some, if_pos rfl]) ?_))
    refine Ev.bind (mix_ev a l1 (by omega) hp') (Ev.bind (rmix_ev a l1 (by omega) hp') (Ev.congr (fun k => by rw [if_pos rfl, below_some a m a0 m1, Option.bind_some, rbelow_some a m a0 m1, Option.bind_some, if_pos rfl]) ?_))
    exact Ev.bind (ev_eq (same_ev l2 l2 (by omega)) (decide_eq_true rfl)) (Ev.now _)
end Go.Proofs.Ytbiiccgheblhpaa.Pure
