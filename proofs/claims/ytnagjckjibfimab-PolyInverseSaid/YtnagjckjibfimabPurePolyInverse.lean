/- The plain statement of PolyInverse: the product of the squares' squares is the inverse. -/
import Derived.Test.YtnagjckjibfimabM8
import Derived.Test.YtnagjckjibfimabPuPoly
namespace Go.Proofs.Ytnagjckjibfimab.Pure
open Go.RowKit Go.Proofs.YtnagjckjibfimabW.PrintWords Go.Proofs.YtnagjckjibfimabW.PrintMore Go.Proofs.Ytnagjckjibfimab.M Go.Proofs.Ytnagjckjibfimab.Bv Go.Proofs.Ytnagjckjibfimab.Gf Go.Proofs.Ytnagjckjibfimab.PuPoly
theorem inv_l0 (a : Nat) (ha : a < top) : ∀ (d i : Nat), i + d = 127 → Ev (fun k => crosswaylaw04_PolyInverse.l0 k ((i + 1 : Nat) : Int) (E a).1 (E a).2 (E (F i a)).1 (E (F i a)).2 (E (pr a i)).1 (E (pr a i)).2) true := by
  intro d
  induction d with
  | zero =>
    intro i hi
    obtain rfl : i = 127 := by omega
    refine Ev.step (f := fun _ => some true) (fun k => ?_) (Ev.now _)
    simp only [crosswaylaw04_PolyInverse.l0]
    rw [if_neg (by omega), zero_E, zero_E]
    by_cases h : a = 0
    · rw [if_pos (decide_eq_true h), h, pr_zero 126]
      rfl
    · rw [if_neg (by simp [h]), times_E (pr_lt ha _) ha, Option.bind_some, one_E, Option.bind_some, eq_E, inverse ha h, decide_eq_true rfl]
  | succ d ih =>
    intro i hi
    have hf := F_lt i ha
    refine Ev.step (fun k => ?_) (ih (i + 1) (by omega))
    simp only [crosswaylaw04_PolyInverse.l0]
    rw [if_pos (by omega), times_E hf hf, Option.bind_some, show mul (F i a) (F i a) = F (i + 1) a from (F_succ' i a).symm, times_E (pr_lt ha i) (F_lt _ ha), Option.bind_some, w64_up (i + 1) (by omega)]
    rfl
theorem PolyInverse : crosswaylaw04_PolyInverse.Pure := by
  intro hi lo h1 h2
  obtain ⟨x0, x1⟩ := wf_u64 h1
  obtain ⟨y0, y1⟩ := wf_u64 h2
  obtain ⟨a, ha, rfl, rfl⟩ := E_of x0 x1 y0 y1
  refine Ev.rounds (Ev.congr (fun k => rfl) (Ev.bind alive_ev (Ev.congr (fun k => if_pos rfl) ?_)))
  exact Ev.congr (fun k => by rw [one_E, Option.bind_some]; rfl) (inv_l0 a ha 127 0 (by omega))
end Go.Proofs.Ytnagjckjibfimab.Pure
