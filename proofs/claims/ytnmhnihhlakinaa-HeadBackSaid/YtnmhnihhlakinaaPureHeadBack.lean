/- The plain statement of HeadBack: what is parsed is written as it was. -/
import Derived.Test.YtnmhnihhlakinaaM9
import Derived.Test.YtnmhnihhlakinaaPuHead
namespace Go.Proofs.Ytnmhnihhlakinaa.Pure
open Go.RowKit Go.Proofs.YtnmhnihhlakinaaW.PrintWords Go.Proofs.YtnmhnihhlakinaaW.PrintMore Go.Proofs.Ytnmhnihhlakinaa.M Go.Proofs.Ytnmhnihhlakinaa.Bv Go.Proofs.Ytnmhnihhlakinaa.PuLib Go.Proofs.Ytnmhnihhlakinaa.PuHead
theorem alive_ev : Ev (fun k => crosswaylaw10_alive.f k) true := Ev.of crosswaylaw10_alive.mono (k := 100) (by decide +kernel)
theorem HeadBack : crosswaylaw10_HeadBack.Pure := by
  intro l hl hw
  have hb : By l := fun x h => wf_u8 (hw x h)
  refine Ev.rounds (Ev.congr (fun k => rfl) (Ev.bind alive_ev (Ev.congr (fun k => if_pos rfl) ?_)))
  by_cases h1 : (l.length : Int) > 3000
  · exact Ev.congr (f := fun _ => some true) (fun k => if_pos h1) (Ev.now _)
  refine Ev.congr (fun k => if_neg h1) (Ev.bind (parse_ev l hb (by omega)) ?_)
  have nil : By [] := fun x h => by cases h
  rcases parse_dec hb with ⟨e, he, hp⟩ | ⟨a, b, x, y, rest, hp, hl2, a0, a1, b0, b1, lx, ly, bx, by_, br⟩
  · rw [hp]
    refine Ev.congr (f := fun _ => some true) (fun k => ?_) (Ev.now _)
    rw [if_neg he, if_pos (by rfl), same_eq nil nil nil nil, Option.bind_some, decide_eq_true ⟨rfl, rfl, rfl, rfl⟩]
  · rw [hp]
    have hq := bytes_ev (a := a) (b := b) (x := x) (y := y) (by omega) a1 b0 b1 (by omega) (by omega)
    rw [hbS, if_neg (by omega), if_neg (by omega)] at hq
    have hlen := enc_length a b x y
    have hll : l.length = (enc a b x y).length + rest.length := by rw [hl2, List.length_append]
    have hr : rd l 0 = a := by rw [hl2]; rfl
    refine Ev.congr (fun k => if_pos rfl) (Ev.bind hq ?_)
    refine Ev.congr (fun k => by rw [if_pos rfl, if_pos (by dsimp only; omega)]) (Ev.bind (same_ev _ l (by dsimp only; rw [List.length_append]; omega)) ?_)
    refine Ev.congr (f := fun _ => some true) (fun k => ?_) (Ev.now _)
    dsimp only
    rw [← hl2, decide_eq_true rfl, if_pos rfl, long_eq l hb, Option.bind_some, hr, decide_eq_true (by omega), decide_eq_false (by omega)]
    rfl
end Go.Proofs.Ytnmhnihhlakinaa.Pure
