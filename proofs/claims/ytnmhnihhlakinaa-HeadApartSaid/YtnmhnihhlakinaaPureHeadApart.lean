/- The plain statement of HeadApart: unlike headers have unlike bytes; what is behind a header changes nothing of it. -/
import Derived.Test.YtnmhnihhlakinaaM10
import Derived.Test.YtnmhnihhlakinaaPuHead
namespace Go.Proofs.Ytnmhnihhlakinaa.Pure
open Go.RowKit Go.Proofs.YtnmhnihhlakinaaW.PrintWords Go.Proofs.YtnmhnihhlakinaaW.PrintMore Go.Proofs.Ytnmhnihhlakinaa.M Go.Proofs.Ytnmhnihhlakinaa.Bv Go.Proofs.Ytnmhnihhlakinaa.PuLib Go.Proofs.Ytnmhnihhlakinaa.PuHead
theorem alive_ev : Ev (fun k => crosswaylaw10_alive.f k) true := Ev.of crosswaylaw10_alive.mono (k := 100) (by decide +kernel)
theorem hbS_short {a b : Int} {x y : List Int} (hx : x.length ≤ 255) (hy : y.length ≤ 255) : hbS a b x y = if a < 128 then ([], 14) else (enc a b x y, 0) := by
  unfold hbS
  rw [if_neg (show ¬ (x.length > 255 ∨ y.length > 255) by omega)]
theorem HeadApart : crosswaylaw10_HeadApart.Pure := by
  intro a b x y a' b' x' y' rest other w1 w2 lx wx ly wy w3 w4 lx' wx' ly' wy' lr wr lo wo
  obtain ⟨a0, a1⟩ := wf_u8 w1
  obtain ⟨b0, b1⟩ := wf_u32 w2
  obtain ⟨a0', a1'⟩ := wf_u8 w3
  obtain ⟨b0', b1'⟩ := wf_u32 w4
  have bx : By x := fun z h => wf_u8 (wx z h)
  have by_ : By y := fun z h => wf_u8 (wy z h)
  have bx' : By x' := fun z h => wf_u8 (wx' z h)
  have by' : By y' := fun z h => wf_u8 (wy' z h)
  have br : By rest := fun z h => wf_u8 (wr z h)
  have bo : By other := fun z h => wf_u8 (wo z h)
  refine Ev.rounds (Ev.congr (fun k => rfl) (Ev.bind alive_ev (Ev.congr (fun k => if_pos rfl) ?_)))
  have stop : Ev (fun k => crosswaylaw10_HeadApart.j0 k rest other true a b x y a' b' x' y') true := Ev.step (f := fun _ => some true) (fun k => rfl) (Ev.now _)
  by_cases h1 : (x.length : Int) > 255
  · exact Ev.congr (fun k => if_pos h1) stop
  refine Ev.congr (fun k => if_neg h1) ?_
  by_cases h2 : (y.length : Int) > 255
  · exact Ev.congr (fun k => if_pos h2) stop
  refine Ev.congr (fun k => if_neg h2) ?_
  by_cases h3 : (x'.length : Int) > 255
  · exact Ev.congr (fun k => if_pos h3) stop
  refine Ev.congr (fun k => if_neg h3) ?_
  by_cases h4 : (y'.length : Int) > 255
  · exact Ev.congr (fun k => if_pos h4) stop
  refine Ev.congr (fun k => if_neg h4) ?_
  by_cases h5 : (rest.length : Int) > 300
  · exact Ev.congr (fun k => if_pos h5) stop
  refine Ev.congr (fun k => if_neg h5) ?_
  by_cases h6 : (other.length : Int) > 300
  · rw [decide_eq_true h6]; exact stop
  rw [decide_eq_false h6]
  have q1 := bytes_ev a0 a1 b0 b1 (x := x) (y := y) (by omega) (by omega)
  have q2 := bytes_ev a0' a1' b0' b1' (x := x') (y := y') (by omega) (by omega)
  rw [hbS_short (by omega) (by omega)] at q1 q2
  refine Ev.step (fun k => by simp only [crosswaylaw10_HeadApart.j0]; rw [if_neg (by decide)]) (Ev.bind q1 (Ev.bind q2 ?_))
  have hle : (enc a b x y).length = 7 + x.length + y.length := enc_length a b x y
  have hle' := enc_length a' b' x' y'
  by_cases k1 : a < 128
  · rw [if_pos k1]
    refine Ev.congr (fun k => if_neg (by decide)) (Ev.step (f := fun _ => some true) (fun k => ?_) (Ev.now _))
    simp only [crosswaylaw10_HeadApart.j1, if_true]
    rw [if_pos (by rw [decide_eq_true k1]; rfl)]
    congr 1
    by_cases k2 : a' < 128
    · rw [if_pos k2, decide_eq_true k2]; rfl
    · rw [if_neg k2, decide_eq_false k2]; rfl
  rw [if_neg k1]
  refine Ev.congr (fun k => if_pos rfl) ?_
  by_cases k2 : a' < 128
  · rw [if_pos k2]
    refine Ev.step (f := fun _ => some true) (fun k => ?_) (Ev.now _)
    simp only [crosswaylaw10_HeadApart.j1]
    rw [if_pos (by decide), if_pos (by rw [decide_eq_false k1]; rfl), decide_eq_true k2]
    rfl
  rw [if_neg k2]
  have hs : decide (enc a b x y = enc a' b' x' y') = decide (a = a' ∧ b = b' ∧ x = x' ∧ y = y') := by
    rw [decide_eq_decide]
    constructor
    · intro h; exact enc_inj h (by omega) a1 b0 b1 (by omega) a1' b0' b1'
    · rintro ⟨rfl, rfl, rfl, rfl⟩; rfl
  have be : By (enc a b x y) := enc_By a0 a1 bx by_ (by omega) (by omega)
  have app : ∀ {u v : List Int}, By u → By v → By (u ++ v) := fun hu hv z hz => by
    rcases List.mem_append.1 hz with h | h
    · exact hu z h
    · exact hv z h
  have p1 := parse_ev (enc a b x y ++ rest) (app be br) (by rw [List.length_append]; omega)
  have p2 := parse_ev (enc a b x y ++ other) (app be bo) (by rw [List.length_append]; omega)
  rw [parse_enc rest (by omega) a1 b0 b1] at p1
  rw [parse_enc other (by omega) a1 b0 b1] at p2
  refine Ev.step (fun k => by simp only [crosswaylaw10_HeadApart.j1]; rw [if_neg (by decide)]) (Ev.bind (same_ev _ _ (by omega)) ?_)
  refine Ev.congr (fun k => by rw [same_eq bx by_ bx' by', Option.bind_some, hs, if_neg (by simp), copy_eq _ (by omega), Option.bind_some, if_pos (by omega)]) (Ev.bind p1 ?_)
  refine Ev.congr (fun k => by rw [Option.bind_some, if_pos (by omega)]) (Ev.bind p2 ?_)
  refine Ev.congr (f := fun _ => some true) (fun k => ?_) (Ev.now _)
  dsimp only
  rw [if_pos rfl, if_pos rfl, same_eq bx by_ bx by_, Option.bind_some, decide_eq_true ⟨rfl, rfl, rfl, rfl⟩, if_pos rfl, if_pos rfl, beq_self_eq_true]
end Go.Proofs.Ytnmhnihhlakinaa.Pure
