/- The plain statement of HeadParses: every Long, Parse and Id of any bytes answers what the document says. -/
import Derived.Test.YtnmhnihhlakinaaM8
import Derived.Test.YtnmhnihhlakinaaPuHead2
namespace Go.Proofs.Ytnmhnihhlakinaa.Pure
open Go.RowKit Go.Proofs.YtnmhnihhlakinaaW.PrintWords Go.Proofs.YtnmhnihhlakinaaW.PrintMore Go.Proofs.Ytnmhnihhlakinaa.M Go.Proofs.Ytnmhnihhlakinaa.Bv Go.Proofs.Ytnmhnihhlakinaa.PuLib Go.Proofs.Ytnmhnihhlakinaa.PuHead
theorem alive_ev : Ev (fun k => crosswaylaw10_alive.f k) true := Ev.of crosswaylaw10_alive.mono (k := 100) (by decide +kernel)
/-- What Id told, compared at the law's end. -/
theorem parses_end (l : List Int) (n : Int) (hl : l.length ≤ 3000) (b : Bool) (hb : b = decide (n < 0 ∨ n > 255)) : Ev (fun k => crosswaylaw10_HeadParses.j2 k l n (idS l n).1 (idS l n).2 b) true := by
  unfold idS
  by_cases h : n < 0 ∨ n > 255
  · rw [if_pos h]
    rw [decide_eq_true h] at hb
    subst hb
    refine Ev.step (f := fun _ => some true) (fun k => ?_) (Ev.now _)
    simp only [crosswaylaw10_HeadParses.j2]
    rfl
  · rw [if_neg h]
    rw [decide_eq_false h] at hb
    subst hb
    by_cases h2 : (l.length : Int) ≤ n
    · rw [if_pos h2]
      refine Ev.step (f := fun _ => some true) (fun k => ?_) (Ev.now _)
      simp only [crosswaylaw10_HeadParses.j2]
      rw [if_neg (by decide), if_pos h2]
      rfl
    · rw [if_neg h2]
      have hw : wrap64 (n + 1) = n + 1 := w64_in _ (by omega) (by omega)
      have ht : (l.take (n + 1).toNat).drop 1 = (l.drop 1).take n.toNat := by
        rw [List.drop_take]
        congr 1
        omega
      refine Ev.step (fun k => ?_) (ev_eq (Ev.bind (same_ev ((l.drop 1).take n.toNat) ((l.take (n + 1).toNat).drop 1) (by rw [List.length_take, List.length_drop]; omega)) (Ev.now _)) (by rw [ht]; exact decide_eq_true rfl))
      simp only [crosswaylaw10_HeadParses.j2]
      rw [if_neg (by decide), if_neg h2, if_pos trivial, hw, if_pos (by omega), if_pos (by omega)]
theorem parses_l0 (l : List Int) (n : Int) (hl : l.length ≤ 3000) : ∀ d i : Nat, ∀ r : List Int, r.length ≤ 3000 → i + d = r.length → Ev (fun k => crosswaylaw10_HeadParses.l0 k l n l r (idS l n).1 (idS l n).2 (i : Int)) true := by
  intro d
  induction d with
  | zero =>
    intro i r hr hi
    have hs := same_ev l l (by omega)
    rw [decide_eq_true rfl] at hs
    refine Ev.step (fun k => by simp only [crosswaylaw10_HeadParses.l0]; rw [if_neg (by omega)]) (Ev.bind hs (Ev.congr (fun k => if_pos rfl) ?_))
    by_cases h : n < 0
    · exact Ev.congr (fun k => if_pos h) (parses_end l n hl true (decide_eq_true (.inl h)).symm)
    · refine Ev.congr (fun k => if_neg h) (parses_end l n hl _ ?_)
      rw [decide_eq_decide]
      omega
  | succ d ih =>
    intro i r hr hi
    refine Ev.step (fun k => by simp only [crosswaylaw10_HeadParses.l0]; rw [if_pos (by omega), if_pos (by omega), w64_up i (by omega)]) (ih (i + 1) _ (by rw [List.length_set]; exact hr) (by rw [List.length_set]; omega))
theorem parses_j0 (l r : List Int) (n : Int) (hb : By l) (hl : l.length ≤ 3000) (hr : r.length ≤ 3000) : Ev (fun k => crosswaylaw10_HeadParses.j0 k l n l r false) true :=
  Ev.step (fun k => by simp only [crosswaylaw10_HeadParses.j0]; rw [if_neg (by decide)]) (Ev.bind (id_ev l n hb (by omega)) (parses_l0 l n hl r.length 0 r hr (by omega)))
theorem HeadParses : crosswaylaw10_HeadParses.Pure := by
  intro l n lm hw nw
  have hb : By l := fun x h => wf_u8 (hw x h)
  refine Ev.rounds (Ev.congr (fun k => rfl) (Ev.bind alive_ev (Ev.congr (fun k => if_pos rfl) ?_)))
  by_cases h1 : (l.length : Int) > 3000
  · exact Ev.congr (f := fun _ => some true) (fun k => if_pos h1) (Ev.now _)
  refine Ev.congr (fun k => by rw [if_neg h1, copy_eq l (by omega), Option.bind_some]) (Ev.bind (parse_ev l hb (by omega)) ?_)
  refine Ev.congr (fun k => by rw [rparse_eq l hb (by omega), Option.bind_some, if_pos rfl]) ?_
  have hlen : (parseR l).2.2.1.length ≤ 3000 ∧ (parseR l).2.2.2.1.length ≤ 3000 ∧ (parseR l).2.2.2.2.1.length ≤ 3000 := by
    rcases parse_dec hb with ⟨e, he, hp⟩ | ⟨a, b, x, y, rest, hp, hl2, a0, a1, b0, b1, lx, ly, bx, by_, br⟩
    · rw [hp]; simp
    · rw [hp]
      have hlen := enc_length a b x y
      have hll : l.length = (enc a b x y).length + rest.length := by rw [hl2, List.length_append]
      dsimp only
      omega
  obtain ⟨h2, h3, h4⟩ := hlen
  have hs := same_ev (parseR l).2.2.2.2.1 (parseR l).2.2.2.2.1 (by omega)
  rw [decide_eq_true rfl] at hs
  refine Ev.congr (fun k => by rw [of_eq _ _ _ _ (by omega) (by omega), Option.bind_some, rsame_refl, Option.bind_some, if_pos rfl]) (Ev.bind hs (Ev.congr (fun k => by rw [if_pos rfl, long_eq l hb, Option.bind_some]) ?_))
  by_cases h0 : 0 < l.length
  · refine Ev.congr (fun k => by rw [if_pos (by omega), if_pos (by omega)]) ?_
    have : ((decide (0 < l.length) && !decide (rd l 0 < 128)) != decide (rd l 0 ≥ 128)) = false := by
      rw [decide_eq_true h0, Bool.true_and]
      by_cases h : rd l 0 < 128
      · rw [decide_eq_true h, decide_eq_false (by omega)]; rfl
      · rw [decide_eq_false h, decide_eq_true (by omega)]; rfl
    rw [this]
    exact parses_j0 l _ n hb (by omega) h4
  · refine Ev.congr (fun k => by rw [if_neg (by omega)]) ?_
    have : ((decide (0 < l.length) && !decide (rd l 0 < 128)) != false) = false := by rw [decide_eq_false h0]; rfl
    rw [this]
    exact parses_j0 l _ n hb (by omega) h4
end Go.Proofs.Ytnmhnihhlakinaa.Pure
