/- The plain statement of OfferHas: an offer has just the versions that it was made of; without its last byte it is none. -/
import Derived.Test.YtnmhnihhlakinacM17
import Derived.Test.YtnmhnihhlakinacPuOffer
namespace Go.Proofs.Ytnmhnihhlakinac.Pure
open Go.RowKit Go.Proofs.YtnmhnihhlakinacW.PrintWords Go.Proofs.YtnmhnihhlakinacW.PrintMore Go.Proofs.Ytnmhnihhlakinac.M Go.Proofs.Ytnmhnihhlakinac.Bv Go.Proofs.Ytnmhnihhlakinac.PuLib Go.Proofs.Ytnmhnihhlakinac.PuHead Go.Proofs.Ytnmhnihhlakinac.PuOffer
theorem alive_ev : Ev (fun k => crosswaylaw13_alive.f k) true := Ev.of crosswaylaw13_alive.mono (k := 100) (by decide +kernel)
/-- An offer's bytes. -/
def offB (a : Int) (x y vs : List Int) : List Int := enc (hi a) 0 x y ++ PuOffer.encs vs
theorem make_off {a : Int} {x y vs : List Int} (a0 : 0 ≤ a) (a1 : a < 256) (lx : x.length ≤ 255) (ly : y.length ≤ 255) (h1 : 1 ≤ vs.length) (h64 : vs.length ≤ 64) : makeS a x y vs = (offB a x y vs, 0) := by
  have hh := hi_range a0 a1
  have hb : hbS (hi a) 0 x y = (enc (hi a) 0 x y, 0) := by unfold hbS; rw [if_neg (by omega), if_neg (by omega)]
  unfold makeS offB
  rw [if_neg (by omega), hb, if_pos rfl]
theorem off_By {a : Int} {x y vs : List Int} (a0 : 0 ≤ a) (a1 : a < 256) (bx : By x) (by_ : By y) (lx : x.length ≤ 255) (ly : y.length ≤ 255) : By (offB a x y vs) := by
  have hh := hi_range a0 a1
  intro z hz
  rcases List.mem_append.1 hz with h | h
  · exact enc_By (by omega) hh.2 bx by_ lx ly z h
  · exact encs_By vs z h
theorem off_length (a : Int) (x y vs : List Int) : (offB a x y vs).length = 7 + x.length + y.length + 4 * vs.length := by
  rw [offB, List.length_append, enc_length, PuOffer.encs_length]
theorem parse_off {a : Int} {x y : List Int} (rest : List Int) (a0 : 0 ≤ a) (a1 : a < 256) : parseR (enc (hi a) 0 x y ++ rest) = (hi a, 0, x, y, rest, 0) := by
  have hh := hi_range a0 a1
  exact parse_enc rest hh.1 hh.2 (by omega) (by omega)
theorem offS_off {a : Int} {x y vs : List Int} (a0 : 0 ≤ a) (a1 : a < 256) (hv : Wd vs) (h1 : 1 ≤ vs.length) : offS (offB a x y vs) = (hi a, 0, x, y, vs, 0) := by
  have hl := PuOffer.encs_length vs
  unfold offS offB
  rw [parse_off (PuOffer.encs vs) a0 a1]
  dsimp only
  rw [if_pos rfl, if_pos rfl, if_neg (by omega), decs_encs vs hv]
theorem offS_cut {a : Int} {x y vs : List Int} (a0 : 0 ≤ a) (a1 : a < 256) (h1 : 1 ≤ vs.length) : offS ((offB a x y vs).take (7 + x.length + y.length + 4 * vs.length - 1)) = (0, 0, [], [], [], 10) := by
  have hl := PuOffer.encs_length vs
  have he := enc_length (hi a) 0 x y
  have ht : (offB a x y vs).take (7 + x.length + y.length + 4 * vs.length - 1) = enc (hi a) 0 x y ++ (PuOffer.encs vs).take (4 * vs.length - 1) := by
    rw [offB, List.take_append, List.take_of_length_le (by omega), he]
    congr 2
    omega
  have hl2 : ((PuOffer.encs vs).take (4 * vs.length - 1)).length = 4 * vs.length - 1 := by rw [List.length_take]; omega
  rw [ht]
  unfold offS
  rw [parse_off _ a0 a1]
  dsimp only
  rw [if_pos rfl, if_pos rfl, if_pos (by omega)]
theorem has_l0 {a v : Int} {x y vs : List Int} (a0 : 0 ≤ a) (a1 : a < 256) (bx : By x) (by_ : By y) (lx : x.length ≤ 255) (ly : y.length ≤ 255) (hv : Wd vs) (h1 : 1 ≤ vs.length) (h64 : vs.length ≤ 64) : ∀ d i : Nat, i + d = vs.length → Ev (fun k => crosswaylaw13_OfferHas.l0 k vs v (offB a x y vs) (decide (v ∈ vs.take i)) (i : Int)) true := by
  have hB := off_By (vs := vs) a0 a1 bx by_ lx ly
  have hlen := off_length a x y vs
  intro d
  induction d with
  | zero =>
    intro i hi
    have hw : wrap64 (((offB a x y vs).length : Int) - 1) = ((7 + x.length + y.length + 4 * vs.length - 1 : Nat) : Int) := (w64_in (((offB a x y vs).length : Int) - 1) (by omega) (by omega)).trans (by omega)
    have hB2 : By ((offB a x y vs).take (7 + x.length + y.length + 4 * vs.length - 1)) := hB.take _
    have hl2 : ((offB a x y vs).take (7 + x.length + y.length + 4 * vs.length - 1)).length ≤ 3000 := by rw [List.length_take]; omega
    have q1 := offparse_ev _ hB2 hl2
    rw [offS_cut a0 a1 h1] at q1
    have q2 := has_ev v hB (by omega)
    have e2 : hasS (offB a x y vs) v = decide (v ∈ vs) := by unfold hasS; rw [offS_off a0 a1 hv h1]
    rw [e2] at q2
    have q3 := has_ev v hB2 hl2
    have e3 : hasS ((offB a x y vs).take (7 + x.length + y.length + 4 * vs.length - 1)) v = false := by unfold hasS; rw [offS_cut a0 a1 h1]; simp
    rw [e3] at q3
    have g1 : (0 : Int) ≤ ((7 + x.length + y.length + 4 * vs.length - 1 : Nat) : Int) := by omega
    have g2 : ((7 + x.length + y.length + 4 * vs.length - 1 : Nat) : Int) ≤ ((offB a x y vs).length : Int) := by omega
    have g3 : ¬ (i : Int) < (vs.length : Int) := by omega
    rw [List.take_of_length_le (by omega)]
    refine Ev.step (fun k => by simp only [crosswaylaw13_OfferHas.l0]; rw [if_neg g3, hw, if_pos g1, if_pos g2, Int.toNat_natCast]) (Ev.bind q1 ?_)
    refine Ev.bind q2 ?_
    refine Ev.congr (fun k => by rw [if_pos (by simp), if_pos rfl]) (Ev.bind q3 ?_)
    exact Ev.now _
  | succ d ih =>
    intro i hi
    have ht := take_snoc_rd vs i (by omega)
    have := ih (i + 1) (by omega)
    rw [ht] at this
    by_cases h : v ∈ vs.take i
    · rw [decide_eq_true h]
      rw [decide_eq_true (List.mem_append.2 (.inl h))] at this
      exact Ev.step (fun k => by simp only [crosswaylaw13_OfferHas.l0]; rw [if_pos (by omega), if_pos trivial, w64_up i (by omega)]) this
    · rw [decide_eq_false h]
      have e : decide (v ∈ vs.take i ++ [rd vs (i : Int)]) = (rd vs (i : Int) == v) := by
        rw [Bool.eq_iff_iff, decide_eq_true_iff, beq_iff_eq, List.mem_append, List.mem_singleton]
        exact ⟨fun e => (e.resolve_left h).symm, fun e => .inr e.symm⟩
      rw [e] at this
      exact Ev.step (fun k => by simp only [crosswaylaw13_OfferHas.l0]; rw [if_pos (by omega), if_neg (by decide), if_pos (by omega), w64_up i (by omega)]) this
theorem OfferHas : crosswaylaw13_OfferHas.Pure := by
  intro a x y vs v aw xl xw yl yw vl vw v4
  obtain ⟨a0, a1⟩ := wf_u8 aw
  have bx : By x := fun z h => wf_u8 (xw z h)
  have by_ : By y := fun z h => wf_u8 (yw z h)
  have hv : Wd vs := fun z h => wf_u32 (vw z h)
  refine Ev.rounds (Ev.congr (fun k => rfl) (Ev.bind alive_ev (Ev.congr (fun k => if_pos rfl) ?_)))
  have stop : Ev (fun k => crosswaylaw13_OfferHas.j0 k a x y vs v true) true := Ev.step (f := fun _ => some true) (fun k => by simp only [crosswaylaw13_OfferHas.j0]; rfl) (Ev.now _)
  by_cases h2 : (x.length : Int) > 255
  · exact Ev.congr (fun k => if_pos h2) stop
  refine Ev.congr (fun k => if_neg h2) ?_
  by_cases h3 : (y.length : Int) > 255
  · exact Ev.congr (fun k => if_pos h3) stop
  refine Ev.congr (fun k => if_neg h3) ?_
  by_cases h4 : (vs.length : Int) < 1
  · exact Ev.congr (fun k => if_pos h4) stop
  refine Ev.congr (fun k => if_neg h4) ?_
  by_cases h5 : (vs.length : Int) > 64
  · rw [decide_eq_true h5]; exact stop
  rw [decide_eq_false h5]
  have hlen := off_length a x y vs
  have q1 := make_ev a0 a1 (x := x) (y := y) (by omega) (by omega) hv (by omega)
  rw [make_off a0 a1 (by omega) (by omega) (by omega) (by omega)] at q1
  have w1 := w64_in (7 + (x.length : Int)) (by omega) (by omega)
  have w2 := w64_in (7 + (x.length : Int) + (y.length : Int)) (by omega) (by omega)
  have w3 := w64_in (4 * (vs.length : Int)) (by omega) (by omega)
  have w4 := w64_in (7 + (x.length : Int) + (y.length : Int) + 4 * (vs.length : Int)) (by clear w1 w2 w3; omega) (by clear w1 w2 w3; omega)
  have hc : ((offB a x y vs).length : Int) = 7 + (x.length : Int) + (y.length : Int) + 4 * (vs.length : Int) := by clear w1 w2 w3 w4; omega
  have fin := has_l0 (v := v) a0 a1 bx by_ (by clear w1 w2 w3 w4; omega) (by clear w1 w2 w3 w4; omega) hv (by clear w1 w2 w3 w4; omega) (by clear w1 w2 w3 w4; omega) vs.length 0 (Nat.zero_add _)
  rw [List.take_zero, decide_eq_false (by simp)] at fin
  refine Ev.step (fun k => by simp only [crosswaylaw13_OfferHas.j0]; rw [if_neg (by decide), w1, w2, w3, w4]) (Ev.bind q1 (Ev.congr (fun k => by rw [if_pos rfl, if_pos hc]; rfl) fin))
end Go.Proofs.Ytnmhnihhlakinac.Pure
