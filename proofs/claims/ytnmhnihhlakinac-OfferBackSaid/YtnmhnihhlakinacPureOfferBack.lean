/- The plain statement of OfferBack: what is made is parsed; an answer to an answer goes forth again. -/
import Derived.Test.YtnmhnihhlakinacM16
import Derived.Test.YtnmhnihhlakinacPuOffer
namespace Go.Proofs.Ytnmhnihhlakinac.Pure
open Go.RowKit Go.Proofs.YtnmhnihhlakinacW.PrintWords Go.Proofs.YtnmhnihhlakinacW.PrintMore Go.Proofs.Ytnmhnihhlakinac.M Go.Proofs.Ytnmhnihhlakinac.Bv Go.Proofs.Ytnmhnihhlakinac.PuLib Go.Proofs.Ytnmhnihhlakinac.PuHead Go.Proofs.Ytnmhnihhlakinac.PuOffer
theorem alive_ev : Ev (fun k => crosswaylaw13_alive.f k) true := Ev.of crosswaylaw13_alive.mono (k := 100) (by decide +kernel)
/-- An offer's bytes. -/
def offB (a : Int) (x y vs : List Int) : List Int := enc (hi a) 0 x y ++ encs vs
theorem make_off {a : Int} {x y vs : List Int} (a0 : 0 ≤ a) (a1 : a < 256) (lx : x.length ≤ 255) (ly : y.length ≤ 255) (h1 : 1 ≤ vs.length) (h64 : vs.length ≤ 64) : makeS a x y vs = (offB a x y vs, 0) := by
  have hh := hi_range a0 a1
  have hb : hbS (hi a) 0 x y = (enc (hi a) 0 x y, 0) := by unfold hbS; rw [if_neg (by omega), if_neg (by omega)]
  unfold makeS offB
  rw [if_neg (by omega), hb, if_pos rfl]
theorem off_By {a : Int} {x y vs : List Int} (a0 : 0 ≤ a) (a1 : a < 256) (bx : By x) (by_ : By y) (lx : x.length ≤ 255) (ly : y.length ≤ 255) : By (offB a x y vs) := by
  have hh := hi_range a0 a1
  intro z hz
  rcases List.mem_append.1 hz with h | h
  · exact enc_By (by omega) hh.2 bx by_ lx ly z h
  · exact encs_By vs z h
theorem off_length (a : Int) (x y vs : List Int) : (offB a x y vs).length = 7 + x.length + y.length + 4 * vs.length := by
  rw [offB, List.length_append, enc_length, PuOffer.encs_length]
theorem parse_off {a : Int} {x y : List Int} (rest : List Int) (a0 : 0 ≤ a) (a1 : a < 256) : parseR (enc (hi a) 0 x y ++ rest) = (hi a, 0, x, y, rest, 0) := by
  have hh := hi_range a0 a1
  exact parse_enc rest hh.1 hh.2 (by omega) (by omega)
theorem offS_off {a : Int} {x y vs : List Int} (a0 : 0 ≤ a) (a1 : a < 256) (hv : Wd vs) (h1 : 1 ≤ vs.length) : offS (offB a x y vs) = (hi a, 0, x, y, vs, 0) := by
  have hl := PuOffer.encs_length vs
  unfold offS offB
  rw [parse_off (encs vs) a0 a1]
  dsimp only
  rw [if_pos rfl, if_pos rfl, if_neg (by omega), decs_encs vs hv]
theorem answer_off {a : Int} {x y vs ws : List Int} (a0 : 0 ≤ a) (a1 : a < 256) (lx : x.length ≤ 255) (ly : y.length ≤ 255) (h1 : 1 ≤ ws.length) (h64 : ws.length ≤ 64) : answerS (offB a x y vs) a ws = (offB a y x ws, 0) := by
  unfold answerS
  rw [show parseR (offB a x y vs) = (hi a, 0, x, y, encs vs, 0) from parse_off (encs vs) a0 a1]
  dsimp only
  rw [if_pos rfl, make_off a0 a1 ly lx h1 h64]
theorem back_l0 {a : Int} {x y vs : List Int} (a0 : 0 ≤ a) (a1 : a < 256) (bx : By x) (by_ : By y) (lx : x.length ≤ 255) (ly : y.length ≤ 255) (hv : Wd vs) (h1 : 1 ≤ vs.length) (h64 : vs.length ≤ 64) : ∀ d i : Nat, i + d = vs.length → Ev (fun k => crosswaylaw13_OfferBack.l0 k a vs (offB a x y vs) (i : Int)) true := by
  have hB := off_By (vs := vs) a0 a1 bx by_ lx ly
  have hB2 := off_By (vs := vs) a0 a1 by_ bx ly lx
  have hlen := off_length a x y vs
  have hlen2 := off_length a y x vs
  intro d
  induction d with
  | zero =>
    intro i hi
    have q1 := answer_ev (vs := vs) hB (by omega) a0 a1 hv (by omega)
    rw [answer_off a0 a1 lx ly h1 h64] at q1
    have q2 := answer_ev (vs := vs) hB2 (by omega) a0 a1 hv (by omega)
    rw [answer_off a0 a1 ly lx h1 h64] at q2
    have s := same_ev (offB a x y vs) (offB a x y vs) (by omega)
    rw [decide_eq_true rfl] at s
    refine Ev.step (fun k => by simp only [crosswaylaw13_OfferBack.l0]; rw [if_neg (by omega)]) (Ev.bind q1 ?_)
    refine Ev.bind q2 ?_
    refine Ev.congr (fun k => by rw [if_pos rfl, if_pos rfl]) (Ev.bind s ?_)
    refine Ev.congr (fun k => if_pos rfl) (ev_eq (Ev.now _) ?_)
    rw [beq_iff_eq]
    dsimp only
    omega
  | succ d ih =>
    intro i hi
    have q := has_ev (rd vs (i : Int)) hB (by omega)
    have hh : hasS (offB a x y vs) (rd vs (i : Int)) = true := by
      unfold hasS
      rw [offS_off a0 a1 hv h1]
      exact decide_eq_true (rd_mem vs i (by omega))
    rw [hh] at q
    exact Ev.step (fun k => by simp only [crosswaylaw13_OfferBack.l0]; rw [if_pos (by omega), if_pos (by omega)]) (Ev.bind q (Ev.congr (fun k => by rw [if_pos rfl, w64_up i (by omega)]) (ih (i + 1) (by omega))))
theorem OfferBack : crosswaylaw13_OfferBack.Pure := by
  intro a x y vs aw xl xw yl yw vl vw
  obtain ⟨a0, a1⟩ := wf_u8 aw
  have bx : By x := fun z h => wf_u8 (xw z h)
  have by_ : By y := fun z h => wf_u8 (yw z h)
  have hv : Wd vs := fun z h => wf_u32 (vw z h)
  refine Ev.rounds (Ev.congr (fun k => rfl) (Ev.bind alive_ev (Ev.congr (fun k => if_pos rfl) ?_)))
  have stop : Ev (fun k => crosswaylaw13_OfferBack.j0 k a x y vs true) true := Ev.step (f := fun _ => some true) (fun k => by simp only [crosswaylaw13_OfferBack.j0]; rfl) (Ev.now _)
  by_cases h2 : (x.length : Int) > 255
  · exact Ev.congr (fun k => if_pos h2) stop
  refine Ev.congr (fun k => if_neg h2) ?_
  by_cases h3 : (y.length : Int) > 255
  · exact Ev.congr (fun k => if_pos h3) stop
  refine Ev.congr (fun k => if_neg h3) ?_
  by_cases h4 : (vs.length : Int) < 1
  · exact Ev.congr (fun k => if_pos h4) stop
  refine Ev.congr (fun k => if_neg h4) ?_
  by_cases h5 : (vs.length : Int) > 64
  · rw [decide_eq_true h5]; exact stop
  rw [decide_eq_false h5]
  have hh := hi_range a0 a1
  have hB := off_By (vs := vs) a0 a1 bx by_ (by omega) (by omega)
  have hlen := off_length a x y vs
  have q1 := make_ev a0 a1 (x := x) (y := y) (by omega) (by omega) hv (by omega)
  rw [make_off a0 a1 (by omega) (by omega) (by omega) (by omega)] at q1
  have q2 := offparse_ev (offB a x y vs) hB (by omega)
  rw [offS_off a0 a1 hv (by omega)] at q2
  have s1 := same_ev x x (by omega)
  have s2 := same_ev y y (by omega)
  have s3 := vsame_ev vs vs (by omega)
  rw [decide_eq_true rfl] at s1 s2 s3
  have hr : rd (offB a x y vs) 0 = hi a := rfl
  have hl : head_Long.f (offB a x y vs) = some true := by
    rw [long_eq _ hB, hr, decide_eq_true (by omega), decide_eq_false (by omega)]
    rfl
  refine Ev.step (fun k => by simp only [crosswaylaw13_OfferBack.j0]; rw [if_neg (by decide)]) (Ev.bind q1 (Ev.bind q2 ?_))
  refine Ev.congr (fun k => by rw [if_pos rfl, if_pos rfl]) (Ev.bind s1 (Ev.congr (fun k => if_pos rfl) (Ev.bind s2 (Ev.congr (fun k => if_pos rfl) (Ev.bind s3 (Ev.congr (fun k => ?_) (back_l0 a0 a1 bx by_ (by omega) (by omega) hv (by omega) (by omega) vs.length 0 (by omega))))))))
  rw [if_pos rfl, if_pos (hi_low a0 a1), hl, Option.bind_some, if_pos rfl]
  rfl
end Go.Proofs.Ytnmhnihhlakinac.Pure
