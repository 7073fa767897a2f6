/- The plain statement of InitialTypes: of a packet's first byte with each type just the one of an Initial is an Initial. -/
import Derived.Test.YtmhmmmkpijbbiadM13
import Derived.Test.YtmhmmmkpijbbiadPuInit
namespace Go.Proofs.Ytmhmmmkpijbbiad.Pure
open Go.RowKit Go.Proofs.YtmhmmmkpijbbiadW.PrintWords Go.Proofs.YtmhmmmkpijbbiadW.PrintMore Go.Proofs.Ytmhmmmkpijbbiad.M Go.Proofs.Ytmhmmmkpijbbiad.Bv Go.Proofs.Ytmhmmmkpijbbiad.PuLib Go.Proofs.Ytmhmmmkpijbbiad.PuHead Go.Proofs.Ytmhmmmkpijbbiad.PuInit
theorem alive_ev : Ev (fun k => crosswaylaw11_alive.f k) true := Ev.of crosswaylaw11_alive.mono (k := 100) (by decide +kernel)
theorem set_first (a c : Int) (x y t r : List Int) : (iEnc a x y t r).set (0 : Int).toNat c = iEnc c x y t r := rfl
theorem rd_first (a : Int) (x y t r : List Int) : rd (iEnc a x y t r) 0 = a := rfl
/-- The first byte of the law's k-th packet. -/
theorem first_byte {low : Int} (l0 : 0 ≤ low) (i : Nat) (hi : i < 4) : (((128 + ((wrap64 (16 * (i : Int))) % 256)) % 256) + (Int.tmod low 16)) % 256 = 128 + 16 * (i : Int) + low % 16 := by
  have hw : wrap64 (16 * (i : Int)) = 16 * (i : Int) := w64_in (16 * (i : Int)) (by omega) (by omega)
  rw [hw, Int.tmod_eq_emod_of_nonneg l0]
  omega
theorem types_l0 {x y t r : List Int} {low : Int} (l0 : 0 ≤ low) (bx : By x) (by_ : By y) (bt : By t) (br : By r) (lx : x.length ≤ 20) (ly : y.length ≤ 20) (lt : t.length ≤ 1000) (lr : r.length ≤ 1000) : ∀ (d i : Nat) (a : Int), i + d = 4 → Ev (fun k => crosswaylaw11_InitialTypes.l0 k x t r low (iEnc a x y t r) (i : Int)) true := by
  intro d
  induction d with
  | zero =>
    intro i a hi
    have hl := iEnc_len a x y t r
    have hm : Int.tmod low 128 = low % 128 := Int.tmod_eq_emod_of_nonneg l0
    have hB : By (iEnc (low % 128) x y t r) := by
      intro z hz
      rcases List.mem_append.1 hz with h | h
      · exact enc_By (by omega) (by omega) bx by_ (by omega) (by omega) z h
      · rcases List.mem_append.1 h with h | h
        · exact tok_By bt z h
        · exact br z h
    have hl2 := iEnc_len (low % 128) x y t r
    have hp := parse_ev (iEnc (low % 128) x y t r) hB (by omega)
    have hr : parseR (iEnc (low % 128) x y t r) = (0, 0, [], [], [], 14) := by
      unfold parseR
      rw [if_pos ⟨by omega, by rw [rd_first]; omega⟩]
    rw [hr] at hp
    have hq : Ev (fun k => initial_Parse.f k (iEnc (low % 128) x y t r)) (0, 0, [], [], [], [], 14) := by
      unfold initial_Parse.f
      exact Ev.bind hp (Ev.congr (f := fun _ => some (0, 0, [], [], [], [], 14)) (fun k => if_neg (by decide)) (Ev.now _))
    exact Ev.step (fun k => by simp only [crosswaylaw11_InitialTypes.l0]; rw [if_neg (by omega), if_pos (by omega), set_first, hm]) (Ev.bind hq (Ev.now _))
  | succ d ih =>
    intro i a hi
    have hl := iEnc_len a x y t r
    have hc : (128 + 16 * (i : Int) + low % 16) / 16 % 4 = (i : Int) := by omega
    have c0 : 128 ≤ 128 + 16 * (i : Int) + low % 16 := by omega
    have c1 : 128 + 16 * (i : Int) + low % 16 < 256 := by omega
    have hn := ih (i + 1) (128 + 16 * (i : Int) + low % 16) (by omega)
    have hp := iparse_ev (a := 128 + 16 * (i : Int) + low % 16) c0 c1 bx by_ bt br lx ly lt lr
    rw [hc] at hp
    have ht := type_eq (a := 128 + 16 * (i : Int) + low % 16) (by omega) c1
    rw [hc] at ht
    have hwu := Aside0.mk (w64_up i (by omega))
    have hf := Aside0.mk (first_byte l0 i (by omega))
    generalize 128 + 16 * (i : Int) + low % 16 = c at hf hp ht hn c0 c1
    have hl2 := iEnc_len c x y t r
    have s1 := same_ev x x (by omega)
    have s2 := same_ev t t (by omega)
    have s3 := same_ev r r (by omega)
    rw [decide_eq_true rfl] at s1 s2 s3
    by_cases h0 : (i : Int) = 0
    · rw [if_pos h0] at hp
      have hb0 : (((0 : Int) == 0) != ((i : Int) == 0)) = false := by rw [h0]; rfl
      refine Ev.step (fun k => by simp only [crosswaylaw11_InitialTypes.l0]; rw [if_pos (by omega), if_pos (by omega), hf.out, set_first, Option.bind_some]) (Ev.bind hp ?_)
      refine Ev.congr (fun k => by rw [rd_first, ht, Option.bind_some, if_pos rfl, hb0, if_neg (by decide), if_pos rfl]) ?_
      refine Ev.step (fun k => by simp only [crosswaylaw11_InitialTypes.j2]; rw [if_neg (by decide), if_pos trivial]) (Ev.bind s1 ?_)
      refine Ev.congr (fun k => if_pos rfl) (Ev.bind s2 ?_)
      refine Ev.congr (fun k => if_pos rfl) (Ev.bind s3 ?_)
      exact Ev.congr (fun k => by rw [if_pos rfl, if_pos (by omega), rd_first, if_pos rfl, hwu.out]) hn
    · rw [if_neg h0] at hp
      have hbn : (((14 : Int) == 0) != ((i : Int) == 0)) = false := by rw [beq_eq_false_iff_ne.mpr h0]; rfl
      refine Ev.step (fun k => by simp only [crosswaylaw11_InitialTypes.l0]; rw [if_pos (by omega), if_pos (by omega), hf.out, set_first, Option.bind_some]) (Ev.bind hp ?_)
      refine Ev.congr (fun k => by rw [rd_first, ht, Option.bind_some, if_pos rfl, hbn, if_neg (by decide), if_neg (by decide)]) ?_
      exact Ev.step (fun k => by simp only [crosswaylaw11_InitialTypes.j2]; rw [if_neg (by decide), if_neg (by decide), hwu.out]) hn
theorem InitialTypes : crosswaylaw11_InitialTypes.Pure := by
  intro x y t r low lx wx ly wy lt wt lr wr wl
  have l0 := (wf_u8 wl).1
  have bx : By x := fun z h => wf_u8 (wx z h)
  have by_ : By y := fun z h => wf_u8 (wy z h)
  have bt : By t := fun z h => wf_u8 (wt z h)
  have br : By r := fun z h => wf_u8 (wr z h)
  refine Ev.rounds (Ev.congr (fun k => rfl) (Ev.bind alive_ev (Ev.congr (fun k => if_pos rfl) ?_)))
  have stop : Ev (fun k => crosswaylaw11_InitialTypes.j0 k x y t r low true) true := Ev.step (f := fun _ => some true) (fun k => by simp only [crosswaylaw11_InitialTypes.j0]; rfl) (Ev.now _)
  by_cases h1 : (x.length : Int) > 20
  · exact Ev.congr (fun k => if_pos h1) stop
  refine Ev.congr (fun k => if_neg h1) ?_
  by_cases h2 : (y.length : Int) > 20
  · exact Ev.congr (fun k => if_pos h2) stop
  refine Ev.congr (fun k => if_neg h2) ?_
  by_cases h3 : (t.length : Int) > 100
  · exact Ev.congr (fun k => if_pos h3) stop
  refine Ev.congr (fun k => if_neg h3) ?_
  by_cases h4 : (r.length : Int) > 100
  · rw [decide_eq_true h4]; exact stop
  rw [decide_eq_false h4]
  have hl := iEnc_len 192 x y t r
  refine Ev.step (fun k => by simp only [crosswaylaw11_InitialTypes.j0]; rw [if_neg (by decide)]) (Ev.bind (imake_ev (by omega) (by omega) (by omega) (by omega)) ?_)
  refine Ev.congr (fun k => by rw [if_pos rfl, if_neg (by dsimp only; omega)]; rfl) (types_l0 l0 bx by_ bt br (by omega) (by omega) (by omega) (by omega) 4 0 192 rfl)
end Go.Proofs.Ytmhmmmkpijbbiad.Pure
