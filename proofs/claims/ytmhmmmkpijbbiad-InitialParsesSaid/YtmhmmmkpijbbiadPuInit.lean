/- The plain law of Initials: a token behind its count; an Initial's bytes, and what is parsed of them. -/
import Derived.Test.YtmhmmmkpijbbiadPuHead2
import Derived.Test.YtmhmmmkpijbbiadPuVari
namespace Go.Proofs.Ytmhmmmkpijbbiad.PuInit
open Go.RowKit Go.Proofs.YtmhmmmkpijbbiadW.PrintWords Go.Proofs.YtmhmmmkpijbbiadW.PrintMore Go.Proofs.Ytmhmmmkpijbbiad.M Go.Proofs.Ytmhmmmkpijbbiad.Bv Go.Proofs.Ytmhmmmkpijbbiad.PuLib Go.Proofs.Ytmhmmmkpijbbiad.PuHead Go.Proofs.Ytmhmmmkpijbbiad.PuVari
/-- Bytes behind their count. -/
def tok (t : List Int) : List Int := (putV (t.length : Int)).1 ++ t
theorem form_small {n : Int} (h : n < 1073741824) : form n < 4 := by
  unfold form
  by_cases h1 : n < 64
  · rw [if_pos h1]; decide
  rw [if_neg h1]
  by_cases h2 : n < 16384
  · rw [if_pos h2]; decide
  rw [if_neg h2, if_pos h]
  decide
theorem putV_small {n : Int} (h : n < 1073741824) : putV n = ((putF (form n) n).1, 0) := by
  have hf := form_small h
  have h0 := (putF_ok (f := form n) (v := n)).2 (form_lt hf)
  unfold putV
  rw [if_pos hf]
  exact Prod.ext rfl h0
theorem row_one {n : Int} (h0 : 0 ≤ n) (h : n < 1073741824) : Ev (fun k => vari_Row.f k [n]) ((putV n).1, 0) := by
  have hr := row_ev [n] (by intro v hv; simp at hv; subst hv; omega) (by simp)
  have e : rowV [] [n] = ((putV n).1, 0) := by
    have hp : (putV n).2 = 0 := by rw [putV_small h]
    simp [rowV, hp]
  rw [e] at hr
  exact hr
theorem tok_len (t : List Int) : (tok t).length ≤ 8 + t.length := by
  have := putV_len (t.length : Int)
  rw [tok, List.length_append]
  omega
theorem tok_By {t : List Int} (ht : By t) : By (tok t) := by
  intro z hz
  rcases List.mem_append.1 hz with h | h
  · exact putV_bytes _ z h
  · exact ht z h
theorem wlong_ev (l t : List Int) (hl : l.length ≤ 10000) (ht : t.length ≤ 1000) : Ev (fun k => wrLong k 0 l t) (0, l ++ tok t) := by
  have h1 := row_one (n := (t.length : Int)) (by omega) (by omega)
  have h2 := putV_len (t.length : Int)
  unfold wrLong
  refine Ev.congr (fun k => if_pos (by omega)) ?_
  have hv : Ev (fun k => wrVari k 0 l (t.length : Int)) (0, l ++ (putV (t.length : Int)).1) := by
    unfold wrVari
    refine Ev.bind h1 (Ev.congr (fun k => if_pos (by dsimp only; omega)) (ev_eq (Ev.now _) ?_))
    rfl
  refine Ev.bind hv (ev_eq (wone_ev 0 _ t (by rw [List.length_append]; omega) (by omega)) ?_)
  rw [putS2_ok, tok, List.append_assoc]
theorem rdlong_ev {t rest : List Int} (ht : By t) (hr : By rest) (hl : t.length ≤ 1000) (hl2 : rest.length ≤ 100000) : Ev (fun k => rdLong k 0 (tok t ++ rest)) (t, 0, rest) := by
  have hn := form_small (n := (t.length : Int)) (by omega)
  have hB : By (tok t ++ rest) := by
    intro z hz
    rcases List.mem_append.1 hz with h | h
    · exact tok_By ht z h
    · exact hr z h
  have hlen := tok_len t
  have htk := take_ev (tok t ++ rest) hB (by rw [List.length_append]; omega)
  have hps := putV_small (n := (t.length : Int)) (by omega)
  have e : tok t ++ rest = (putF (form (t.length : Int)) (t.length : Int)).1 ++ (t ++ rest) := by rw [tok, hps, List.append_assoc]
  have htv : takeV (tok t ++ rest) = ((t.length : Int), ((siz (form (t.length : Int)) : Nat) : Int), 0) := by
    rw [e]
    exact take_putF hn (by omega) (form_lt hn) (t ++ rest)
  rw [htv] at htk
  have hpl : (putF (form (t.length : Int)) (t.length : Int)).1.length = siz (form (t.length : Int)) := by
    unfold putF
    rw [if_pos (form_lt hn)]
    exact putL_length _ _
  have hv : Ev (fun k => rdVari k 0 (tok t ++ rest)) ((t.length : Int), 0, t ++ rest) := by
    unfold rdVari
    refine Ev.bind htk (ev_eq (Ev.congr (f := fun _ => some ((t.length : Int), (0 : Int), (tok t ++ rest).drop (siz (form (t.length : Int))))) (fun k => ?_) (Ev.now _)) ?_)
    · dsimp only
      rw [if_pos rfl, if_pos rfl, if_pos ⟨by omega, by rw [e, List.length_append, hpl]; omega⟩, Int.toNat_natCast]
    · rw [e, ← hpl, List.drop_left]
  unfold rdLong
  refine Ev.bind hv (ev_eq (Ev.congr (f := fun _ => some ((t ++ rest).take t.length, (0 : Int), (t ++ rest).drop t.length)) (fun k => ?_) (Ev.now _)) ?_)
  · dsimp only
    rw [if_pos (by omega), if_neg (by rw [List.length_append]; omega), if_pos rfl, Int.toNat_natCast]
  · rw [List.take_left, List.drop_left]
/-! ### check -/
theorem type_eq {a : Int} (a0 : 0 ≤ a) (a1 : a < 256) : initial_Type.f a = some (a / 16 % 4) := by
  have h := b_check (p := fun n => wrap64 (Go.bits .and .u8 ((n : Int) / 16) 3) == (n : Int) / 16 % 4) (by decide +kernel) a0 a1
  rw [beq_iff_eq, Int.toNat_of_nonneg a0] at h
  unfold initial_Type.f
  rw [h]
def checkS (a b : Int) (x y : List Int) : Int := if a < 128 ∨ b ≠ 1 ∨ a / 16 % 4 ≠ 0 then 14 else if x.length > 20 ∨ y.length > 20 then 15 else 0
theorem check_ev {a b : Int} {x y : List Int} (a0 : 0 ≤ a) (a1 : a < 256) : Ev (fun k => initial_check.f k a b x y) (checkS a b x y) := by
  have hL := long_eq [a] (fun z hz => by simp at hz; subst hz; exact ⟨a0, a1⟩)
  have hr : rd [a] 0 = a := rfl
  rw [hr, decide_eq_true (by simp), Bool.true_and] at hL
  have stop : Ev (fun k => initial_check.j0 k true a b x y) 14 := Ev.step (f := fun _ => some 14) (fun k => by simp only [initial_check.j0]; rfl) (Ev.now _)
  unfold initial_check.f checkS
  by_cases h1 : a < 128
  · rw [if_pos (.inl h1)]
    exact Ev.congr (fun k => by rw [hL, decide_eq_true h1, Option.bind_some, if_neg (by decide)]) stop
  by_cases h2 : b = 1
  · by_cases h3 : a / 16 % 4 = 0
    · rw [if_neg (by omega)]
      refine Ev.congr (fun k => by rw [hL, decide_eq_false h1, Option.bind_some, if_pos (by rfl), if_pos h2, type_eq a0 a1, Option.bind_some, h3]) ?_
      by_cases h4 : x.length > 20 ∨ y.length > 20
      · rw [if_pos h4]
        exact Ev.step (f := fun _ => some 15) (fun k => by simp only [initial_check.j0]; rw [if_neg (by decide), if_pos (by unfold mx; split <;> omega)]) (Ev.now _)
      · rw [if_neg h4]
        exact Ev.step (f := fun _ => some 0) (fun k => by simp only [initial_check.j0]; rw [if_neg (by decide), if_neg (by unfold mx; split <;> omega)]) (Ev.now _)
    · rw [if_pos (.inr (.inr h3))]
      refine Ev.congr (fun k => by rw [hL, decide_eq_false h1, Option.bind_some, if_pos (by rfl), if_pos h2, type_eq a0 a1, Option.bind_some, bne_iff_ne.mpr h3]) stop
  · rw [if_pos (.inr (.inl h2))]
    exact Ev.congr (fun k => by rw [hL, decide_eq_false h1, Option.bind_some, if_pos (by rfl), if_neg h2]) stop
/-! ### an Initial's bytes -/
def iEnc (a : Int) (x y t r : List Int) : List Int := enc a 1 x y ++ (tok t ++ r)
theorem ibytes_ev {x y t r : List Int} (lx : x.length ≤ 20) (ly : y.length ≤ 20) (lt : t.length ≤ 1000) (lr : r.length ≤ 3000) : Ev (fun k => initial_Initial_Bytes.f k 192 1 x y t r) (iEnc 192 x y t r, 0) := by
  have hc : checkS 192 1 x y = 0 := by unfold checkS; rw [if_neg (by omega), if_neg (by omega)]
  have h1 := check_ev (a := 192) (b := 1) (x := x) (y := y) (by omega) (by omega)
  rw [hc] at h1
  have h2 := bytes_ev (a := 192) (b := 1) (x := x) (y := y) (by omega) (by omega) (by omega) (by omega) (by omega) (by omega)
  rw [hbS, if_neg (by omega), if_neg (by omega)] at h2
  have hlen := enc_length 192 1 x y
  have htl := tok_len t
  have h3 := wone_ev 0 [] (enc 192 1 x y) (by simp) (by omega)
  rw [putS2_ok, List.nil_append] at h3
  have h4 := wlong_ev (enc 192 1 x y) t (by omega) lt
  have h5 := wone_ev 0 (enc 192 1 x y ++ tok t) r (by rw [List.length_append]; omega) lr
  rw [putS2_ok] at h5
  unfold initial_Initial_Bytes.f
  refine Ev.bind h1 (Ev.congr (fun k => if_pos rfl) (Ev.bind h2 ?_))
  refine Ev.bind h3 (Ev.bind h4 (Ev.bind h5 (ev_eq (Ev.congr (f := fun _ => some ((enc 192 1 x y ++ tok t) ++ r, (0 : Int))) (fun k => ?_) (Ev.now _)) ?_)))
  · dsimp only
    rw [if_pos (by rw [List.length_append, List.length_append]; omega), if_pos rfl]
  · rw [iEnc, List.append_assoc]
theorem iEnc_len (a : Int) (x y t r : List Int) : (iEnc a x y t r).length ≤ 15 + x.length + y.length + t.length + r.length ∧ 7 ≤ (iEnc a x y t r).length := by
  have := enc_length a 1 x y
  have := tok_len t
  rw [iEnc, List.length_append, List.length_append]
  omega
theorem imake_ev {x y t r : List Int} (lx : x.length ≤ 20) (ly : y.length ≤ 20) (lt : t.length ≤ 1000) (lr : r.length ≤ 1000) : Ev (fun k => initial_Make.f k x y t r 0) (iEnc 192 x y t r, 0) := by
  have hl := iEnc_len 192 x y t r
  have hm : wrap64 (mx 0 ((iEnc 192 x y t r).length : Int) - ((iEnc 192 x y t r).length : Int)) = 0 := by
    have : mx 0 ((iEnc 192 x y t r).length : Int) = ((iEnc 192 x y t r).length : Int) := by unfold mx; rw [if_pos (by omega)]
    rw [this, Int.sub_self]
    exact w64_in 0 (by omega) (by omega)
  unfold initial_Make.f
  refine Ev.congr (fun k => if_neg (by omega)) (Ev.bind (ibytes_ev lx ly lt (by omega)) (ev_eq (Ev.congr (f := fun _ => some (iEnc 192 x y t r ++ List.replicate (0 : Int).toNat 0, (0 : Int))) (fun k => ?_) (Ev.now _)) ?_))
  · dsimp only
    rw [if_pos rfl, hm, if_pos (Int.le_refl _), if_pos (by show _ + 0 < _; omega)]
  · simp
theorem iparse_ev {a : Int} {x y t r : List Int} (a0 : 128 ≤ a) (a1 : a < 256) (bx : By x) (by_ : By y) (bt : By t) (br : By r) (lx : x.length ≤ 20) (ly : y.length ≤ 20) (lt : t.length ≤ 1000) (lr : r.length ≤ 3000) : Ev (fun k => initial_Parse.f k (iEnc a x y t r)) (if a / 16 % 4 = 0 then (a, 1, x, y, t, r, 0) else (0, 0, [], [], [], [], 14)) := by
  have hl := iEnc_len a x y t r
  have hB : By (iEnc a x y t r) := by
    intro z hz
    rcases List.mem_append.1 hz with h | h
    · exact enc_By (by omega) a1 bx by_ (by omega) (by omega) z h
    · rcases List.mem_append.1 h with h | h
      · exact tok_By bt z h
      · exact br z h
  have hp := parse_ev (iEnc a x y t r) hB (by omega)
  rw [show parseR (iEnc a x y t r) = (a, 1, x, y, tok t ++ r, 0) from parse_enc (tok t ++ r) a0 a1 (by omega) (by omega)] at hp
  have hc := check_ev (a := a) (b := 1) (x := x) (y := y) (by omega) a1
  have hql := tok_len t
  unfold initial_Parse.f
  refine Ev.bind hp (Ev.congr (fun k => if_pos rfl) (Ev.bind hc ?_))
  by_cases h : a / 16 % 4 = 0
  · have e : checkS a 1 x y = 0 := by unfold checkS; rw [if_neg (by omega), if_neg (by omega)]
    rw [if_pos h, e]
    refine Ev.congr (fun k => by rw [if_pos rfl, if_pos (by dsimp only; rw [List.length_append]; omega)]) (Ev.bind (rdlong_ev bt br lt (by omega)) (ev_eq (Ev.now _) ?_))
    dsimp only
    rw [rdBytes_all, if_pos rfl]
  · have e : checkS a 1 x y = 14 := by unfold checkS; rw [if_pos (.inr (.inr h))]
    rw [if_neg h, e]
    exact Ev.congr (f := fun _ => some (0, 0, [], [], [], [], 14)) (fun k => if_neg (by decide)) (Ev.now _)
end Go.Proofs.Ytmhmmmkpijbbiad.PuInit
