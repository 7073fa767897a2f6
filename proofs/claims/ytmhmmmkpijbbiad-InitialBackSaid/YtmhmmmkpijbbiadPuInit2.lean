/- The plain law of Initials, cut short: of fewer bytes than up to the token's end the end is told. -/
import Derived.Test.YtmhmmmkpijbbiadPuInit
namespace Go.Proofs.Ytmhmmmkpijbbiad.PuInit
open Go.RowKit Go.Proofs.YtmhmmmkpijbbiadW.PrintWords Go.Proofs.YtmhmmmkpijbbiadW.PrintMore Go.Proofs.Ytmhmmmkpijbbiad.M Go.Proofs.Ytmhmmmkpijbbiad.Bv Go.Proofs.Ytmhmmmkpijbbiad.PuLib Go.Proofs.Ytmhmmmkpijbbiad.PuHead Go.Proofs.Ytmhmmmkpijbbiad.PuVari
theorem take_cut {f : Nat} (h : f < 4) {v : Int} (v0 : 0 ≤ v) (hv : v < lim f) (k : Nat) (hk : k < siz f) : takeV ((putF f v).1.take k) = (0, 0, 12) := by
  have hlen : (putF f v).1.length = siz f := by rw [putF, if_pos hv, putL_length]
  have hl : ((putF f v).1.take k).length = k := by rw [List.length_take]; omega
  unfold takeV
  by_cases c : ((putF f v).1.take k).length = 0
  · rw [if_pos c]
  have hfull := take_putF h v0 hv []
  rw [List.append_nil] at hfull
  have hc : cls ((putF f v).1.take k) = cls (putF f v).1 := by
    unfold cls
    congr 2
    obtain ⟨m, rfl⟩ : ∃ m, k = m + 1 := ⟨k - 1, by omega⟩
    cases hq : (putF f v).1 with
    | nil => rw [hq] at hlen; have := siz_le h; simp at hlen; omega
    | cons x q => rfl
  have hcf : siz (cls (putF f v).1) = siz f := by
    unfold takeV at hfull
    rw [if_neg (by have := siz_le h; omega)] at hfull
    by_cases c2 : (putF f v).1.length < siz (cls (putF f v).1)
    · rw [if_pos c2] at hfull
      simp at hfull
    · rw [if_neg c2] at hfull
      simp only [Prod.mk.injEq] at hfull
      omega
  rw [if_neg c, hc, hcf, hl, if_pos hk]
theorem shortR_cut (x y : List Int) (j : Nat) (hj : j < 2 + x.length + y.length) :
    (rdBytes (shortR (shortR 0 (((((x.length : Int) :: x) ++ ((y.length : Int) :: y))).take j)).2.1 (shortR 0 (((((x.length : Int) :: x) ++ ((y.length : Int) :: y))).take j)).2.2).2.1 (shortR (shortR 0 (((((x.length : Int) :: x) ++ ((y.length : Int) :: y))).take j)).2.1 (shortR 0 (((((x.length : Int) :: x) ++ ((y.length : Int) :: y))).take j)).2.2).2.2 ((shortR (shortR 0 (((((x.length : Int) :: x) ++ ((y.length : Int) :: y))).take j)).2.1 (shortR 0 (((((x.length : Int) :: x) ++ ((y.length : Int) :: y))).take j)).2.2).2.2.length : Int)).2.1 = 12 := by
  have fin : ∀ (a b : List Int), shortR 0 a = ([], 12, b) → (rdBytes (shortR (shortR 0 a).2.1 (shortR 0 a).2.2).2.1 (shortR (shortR 0 a).2.1 (shortR 0 a).2.2).2.2 ((shortR (shortR 0 a).2.1 (shortR 0 a).2.2).2.2.length : Int)).2.1 = 12 := fun a b h => by
    rw [h]
    dsimp only
    rw [shortR_err (e := 12) (by decide)]
    dsimp only
    rw [rdBytes_err (e := 12) (by decide)]
  cases j with
  | zero => exact fin _ [] (by rw [List.take_zero]; exact shortR_nil)
  | succ j =>
    rw [List.cons_append, List.take_succ_cons]
    by_cases h1 : j < x.length
    · exact fin _ _ ((shortR_cons _ _).trans (if_pos (by rw [List.length_take, List.length_append, List.length_cons]; omega)))
    · obtain ⟨j, rfl⟩ := Nat.exists_eq_add_of_le (Nat.le_of_not_lt h1)
      have e1 : (x ++ ((y.length : Int) :: y)).take (x.length + j) = x ++ ((y.length : Int) :: y).take j := by
        rw [List.take_append, List.take_of_length_le (by omega), Nat.add_sub_cancel_left]
      rw [e1]
      have e2 : shortR 0 ((x.length : Int) :: (x ++ ((y.length : Int) :: y).take j)) = (x, 0, ((y.length : Int) :: y).take j) := by
        rw [shortR_cons, if_neg (by rw [List.length_append]; omega), Int.toNat_natCast, List.take_left, List.drop_left]
      rw [e2]
      dsimp only
      cases j with
      | zero =>
        rw [List.take_zero, shortR_nil]
        dsimp only
        rw [rdBytes_err (e := 12) (by decide)]
      | succ j =>
        rw [List.take_succ_cons, shortR_cons, if_pos (by rw [List.length_take]; omega)]
        dsimp only
        rw [rdBytes_err (e := 12) (by decide)]
/-- A header cut short. -/
theorem parse_cut {a : Int} {x y : List Int} (a0 : 128 ≤ a) (j : Nat) (hj : j < (enc a 1 x y).length) : (parseR ((enc a 1 x y).take j)).2.2.2.2.2 = 12 := by
  rw [enc_length] at hj
  have fin : ∀ l : List Int, ¬ (0 < l.length ∧ rd l 0 < 128) → (rdBytes (shortR (shortR (numR (numR 0 l 1).2.1 (numR 0 l 1).2.2 4).2.1 (numR (numR 0 l 1).2.1 (numR 0 l 1).2.2 4).2.2).2.1 (shortR (numR (numR 0 l 1).2.1 (numR 0 l 1).2.2 4).2.1 (numR (numR 0 l 1).2.1 (numR 0 l 1).2.2 4).2.2).2.2).2.1 (shortR (shortR (numR (numR 0 l 1).2.1 (numR 0 l 1).2.2 4).2.1 (numR (numR 0 l 1).2.1 (numR 0 l 1).2.2 4).2.2).2.1 (shortR (numR (numR 0 l 1).2.1 (numR 0 l 1).2.2 4).2.1 (numR (numR 0 l 1).2.1 (numR 0 l 1).2.2 4).2.2).2.2).2.2 ((shortR (shortR (numR (numR 0 l 1).2.1 (numR 0 l 1).2.2 4).2.1 (numR (numR 0 l 1).2.1 (numR 0 l 1).2.2 4).2.2).2.1 (shortR (numR (numR 0 l 1).2.1 (numR 0 l 1).2.2 4).2.1 (numR (numR 0 l 1).2.1 (numR 0 l 1).2.2 4).2.2).2.2).2.2.length : Int)).2.1 = 12 → (parseR l).2.2.2.2.2 = 12 := fun l h1 h2 => by
    rw [parseR, if_neg h1]
    dsimp only
    rw [if_neg (by rw [h2]; decide)]
    exact h2
  cases j with
  | zero =>
    rw [List.take_zero]
    refine fin [] (by simp) ?_
    have e := numR_end [] 1 (by omega) (by simp)
    rw [show ((1 : Nat) : Int) = 1 from rfl] at e
    rw [e]
    dsimp only
    rw [numR_err (e := 12) (by decide)]
    dsimp only
    rw [shortR_err (e := 12) (by decide)]
    dsimp only
    rw [shortR_err (e := 12) (by decide)]
    dsimp only
    rw [rdBytes_err (e := 12) (by decide)]
  | succ j =>
    rw [enc, List.take_succ_cons]
    refine fin _ (by rintro ⟨_, h⟩; rw [show rd (a :: List.take j (putL 1 4 ++ (((x.length : Int) :: x) ++ ((y.length : Int) :: y)))) 0 = a from rfl] at h; omega) ?_
    have e := numR_ok (a :: List.take j (putL 1 4 ++ (((x.length : Int) :: x) ++ ((y.length : Int) :: y)))) 1 (by omega) (by simp)
    rw [show ((1 : Nat) : Int) = 1 from rfl, show ∀ l : List Int, (a :: l).drop 1 = l from fun _ => rfl] at e
    rw [e]
    dsimp only
    have h4 : (putL 1 4).length = 4 := putL_length _ _
    by_cases h : j < 4
    · have e4 := numR_end (List.take j (putL 1 4 ++ (((x.length : Int) :: x) ++ ((y.length : Int) :: y)))) 4 (by omega) (by rw [List.length_take]; omega)
      rw [show ((4 : Nat) : Int) = 4 from rfl] at e4
      rw [e4]
      dsimp only
      rw [shortR_err (e := 12) (by decide)]
      dsimp only
      rw [shortR_err (e := 12) (by decide)]
      dsimp only
      rw [rdBytes_err (e := 12) (by decide)]
    · obtain ⟨j, rfl⟩ := Nat.exists_eq_add_of_le (Nat.le_of_not_lt h)
      have e1 : List.take (4 + j) (putL 1 4 ++ (((x.length : Int) :: x) ++ ((y.length : Int) :: y))) = putL 1 4 ++ List.take j (((x.length : Int) :: x) ++ ((y.length : Int) :: y)) := by
        rw [List.take_append, List.take_of_length_le (by omega), h4, Nat.add_sub_cancel_left]
      rw [e1]
      have e4 := numR_ok (putL 1 4 ++ List.take j (((x.length : Int) :: x) ++ ((y.length : Int) :: y))) 4 (by omega) (by rw [List.length_append]; omega)
      rw [show ((4 : Nat) : Int) = 4 from rfl, List.drop_left' h4] at e4
      rw [e4]
      dsimp only
      exact shortR_cut x y j (by omega)
/-- A token cut short. -/
theorem rdlong_cut {t : List Int} (ht : By t) (hl : t.length ≤ 1000) (m : Nat) (hm : m < (tok t).length) : Ev (fun k => rdLong k 0 ((tok t).take m)) ([], 12, (tok t).take m) := by
  have hn := form_small (n := (t.length : Int)) (by omega)
  have hps := putV_small (n := (t.length : Int)) (by omega)
  have hpl : (putF (form (t.length : Int)) (t.length : Int)).1.length = siz (form (t.length : Int)) := by
    unfold putF
    rw [if_pos (form_lt hn)]
    exact putL_length _ _
  have hB : By ((tok t).take m) := (tok_By ht).take m
  have htk := take_ev ((tok t).take m) hB (by have := tok_len t; rw [List.length_take]; omega)
  have e : tok t = (putF (form (t.length : Int)) (t.length : Int)).1 ++ t := by rw [tok, hps]
  have s0 := siz_le hn
  by_cases hc : m < siz (form (t.length : Int))
  · have e1 : (tok t).take m = (putF (form (t.length : Int)) (t.length : Int)).1.take m := by
      rw [e, List.take_append_of_le_length (by omega)]
    have hv : takeV ((tok t).take m) = (0, 0, 12) := by rw [e1]; exact take_cut hn (by omega) (form_lt hn) m hc
    rw [hv] at htk
    have h1 : Ev (fun k => rdVari k 0 ((tok t).take m)) (0, 12, (tok t).take m) := by
      unfold rdVari
      refine Ev.bind htk (Ev.congr (f := fun _ => some ((0 : Int), (12 : Int), (tok t).take m)) (fun k => ?_) (Ev.now _))
      dsimp only
      rw [if_pos rfl, if_neg (by decide)]
    unfold rdLong
    refine Ev.bind h1 (Ev.congr (f := fun _ => some (([] : List Int), (12 : Int), (tok t).take m)) (fun k => ?_) (Ev.now _))
    dsimp only
    rw [if_pos (by omega), if_neg (by omega), if_neg (by decide)]
  · obtain ⟨m, rfl⟩ := Nat.exists_eq_add_of_le (Nat.le_of_not_lt hc)
    have hmt : m < t.length := by rw [e, List.length_append, hpl] at hm; omega
    have e1 : (tok t).take (siz (form (t.length : Int)) + m) = (putF (form (t.length : Int)) (t.length : Int)).1 ++ t.take m := by
      rw [e, List.take_append, List.take_of_length_le (by omega), hpl, Nat.add_sub_cancel_left]
    rw [e1] at htk ⊢
    have htv := take_putF (f := form (t.length : Int)) hn (v := (t.length : Int)) (by omega) (form_lt hn) (t.take m)
    rw [htv] at htk
    have h1 : Ev (fun k => rdVari k 0 ((putF (form (t.length : Int)) (t.length : Int)).1 ++ t.take m)) ((t.length : Int), 0, t.take m) := by
      unfold rdVari
      refine Ev.bind htk (ev_eq (Ev.congr (f := fun _ => some ((t.length : Int), (0 : Int), ((putF (form (t.length : Int)) (t.length : Int)).1 ++ t.take m).drop (siz (form (t.length : Int))))) (fun k => ?_) (Ev.now _)) ?_)
      · dsimp only
        rw [if_pos rfl, if_pos rfl, if_pos ⟨by omega, by rw [List.length_append, hpl]; omega⟩, Int.toNat_natCast]
      · rw [← hpl, List.drop_left]
    unfold rdLong
    refine Ev.bind h1 (Ev.congr (f := fun _ => some (([] : List Int), (12 : Int), (putF (form (t.length : Int)) (t.length : Int)).1 ++ t.take m)) (fun k => ?_) (Ev.now _))
    dsimp only
    rw [if_pos (by omega), if_pos (by rw [List.length_take]; omega), if_pos rfl]
/-- An Initial cut short. -/
theorem iparse_cut {x y t z : List Int} (bx : By x) (by_ : By y) (bt : By t) (bz : By z) (lx : x.length ≤ 20) (ly : y.length ≤ 20) (lt : t.length ≤ 1000) (lz : z.length ≤ 3000) (j : Nat) (hj : j < (iEnc 192 x y t z).length - z.length) :
    Ev (fun k => (initial_Parse.f k ((iEnc 192 x y t z).take j)).map (fun p => p.2.2.2.2.2.2)) 12 := by
  have hl := iEnc_len 192 x y t z
  have hle : (iEnc 192 x y t z).length = (enc 192 1 x y).length + ((tok t).length + z.length) := by rw [iEnc, List.length_append, List.length_append]
  have hB : By (iEnc 192 x y t z) := by
    intro v hv
    rcases List.mem_append.1 hv with h | h
    · exact enc_By (by omega) (by omega) bx by_ (by omega) (by omega) v h
    · rcases List.mem_append.1 h with h | h
      · exact tok_By bt v h
      · exact bz v h
  have hp := parse_ev ((iEnc 192 x y t z).take j) (hB.take j) (by rw [List.length_take]; omega)
  have key : Ev (fun k => initial_Parse.f k ((iEnc 192 x y t z).take j)) (0, 0, [], [], [], [], 12) := by
    unfold initial_Parse.f
    by_cases hc : j < (enc 192 1 x y).length
    · have e : (iEnc 192 x y t z).take j = (enc 192 1 x y).take j := by rw [iEnc, List.take_append_of_le_length (by omega)]
      have h12 := parse_cut (x := x) (y := y) (by decide : (128 : Int) ≤ 192) j hc
      rw [e] at hp ⊢
      generalize parseR ((enc 192 1 x y).take j) = P at hp h12
      obtain ⟨p1, p2, p3, p4, p5, p6⟩ := P
      dsimp only at h12
      subst h12
      refine Ev.bind hp (Ev.congr (f := fun _ => some (0, 0, [], [], [], [], 12)) (fun k => ?_) (Ev.now _))
      dsimp only
      rw [if_neg (by decide)]
    · obtain ⟨m, rfl⟩ := Nat.exists_eq_add_of_le (Nat.le_of_not_lt hc)
      have hm : m < (tok t).length := by omega
      have e : (iEnc 192 x y t z).take ((enc 192 1 x y).length + m) = enc 192 1 x y ++ (tok t).take m := by
        rw [iEnc, List.take_append, List.take_of_length_le (by omega), Nat.add_sub_cancel_left, List.take_append_of_le_length (by omega)]
      rw [e] at hp ⊢
      rw [show parseR (enc 192 1 x y ++ (tok t).take m) = (192, 1, x, y, (tok t).take m, 0) from parse_enc ((tok t).take m) (by decide) (by decide) (by omega) (by omega)] at hp
      have hck := check_ev (a := 192) (b := 1) (x := x) (y := y) (by omega) (by omega)
      rw [show checkS 192 1 x y = 0 by unfold checkS; rw [if_neg (by omega), if_neg (by omega)]] at hck
      have htl := tok_len t
      refine Ev.bind hp (Ev.congr (fun k => if_pos rfl) (Ev.bind hck ?_))
      refine Ev.congr (fun k => by rw [if_pos rfl, if_pos (by dsimp only; rw [List.length_take]; omega)]) (Ev.bind (rdlong_cut bt lt m hm) (ev_eq (Ev.now _) ?_))
      dsimp only
      rw [rdBytes_err (e := 12) (by decide)]
      dsimp only
      rw [if_neg (by decide)]
  obtain ⟨k0, hk⟩ := key
  exact ⟨k0, fun k h => by
    have h1 : initial_Parse.f k ((iEnc 192 x y t z).take j) = some (0, 0, [], [], [], [], 12) := hk k h
    show (initial_Parse.f k ((iEnc 192 x y t z).take j)).map _ = some 12
    rw [h1]
    rfl⟩
end Go.Proofs.Ytmhmmmkpijbbiad.PuInit
