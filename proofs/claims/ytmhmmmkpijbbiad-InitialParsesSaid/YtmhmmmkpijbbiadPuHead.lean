/- The plain law of head: what is read and written part by part; a header's bytes and back. -/
import Derived.Test.YtmhmmmkpijbbiadPuCat
namespace Go.Proofs.Ytmhmmmkpijbbiad.PuHead
open Go.RowKit Go.Proofs.YtmhmmmkpijbbiadW.PrintWords Go.Proofs.YtmhmmmkpijbbiadW.PrintMore Go.Proofs.Ytmhmmmkpijbbiad.M Go.Proofs.Ytmhmmmkpijbbiad.Bv Go.Proofs.Ytmhmmmkpijbbiad.PuLib Go.Proofs.Ytmhmmmkpijbbiad.PuCat
def By (l : List Int) : Prop := ∀ x ∈ l, 0 ≤ x ∧ x < 256
theorem By.take {l : List Int} (h : By l) (n : Nat) : By (l.take n) := fun x hx => h x (List.mem_of_mem_take hx)
theorem By.drop {l : List Int} (h : By l) (n : Nat) : By (l.drop n) := fun x hx => h x (List.mem_of_mem_drop hx)
theorem b_check {p : Nat → Bool} (h : (List.range 256).all p = true) {x : Int} (h0 : 0 ≤ x) (h1 : x < 256) : p x.toNat = true := List.all_eq_true.1 h x.toNat (List.mem_range.2 (by omega))
theorem long_bit {x : Int} (h0 : 0 ≤ x) (h1 : x < 256) : (Go.bits .and .u8 x 128 == 0) = decide (x < 128) := by
  have h := b_check (p := fun n => (Go.bits .and .u8 (n : Int) 128 == 0) == decide ((n : Int) < 128)) (by decide +kernel) h0 h1
  rw [beq_iff_eq, Int.toNat_of_nonneg h0] at h
  exact h
theorem long_bit2 {x : Int} (h0 : 0 ≤ x) (h1 : x < 256) : (Go.bits .and .u8 x 128 != 0) = !decide (x < 128) := by rw [← long_bit h0 h1]; rfl
/-! ### reading -/
def numR (e : Int) (l : List Int) (size : Int) : Int × Int × List Int := if stays e size 8 l.length = 0 then (numS (l.take size.toNat), 0, l.drop size.toNat) else (0, stays e size 8 l.length, l)
theorem numR_ev (e : Int) (l : List Int) (size : Int) (hb : By l) : Ev (fun k => rdNum k e l size) (numR e l size) := by
  unfold rdNum numR
  by_cases h : stays e size 8 l.length = 0
  · have hs := stays_zero h
    have hn := num_ev (l.take size.toNat) (hb.take _)
    rw [numT, if_neg (by rw [List.length_take]; omega)] at hn
    rw [if_pos h]
    exact Ev.congr (fun k => if_pos h) (Ev.bind hn (Ev.now _))
  · rw [if_neg h]
    exact Ev.congr (fun k => if_neg h) (Ev.now _)
def shortR (e : Int) (l : List Int) : List Int × Int × List Int := if (numR e l 1).1 > ((numR e l 1).2.2.length : Int) then ([], if (numR e l 1).2.1 = 0 then 12 else (numR e l 1).2.1, l) else if (numR e l 1).2.1 = 0 then ((numR e l 1).2.2.take (numR e l 1).1.toNat, 0, (numR e l 1).2.2.drop (numR e l 1).1.toNat) else ([], (numR e l 1).2.1, l)
theorem numR_nonneg (e : Int) (l : List Int) (size : Int) (hb : By l) : 0 ≤ (numR e l size).1 := by
  unfold numR
  split
  · exact (numS_range _ (hb.take _)).1
  · exact Int.le_refl 0
theorem shortR_ev (e : Int) (l : List Int) (hb : By l) : Ev (fun k => rdShort k e l) (shortR e l) := by
  unfold rdShort
  refine Ev.bind (numR_ev e l 1 hb) ?_
  rw [shortR]
  refine Ev.congr (fun k => if_pos (numR_nonneg e l 1 hb)) ?_
  by_cases h : (numR e l 1).1 > ((numR e l 1).2.2.length : Int)
  · rw [if_pos h, if_pos h]; exact Ev.now _
  rw [if_neg h, if_neg h]
  by_cases h2 : (numR e l 1).2.1 = 0
  · rw [if_pos h2, if_pos h2]; exact Ev.now _
  · rw [if_neg h2, if_neg h2]; exact Ev.now _
theorem numR_By {e : Int} {l : List Int} {size : Int} (hb : By l) : By (numR e l size).2.2 := by
  unfold numR
  split
  · exact hb.drop _
  · exact hb
theorem shortR_By {e : Int} {l : List Int} (hb : By l) : By (shortR e l).2.2 := by
  unfold shortR
  split
  · exact hb
  · split
    · exact By.drop (numR_By hb) _
    · exact hb
theorem numR_err {e : Int} (he : e ≠ 0) (l : List Int) (size : Int) : numR e l size = (0, e, l) := by
  unfold numR stays
  rw [if_neg he, if_neg he]
theorem shortR_err {e : Int} (he : e ≠ 0) (l : List Int) : shortR e l = ([], e, l) := by
  unfold shortR
  rw [numR_err he]
  dsimp only
  rw [if_neg (by omega), if_neg he]
theorem numR_end (l : List Int) (n : Nat) (hn : n ≤ 8) (h : l.length < n) : numR 0 l (n : Int) = (0, 12, l) := by
  have hs : stays 0 (n : Int) 8 l.length = 12 := by
    unfold stays chkS
    rw [if_pos rfl, if_neg (by omega), if_pos (by omega)]
  unfold numR
  rw [hs, if_neg (by decide)]
theorem numR_ok (l : List Int) (n : Nat) (hn : n ≤ 8) (h : n ≤ l.length) : numR 0 l (n : Int) = (numS (l.take n), 0, l.drop n) := by
  have hs : stays 0 (n : Int) 8 l.length = 0 := by
    unfold stays chkS
    rw [if_pos rfl, if_neg (by omega), if_neg (by omega)]
  unfold numR
  rw [if_pos hs, Int.toNat_natCast]
theorem numS_one (x : Int) : numS [x] = x := by simp [numS]
theorem shortR_nil : shortR 0 [] = ([], 12, []) := by
  have h := numR_end [] 1 (by omega) (by simp)
  have h1 : ((1 : Nat) : Int) = 1 := rfl
  rw [h1] at h
  unfold shortR
  rw [h]
  rfl
theorem shortR_cons (x : Int) (t : List Int) : shortR 0 (x :: t) = if x > (t.length : Int) then ([], 12, x :: t) else (t.take x.toNat, 0, t.drop x.toNat) := by
  have h := numR_ok (x :: t) 1 (by omega) (by simp)
  have h1 : ((1 : Nat) : Int) = 1 := rfl
  have h2 : (x :: t).take 1 = [x] := rfl
  rw [h1, h2, numS_one] at h
  unfold shortR
  rw [h]
  rfl
theorem rdBytes_all (l : List Int) : rdBytes 0 l (l.length : Int) = (l, 0, []) := by
  have hm : mx (l.length : Int) 0 = l.length := by unfold mx; rw [if_neg (by omega)]
  have hs : stays 0 (l.length : Int) (mx (l.length : Int) 0) l.length = 0 := by
    unfold stays chkS
    rw [if_pos rfl, hm, if_neg (by omega), if_neg (by omega)]
  unfold rdBytes
  rw [if_pos hs, Int.toNat_natCast, List.take_length, List.drop_length]
theorem rdBytes_err {e : Int} (he : e ≠ 0) (l : List Int) (n : Int) : rdBytes e l n = ([], e, l) := by
  unfold rdBytes stays
  rw [if_neg he, if_neg he]
/-! ### a header that is read -/
def parseR (l : List Int) : Int × Int × List Int × List Int × List Int × Int :=
  if 0 < l.length ∧ rd l 0 < 128 then (0, 0, [], [], [], 14) else
    let n1 := numR 0 l 1
    let n2 := numR n1.2.1 n1.2.2 4
    let s1 := shortR n2.2.1 n2.2.2
    let s2 := shortR s1.2.1 s1.2.2
    if (rdBytes s2.2.1 s2.2.2 (s2.2.2.length : Int)).2.1 = 0 then (n1.1 % 256, n2.1 % 4294967296, s1.1, s2.1, (rdBytes s2.2.1 s2.2.2 (s2.2.2.length : Int)).1, 0) else (0, 0, [], [], [], (rdBytes s2.2.1 s2.2.2 (s2.2.2.length : Int)).2.1)
theorem long_eq (l : List Int) (hb : By l) : head_Long.f l = some (decide (0 < l.length) && !decide (rd l 0 < 128)) := by
  unfold head_Long.f
  by_cases h : 0 < l.length
  · have hm := hb _ (rd_mem l 0 h)
    rw [if_pos (by omega), if_pos (by omega)]
    have h0 : rd l ((0 : Nat) : Int) = rd l 0 := rfl
    rw [h0] at hm
    rw [long_bit2 hm.1 hm.2, decide_eq_true h, Bool.true_and]
  · rw [if_neg (by omega), decide_eq_false h, Bool.false_and]
theorem parse_ev (l : List Int) (hb : By l) (hl : l.length ≤ 1000000) : Ev (fun k => head_Parse.f k l) (parseR l) := by
  unfold head_Parse.f
  refine Ev.congr (fun k => by rw [if_pos (by omega), long_eq l hb, Option.bind_some]) ?_
  by_cases h : 0 < l.length ∧ rd l 0 < 128
  · rw [parseR, if_pos h]
    refine Ev.congr (fun k => if_pos ?_) (Ev.now _)
    rw [decide_eq_true h.1, decide_eq_true h.2]
    rfl
  · rw [parseR, if_neg h]
    have b1 : By (numR 0 l 1).2.2 := numR_By hb
    have b2 : By (numR (numR 0 l 1).2.1 (numR 0 l 1).2.2 4).2.2 := numR_By b1
    have b3 := shortR_By (e := (numR (numR 0 l 1).2.1 (numR 0 l 1).2.2 4).2.1) b2
    refine Ev.congr (fun k => if_neg ?_) (Ev.bind (numR_ev 0 l 1 hb) (Ev.bind (numR_ev _ _ 4 b1) (Ev.bind (shortR_ev _ _ b2) (Ev.bind (shortR_ev _ _ b3) ?_))))
    · by_cases h1 : 0 < l.length
      · have h2 : ¬ rd l 0 < 128 := fun h2 => h ⟨h1, h2⟩
        rw [decide_eq_true h1, decide_eq_false h2]
        decide
      · rw [decide_eq_false h1]
        simp
    · dsimp only
      split
      · exact Ev.now _
      · exact Ev.now _
/-- A header's bytes. -/
def enc (a b : Int) (x y : List Int) : List Int := a :: (putL b 4 ++ (((x.length : Int) :: x) ++ ((y.length : Int) :: y)))
theorem parse_enc {a b : Int} {x y : List Int} (rest : List Int) (a0 : 128 ≤ a) (a1 : a < 256) (b0 : 0 ≤ b) (b1 : b < 4294967296) : parseR (enc a b x y ++ rest) = (a, b, x, y, rest, 0) := by
  have e : enc a b x y ++ rest = a :: (putL b 4 ++ ((x.length : Int) :: (x ++ ((y.length : Int) :: (y ++ rest))))) := by simp [enc]
  have hp := putL_length b 4
  have n1 := numR_ok (a :: (putL b 4 ++ ((x.length : Int) :: (x ++ ((y.length : Int) :: (y ++ rest)))))) 1 (by omega) (by simp)
  have h2 : (a :: (putL b 4 ++ ((x.length : Int) :: (x ++ ((y.length : Int) :: (y ++ rest)))))).take 1 = [a] := rfl
  have h3 : (a :: (putL b 4 ++ ((x.length : Int) :: (x ++ ((y.length : Int) :: (y ++ rest)))))).drop 1 = putL b 4 ++ ((x.length : Int) :: (x ++ ((y.length : Int) :: (y ++ rest)))) := rfl
  rw [h2, h3, numS_one] at n1
  have n2 := numR_ok (putL b 4 ++ ((x.length : Int) :: (x ++ ((y.length : Int) :: (y ++ rest))))) 4 (by omega) (by rw [List.length_append]; omega)
  have h4 : (putL b 4 ++ ((x.length : Int) :: (x ++ ((y.length : Int) :: (y ++ rest))))).take 4 = putL b 4 := by rw [List.take_append_of_le_length (by omega), List.take_of_length_le (by omega)]
  have h5 : (putL b 4 ++ ((x.length : Int) :: (x ++ ((y.length : Int) :: (y ++ rest))))).drop 4 = (x.length : Int) :: (x ++ ((y.length : Int) :: (y ++ rest))) := by
    have := List.drop_left (l₁ := putL b 4) (l₂ := (x.length : Int) :: (x ++ ((y.length : Int) :: (y ++ rest))))
    rwa [hp] at this
  have h6 : numS (putL b 4) = b := by rw [numS_putL]; exact Int.emod_eq_of_lt b0 b1
  rw [h4, h5, h6] at n2
  have s1 := shortR_cons (x.length : Int) (x ++ ((y.length : Int) :: (y ++ rest)))
  rw [if_neg (by rw [List.length_append]; omega), Int.toNat_natCast, List.take_left, List.drop_left] at s1
  have s2 := shortR_cons (y.length : Int) (y ++ rest)
  rw [if_neg (by rw [List.length_append]; omega), Int.toNat_natCast, List.take_left, List.drop_left] at s2
  have i1 : ((1 : Nat) : Int) = 1 := rfl
  have i4 : ((4 : Nat) : Int) = 4 := rfl
  rw [i1] at n1
  rw [i4] at n2
  have hr : rd (a :: (putL b 4 ++ ((x.length : Int) :: (x ++ ((y.length : Int) :: (y ++ rest)))))) 0 = a := rfl
  rw [e, parseR, hr, if_neg (by omega), n1]
  dsimp only
  rw [n2]
  dsimp only
  rw [s1]
  dsimp only
  rw [s2]
  dsimp only
  rw [rdBytes_all, if_pos rfl, Int.emod_eq_of_lt (by omega) a1, Int.emod_eq_of_lt b0 b1]
theorem parse_dec {l : List Int} (hb : By l) : (∃ e, e ≠ 0 ∧ parseR l = (0, 0, [], [], [], e)) ∨ ∃ a b x y rest, parseR l = (a, b, x, y, rest, 0) ∧ l = enc a b x y ++ rest ∧ 128 ≤ a ∧ a < 256 ∧ 0 ≤ b ∧ b < 4294967296 ∧ x.length ≤ 255 ∧ y.length ≤ 255 ∧ By x ∧ By y ∧ By rest := by
  have i1 : ((1 : Nat) : Int) = 1 := rfl
  have i4 : ((4 : Nat) : Int) = 4 := rfl
  have fail : ∀ {n1 : Int × Int × List Int} {e : Int}, e ≠ 0 → numR 0 l 1 = n1 → ¬ (0 < l.length ∧ rd l 0 < 128) → (shortR (shortR (numR n1.2.1 n1.2.2 4).2.1 (numR n1.2.1 n1.2.2 4).2.2).2.1 (shortR (numR n1.2.1 n1.2.2 4).2.1 (numR n1.2.1 n1.2.2 4).2.2).2.2).2.1 = e → parseR l = (0, 0, [], [], [], e) := by
    intro n1 e he h1 hk h2
    rw [parseR, if_neg hk, h1]
    dsimp only
    rw [h2, rdBytes_err he, if_neg he]
  cases l with
  | nil =>
    left
    have n1 := numR_end [] 1 (by omega) (by simp)
    rw [i1] at n1
    refine ⟨12, by decide, fail (by decide) n1 (by simp) ?_⟩
    dsimp only
    rw [numR_err (by decide), shortR_err (by decide), shortR_err (by decide)]
  | cons a t =>
    have ha := hb a (List.mem_cons_self)
    have ht : By t := fun z hz => hb z (List.mem_cons_of_mem _ hz)
    by_cases hk : a < 128
    · left
      refine ⟨14, by decide, ?_⟩
      rw [parseR, if_pos ⟨by simp, hk⟩]
    have hk' : ¬ (0 < (a :: t).length ∧ rd (a :: t) 0 < 128) := fun h => hk h.2
    have n1 := numR_ok (a :: t) 1 (by omega) (by simp)
    have h2 : (a :: t).take 1 = [a] := rfl
    have h3 : (a :: t).drop 1 = t := rfl
    rw [i1, h2, h3, numS_one] at n1
    by_cases h4 : t.length < 4
    · left
      have n2 := numR_end t 4 (by omega) h4
      rw [i4] at n2
      refine ⟨12, by decide, fail (by decide) n1 hk' ?_⟩
      dsimp only
      rw [n2]
      dsimp only
      rw [shortR_err (e := 12) (by decide) t]
      dsimp only
      rw [shortR_err (e := 12) (by decide) t]
    have n2 := numR_ok t 4 (by omega) (by omega)
    rw [i4] at n2
    have hB := numS_range (t.take 4) (ht.take 4)
    have hlen4 : (t.take 4).length = 4 := by rw [List.length_take]; omega
    rw [hlen4] at hB
    have hput := putL_numS (t.take 4) (ht.take 4)
    rw [hlen4] at hput
    have htt : t = t.take 4 ++ t.drop 4 := (List.take_append_drop 4 t).symm
    have hX := ht.drop 4
    generalize t.drop 4 = X at n2 htt hX
    cases X with
    | nil =>
      left
      refine ⟨12, by decide, fail (by decide) n1 hk' ?_⟩
      dsimp only
      rw [n2]
      dsimp only
      rw [shortR_nil, shortR_err (by decide)]
    | cons p X =>
      have hp := hX p (List.mem_cons_self)
      have hXX : By X := fun z hz => hX z (List.mem_cons_of_mem _ hz)
      have s1 := shortR_cons p X
      by_cases h5 : p > (X.length : Int)
      · left
        rw [if_pos h5] at s1
        refine ⟨12, by decide, fail (by decide) n1 hk' ?_⟩
        dsimp only
        rw [n2]
        dsimp only
        rw [s1]
        dsimp only
        rw [shortR_err (by decide)]
      rw [if_neg h5] at s1
      obtain ⟨m, rfl⟩ := Int.eq_ofNat_of_zero_le hp.1
      rw [Int.toNat_natCast] at s1
      have hx : X = X.take m ++ X.drop m := (List.take_append_drop m X).symm
      have hxl : (X.take m).length = m := by rw [List.length_take]; omega
      have hbx := hXX.take m
      have hY := hXX.drop m
      generalize X.take m = x at s1 hx hxl hbx
      generalize X.drop m = Y at s1 hx hY
      cases Y with
      | nil =>
        left
        refine ⟨12, by decide, fail (by decide) n1 hk' ?_⟩
        dsimp only
        rw [n2]
        dsimp only
        rw [s1]
        dsimp only
        rw [shortR_nil]
      | cons q Y =>
        have hq := hY q (List.mem_cons_self)
        have hYY : By Y := fun z hz => hY z (List.mem_cons_of_mem _ hz)
        have s2 := shortR_cons q Y
        by_cases h6 : q > (Y.length : Int)
        · left
          rw [if_pos h6] at s2
          refine ⟨12, by decide, fail (by decide) n1 hk' ?_⟩
          dsimp only
          rw [n2]
          dsimp only
          rw [s1]
          dsimp only
          rw [s2]
        rw [if_neg h6] at s2
        obtain ⟨j, rfl⟩ := Int.eq_ofNat_of_zero_le hq.1
        rw [Int.toNat_natCast] at s2
        have hy : Y = Y.take j ++ Y.drop j := (List.take_append_drop j Y).symm
        have hyl : (Y.take j).length = j := by rw [List.length_take]; omega
        have hby := hYY.take j
        have hbr := hYY.drop j
        generalize Y.take j = y at s2 hy hyl hby
        generalize Y.drop j = rest at s2 hy hbr
        right
        have he : a :: t = enc a (numS (t.take 4)) x y ++ rest := by
          rw [enc, hput, hxl, hyl]
          conv => lhs; rw [htt, hx, hy]
          simp
        have hB2 : numS (t.take 4) < 4294967296 := hB.2
        refine ⟨a, numS (t.take 4), x, y, rest, ?_, he, by omega, ha.2, hB.1, hB2, by omega, by omega, hbx, hby, hbr⟩
        rw [he]
        exact parse_enc rest (by omega) ha.2 hB.1 hB2
theorem enc_inj {a b a' b' : Int} {x y x' y' : List Int} (h : enc a b x y = enc a' b' x' y') (a0 : 128 ≤ a) (a1 : a < 256) (b0 : 0 ≤ b) (b1 : b < 4294967296) (a0' : 128 ≤ a') (a1' : a' < 256) (b0' : 0 ≤ b') (b1' : b' < 4294967296) : a = a' ∧ b = b' ∧ x = x' ∧ y = y' := by
  have h1 := parse_enc (x := x) (y := y) [] a0 a1 b0 b1
  have h2 := parse_enc (x := x') (y := y') [] a0' a1' b0' b1'
  rw [h, h2] at h1
  simp only [Prod.mk.injEq] at h1
  exact ⟨h1.1.symm, h1.2.1.symm, h1.2.2.1.symm, h1.2.2.2.1.symm⟩
theorem enc_length (a b : Int) (x y : List Int) : (enc a b x y).length = 7 + x.length + y.length := by
  have := putL_length b 4
  simp [enc]
  omega
theorem enc_By {a b : Int} {x y : List Int} (a0 : 0 ≤ a) (a1 : a < 256) (hx : By x) (hy : By y) (lx : x.length ≤ 255) (ly : y.length ≤ 255) : By (enc a b x y) := by
  intro z hz
  simp only [enc, List.mem_cons, List.mem_append] at hz
  rcases hz with rfl | hz | (rfl | hz) | rfl | hz
  · exact ⟨a0, a1⟩
  · exact putL_bytes b 4 z hz
  · omega
  · exact hx z hz
  · omega
  · exact hy z hz
/-! ### a header that is written -/
theorem putS_small (n : Int) (s : Nat) (hs : s ≤ 8) (_h0 : 0 ≤ n) (h1 : n < 256 ^ s) : putS n (s : Int) = (putL n s, 0) := by rw [putS, Int.toNat_natCast, if_pos ⟨by omega, by omega, h1⟩]
theorem putL1 {x : Int} (h0 : 0 ≤ x) (h1 : x < 256) : putL x 1 = [x] := by
  simp [putL]
  omega
theorem wnum_ev (e : Int) (l : List Int) (n : Int) (s : Nat) (hs : s ≤ 8) (h0 : 0 ≤ n) (h1 : n < 256 ^ s) (hl : l.length ≤ 1000000) : Ev (fun k => wrNum k e l n (s : Int)) (putS2 e 0 l (putL n s)) := by
  have hp := put_ev n (s : Int) h0 (Int.lt_of_lt_of_le h1 (pow256_le s hs))
  rw [putS_small n s hs h0 h1] at hp
  have hlen := putL_length n s
  exact Ev.bind hp (Ev.congr (fun k => if_pos (by show l.length + (putL n s).length ≤ 140737488355328; omega)) (Ev.now _))
theorem wone_ev (e : Int) (l ys : List Int) (hl : l.length ≤ 1000000) (hy : ys.length ≤ 3000) : Ev (fun k => wrOne k e l ys) (putS2 e 0 l ys) := by
  have hj : Ev (fun k => octet_Join.f k [ys]) ys := ev_eq (cat_ev [ys] (by simp) (by intro r hr; simp at hr; subst hr; omega)) (by simp)
  exact Ev.bind hj (Ev.congr (fun k => if_pos (by omega)) (Ev.now _))
theorem putS2_ok (l ys : List Int) : putS2 0 0 l ys = (0, l ++ ys) := rfl
theorem putS2_err {e : Int} (he : e ≠ 0) (e1 : Int) (l ys : List Int) : putS2 e e1 l ys = (e, l) := by
  unfold putS2
  rw [if_neg he, if_neg he]
theorem wshort_ok (l ys : List Int) (hl : l.length ≤ 10000) (hy : ys.length ≤ 255) : Ev (fun k => wrShort k 0 l ys) (0, l ++ ((ys.length : Int) :: ys)) := by
  unfold wrShort
  have h1 := wnum_ev 0 l (ys.length : Int) 1 (by omega) (by omega) (by omega) (by omega)
  rw [putL1 (by omega) (by omega), putS2_ok] at h1
  refine Ev.congr (fun k => if_neg (by omega)) (Ev.bind h1 (ev_eq (wone_ev 0 _ ys (by simp; omega) (by omega)) ?_))
  rw [putS2_ok]
  simp
theorem wshort_long (l ys : List Int) (hl : l.length ≤ 10000) (hy : 255 < ys.length) : Ev (fun k => wrShort k 0 l ys) (15, l) := by
  unfold wrShort
  refine Ev.congr (fun k => if_pos (by omega)) (Ev.congr (fun k => if_pos (by omega)) (ev_eq (Ev.now _) ?_))
  rfl
theorem wshort_err {e : Int} (he : e ≠ 0) (l ys : List Int) (hl : l.length ≤ 10000) (hy : ys.length ≤ 1000) : Ev (fun k => wrShort k e l ys) (e, l) := by
  unfold wrShort
  by_cases h : (ys.length : Int) > 255
  · exact Ev.congr (fun k => if_pos h) (Ev.congr (fun k => if_pos (by omega)) (ev_eq (Ev.now _) (putS2_err he _ _ _)))
  · have h1 := wnum_ev e l (ys.length : Int) 1 (by omega) (by omega) (by omega) (by omega)
    rw [putS2_err he] at h1
    exact Ev.congr (fun k => if_neg h) (Ev.bind h1 (ev_eq (wone_ev e l ys (by omega) (by omega)) (putS2_err he _ _ _)))
def hbS (a b : Int) (x y : List Int) : List Int × Int := if a < 128 then ([], 14) else if x.length > 255 ∨ y.length > 255 then ([], 15) else (enc a b x y, 0)
theorem bytes_ev {a b : Int} {x y : List Int} (a0 : 0 ≤ a) (a1 : a < 256) (b0 : 0 ≤ b) (b1 : b < 4294967296) (hx : x.length ≤ 1000) (hy : y.length ≤ 1000) : Ev (fun k => head_Head_Bytes.f k a b x y) (hbS a b x y) := by
  unfold head_Head_Bytes.f
  by_cases hk : a < 128
  · rw [hbS, if_pos hk]
    exact Ev.congr (fun k => if_pos (by rw [long_bit a0 a1, decide_eq_true hk])) (Ev.now _)
  rw [hbS, if_neg hk]
  have w1 : IntKind.u64.wrap a = a := wrap_id a0 (by omega)
  have w2 : IntKind.u64.wrap b = b := wrap_id b0 (by omega)
  have q1 : Ev (fun k => wrNum k 0 [] a 1) (0, [a]) := by
    have q := wnum_ev 0 [] a 1 (by omega) a0 (by omega) (by simp)
    rw [putL1 a0 a1, putS2_ok, List.nil_append] at q
    exact q
  have q2 : Ev (fun k => wrNum k 0 [a] b 4) (0, [a] ++ putL b 4) := by
    have q := wnum_ev 0 [a] b 4 (by omega) b0 b1 (by simp)
    rw [putS2_ok] at q
    exact q
  have hp := putL_length b 4
  have hl2 : ([a] ++ putL b 4).length = 5 := by rw [List.length_append, hp]; rfl
  refine Ev.congr (fun k => by rw [if_neg (by rw [long_bit a0 a1, decide_eq_false hk]; decide), w1, w2]) (Ev.bind q1 ?_)
  try dsimp only
  refine Ev.bind q2 ?_
  try dsimp only
  by_cases h1 : x.length > 255
  · rw [if_pos (.inl h1)]
    refine Ev.bind (wshort_long ([a] ++ putL b 4) x (by omega) h1) ?_
    refine Ev.bind (wshort_err (e := 15) (by decide) ([a] ++ putL b 4) y (by omega) hy) ?_
    exact Ev.congr (fun k => if_pos (by dsimp only; omega)) (ev_eq (Ev.now _) rfl)
  refine Ev.bind (wshort_ok ([a] ++ putL b 4) x (by omega) (by omega)) ?_
  have hl3 : (([a] ++ putL b 4) ++ ((x.length : Int) :: x)).length = 6 + x.length := by rw [List.length_append, hl2, List.length_cons]; omega
  by_cases h2 : y.length > 255
  · rw [if_pos (.inr h2)]
    refine Ev.bind (wshort_long (([a] ++ putL b 4) ++ ((x.length : Int) :: x)) y (by omega) h2) ?_
    exact Ev.congr (fun k => if_pos (by dsimp only; omega)) (ev_eq (Ev.now _) rfl)
  · rw [if_neg (by omega)]
    refine Ev.bind (wshort_ok (([a] ++ putL b 4) ++ ((x.length : Int) :: x)) y (by omega) (by omega)) ?_
    refine Ev.congr (fun k => if_pos (by dsimp only; rw [List.length_append, hl3, List.length_cons]; omega)) (ev_eq (Ev.now _) ?_)
    simp [enc]
/-! ### headers that are the same -/
theorem strOfNums_inj {l m : List Int} (hl : By l) (hm : By m) : (strOfNums l).toList = (strOfNums m).toList ↔ l = m := by
  constructor
  · intro h
    rw [ByteArray.toList_eq, ByteArray.toList_eq] at h
    have h2 : l.map (fun n => UInt8.ofNat n.toNat) = m.map (fun n => UInt8.ofNat n.toNat) := by simpa [strOfNums] using h
    have h3 : ∀ {z : List Int}, By z → (z.map (fun n => UInt8.ofNat n.toNat)).map (fun b : UInt8 => (b.toNat : Int)) = z := by
      intro z hz
      rw [List.map_map]
      have : z.map ((fun b : UInt8 => (b.toNat : Int)) ∘ fun n => UInt8.ofNat n.toNat) = z.map id := by
        apply List.map_congr_left
        intro x hx
        have := hz x hx
        simp only [Function.comp, id, UInt8.toNat_ofNat']
        omega
      rw [this, List.map_id]
    rw [← h3 hl, ← h3 hm, h2]
  · rintro rfl
    rfl
theorem equal_eq {l m : List Int} (hl : By l) (hm : By m) : bytes_Equal.f l m = some (decide (l = m)) := by
  unfold bytes_Equal.f
  congr 1
  rw [Bool.eq_iff_iff, beq_iff_eq, decide_eq_true_iff, strOfNums_inj hl hm]
theorem same_eq {a b a' b' : Int} {x y x' y' : List Int} (hx : By x) (hy : By y) (hx' : By x') (hy' : By y') : head_Same.f a b x y a' b' x' y' = some (decide (a = a' ∧ b = b' ∧ x = x' ∧ y = y')) := by
  unfold head_Same.f
  by_cases h1 : a = a'
  · by_cases h2 : b = b'
    · rw [if_pos h1, if_pos h2, equal_eq hx hx', Option.bind_some]
      by_cases h3 : x = x'
      · rw [decide_eq_true h3, if_pos rfl, equal_eq hy hy', Option.bind_some]
        congr 1
        rw [decide_eq_decide]
        exact ⟨fun h => ⟨h1, h2, h3, h⟩, fun h => h.2.2.2⟩
      · rw [decide_eq_false h3, if_neg (by decide), decide_eq_false (fun h => h3 h.2.2.1)]
    · rw [if_pos h1, if_neg h2, decide_eq_false (fun h => h2 h.2.1)]
  · rw [if_neg h1, decide_eq_false (fun h => h1 h.1)]
end Go.Proofs.Ytmhmmmkpijbbiad.PuHead
