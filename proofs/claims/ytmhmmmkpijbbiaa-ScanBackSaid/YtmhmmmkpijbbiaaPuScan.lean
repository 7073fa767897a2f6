/- The plain law of scan's readers: the program's and the document's tell the same. -/
import Derived.Test.YtmhmmmkpijbbiaaPuVari
import Derived.Test.YtmhmmmkpijbbiaaScanAlive
namespace Go.Proofs.Ytmhmmmkpijbbiaa.PuScan
open Go.RowKit Go.Proofs.YtmhmmmkpijbbiaaW.PrintWords Go.Proofs.YtmhmmmkpijbbiaaW.PrintMore Go.Proofs.Ytmhmmmkpijbbiaa.M Go.Proofs.Ytmhmmmkpijbbiaa.Bv Go.Proofs.Ytmhmmmkpijbbiaa.PuLib Go.Proofs.Ytmhmmmkpijbbiaa.PuVari
def By (l : List Int) : Prop := ∀ x ∈ l, 0 ≤ x ∧ x < 256
theorem By.take {l : List Int} (h : By l) (n : Nat) : By (l.take n) := fun x hx => h x (List.mem_of_mem_take hx)
theorem By.drop {l : List Int} (h : By l) (n : Nat) : By (l.drop n) := fun x hx => h x (List.mem_of_mem_drop hx)
/-! ### reading -/
def numR (e : Int) (l : List Int) (size : Int) : Int × Int × List Int := if stays e size 8 l.length = 0 then (numS (l.take size.toNat), 0, l.drop size.toNat) else (0, stays e size 8 l.length, l)
theorem numR_ev (e : Int) (l : List Int) (size : Int) (hb : By l) : Ev (fun k => rdNum k e l size) (numR e l size) := by
  unfold rdNum numR
  by_cases h : stays e size 8 l.length = 0
  · have hs := stays_zero h
    have hn := num_ev (l.take size.toNat) (hb.take _)
    rw [numT, if_neg (by rw [List.length_take]; omega)] at hn
    rw [if_pos h]
    exact Ev.congr (fun k => if_pos h) (Ev.bind hn (Ev.now _))
  · rw [if_neg h]
    exact Ev.congr (fun k => if_neg h) (Ev.now _)
theorem numR_range (e : Int) (l : List Int) (size : Int) (hb : By l) : 0 ≤ (numR e l size).1 ∧ (numR e l size).1 < 18446744073709551616 := by
  unfold numR
  split
  · next h =>
    have h1 := numS_range _ (hb.take size.toNat)
    have hs := stays_zero h
    have h2 := pow256_le (l.take size.toNat).length (by rw [List.length_take]; omega)
    exact ⟨h1.1, by omega⟩
  · exact ⟨Int.le_refl 0, by show (0 : Int) < _; omega⟩
theorem numR_By {e : Int} {l : List Int} {size : Int} (hb : By l) : By (numR e l size).2.2 := by
  unfold numR
  split
  · exact hb.drop _
  · exact hb
theorem numR_len {e : Int} {l : List Int} {size : Int} : (numR e l size).2.2.length ≤ l.length := by
  unfold numR
  split
  · simp
  · exact Nat.le_refl _
theorem numR_err {e : Int} (he : e ≠ 0) (l : List Int) (size : Int) : numR e l size = (0, e, l) := by
  unfold numR stays
  rw [if_neg he, if_neg he]
theorem rfNum_ev (e : Int) (l : List Int) (size : Int) (hb : By l) : Ev (fun k => rfNum k e l size) (numR e l size) := by
  unfold rfNum numR
  by_cases h : stays e size 8 l.length = 0
  · have hs := stays_zero h
    have hn := rnum_ev (l.take size.toNat) (hb.take _)
    rw [numT, if_neg (by rw [List.length_take]; omega)] at hn
    rw [if_pos h]
    exact Ev.congr (fun k => if_pos h) (Ev.bind hn (Ev.now _))
  · have hn := rnum_ev [] (fun x hx => by cases hx)
    rw [if_neg h]
    exact Ev.congr (fun k => if_neg h) (Ev.bind hn (Ev.now _))
theorem takeV_dec {l : List Int} (hb : By l) : takeV l = (0, 0, 12) ∨ ∃ (n : Int) (s : Nat), takeV l = (n, (s : Int), 0) ∧ 0 ≤ n ∧ n < 4611686018427387904 ∧ s ≤ l.length := by
  unfold takeV
  by_cases h0 : l.length = 0
  · exact .inl (if_pos h0)
  rw [if_neg h0]
  by_cases h1 : l.length < siz (cls l)
  · exact .inl (if_pos h1)
  rw [if_neg h1]
  have hp := lim_pos (cls_lt hb (by omega)).1
  have hq := lim_le (cls_lt hb (by omega)).1
  have hr := Int.emod_lt_of_pos (numS (l.take (siz (cls l)))) hp
  exact .inr ⟨_, _, rfl, Int.emod_nonneg _ (by omega), by omega, by omega⟩
/-- What Vari tells. -/
def variS (e : Int) (l : List Int) : Int × Int × List Int := if e = 0 then (if (takeV l).2.2 = 0 then ((takeV l).1, 0, l.drop (takeV l).2.1.toNat) else (0, 12, l)) else (0, e, l)
theorem rdVari_ev (e : Int) (l : List Int) (hb : By l) (hl : l.length ≤ 100000) : Ev (fun k => rdVari k e l) (variS e l) := by
  have ht := take_ev l hb (by omega)
  unfold variS
  by_cases he : e = 0
  · subst he
    rw [if_pos rfl]
    rcases takeV_dec hb with h | ⟨n, s, h, n0, n1, hs⟩
    · rw [h] at ht ⊢
      exact Ev.bind ht (Ev.congr (f := fun _ => some (0, 12, l)) (fun k => by dsimp only; rw [if_pos rfl, if_neg (by decide)]) (Ev.now _))
    · rw [h] at ht ⊢
      exact Ev.bind ht (Ev.congr (f := fun _ => some (n, 0, l.drop s)) (fun k => by dsimp only; rw [if_pos rfl, if_pos rfl, if_pos ⟨by omega, by omega⟩, Int.toNat_natCast]) (Ev.now _))
  · rw [if_neg he]
    exact Ev.bind ht (Ev.congr (f := fun _ => some (0, e, l)) (fun k => by (try dsimp only); rw [if_neg he, if_neg he]) (Ev.now _))
theorem rfVari_ev (e : Int) (l : List Int) (hb : By l) (hl : l.length ≤ 100000) : Ev (fun k => rfVari k e l) (variS e l) := by
  unfold rfVari variS
  by_cases he : e = 0
  · rw [if_pos he]
    refine Ev.congr (fun k => if_pos he) ?_
    have ht := rtake_ev l hb (by omega)
    rcases takeV_dec hb with h | ⟨n, s, h, n0, n1, hs⟩
    · rw [h] at ht ⊢
      exact Ev.bind ht (Ev.congr (f := fun _ => some (0, 12, l)) (fun k => by rw [if_pos ⟨Int.le_refl 0, by show (0 : Int) ≤ _; omega⟩]; rfl) (Ev.now _))
    · rw [h] at ht ⊢
      exact Ev.bind ht (Ev.congr (f := fun _ => some (n, 0, l.drop s)) (fun k => by dsimp only; rw [if_pos ⟨by omega, by omega⟩, Int.toNat_natCast]) (Ev.now _))
  · rw [if_neg he]
    exact Ev.congr (fun k => if_neg he) (Ev.now _)
theorem variS_range (e : Int) (l : List Int) (hb : By l) : 0 ≤ (variS e l).1 ∧ (variS e l).1 < 18446744073709551616 := by
  unfold variS
  split
  · split
    · next h2 =>
      rcases takeV_dec hb with h | ⟨n, s, h, n0, n1, hs⟩
      · rw [h] at h2; cases h2
      · rw [h]; exact ⟨n0, by show n < _; omega⟩
    · exact ⟨Int.le_refl 0, by show (0 : Int) < _; omega⟩
  · exact ⟨Int.le_refl 0, by show (0 : Int) < _; omega⟩
theorem variS_By {e : Int} {l : List Int} (hb : By l) : By (variS e l).2.2 := by
  unfold variS
  split
  · split
    · exact hb.drop _
    · exact hb
  · exact hb
theorem variS_len {e : Int} {l : List Int} : (variS e l).2.2.length ≤ l.length := by
  unfold variS
  split
  · split
    · simp
    · exact Nat.le_refl _
  · exact Nat.le_refl _
theorem variS_err {e : Int} (he : e ≠ 0) (l : List Int) : variS e l = (0, e, l) := if_neg he
/-- What is told of a count. -/
def countS (t : Int × Int × List Int) (l : List Int) : List Int × Int × List Int := if t.1 > (t.2.2.length : Int) then ([], if t.2.1 = 0 then 12 else t.2.1, l) else if t.2.1 = 0 then (t.2.2.take t.1.toNat, 0, t.2.2.drop t.1.toNat) else ([], t.2.1, l)
theorem countS_By {t : Int × Int × List Int} {l : List Int} (hb : By l) (ht : By t.2.2) : By (countS t l).2.2 := by
  unfold countS
  split
  · exact hb
  · split
    · exact By.drop ht _
    · exact hb
theorem countS_len {t : Int × Int × List Int} {l : List Int} (ht : t.2.2.length ≤ l.length) : (countS t l).2.2.length ≤ l.length := by
  unfold countS
  split
  · exact Nat.le_refl _
  · split
    · simp; omega
    · exact Nat.le_refl _
theorem countS_err {e : Int} (he : e ≠ 0) (l : List Int) : countS (0, e, l) l = ([], e, l) := by
  unfold countS
  dsimp only
  rw [if_neg (by omega), if_neg he]
theorem rd_count {g : Nat → Option (Int × Int × List Int)} {t : Int × Int × List Int} (l : List Int) (h : Ev g t) (h0 : 0 ≤ t.1) : Ev (fun k => (g k).bind fun n => if 0 ≤ n.1 then (if n.1 > (n.2.2.length : Int) then some ([], if n.2.1 = 0 then 12 else n.2.1, l) else if n.2.1 = 0 then some (n.2.2.take n.1.toNat, 0, n.2.2.drop n.1.toNat) else some ([], n.2.1, l)) else none) (countS t l) := by
  refine Ev.bind h (Ev.congr (f := fun _ => some (countS t l)) (fun k => ?_) (Ev.now _))
  rw [if_pos h0]
  unfold countS
  split
  · rfl
  · split <;> rfl
theorem rf_count {g : Nat → Option (Int × Int × List Int)} {t : Int × Int × List Int} (l : List Int) (h : Ev g t) (h0 : 0 ≤ t.1 ∧ t.1 < 18446744073709551616) (hl : t.2.2.length ≤ l.length) : Ev (fun k => (g k).bind fun n => if n.2.2.length ≤ l.length then rfCount n.1 n.2.1 l n.2.2 else none) (countS t l) := by
  refine Ev.bind h (Ev.congr (f := fun _ => some (countS t l)) (fun k => ?_) (Ev.now _))
  rw [if_pos hl, rfCount, if_pos h0]
  unfold countS
  split
  · rfl
  · split <;> rfl
theorem bytes_By {e n : Int} {l : List Int} (hb : By l) : By (rdBytes e l n).2.2 := by
  unfold rdBytes
  split
  · exact hb.drop _
  · exact hb
theorem bytes_len {e n : Int} {l : List Int} : (rdBytes e l n).2.2.length ≤ l.length ∧ (rdBytes e l n).1.length ≤ l.length := by
  unfold rdBytes
  split
  · simp; omega
  · simp
theorem bytes_err {e : Int} (he : e ≠ 0) (l : List Int) (n : Int) : rdBytes e l n = ([], e, l) := by
  unfold rdBytes
  rw [if_neg (by rw [stays, if_neg he]; exact he), stays, if_neg he]
theorem countS_fst {t : Int × Int × List Int} {l : List Int} (ht : t.2.2.length ≤ l.length) : (countS t l).1.length ≤ l.length := by
  unfold countS
  split
  · simp
  · split
    · simp; omega
    · simp
/-- A question to both: what both tell; they tell the same if they stand at the same place. -/
theorem ask_ev (e : Int) (l : List Int) (e' : Int) (l' : List Int) (w n : Int) (hb : By l) (hb' : By l') (hl : l.length ≤ 3000) (hl' : l'.length ≤ 3000) :
    ∃ (b : Bool) (p q : Int × List Int), Ev (fun k => askf k e l e' l' w n) (b, p, q) ∧ By p.2 ∧ p.2.length ≤ l.length ∧ (e ≠ 0 → p = (e, l)) ∧ (e = e' → l = l' → b = true ∧ p = q) := by
  have hsh : Ev (fun k => rdShort k e l) (countS (numR e l 1) l) := rd_count l (numR_ev e l 1 hb) (numR_range e l 1 hb).1
  have hsf : Ev (fun k => rfShort k e' l') (countS (numR e' l' 1) l') := rf_count l' (rfNum_ev e' l' 1 hb') (numR_range e' l' 1 hb') numR_len
  have hlh : Ev (fun k => rdLong k e l) (countS (variS e l) l) := rd_count l (rdVari_ev e l hb (by omega)) (variS_range e l hb).1
  have hlf : Ev (fun k => rfLong k e' l') (countS (variS e' l') l') := rf_count l' (rfVari_ev e' l' hb' (by omega)) (variS_range e' l' hb') variS_len
  have same : ∀ (x y : List Int), x.length ≤ 3000 → Ev (fun k => crosswayref00_SameBytes.f k x y) (decide (x = y)) := fun x y h => same_ev x y (by omega)
  unfold askf
  by_cases h0 : w = 0
  · refine ⟨(numR e l n).1 == (numR e' l' n).1, (numR e l n).2, (numR e' l' n).2, Ev.congr (fun k => if_pos h0) (Ev.bind (numR_ev e l n hb) (Ev.bind (rfNum_ev e' l' n hb') (Ev.now _))), numR_By hb, numR_len, fun he => by rw [numR_err he], ?_⟩
    rintro rfl rfl
    exact ⟨beq_self_eq_true _, rfl⟩
  by_cases h1 : w = 1
  · refine ⟨decide ((rdBytes e l n).1 = (rdBytes e' l' n).1), (rdBytes e l n).2, (rdBytes e' l' n).2, Ev.congr (fun k => by rw [if_neg h0, if_pos h1]) (Ev.bind (same _ _ (Nat.le_trans bytes_len.2 hl)) (Ev.now _)), bytes_By hb, bytes_len.1, fun he => by rw [bytes_err he], ?_⟩
    rintro rfl rfl
    exact ⟨decide_eq_true rfl, rfl⟩
  by_cases h2 : w = 2
  · refine ⟨(variS e l).1 == (variS e' l').1, (variS e l).2, (variS e' l').2, Ev.congr (fun k => by rw [if_neg h0, if_neg h1, if_pos h2]) (by refine Ev.bind (rdVari_ev e l hb (by omega)) ?_; refine Ev.bind (rfVari_ev e' l' hb' (by omega)) ?_; exact Ev.now _), variS_By hb, variS_len, fun he => by rw [variS_err he], ?_⟩
    rintro rfl rfl
    exact ⟨beq_self_eq_true _, rfl⟩
  by_cases h3 : w = 3
  · refine ⟨decide ((countS (numR e l 1) l).1 = (countS (numR e' l' 1) l').1), (countS (numR e l 1) l).2, (countS (numR e' l' 1) l').2, Ev.congr (fun k => by rw [if_neg h0, if_neg h1, if_neg h2, if_pos h3]) (by refine Ev.bind hsh ?_; refine Ev.bind hsf ?_; refine Ev.bind (same _ _ (Nat.le_trans (countS_fst numR_len) hl)) ?_; exact Ev.now _), countS_By hb (numR_By hb), countS_len numR_len, fun he => by rw [numR_err he, countS_err he], ?_⟩
    rintro rfl rfl
    exact ⟨decide_eq_true rfl, rfl⟩
  by_cases h4 : w = 4
  · refine ⟨decide ((countS (variS e l) l).1 = (countS (variS e' l') l').1), (countS (variS e l) l).2, (countS (variS e' l') l').2, Ev.congr (fun k => by rw [if_neg h0, if_neg h1, if_neg h2, if_neg h3, if_pos h4]) (by refine Ev.bind hlh ?_; refine Ev.bind hlf ?_; refine Ev.bind (same _ _ (Nat.le_trans (countS_fst variS_len) hl)) ?_; exact Ev.now _), countS_By hb (variS_By hb), countS_len variS_len, fun he => by rw [variS_err he, countS_err he], ?_⟩
    rintro rfl rfl
    exact ⟨decide_eq_true rfl, rfl⟩
  by_cases h5 : w = 5
  · refine ⟨decide ((rdBytes e l (l.length : Int)).1 = (rdBytes e' l' (l'.length : Int)).1), (rdBytes e l (l.length : Int)).2, (rdBytes e' l' (l'.length : Int)).2, Ev.congr (fun k => by rw [if_neg h0, if_neg h1, if_neg h2, if_neg h3, if_neg h4, if_pos h5]) (Ev.bind (same _ _ (Nat.le_trans bytes_len.2 hl)) (Ev.now _)), bytes_By hb, bytes_len.1, fun he => by rw [bytes_err he], ?_⟩
    rintro rfl rfl
    exact ⟨decide_eq_true rfl, rfl⟩
  by_cases h6 : w = 6
  · refine ⟨rdEnd e l == rdEnd e' l', (rdEnd e l, l), (rdEnd e' l', l'), Ev.congr (fun k => by rw [if_neg h0, if_neg h1, if_neg h2, if_neg h3, if_neg h4, if_neg h5, if_pos h6]) (Ev.now _), hb, Nat.le_refl _, fun he => by rw [rdEnd, if_neg (fun x => he x.1)], ?_⟩
    rintro rfl rfl
    exact ⟨beq_self_eq_true _, rfl⟩
  · refine ⟨true, (e, l), (e', l'), Ev.congr (fun k => by rw [if_neg h0, if_neg h1, if_neg h2, if_neg h3, if_neg h4, if_neg h5, if_neg h6]) (Ev.now _), hb, Nat.le_refl _, fun he => rfl, ?_⟩
    rintro rfl rfl
    exact ⟨rfl, rfl⟩
end Go.Proofs.Ytmhmmmkpijbbiaa.PuScan
