/- The plain law of scan's writers: the program's and the document's leave the same behind every part. -/
import Derived.Test.YtmhmmmkpijbbiaaPuScan
import Derived.Test.YtmhmmmkpijbbiaaPuCat
import Derived.Test.YtmhmmmkpijbbiaaScanPut
namespace Go.Proofs.Ytmhmmmkpijbbiaa.PuScan
open Go.RowKit Go.Proofs.YtmhmmmkpijbbiaaW.PrintWords Go.Proofs.YtmhmmmkpijbbiaaW.PrintMore Go.Proofs.Ytmhmmmkpijbbiaa.M Go.Proofs.Ytmhmmmkpijbbiaa.Bv Go.Proofs.Ytmhmmmkpijbbiaa.PuLib Go.Proofs.Ytmhmmmkpijbbiaa.PuVari Go.Proofs.Ytmhmmmkpijbbiaa.PuCat
theorem rdP_nat (l : List S35) (i : Nat) (h : i < l.length) : l.drop i = rd_T35 l (i : Int) :: l.drop (i + 1) := by
  rw [List.drop_eq_getElem_cons h]
  unfold rd_T35
  rw [Int.toNat_natCast, List.getD_eq_getElem?_getD, List.getElem?_eq_getElem h]
  rfl
theorem great_l0 (l : List S35) (hl : l.length ≤ 60) : ∀ d i : Nat, i + d = l.length → ∃ b, Ev (fun k => crosswaylaw09_great.l0 k l (i : Int)) b ∧ (b = false → ∀ p ∈ l.drop i, p.f3.length ≤ 300) := by
  intro d
  induction d with
  | zero =>
    intro i hi
    refine ⟨false, Ev.step (f := fun _ => some false) (fun k => by simp only [crosswaylaw09_great.l0]; rw [if_neg (by omega)]) (Ev.now _), fun _ r hr => ?_⟩
    rw [List.drop_of_length_le (by omega)] at hr
    simp at hr
  | succ d ih =>
    intro i hi
    by_cases h1 : (rd_T35 l (i : Int)).f3.length > 300
    · exact ⟨true, Ev.step (f := fun _ => some true) (fun k => by simp only [crosswaylaw09_great.l0]; rw [if_pos (by omega), if_pos (by omega), if_pos (by omega)]) (Ev.now _), fun h => by cases h⟩
    obtain ⟨b, hb, hr⟩ := ih (i + 1) (by omega)
    refine ⟨b, Ev.step (fun k => by simp only [crosswaylaw09_great.l0]; rw [if_pos (by omega), if_pos (by omega), if_neg (by omega), w64_up i (by omega)]) hb, fun e r hm2 => ?_⟩
    rw [rdP_nat l i (by omega)] at hm2
    rcases List.mem_cons.1 hm2 with rfl | h3
    · omega
    · exact hr e r h3
theorem great_ev (l : List S35) : ∃ b, Ev (fun k => crosswaylaw09_great.f k l) b ∧ (b = false → l.length ≤ 60 ∧ ∀ p ∈ l, p.f3.length ≤ 300) := by
  by_cases h : l.length > 60
  · exact ⟨true, Ev.congr (f := fun _ => some true) (fun k => by simp only [crosswaylaw09_great.f]; rw [if_pos (by omega)]) (Ev.now _), fun h => by cases h⟩
  obtain ⟨b, hb, hr⟩ := great_l0 l (by omega) l.length 0 (by omega)
  exact ⟨b, Ev.congr (fun k => by simp only [crosswaylaw09_great.f]; rw [if_neg (by omega)]; rfl) hb, fun e => ⟨by omega, by simpa using hr e⟩⟩
/-- What a part is, written. -/
def pieceS (w size v : Int) (bs : List Int) : List Int × Int :=
  if w = 0 then putS v size else if w = 1 then (bs, 0) else if w = 2 then rowV [] [v, 7] else if w = 3 then (if (bs.length : Int) > 255 then ([], 15) else ((bs.length : Int) :: bs, 0)) else if w = 4 then ((putV (bs.length : Int)).1 ++ bs, 0) else ([], 0)
theorem putS_len (v size : Int) : (putS v size).1.length ≤ 8 := by
  unfold putS
  split
  · show (putL v size.toNat).length ≤ 8
    rw [putL_length]; omega
  · simp
theorem piece_len (w size v : Int) (bs : List Int) (hb : bs.length ≤ 300) : (pieceS w size v bs).1.length ≤ 400 := by
  unfold pieceS
  split
  · have := putS_len v size; omega
  split
  · show bs.length ≤ 400; omega
  split
  · have := rowV_len [v, 7] []; simp at this; omega
  split
  · split
    · simp
    · show ((bs.length : Int) :: bs).length ≤ 400
      simp; omega
  split
  · have := putV_len (bs.length : Int)
    show ((putV (bs.length : Int)).1 ++ bs).length ≤ 400
    simp; omega
  · simp
theorem putS2_two (e : Int) (l a b : List Int) : putS2 (putS2 e 0 l a).1 0 (putS2 e 0 l a).2 b = putS2 e 0 l (a ++ b) := by
  unfold putS2
  by_cases h : e = 0
  · subst h; simp
  · simp [h]
theorem putS2_len (e e1 : Int) (l a : List Int) : (putS2 e e1 l a).2.length ≤ l.length + a.length := by
  unfold putS2
  split <;> (try split) <;> simp
theorem putS2_nil (e : Int) (l : List Int) : putS2 e 0 l [] = (e, l) := by
  unfold putS2
  by_cases h : e = 0
  · subst h; simp
  · simp [h]
theorem wnum_ev {e : Int} {l : List Int} (v size : Int) (v0 : 0 ≤ v) (v1 : v < 18446744073709551616) (hl : l.length ≤ 100000) : Ev (fun k => wrNum k e l v size) (putS2 e (putS v size).2 l (putS v size).1) :=
  Ev.bind (put_ev v size v0 v1) (Ev.congr (f := fun _ => some _) (fun k => if_pos (by have := putS_len v size; omega)) (Ev.now _))
theorem wfnum_ev {e : Int} {l : List Int} (v size : Int) (v0 : 0 ≤ v) (v1 : v < 18446744073709551616) (hl : l.length ≤ 100000) : Ev (fun k => wfNum k e l v size) (putS2 e (putS v size).2 l (putS v size).1) :=
  Ev.bind (rput_ev v size v0 v1) (Ev.congr (f := fun _ => some _) (fun k => if_pos (by have := putS_len v size; omega)) (Ev.now _))
theorem wparts_ev {e : Int} {l : List Int} (yss : List (List Int)) (hn : yss.length ≤ 10) (hr : ∀ r ∈ yss, r.length ≤ 3000) (hf : yss.flatten.length ≤ 3000) (hl : l.length ≤ 100000) : Ev (fun k => wrParts k e l yss) (putS2 e 0 l yss.flatten) :=
  Ev.bind (cat_ev yss (by omega) hr) (Ev.congr (f := fun _ => some _) (fun k => if_pos (by omega)) (Ev.now _))
theorem wvars_ev {e : Int} {l : List Int} (ns : List Int) (hn : ns.length ≤ 10) (hr : ∀ v ∈ ns, 0 ≤ v ∧ v < 18446744073709551616) (hl : l.length ≤ 100000) : Ev (fun k => wrVars k e l ns) (putS2 e (rowV [] ns).2 l (rowV [] ns).1) :=
  Ev.bind (row_ev ns hr (by omega)) (Ev.congr (f := fun _ => some _) (fun k => if_pos (by have := rowV_len ns []; simp at this; omega)) (Ev.now _))
theorem wfvars_ev {e : Int} {l : List Int} (ns : List Int) (hn : ns.length ≤ 10) (hr : ∀ v ∈ ns, 0 ≤ v ∧ v < 18446744073709551616) (hl : l.length ≤ 100000) : Ev (fun k => wfVars k e l ns) (putS2 e (rowV [] ns).2 l (rowV [] ns).1) :=
  Ev.bind (rrow_ev ns hr (by omega)) (Ev.congr (f := fun _ => some _) (fun k => if_pos (by have := rowV_len ns []; simp at this; omega)) (Ev.now _))
theorem form_small {n : Int} (h : n < 1073741824) : form n < 4 := by
  have := form_four (v := n)
  have := form_le4 n
  omega
theorem putV_small {n : Int} (h : n < 1073741824) : (putV n).2 = 0 := putV_ok.2 (form_small h)
theorem row_one {n : Int} (h : n < 1073741824) : rowV [] [n] = ((putV n).1, 0) := by
  unfold rowV
  rw [if_pos (putV_small h)]
  simp [rowV]
theorem short_piece {n : Nat} (h : n ≤ 255) : putS (n : Int) 1 = ([(n : Int)], 0) := by
  unfold putS
  rw [if_pos ⟨by omega, by omega, by show (n : Int) < 256 ^ 1; omega⟩]
  show (putL (n : Int) 1, (0 : Int)) = _
  have : putL (n : Int) 1 = [(n : Int)] := by
    have hx : (n : Int) % 256 = (n : Int) := by omega
    simp [putL, hx]
  rw [this]
theorem wshort_ev {e : Int} {l : List Int} (bs : List Int) (hb : bs.length ≤ 300) (hl : l.length ≤ 90000) : Ev (fun k => wrShortG k e l bs) (if (bs.length : Int) > 255 then putS2 e 15 l [] else putS2 e 0 l ((bs.length : Int) :: bs)) := by
  unfold wrShortG
  by_cases h : (bs.length : Int) > 255
  · rw [if_pos h]
    exact Ev.congr (f := fun _ => some _) (fun k => by rw [if_pos h, if_pos (by omega)]) (Ev.now _)
  · rw [if_neg h]
    refine Ev.congr (fun k => if_neg h) ?_
    have h1 := wnum_ev (e := e) (l := l) (bs.length : Int) 1 (by omega) (by omega) (by omega)
    rw [short_piece (by omega)] at h1
    have hlen := putS2_len e 0 l [(bs.length : Int)]
    simp at hlen
    refine ev_eq (Ev.bind h1 (wparts_ev [bs] (by simp) (fun r hr => by simp at hr; subst hr; omega) (by simp; omega) (by dsimp only; omega))) ?_
    rw [show ([bs] : List (List Int)).flatten = bs by simp, putS2_two]
    rfl
theorem wfshort_eq {e : Int} {l : List Int} (bs : List Int) (hb : bs.length ≤ 300) (hl : l.length ≤ 90000) : wfShort e l bs = some (if (bs.length : Int) > 255 then putS2 e 15 l [] else putS2 e 0 l ((bs.length : Int) :: bs)) := by
  unfold wfShort
  split
  · rw [if_pos (by omega)]
  · rw [if_pos (by omega)]
theorem wlong_ev {e : Int} {l : List Int} (bs : List Int) (hb : bs.length ≤ 300) (hl : l.length ≤ 90000) : Ev (fun k => wrLongG k e l bs) (putS2 e 0 l ((putV (bs.length : Int)).1 ++ bs)) := by
  unfold wrLongG
  refine Ev.congr (fun k => if_pos (by omega)) ?_
  have h1 := wvars_ev (e := e) (l := l) [(bs.length : Int)] (by simp) (fun v hv => by simp at hv; omega) (by omega)
  rw [row_one (by omega)] at h1
  have hlen := putS2_len e 0 l (putV (bs.length : Int)).1
  have hpl := putV_len (bs.length : Int)
  refine ev_eq (Ev.bind h1 (wparts_ev [bs] (by simp) (fun r hr => by simp at hr; subst hr; omega) (by simp; omega) (by dsimp only; omega))) ?_
  rw [show ([bs] : List (List Int)).flatten = bs by simp, putS2_two]
theorem wflong_ev {e : Int} {l : List Int} (bs : List Int) (hb : bs.length ≤ 300) (hl : l.length ≤ 90000) : Ev (fun k => wfLong k e l bs) (putS2 e 0 l ((putV (bs.length : Int)).1 ++ bs)) := by
  have hpl := putV_len (bs.length : Int)
  exact Ev.bind (rput8_ev (v := (bs.length : Int)) (by omega) (by omega)) (Ev.congr (f := fun _ => some _) (fun k => if_pos (by omega)) (Ev.now _))
theorem put_evS (e : Int) (l : List Int) (e' : Int) (l' : List Int) (w size v : Int) (bs : List Int) (v0 : 0 ≤ v) (v1 : v < 18446744073709551616) (hb : bs.length ≤ 300) (hl : l.length ≤ 90000) (hl' : l'.length ≤ 90000) :
    Ev (fun k => putf k e l e' l' w size v bs) (putS2 e (pieceS w size v bs).2 l (pieceS w size v bs).1, putS2 e' (pieceS w size v bs).2 l' (pieceS w size v bs).1) := by
  unfold putf pieceS
  have hns : ∀ x ∈ ([v, 7] : List Int), 0 ≤ x ∧ x < 18446744073709551616 := fun x hx => by
    simp at hx
    rcases hx with rfl | rfl
    · exact ⟨v0, v1⟩
    · omega
  by_cases h0 : w = 0
  · rw [if_pos h0]
    refine Ev.congr (fun k => if_pos h0) ?_
    refine Ev.bind (wnum_ev v size v0 v1 (by omega)) ?_
    refine Ev.bind (wfnum_ev v size v0 v1 (by omega)) ?_
    exact Ev.now _
  rw [if_neg h0]
  by_cases h1 : w = 1
  · rw [if_pos h1]
    refine Ev.congr (fun k => by rw [if_neg h0, if_pos h1]) ?_
    have hfl : ([bs.take (bs.length / 2), bs.drop (bs.length / 2)] : List (List Int)).flatten = bs := by simp
    have h2 := wparts_ev (e := e) (l := l) [bs.take (bs.length / 2), bs.drop (bs.length / 2)] (by simp) (fun r hr => by simp at hr; rcases hr with rfl | rfl <;> simp <;> omega) (by rw [hfl]; omega) (by omega)
    rw [hfl] at h2
    refine Ev.bind h2 ?_
    exact Ev.congr (f := fun _ => some _) (fun k => if_pos (by omega)) (Ev.now _)
  rw [if_neg h1]
  by_cases h2 : w = 2
  · rw [if_pos h2]
    refine Ev.congr (fun k => by rw [if_neg h0, if_neg h1, if_pos h2]) ?_
    refine Ev.bind (wvars_ev [v, 7] (by simp) hns (by omega)) ?_
    refine Ev.bind (wfvars_ev [v, 7] (by simp) hns (by omega)) ?_
    exact Ev.now _
  rw [if_neg h2]
  by_cases h3 : w = 3
  · rw [if_pos h3]
    refine Ev.congr (fun k => by rw [if_neg h0, if_neg h1, if_neg h2, if_pos h3, wfshort_eq bs hb hl']) ?_
    refine Ev.bind (wshort_ev bs hb hl) ?_
    refine ev_eq (Ev.now _) ?_
    split <;> rfl
  rw [if_neg h3]
  by_cases h4 : w = 4
  · rw [if_pos h4]
    refine Ev.congr (fun k => by rw [if_neg h0, if_neg h1, if_neg h2, if_neg h3, if_pos h4]) ?_
    refine Ev.bind (wlong_ev bs hb hl) ?_
    refine Ev.bind (wflong_ev bs hb hl') ?_
    exact Ev.now _
  rw [if_neg h4]
  refine Ev.congr (f := fun _ => some ((e, l), (e', l'))) (fun k => by rw [if_neg h0, if_neg h1, if_neg h2, if_neg h3, if_neg h4]) (ev_eq (Ev.now _) ?_)
  rw [putS2_nil, putS2_nil]
end Go.Proofs.Ytmhmmmkpijbbiaa.PuScan
