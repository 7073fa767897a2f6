/- The plain statement of ScanBack: what is written is read again, part by part; of fewer bytes the end is told. -/
import Derived.Test.YtmhmmmkpijbbiaaM10
import Derived.Test.YtmhmmmkpijbbiaaPuScanW
namespace Go.Proofs.Ytmhmmmkpijbbiaa.Pure
open Go.RowKit Go.Proofs.YtmhmmmkpijbbiaaW.PrintWords Go.Proofs.YtmhmmmkpijbbiaaW.PrintMore Go.Proofs.Ytmhmmmkpijbbiaa.M Go.Proofs.Ytmhmmmkpijbbiaa.Bv Go.Proofs.Ytmhmmmkpijbbiaa.PuLib Go.Proofs.Ytmhmmmkpijbbiaa.PuVari Go.Proofs.Ytmhmmmkpijbbiaa.PuScan
abbrev PA : Type := S35
/-- What is told of one part. -/
def tellS (e : Int) (l : List Int) (p : PA) : Bool × Int × List Int :=
  if p.f0 = 0 then ((numR e l p.f1).1 == p.f2, (numR e l p.f1).2)
  else if p.f0 = 1 then (decide ((rdBytes e l (p.f3.length : Int)).1 = p.f3), (rdBytes e l (p.f3.length : Int)).2)
  else if p.f0 = 2 then (((variS (variS e l).2.1 (variS e l).2.2).1 == 7) && ((variS e l).1 == p.f2), (variS (variS e l).2.1 (variS e l).2.2).2)
  else if p.f0 = 3 then (decide ((countS (numR e l 1) l).1 = p.f3), (countS (numR e l 1) l).2)
  else if p.f0 = 4 then (decide ((countS (variS e l) l).1 = p.f3), (countS (variS e l) l).2)
  else (true, e, l)
theorem tell1_ev (e : Int) (l : List Int) (p : PA) (hb : By l) (hl : l.length ≤ 90000) : Ev (fun k => tell1 k e l p) (tellS e l p) := by
  have same : ∀ (x y : List Int), x.length ≤ 90000 → Ev (fun k => crosswayref00_SameBytes.f k x y) (decide (x = y)) := fun x y h => same_ev x y (by omega)
  have hsh : Ev (fun k => rdShort k e l) (countS (numR e l 1) l) := rd_count l (numR_ev e l 1 hb) (numR_range e l 1 hb).1
  have hlh : Ev (fun k => rdLong k e l) (countS (variS e l) l) := rd_count l (rdVari_ev e l hb (by omega)) (variS_range e l hb).1
  unfold tell1 tellS
  by_cases h0 : p.f0 = 0
  · rw [if_pos h0]
    refine Ev.congr (fun k => if_pos h0) ?_
    refine Ev.bind (numR_ev e l p.f1 hb) ?_
    exact Ev.now _
  rw [if_neg h0]
  by_cases h1 : p.f0 = 1
  · rw [if_pos h1]
    refine Ev.congr (fun k => by rw [if_neg h0, if_pos h1]) ?_
    refine Ev.bind (same _ _ (Nat.le_trans bytes_len.2 hl)) ?_
    exact Ev.now _
  rw [if_neg h1]
  by_cases h2 : p.f0 = 2
  · rw [if_pos h2]
    refine Ev.congr (fun k => by rw [if_neg h0, if_neg h1, if_pos h2]) ?_
    refine Ev.bind (rdVari_ev e l hb (by omega)) ?_
    refine Ev.congr (fun k => if_pos variS_len) ?_
    refine Ev.bind (rdVari_ev _ _ (variS_By hb) (by have := variS_len (e := e) (l := l); omega)) ?_
    exact Ev.now _
  rw [if_neg h2]
  by_cases h3 : p.f0 = 3
  · rw [if_pos h3]
    refine Ev.congr (fun k => by rw [if_neg h0, if_neg h1, if_neg h2, if_pos h3]) ?_
    refine Ev.bind hsh ?_
    refine Ev.bind (same _ _ (Nat.le_trans (countS_fst numR_len) hl)) ?_
    exact Ev.now _
  rw [if_neg h3]
  by_cases h4 : p.f0 = 4
  · rw [if_pos h4]
    refine Ev.congr (fun k => by rw [if_neg h0, if_neg h1, if_neg h2, if_neg h3, if_pos h4]) ?_
    refine Ev.bind hlh ?_
    refine Ev.bind (same _ _ (Nat.le_trans (countS_fst variS_len) hl)) ?_
    exact Ev.now _
  rw [if_neg h4]
  exact Ev.congr (fun k => by rw [if_neg h0, if_neg h1, if_neg h2, if_neg h3, if_neg h4]) (Ev.now _)
theorem tellS_err {e : Int} (he : e ≠ 0) (l : List Int) (p : PA) : (tellS e l p).2 = (e, l) := by
  unfold tellS
  split
  · rw [numR_err he]
  split
  · rw [bytes_err he]
  split
  · rw [variS_err he, variS_err he]
  split
  · rw [numR_err he, countS_err he]
  split
  · rw [variS_err he, countS_err he]
  · rfl
/-! ### one number's form -/
theorem putV_form {v : Int} (h : (putV v).2 = 0) : form v < 4 ∧ (putV v).1 = (putF (form v) v).1 ∧ v < lim (form v) := by
  have hf := putV_ok.1 h
  refine ⟨hf, ?_, form_lt hf⟩
  unfold putV
  rw [if_pos hf]
theorem putV_size {v : Int} (h : (putV v).2 = 0) : (putV v).1.length = siz (form v) := by
  obtain ⟨hf, h1, h2⟩ := putV_form h
  rw [h1, putF, if_pos h2]
  exact putL_length _ _
theorem vari_put {v : Int} (h : (putV v).2 = 0) (v0 : 0 ≤ v) (rest : List Int) : variS 0 ((putV v).1 ++ rest) = (v, 0, rest) := by
  obtain ⟨hf, h1, h2⟩ := putV_form h
  have hs := putV_size h
  unfold variS
  rw [h1, take_putF hf v0 h2 rest, if_pos rfl, if_pos rfl, Int.toNat_natCast, ← hs, h1, List.drop_left]
theorem rd_take {l : List Int} {c : Nat} (hc : 0 < c) : rd (l.take c) 0 = rd l 0 := by
  cases l with
  | nil => simp
  | cons x t =>
    cases c with
    | zero => omega
    | succ c => rfl
theorem vari_cut {v : Int} (h : (putV v).2 = 0) (v0 : 0 ≤ v) (c : Nat) (hc : c < (putV v).1.length) : variS 0 ((putV v).1.take c) = (0, 12, (putV v).1.take c) := by
  obtain ⟨hf, h1, h2⟩ := putV_form h
  have hs := putV_size h
  have ht := take_putF hf v0 h2 []
  rw [List.append_nil, ← h1] at ht
  have hcl : siz (cls (putV v).1) = siz (form v) := by
    unfold takeV at ht
    have hz := siz_le hf
    rw [if_neg (by omega)] at ht
    by_cases hq : (putV v).1.length < siz (cls (putV v).1)
    · rw [if_pos hq] at ht
      simp only [Prod.mk.injEq] at ht
      omega
    · rw [if_neg hq] at ht
      simp only [Prod.mk.injEq] at ht
      omega
  have hq : takeV ((putV v).1.take c) = (0, 0, 12) := by
    unfold takeV
    by_cases h0 : c = 0
    · subst h0; rfl
    · have hcc : cls ((putV v).1.take c) = cls (putV v).1 := by unfold cls; rw [rd_take (by omega)]
      rw [List.length_take, if_neg (by omega), if_pos (by rw [hcc, hcl]; omega)]
  unfold variS
  rw [hq, if_pos rfl, if_neg (by decide)]
/-! ### one part -/
theorem numR_put {s : Nat} (hs : s ≤ 8) {v : Int} (v0 : 0 ≤ v) (hv : v < 256 ^ s) (rest : List Int) : numR 0 (putL v s ++ rest) (s : Int) = (v, 0, rest) := by
  have hl : (putL v s).length = s := putL_length v s
  unfold numR
  have hst : stays 0 (s : Int) 8 (putL v s ++ rest).length = 0 := by
    rw [stays, if_pos rfl, chkS, if_neg (by omega), if_neg (by rw [List.length_append]; omega)]
  rw [hst, if_pos rfl, Int.toNat_natCast]
  have h1 : (putL v s ++ rest).take s = putL v s := by rw [List.take_append_of_le_length (by omega), List.take_of_length_le (by omega)]
  have h2 : (putL v s ++ rest).drop s = rest := List.drop_left' hl
  rw [h1, h2, numS_putL, Int.emod_eq_of_lt v0 hv]
theorem numR_short {l : List Int} {s : Nat} (hs : s ≤ 8) (hl : l.length < s) : numR 0 l (s : Int) = (0, 12, l) := by
  have hst : stays 0 (s : Int) 8 l.length = 12 := by rw [stays, if_pos rfl, chkS, if_neg (by omega), if_pos (by omega)]
  unfold numR
  rw [hst, if_neg (by decide)]
theorem bytes_put (bs rest : List Int) : rdBytes 0 (bs ++ rest) (bs.length : Int) = (bs, 0, rest) := by
  have hmx : mx (bs.length : Int) 0 = (bs.length : Int) := by unfold mx; first | (rw [if_neg (by omega)]) | (rw [if_pos (by omega)]) | (split <;> omega)
  have hst : stays 0 (bs.length : Int) (mx (bs.length : Int) 0) (bs ++ rest).length = 0 := by rw [hmx, stays, if_pos rfl, chkS, if_neg (by omega), if_neg (by rw [List.length_append]; omega)]
  unfold rdBytes
  rw [hst, if_pos rfl, Int.toNat_natCast, List.take_left, List.drop_left]
theorem bytes_short {l : List Int} {n : Nat} (hl : l.length < n) : rdBytes 0 l (n : Int) = ([], 12, l) := by
  have hmx : mx (n : Int) 0 = (n : Int) := by unfold mx; first | (rw [if_neg (by omega)]) | (rw [if_pos (by omega)]) | (split <;> omega)
  have hst : stays 0 (n : Int) (mx (n : Int) 0) l.length = 12 := by rw [hmx, stays, if_pos rfl, chkS, if_neg (by omega), if_pos (by omega)]
  unfold rdBytes
  rw [hst, if_neg (by decide)]
theorem count_put (bs rest l : List Int) : countS ((bs.length : Int), 0, bs ++ rest) l = (bs, 0, rest) := by
  unfold countS
  dsimp only
  rw [if_neg (by rw [List.length_append]; omega), if_pos rfl, Int.toNat_natCast, List.take_left, List.drop_left]
theorem count_short {n : Nat} {t l : List Int} (h : t.length < n) : countS ((n : Int), 0, t) l = ([], 12, l) := by
  unfold countS
  dsimp only
  rw [if_pos (by omega), if_pos rfl]
theorem row_two {v : Int} (h : (rowV [] [v, 7]).2 = 0) : (putV v).2 = 0 ∧ rowV [] [v, 7] = ((putV v).1 ++ (putV 7).1, 0) := by
  unfold rowV at h ⊢
  by_cases hv : (putV v).2 = 0
  · refine ⟨hv, ?_⟩
    rw [if_pos hv]
    unfold rowV
    rw [if_pos (putV_small (by omega))]
    simp [rowV]
  · rw [if_neg hv] at h
    exact absurd h hv
theorem numR_byte (n : Nat) (hn : n ≤ 255) (rest : List Int) : numR 0 ((n : Int) :: rest) 1 = ((n : Int), 0, rest) := by
  have h := numR_put (s := 1) (by omega) (v := (n : Int)) (by omega) (by show (n : Int) < 256 ^ 1; omega) rest
  have hp : putL (n : Int) 1 = [(n : Int)] := by
    have hx : (n : Int) % 256 = (n : Int) := by omega
    simp [putL, hx]
  rw [hp] at h
  exact h
theorem tellS_ok (p : PA) (v0 : 0 ≤ p.f2) (hlen : p.f3.length ≤ 300) (hok : (pieceS p.f0 p.f1 p.f2 p.f3).2 = 0) (rest : List Int) : tellS 0 ((pieceS p.f0 p.f1 p.f2 p.f3).1 ++ rest) p = (true, 0, rest) := by
  unfold pieceS at hok ⊢
  unfold tellS
  by_cases h0 : p.f0 = 0
  · rw [if_pos h0] at hok ⊢
    rw [if_pos h0]
    unfold putS at hok ⊢
    by_cases hc : 0 ≤ p.f1 ∧ p.f1 ≤ 8 ∧ p.f2 < 256 ^ p.f1.toNat
    · rw [if_pos hc]
      have h := numR_put (s := p.f1.toNat) (by omega) v0 hc.2.2 rest
      rw [Int.toNat_of_nonneg hc.1] at h
      dsimp only
      rw [h]
      simp
    · rw [if_neg hc] at hok; cases hok
  rw [if_neg h0] at hok ⊢
  rw [if_neg h0]
  by_cases h1 : p.f0 = 1
  · rw [if_pos h1, if_pos h1]
    dsimp only
    rw [bytes_put]
    simp
  rw [if_neg h1] at hok ⊢
  rw [if_neg h1]
  by_cases h2 : p.f0 = 2
  · rw [if_pos h2] at hok ⊢
    rw [if_pos h2]
    obtain ⟨hv, hr⟩ := row_two hok
    rw [hr]
    dsimp only
    rw [List.append_assoc, vari_put hv v0]
    dsimp only
    rw [vari_put (putV_small (by omega)) (by omega)]
    simp
  rw [if_neg h2] at hok ⊢
  rw [if_neg h2]
  by_cases h3 : p.f0 = 3
  · rw [if_pos h3] at hok ⊢
    rw [if_pos h3]
    by_cases hc : (p.f3.length : Int) > 255
    · rw [if_pos hc] at hok; cases hok
    · rw [if_neg hc]
      dsimp only
      rw [List.cons_append, numR_byte _ (by omega), count_put]
      simp
  rw [if_neg h3] at hok ⊢
  rw [if_neg h3]
  by_cases h4 : p.f0 = 4
  · rw [if_pos h4] at hok ⊢
    rw [if_pos h4]
    dsimp only
    by_cases hb : (p.f3.length : Int) < 1073741824
    · rw [List.append_assoc, vari_put (putV_small hb) (by omega), count_put]
      simp
    · omega
  rw [if_neg h4]
  rw [if_neg h4]
  simp
theorem tellS_cut (p : PA) (v0 : 0 ≤ p.f2) (hlen : p.f3.length ≤ 300) (hok : (pieceS p.f0 p.f1 p.f2 p.f3).2 = 0) (c : Nat) (hc : c < (pieceS p.f0 p.f1 p.f2 p.f3).1.length) : (tellS 0 ((pieceS p.f0 p.f1 p.f2 p.f3).1.take c) p).2.1 = 12 := by
  unfold pieceS at hok hc ⊢
  unfold tellS
  by_cases h0 : p.f0 = 0
  · rw [if_pos h0] at hok hc ⊢
    rw [if_pos h0]
    unfold putS at hok hc ⊢
    by_cases hq : 0 ≤ p.f1 ∧ p.f1 ≤ 8 ∧ p.f2 < 256 ^ p.f1.toNat
    · rw [if_pos hq] at hc ⊢
      dsimp only at hc ⊢
      rw [putL_length] at hc
      have h := numR_short (l := (putL p.f2 p.f1.toNat).take c) (s := p.f1.toNat) (by omega) (by rw [List.length_take, putL_length]; omega)
      rw [Int.toNat_of_nonneg hq.1] at h
      rw [h]
    · rw [if_neg hq] at hok; cases hok
  rw [if_neg h0] at hok hc ⊢
  rw [if_neg h0]
  by_cases h1 : p.f0 = 1
  · rw [if_pos h1] at hc ⊢
    rw [if_pos h1]
    dsimp only at hc ⊢
    rw [bytes_short (by rw [List.length_take]; omega)]
  rw [if_neg h1] at hok hc ⊢
  rw [if_neg h1]
  by_cases h2 : p.f0 = 2
  · rw [if_pos h2] at hok hc ⊢
    rw [if_pos h2]
    obtain ⟨hv, hr⟩ := row_two hok
    rw [hr] at hc ⊢
    dsimp only at hc ⊢
    by_cases hx : c < (putV p.f2).1.length
    · rw [List.take_append_of_le_length (by omega), vari_cut hv v0 c hx]
      dsimp only
      rw [variS_err (by decide)]
    · rw [List.take_append, List.take_of_length_le (by omega), vari_put hv v0]
      dsimp only
      rw [List.length_append] at hc
      rw [vari_cut (putV_small (by omega)) (by omega) _ (by omega)]
  rw [if_neg h2] at hok hc ⊢
  rw [if_neg h2]
  by_cases h3 : p.f0 = 3
  · rw [if_pos h3] at hok hc ⊢
    rw [if_pos h3]
    by_cases hq : (p.f3.length : Int) > 255
    · rw [if_pos hq] at hok; cases hok
    · rw [if_neg hq] at hc ⊢
      dsimp only at hc ⊢
      rw [List.length_cons] at hc
      cases c with
      | zero =>
        rw [List.take_zero, show (1 : Int) = ((1 : Nat) : Int) from rfl, numR_short (by omega) (by simp), countS_err (by decide)]
      | succ c =>
        rw [List.take_succ_cons, numR_byte _ (by omega), count_short (by rw [List.length_take]; omega)]
  rw [if_neg h3] at hok hc ⊢
  rw [if_neg h3]
  by_cases h4 : p.f0 = 4
  · rw [if_pos h4] at hok hc ⊢
    rw [if_pos h4]
    dsimp only at hc ⊢
    have hsm : (putV (p.f3.length : Int)).2 = 0 := putV_small (by omega)
    by_cases hx : c < (putV (p.f3.length : Int)).1.length
    · rw [List.take_append_of_le_length (by omega), vari_cut hsm (by omega) c hx, countS_err (by decide)]
    · rw [List.length_append] at hc
      rw [List.take_append, List.take_of_length_le (by omega), vari_put hsm (by omega), count_short (by rw [List.length_take]; omega)]
  rw [if_neg h4] at hc
  exact absurd hc (by simp)
/-! ### all parts -/
def pcs (p : PA) : List Int × Int := pieceS p.f0 p.f1 p.f2 p.f3
def catS : List PA → List Int
  | [] => []
  | p :: rest => (pcs p).1 ++ catS rest
def Fine (p : PA) : Prop := p.f3.length ≤ 300 ∧ By p.f3 ∧ 0 ≤ p.f2 ∧ p.f2 < 18446744073709551616
theorem pcs_By {p : PA} (h : Fine p) : By (pcs p).1 := by
  have hpv : ∀ v : Int, By (putV v).1 := fun v => putV_bytes v
  have hap : ∀ a b : List Int, By a → By b → By (a ++ b) := fun a b ha hb x hx => by
    rcases List.mem_append.1 hx with h | h
    · exact ha x h
    · exact hb x h
  have hnil : By [] := fun x hx => by cases hx
  have hrow : By (rowV [] [p.f2, 7]).1 := by
    unfold rowV
    split
    · unfold rowV
      split
      · simp only [rowV, List.nil_append]
        exact hap _ _ (hpv _) (hpv _)
      · exact hnil
    · exact hnil
  unfold pcs pieceS
  split
  · unfold putS
    split
    · exact putL_bytes _ _
    · exact hnil
  split
  · exact h.2.1
  split
  · exact hrow
  split
  · split
    · exact hnil
    · intro x hx
      rcases List.mem_cons.1 hx with rfl | h2
      · omega
      · exact h.2.1 x h2
  split
  · exact hap _ _ (hpv _) h.2.1
  · exact hnil
theorem catS_By : ∀ (ps : List PA), (∀ p ∈ ps, Fine p) → By (catS ps)
  | [], _ => fun x hx => by cases hx
  | p :: rest, h => fun x hx => by
    rcases List.mem_append.1 hx with h1 | h1
    · exact pcs_By (h p List.mem_cons_self) x h1
    · exact catS_By rest (fun q hq => h q (List.mem_cons_of_mem _ hq)) x h1
theorem catS_len : ∀ (ps : List PA), (∀ p ∈ ps, Fine p) → (catS ps).length ≤ 400 * ps.length
  | [], _ => Nat.le_refl _
  | p :: rest, h => by
    have h1 := piece_len p.f0 p.f1 p.f2 p.f3 (h p List.mem_cons_self).1
    have h2 := catS_len rest (fun q hq => h q (List.mem_cons_of_mem _ hq))
    show ((pcs p).1 ++ catS rest).length ≤ _
    rw [List.length_append, List.length_cons]
    unfold pcs
    omega
theorem tellf_step {k : Nat} {p : PA} {rest : List PA} {ok b : Bool} {e e1 : Int} {l l1 : List Int} (h : tell1 k e l p = some (b, e1, l1)) (hl : l1.length ≤ l.length) : tellf k (p :: rest) ok e l = tellf k rest (b && ok) e1 l1 := by
  conv => lhs; unfold tellf
  rw [h, Option.bind_some]
  exact if_pos hl
theorem tells_all : ∀ (ps : List PA), (∀ p ∈ ps, Fine p ∧ (pcs p).2 = 0) → ps.length ≤ 60 → Ev (fun k => tellf k ps true 0 (catS ps)) (true, 0, [])
  | [], _, _ => Ev.congr (f := fun _ => some (true, 0, [])) (fun k => by simp [tellf, catS]) (Ev.now _)
  | p :: rest, h, hn => by
    have hp := h p List.mem_cons_self
    have hr : ∀ q ∈ rest, Fine q ∧ (pcs q).2 = 0 := fun q hq => h q (List.mem_cons_of_mem _ hq)
    have hfin : ∀ q ∈ p :: rest, Fine q := fun q hq => (h q hq).1
    rw [List.length_cons] at hn
    have hb := catS_By (p :: rest) hfin
    have hl := catS_len (p :: rest) hfin
    rw [List.length_cons] at hl
    obtain ⟨K, h1⟩ := tell1_ev 0 (catS (p :: rest)) p hb (by omega)
    rw [show tellS 0 (catS (p :: rest)) p = (true, 0, catS rest) from tellS_ok p hp.1.2.2.1 hp.1.1 hp.2 (catS rest)] at h1
    obtain ⟨K2, h2⟩ := tells_all rest hr (by omega)
    refine ⟨K + K2, fun k hk => ?_⟩
    have h3 : tell1 k 0 (catS (p :: rest)) p = some (true, 0, catS rest) := h1 k (by omega)
    have h4 : tellf k rest true 0 (catS rest) = some (true, 0, []) := h2 k (by omega)
    show tellf k (p :: rest) true 0 (catS (p :: rest)) = some (true, 0, [])
    rw [tellf_step h3 (by show _ ≤ ((pcs p).1 ++ catS rest).length; rw [List.length_append]; omega)]
    exact h4
theorem tells_err {e : Int} (he : e ≠ 0) : ∀ (ps : List PA) (ok : Bool) (l : List Int), By l → l.length ≤ 90000 → Ev (fun k => tellf k ps ok e l) (false, e, l)
  | [], ok, l, _, _ => Ev.congr (f := fun _ => some (false, e, l)) (fun k => by simp [tellf, he]) (Ev.now _)
  | p :: rest, ok, l, hb, hl => by
    obtain ⟨K, h1⟩ := tell1_ev e l p hb hl
    have hs := tellS_err he l p
    obtain ⟨b, e1, l1, ht⟩ : ∃ b e1 l1, tellS e l p = (b, e1, l1) := ⟨_, _, _, rfl⟩
    rw [ht] at hs h1
    simp only [Prod.mk.injEq] at hs
    obtain ⟨rfl, rfl⟩ := hs
    obtain ⟨K2, h2⟩ := tells_err he rest (b && ok) l1 hb hl
    refine ⟨K + K2, fun k hk => ?_⟩
    have h3 : tell1 k e1 l1 p = some (b, e1, l1) := h1 k (by omega)
    have h4 : tellf k rest (b && ok) e1 l1 = some (false, e1, l1) := h2 k (by omega)
    show tellf k (p :: rest) ok e1 l1 = some (false, e1, l1)
    rw [tellf_step h3 (Nat.le_refl _)]
    exact h4
theorem tellS_len (e : Int) (l : List Int) (p : PA) (hb : By l) : (tellS e l p).2.2.length ≤ l.length ∧ By (tellS e l p).2.2 := by
  unfold tellS
  split
  · exact ⟨numR_len, numR_By hb⟩
  split
  · exact ⟨bytes_len.1, bytes_By hb⟩
  split
  · exact ⟨Nat.le_trans variS_len variS_len, variS_By (variS_By hb)⟩
  split
  · exact ⟨countS_len numR_len, countS_By hb (numR_By hb)⟩
  split
  · exact ⟨countS_len variS_len, countS_By hb (variS_By hb)⟩
  · exact ⟨Nat.le_refl _, hb⟩
theorem tells_cut : ∀ (ps : List PA) (ok : Bool) (c : Nat), (∀ p ∈ ps, Fine p ∧ (pcs p).2 = 0) → ps.length ≤ 60 → c < (catS ps).length → ∃ l', Ev (fun k => tellf k ps ok 0 ((catS ps).take c)) (false, 12, l')
  | [], _, c, _, _, hc => absurd hc (by simp [catS])
  | p :: rest, ok, c, h, hn, hc => by
    have hp := h p List.mem_cons_self
    have hr : ∀ q ∈ rest, Fine q ∧ (pcs q).2 = 0 := fun q hq => h q (List.mem_cons_of_mem _ hq)
    have hfin : ∀ q ∈ p :: rest, Fine q := fun q hq => (h q hq).1
    have hb := (catS_By (p :: rest) hfin).take c
    have hl := catS_len (p :: rest) hfin
    have hl2 : ((catS (p :: rest)).take c).length ≤ 90000 := by rw [List.length_take]; rw [List.length_cons] at hl hn; omega
    obtain ⟨K, h1⟩ := tell1_ev 0 ((catS (p :: rest)).take c) p hb hl2
    rw [List.length_cons] at hn
    by_cases hx : c < (pcs p).1.length
    · have he : (catS (p :: rest)).take c = (pcs p).1.take c := List.take_append_of_le_length (by omega)
      have hcut : (tellS 0 ((catS (p :: rest)).take c) p).2.1 = 12 := by rw [he]; exact tellS_cut p hp.1.2.2.1 hp.1.1 hp.2 c hx
      have hsl := tellS_len 0 ((catS (p :: rest)).take c) p hb
      obtain ⟨b, e1, l1, ht⟩ : ∃ b e1 l1, tellS 0 ((catS (p :: rest)).take c) p = (b, e1, l1) := ⟨_, _, _, rfl⟩
      rw [ht] at hcut hsl h1
      dsimp only at hcut hsl
      subst hcut
      obtain ⟨K2, h2⟩ := tells_err (by decide : (12 : Int) ≠ 0) rest (b && ok) l1 hsl.2 (by omega)
      refine ⟨l1, K + K2, fun k hk => ?_⟩
      have h3 : tell1 k 0 ((catS (p :: rest)).take c) p = some (b, 12, l1) := h1 k (by omega)
      have h4 : tellf k rest (b && ok) 12 l1 = some (false, 12, l1) := h2 k (by omega)
      show tellf k (p :: rest) ok 0 ((catS (p :: rest)).take c) = some (false, 12, l1)
      rw [tellf_step h3 hsl.1]
      exact h4
    · have he : (catS (p :: rest)).take c = (pcs p).1 ++ (catS rest).take (c - (pcs p).1.length) := by
        show ((pcs p).1 ++ catS rest).take c = _
        rw [List.take_append, List.take_of_length_le (by omega)]
      have hc2 : c - (pcs p).1.length < (catS rest).length := by
        have h9 : c < ((pcs p).1 ++ catS rest).length := hc
        rw [List.length_append] at h9
        omega
      have ht : tellS 0 ((catS (p :: rest)).take c) p = (true, 0, (catS rest).take (c - (pcs p).1.length)) := by rw [he]; exact tellS_ok p hp.1.2.2.1 hp.1.1 hp.2 _
      rw [ht] at h1
      obtain ⟨l', K2, h2⟩ := tells_cut rest (true && ok) (c - (pcs p).1.length) hr (by omega) hc2
      refine ⟨l', K + K2, fun k hk => ?_⟩
      have h3 : tell1 k 0 ((catS (p :: rest)).take c) p = some (true, 0, (catS rest).take (c - (pcs p).1.length)) := h1 k (by omega)
      have h4 : tellf k rest (true && ok) 0 ((catS rest).take (c - (pcs p).1.length)) = some (false, 12, l') := h2 k (by omega)
      show tellf k (p :: rest) ok 0 ((catS (p :: rest)).take c) = some (false, 12, l')
      rw [tellf_step h3 (by rw [he, List.length_append]; omega)]
      exact h4
/-- How many parts can be put. -/
def cnt : List PA → Nat
  | [] => 0
  | p :: rest => if (pcs p).2 = 0 then cnt rest + 1 else 0
theorem cnt_ok : ∀ (ps : List PA), ∀ p ∈ ps.take (cnt ps), (pcs p).2 = 0
  | [] => fun p hp => by simp [cnt] at hp
  | q :: rest => fun p hp => by
    unfold cnt at hp
    split at hp
    · next h =>
      rw [List.take_succ_cons] at hp
      rcases List.mem_cons.1 hp with rfl | h2
      · exact h
      · exact cnt_ok rest p h2
    · simp at hp
theorem first_ev : ∀ (ps : List PA) (l : List Int), (∀ p ∈ ps, Fine p) → l.length + 400 * ps.length ≤ 30000 → Ev (fun k => crosswaylaw09_ScanBack.first k ps l) (cnt ps)
  | [], l, _, _ => Ev.now _
  | p :: rest, l, h, hl => by
    have hp := h p List.mem_cons_self
    rw [List.length_cons] at hl
    have hput := put_evS 0 l 0 [] p.f0 p.f1 p.f2 p.f3 hp.2.2.1 hp.2.2.2 hp.1 (by omega) (by simp)
    have hpl := piece_len p.f0 p.f1 p.f2 p.f3 hp.1
    refine Ev.bind hput ?_
    have hx := putS2_len 0 (pieceS p.f0 p.f1 p.f2 p.f3).2 l (pieceS p.f0 p.f1 p.f2 p.f3).1
    refine Ev.congr (fun k => if_pos ⟨by have := hp.1; omega, by dsimp only; omega⟩) ?_
    unfold cnt pcs
    by_cases hq : (pieceS p.f0 p.f1 p.f2 p.f3).2 = 0
    · rw [if_pos hq]
      have hs : putS2 0 (pieceS p.f0 p.f1 p.f2 p.f3).2 l (pieceS p.f0 p.f1 p.f2 p.f3).1 = (0, l ++ (pieceS p.f0 p.f1 p.f2 p.f3).1) := by unfold putS2; rw [if_pos rfl, if_pos hq]
      obtain ⟨K, hK⟩ := first_ev rest (l ++ (pieceS p.f0 p.f1 p.f2 p.f3).1) (fun q hq => h q (List.mem_cons_of_mem _ hq)) (by rw [List.length_append]; omega)
      refine ⟨K, fun k hk => ?_⟩
      have h1 : crosswaylaw09_ScanBack.first k rest (l ++ (pieceS p.f0 p.f1 p.f2 p.f3).1) = some (cnt rest) := hK k hk
      dsimp only
      rw [hs]
      dsimp only
      rw [if_pos rfl, h1]
      rfl
    · rw [if_neg hq]
      have hs : putS2 0 (pieceS p.f0 p.f1 p.f2 p.f3).2 l (pieceS p.f0 p.f1 p.f2 p.f3).1 = ((pieceS p.f0 p.f1 p.f2 p.f3).2, l) := by unfold putS2; rw [if_pos rfl, if_neg hq]
      refine Ev.congr (f := fun _ => some 0) (fun k => ?_) (Ev.now _)
      dsimp only
      rw [hs]
      exact if_neg hq
theorem again_ev : ∀ (ps : List PA) (l : List Int), (∀ p ∈ ps, Fine p ∧ (pcs p).2 = 0) → l.length + 400 * ps.length ≤ 30000 → Ev (fun k => crosswaylaw09_ScanBack.again k ps l) (l ++ catS ps)
  | [], l, _, _ => ev_eq (Ev.now l) (List.append_nil l).symm
  | p :: rest, l, h, hl => by
    have hp := h p List.mem_cons_self
    rw [List.length_cons] at hl
    have hput := put_evS 0 l 0 [] p.f0 p.f1 p.f2 p.f3 hp.1.2.2.1 hp.1.2.2.2 hp.1.1 (by omega) (by simp)
    have hpl := piece_len p.f0 p.f1 p.f2 p.f3 hp.1.1
    have hq : (pieceS p.f0 p.f1 p.f2 p.f3).2 = 0 := hp.2
    have hs : putS2 0 (pieceS p.f0 p.f1 p.f2 p.f3).2 l (pieceS p.f0 p.f1 p.f2 p.f3).1 = (0, l ++ (pieceS p.f0 p.f1 p.f2 p.f3).1) := by unfold putS2; rw [if_pos rfl, if_pos hq]
    rw [hs] at hput
    refine Ev.bind hput ?_
    refine Ev.congr (fun k => if_pos ⟨rfl, by have := hp.1.1; omega, by dsimp only; rw [List.length_append]; omega⟩) ?_
    refine ev_eq (again_ev rest (l ++ (pieceS p.f0 p.f1 p.f2 p.f3).1) (fun q hq => h q (List.mem_cons_of_mem _ hq)) (by rw [List.length_append]; omega)) ?_
    rw [List.append_assoc]
    rfl
theorem ScanBack : crosswaylaw09_ScanBack.Pure := by
  intro l0 a1 _ hw _
  obtain ⟨b, hgr, hf⟩ := great_ev l0
  obtain ⟨Kg, hgr⟩ := hgr
  unfold crosswaylaw09_ScanBack.f
  cases b with
  | true =>
    refine ⟨Kg, ?_⟩
    have h3 : crosswaylaw09_great.f Kg l0 = some true := hgr _ (Nat.le_refl _)
    rw [h3, Option.bind_some, if_pos rfl]
  | false =>
    obtain ⟨h1, h2⟩ := hf rfl
    have hfine : ∀ p ∈ l0, Fine p := fun p hp => ⟨h2 p hp, fun x hx => wf_u8 ((hw p hp).2.2.2.1.2 x hx), wf_u64 (hw p hp).2.2.1⟩
    have htk : ∀ p ∈ l0.take (cnt l0), Fine p ∧ (pcs p).2 = 0 := fun p hp => ⟨hfine p (List.mem_of_mem_take hp), cnt_ok l0 p hp⟩
    have htl : (l0.take (cnt l0)).length ≤ 60 := by rw [List.length_take]; omega
    obtain ⟨K1, hfirst⟩ := first_ev l0 [] hfine (by simp; omega)
    obtain ⟨K2, hagain⟩ := again_ev (l0.take (cnt l0)) [] htk (by simp; omega)
    obtain ⟨K3, hall⟩ := tells_all (l0.take (cnt l0)) htk htl
    have hcl := catS_len (l0.take (cnt l0)) (fun p hp => (htk p hp).1)
    obtain ⟨l', K4, hcut⟩ : ∃ l', Ev (fun k => if a1 < 0 ∨ a1 ≥ ((catS (l0.take (cnt l0))).length : Int) then some (false, 12, []) else tellf k (l0.take (cnt l0)) true 0 ((catS (l0.take (cnt l0))).take a1.toNat)) (false, 12, l') := by
      by_cases hc : a1 < 0 ∨ a1 ≥ ((catS (l0.take (cnt l0))).length : Int)
      · exact ⟨[], Ev.congr (f := fun _ => some (false, 12, [])) (fun k => if_pos hc) (Ev.now _)⟩
      · obtain ⟨l', hl'⟩ := tells_cut (l0.take (cnt l0)) true a1.toNat htk htl (by omega)
        exact ⟨l', Ev.congr (fun k => if_neg hc) hl'⟩
    refine ⟨Kg + K1 + K2 + K3 + K4, ?_⟩
    have g1 : crosswaylaw09_great.f (Kg + K1 + K2 + K3 + K4) l0 = some false := hgr _ (by omega)
    have g2 : crosswaylaw09_ScanBack.first (Kg + K1 + K2 + K3 + K4) l0 [] = some (cnt l0) := hfirst _ (by omega)
    have g3 : crosswaylaw09_ScanBack.again (Kg + K1 + K2 + K3 + K4) (l0.take (cnt l0)) [] = some (catS (l0.take (cnt l0))) := hagain _ (by omega)
    have g4 : tellf (Kg + K1 + K2 + K3 + K4) (l0.take (cnt l0)) true 0 (catS (l0.take (cnt l0))) = some (true, 0, []) := hall _ (by omega)
    have g5 := hcut (Kg + K1 + K2 + K3 + K4) (by omega)
    dsimp only at g5
    rw [g1, Option.bind_some, if_neg (by decide), if_pos h1, g2, Option.bind_some, g3, Option.bind_some, if_pos ⟨by omega, g4⟩]
    by_cases hc : a1 < 0 ∨ a1 ≥ ((catS (l0.take (cnt l0))).length : Int)
    · rw [if_pos hc]
    · rw [if_neg hc] at g5 ⊢
      rw [g5, Option.bind_some]
      exact if_pos ⟨rfl, rfl⟩
end Go.Proofs.Ytmhmmmkpijbbiaa.Pure
