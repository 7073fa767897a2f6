/- Plain facts that the laws share: counters that don't wrap, rows read place by place, and what the small helpers of the references tell. -/
import Derived.Test.YtbiiccgheblhpaaMB
import Derived.Test.YtbiiccgheblhpaaBv
namespace Go.Proofs.Ytbiiccgheblhpaa.PuLib
open Go.RowKit Go.Proofs.YtbiiccgheblhpaaW.PrintWords Go.Proofs.YtbiiccgheblhpaaW.PrintMore Go.Proofs.Ytbiiccgheblhpaa.M Go.Proofs.Ytbiiccgheblhpaa.Bv

theorem max_len {n : Nat} (h : n ≤ maxLen) : n ≤ 9223372036854775807 := h
theorem w64_up (i : Nat) (h : i < 9223372036854775807) : wrap64 ((i : Int) + 1) = ((i + 1 : Nat) : Int) := by unfold wrap64; omega
theorem w64_in (n : Int) (h0 : -9223372036854775808 ≤ n) (h1 : n ≤ 9223372036854775807) : wrap64 n = n := by unfold wrap64; omega
theorem rd_nat (l : List Int) (i : Nat) : rd l (i : Int) = l.getD i 0 := rfl
theorem drop_rd (l : List Int) (i : Nat) (h : i < l.length) : l.drop i = rd l (i : Int) :: l.drop (i + 1) := by
  rw [rd_nat, List.drop_eq_getElem_cons h, List.getD_eq_getElem?_getD, List.getElem?_eq_getElem h]
  rfl
theorem rd_mem (l : List Int) (i : Nat) (h : i < l.length) : rd l (i : Int) ∈ l := by
  rw [rd_nat, List.getD_eq_getElem?_getD, List.getElem?_eq_getElem h]
  exact List.getElem_mem h
theorem ev_eq {α : Type} {g : Nat → Option α} {r s : α} (h : Ev g r) (e : r = s) : Ev g s := e ▸ h

/-! ### crosswayref00 -/
theorem copy_eq (l : List Int) (h : l.length < 140737488355328) : crosswayref00_CopyBytes.f l = some l := by
  simp [crosswayref00_CopyBytes.f, h]
theorem same_l0 (a b : List Int) (hl : a.length = b.length) (hm : a.length ≤ 9223372036854775807) : ∀ d i : Nat, i + d = a.length → Ev (fun k => crosswayref00_SameBytes.l0 k a b (i : Int)) (decide (a.drop i = b.drop i)) := by
  intro d
  induction d with
  | zero =>
    intro i hi
    refine Ev.step (f := fun _ => some true) (fun k => by simp only [crosswayref00_SameBytes.l0]; rw [if_neg (by omega)]) (ev_eq (Ev.now _) ?_)
    rw [List.drop_of_length_le (by omega), List.drop_of_length_le (by omega)]
    simp
  | succ d ih =>
    intro i hi
    by_cases he : rd a (i : Int) = rd b (i : Int)
    · refine Ev.step (f := fun k => crosswayref00_SameBytes.l0 k a b ((i + 1 : Nat) : Int)) (fun k => by simp only [crosswayref00_SameBytes.l0]; rw [if_pos (by omega), if_pos (by omega), if_pos (by omega), if_pos he, w64_up i (by omega)]) (ev_eq (ih (i + 1) (by omega)) ?_)
      rw [drop_rd a i (by omega), drop_rd b i (by omega), he]
      simp
    · refine Ev.step (f := fun _ => some false) (fun k => by simp only [crosswayref00_SameBytes.l0]; rw [if_pos (by omega), if_pos (by omega), if_pos (by omega), if_neg he]) (ev_eq (Ev.now _) ?_)
      rw [drop_rd a i (by omega), drop_rd b i (by omega)]
      simp [he]
theorem same_ev (a b : List Int) (hm : a.length ≤ 9223372036854775807) : Ev (fun k => crosswayref00_SameBytes.f k a b) (decide (a = b)) := by
  by_cases hl : a.length = b.length
  · exact Ev.congr (fun k => by simp only [crosswayref00_SameBytes.f]; rw [if_pos (by omega)]; rfl) (same_l0 a b hl hm a.length 0 (by omega))
  · refine Ev.congr (f := fun _ => some false) (fun k => by simp only [crosswayref00_SameBytes.f]; rw [if_neg (by omega)]) (ev_eq (Ev.now _) ?_)
    have : a ≠ b := fun e => hl (by rw [e])
    simp [this]
theorem rdL1_nat (l : List (List Int)) (i : Nat) : rd_L1 l (i : Int) = l.getD i [] := rfl
theorem drop_rdL (l : List (List Int)) (i : Nat) (h : i < l.length) : l.drop i = rd_L1 l (i : Int) :: l.drop (i + 1) := by
  rw [rdL1_nat, List.drop_eq_getElem_cons h, List.getD_eq_getElem?_getD, List.getElem?_eq_getElem h]
  rfl
theorem rdL_mem (l : List (List Int)) (i : Nat) (h : i < l.length) : rd_L1 l (i : Int) ∈ l := by
  rw [rdL1_nat, List.getD_eq_getElem?_getD, List.getElem?_eq_getElem h]
  exact List.getElem_mem h
/-- Rows of no more than 'most' bytes together, or told as long. -/
theorem long_l0 (l : List (List Int)) (most : Nat) (hm : most ≤ 1000000) (hl : l.length ≤ most) : ∀ d i n : Nat, i + d = l.length → n ≤ most → ∃ b, Ev (fun k => crosswayref00_Long.l0 k l (most : Int) (n : Int) (i : Int)) b ∧ (b = false → ∀ r ∈ l.drop i, r.length ≤ most) := by
  intro d
  induction d with
  | zero =>
    intro i n hi hn
    refine ⟨false, Ev.step (f := fun _ => some false) (fun k => by simp only [crosswayref00_Long.l0]; rw [if_neg (by omega)]) (Ev.now _), fun _ r hr => ?_⟩
    rw [List.drop_of_length_le (by omega)] at hr
    simp at hr
  | succ d ih =>
    intro i n hi hn
    by_cases h1 : (rd_L1 l (i : Int)).length > most
    · exact ⟨true, Ev.step (f := fun _ => some true) (fun k => by simp only [crosswayref00_Long.l0]; rw [if_pos (by omega), if_pos (by omega), if_pos (by omega)]) (Ev.now _), fun h => by cases h⟩
    have hw : wrap64 ((n : Int) + ((rd_L1 l (i : Int)).length : Int)) = ((n + (rd_L1 l (i : Int)).length : Nat) : Int) := by rw [w64_in _ (by omega) (by omega)]; omega
    by_cases h2 : n + (rd_L1 l (i : Int)).length > most
    · exact ⟨true, Ev.step (f := fun _ => some true) (fun k => by simp only [crosswayref00_Long.l0]; rw [if_pos (by omega), if_pos (by omega), if_neg (by omega), hw, if_pos (by omega)]) (Ev.now _), fun h => by cases h⟩
    obtain ⟨b, hb, hr⟩ := ih (i + 1) (n + (rd_L1 l (i : Int)).length) (by omega) (by omega)
    refine ⟨b, Ev.step (fun k => by simp only [crosswayref00_Long.l0]; rw [if_pos (by omega), if_pos (by omega), if_neg (by omega), hw, if_neg (by omega), w64_up i (by omega)]) hb, fun e r hm2 => ?_⟩
    rw [drop_rdL l i (by omega)] at hm2
    rcases List.mem_cons.1 hm2 with rfl | h3
    · omega
    · exact hr e r h3
theorem long_ev (l : List (List Int)) (most : Nat) (hm : most ≤ 1000000) : ∃ b, Ev (fun k => crosswayref00_Long.f k l (most : Int)) b ∧ (b = false → l.length ≤ most ∧ ∀ r ∈ l, r.length ≤ most) := by
  by_cases h : l.length > most
  · exact ⟨true, Ev.congr (f := fun _ => some true) (fun k => by simp only [crosswayref00_Long.f]; rw [if_pos (by omega)]) (Ev.now _), fun h => by cases h⟩
  obtain ⟨b, hb, hr⟩ := long_l0 l most hm (by omega) l.length 0 0 (by omega) (by omega)
  exact ⟨b, Ev.congr (fun k => by simp only [crosswayref00_Long.f]; rw [if_neg (by omega)]; rfl) hb, fun e => ⟨by omega, by simpa using hr e⟩⟩

/-! ### octet.Put -/
/-- A number's lowest s bytes, the highest first. -/
def putL (n : Int) : Nat → List Int
  | 0 => []
  | s + 1 => n / 256 ^ s % 256 :: putL n s
theorem putL_length (n : Int) (s : Nat) : (putL n s).length = s := by
  induction s with
  | zero => rfl
  | succ s ih => simp [putL, ih]
theorem putL_bytes (n : Int) (s : Nat) : ∀ x ∈ putL n s, 0 ≤ x ∧ x < 256 := by
  induction s with
  | zero => simp [putL]
  | succ s ih =>
    intro x hx
    rcases List.mem_cons.1 hx with rfl | hx
    · omega
    · exact ih x hx
theorem shr_pow (n : Int) (j : Nat) (h : j ≤ 8) : shr .u64 n (8 * (j : Int)) = n / 256 ^ j := by
  have h1 : min (8 * (j : Int)).toNat IntKind.u64.bits = 8 * j := by simp only [IntKind.bits]; omega
  unfold shr
  rw [h1, Int.pow_mul]
  rfl
theorem put_l0 (n : Int) : ∀ (j : Nat) (acc : List Int), j ≤ 8 → acc.length + j ≤ 1000 → Ev (fun k => octet_Put.l0 k n acc ((j : Int) - 1)) (acc ++ putL n j, 0) := by
  intro j
  induction j with
  | zero => intro acc _ _; exact Ev.step (f := fun _ => some (acc ++ putL n 0, 0)) (fun k => by simp only [octet_Put.l0]; rw [if_neg (by omega)]; simp [putL]) (Ev.now _)
  | succ j ih =>
    intro acc hj ha
    have hw : wrap64 (8 * (((j + 1 : Nat) : Int) - 1)) = 8 * (j : Int) := by rw [w64_in _ (by omega) (by omega)]; omega
    have hw2 : wrap64 (((j + 1 : Nat) : Int) - 1 - 1) = (j : Int) - 1 := by rw [w64_in _ (by omega) (by omega)]; omega
    refine Ev.step (fun k => by simp only [octet_Put.l0]; rw [if_pos (by omega), hw, if_pos (by omega), if_pos (by omega), hw2, shr_pow n j (by omega)]) (ev_eq (ih (acc ++ [n / 256 ^ j % 256]) (by omega) (by simp; omega)) ?_)
    simp [putL]
/-- What Put tells. -/
def putS (n size : Int) : List Int × Int := if 0 ≤ size ∧ size ≤ 8 ∧ n < 256 ^ size.toNat then (putL n size.toNat, 0) else ([], 11)
theorem put_ev (n size : Int) (h0 : 0 ≤ n) (h1 : n < 18446744073709551616) : Ev (fun k => octet_Put.f k n size) (putS n size) := by
  have bad : ∀ (P : ¬ (0 ≤ size ∧ size ≤ 8 ∧ n < 256 ^ size.toNat)), Ev (fun k => octet_Put.j0 k n size true) (putS n size) := fun hP => by
    rw [putS, if_neg hP]
    exact Ev.step (f := fun _ => some ([], 11)) (fun k => by simp [octet_Put.j0]) (Ev.now _)
  have good : ∀ (P : 0 ≤ size ∧ size ≤ 8 ∧ n < 256 ^ size.toNat), Ev (fun k => octet_Put.j0 k n size false) (putS n size) := fun hP => by
    rw [putS, if_pos hP]
    have e1 : wrap64 (size - 1) = ((size.toNat : Nat) : Int) - 1 := by rw [w64_in _ (by omega) (by omega)]; omega
    refine Ev.step (fun k => by simp only [octet_Put.j0]; rw [if_neg (by decide), if_pos (by omega), if_pos (by omega), e1]) (ev_eq (put_l0 n size.toNat [] (by omega) (by simp; omega)) (by simp))
  by_cases c1 : size < 0
  · exact Ev.congr (fun k => by simp only [octet_Put.f]; rw [if_pos c1]) (bad (by omega))
  by_cases c2 : size > 8
  · exact Ev.congr (fun k => by simp only [octet_Put.f]; rw [if_neg c1, if_pos c2]) (bad (by omega))
  by_cases c3 : size < 8
  · have hw : wrap64 (8 * size) = 8 * (size.toNat : Int) := by rw [w64_in _ (by omega) (by omega)]; omega
    have hp : (0 : Int) < 256 ^ size.toNat := Int.pow_pos (by omega)
    have hs := shr_pow n size.toNat (by omega)
    by_cases c4 : n < 256 ^ size.toNat
    · have e : (shr .u64 n (wrap64 (8 * size)) != 0) = false := by rw [hw, hs, Int.ediv_eq_zero_of_lt h0 c4]; rfl
      exact Ev.congr (fun k => by simp only [octet_Put.f]; rw [if_neg c1, if_neg c2, if_pos c3, if_pos (by omega), e]) (good ⟨by omega, by omega, c4⟩)
    · have e : (shr .u64 n (wrap64 (8 * size)) != 0) = true := by
        have h2 : 1 ≤ n / 256 ^ size.toNat := (Int.le_ediv_iff_mul_le hp).2 (by omega)
        rw [hw, hs, bne_iff_ne]
        omega
      exact Ev.congr (fun k => by simp only [octet_Put.f]; rw [if_neg c1, if_neg c2, if_pos c3, if_pos (by omega), e]) (bad (fun h => c4 h.2.2))
  · obtain rfl : size = 8 := by omega
    exact Ev.congr (fun k => by simp only [octet_Put.f]; rw [if_neg c1, if_neg c2, if_neg c3]) (good ⟨by omega, by omega, by simpa using h1⟩)
end Go.Proofs.Ytbiiccgheblhpaa.PuLib
