/- Plain facts that the laws share: counters that don't wrap, rows read place by place, and what the small helpers of the references tell. -/
import Derived.Test.YtikpgmajiafhgaaMB
import Derived.Test.YtikpgmajiafhgaaBv
namespace Go.Proofs.Ytikpgmajiafhgaa.PuLib
open Go.RowKit Go.Proofs.YtikpgmajiafhgaaW.PrintWords Go.Proofs.YtikpgmajiafhgaaW.PrintMore Go.Proofs.Ytikpgmajiafhgaa.M Go.Proofs.Ytikpgmajiafhgaa.Bv

theorem max_len {n : Nat} (h : n ≤ maxLen) : n ≤ 9223372036854775807 := h
theorem w64_up (i : Nat) (h : i < 9223372036854775807) : wrap64 ((i : Int) + 1) = ((i + 1 : Nat) : Int) := by unfold wrap64; omega
theorem w64_in (n : Int) (h0 : -9223372036854775808 ≤ n) (h1 : n ≤ 9223372036854775807) : wrap64 n = n := by unfold wrap64; omega
theorem rd_nat (l : List Int) (i : Nat) : rd l (i : Int) = l.getD i 0 := rfl
theorem drop_rd (l : List Int) (i : Nat) (h : i < l.length) : l.drop i = rd l (i : Int) :: l.drop (i + 1) := by
  rw [rd_nat, List.drop_eq_getElem_cons h, List.getD_eq_getElem?_getD, List.getElem?_eq_getElem h]
  rfl
theorem rd_mem (l : List Int) (i : Nat) (h : i < l.length) : rd l (i : Int) ∈ l := by
  rw [rd_nat, List.getD_eq_getElem?_getD, List.getElem?_eq_getElem h]
  exact List.getElem_mem h
theorem ev_eq {α : Type} {g : Nat → Option α} {r s : α} (h : Ev g r) (e : r = s) : Ev g s := e ▸ h

/-! ### crosswayref00 -/
theorem same_l0 (a b : List Int) (hl : a.length = b.length) (hm : a.length ≤ 9223372036854775807) : ∀ d i : Nat, i + d = a.length → Ev (fun k => crosswayref00_SameBytes.l0 k a b (i : Int)) (decide (a.drop i = b.drop i)) := by
  intro d
  induction d with
  | zero =>
    intro i hi
    refine Ev.step (f := fun _ => some true) (fun k => by simp only [crosswayref00_SameBytes.l0]; rw [if_neg (by omega)]) (ev_eq (Ev.now _) ?_)
    rw [List.drop_of_length_le (by omega), List.drop_of_length_le (by omega)]
    simp
  | succ d ih =>
    intro i hi
    by_cases he : rd a (i : Int) = rd b (i : Int)
    · refine Ev.step (f := fun k => crosswayref00_SameBytes.l0 k a b ((i + 1 : Nat) : Int)) (fun k => by simp only [crosswayref00_SameBytes.l0]; rw [if_pos (by omega), if_pos (by omega), if_pos (by omega), if_pos he, w64_up i (by omega)]) (ev_eq (ih (i + 1) (by omega)) ?_)
      rw [drop_rd a i (by omega), drop_rd b i (by omega), he]
      simp
    · refine Ev.step (f := fun _ => some false) (fun k => by simp only [crosswayref00_SameBytes.l0]; rw [if_pos (by omega), if_pos (by omega), if_pos (by omega), if_neg he]) (ev_eq (Ev.now _) ?_)
      rw [drop_rd a i (by omega), drop_rd b i (by omega)]
      simp [he]
theorem same_ev (a b : List Int) (hm : a.length ≤ 9223372036854775807) : Ev (fun k => crosswayref00_SameBytes.f k a b) (decide (a = b)) := by
  by_cases hl : a.length = b.length
  · exact Ev.congr (fun k => by simp only [crosswayref00_SameBytes.f]; rw [if_pos (by omega)]; rfl) (same_l0 a b hl hm a.length 0 (by omega))
  · refine Ev.congr (f := fun _ => some false) (fun k => by simp only [crosswayref00_SameBytes.f]; rw [if_neg (by omega)]) (ev_eq (Ev.now _) ?_)
    have : a ≠ b := fun e => hl (by rw [e])
    simp [this]

/-! ### octet.Put -/
/-- A number's lowest s bytes, the highest first. -/
def putL (n : Int) : Nat → List Int
  | 0 => []
  | s + 1 => n / 256 ^ s % 256 :: putL n s
theorem putL_length (n : Int) (s : Nat) : (putL n s).length = s := by
  induction s with
  | zero => rfl
  | succ s ih => simp [putL, ih]
theorem putL_bytes (n : Int) (s : Nat) : ∀ x ∈ putL n s, 0 ≤ x ∧ x < 256 := by
  induction s with
  | zero => simp [putL]
  | succ s ih =>
    intro x hx
    rcases List.mem_cons.1 hx with rfl | hx
    · omega
    · exact ih x hx
theorem shr_pow (n : Int) (j : Nat) (h : j ≤ 8) : shr .u64 n (8 * (j : Int)) = n / 256 ^ j := by
  have h1 : min (8 * (j : Int)).toNat IntKind.u64.bits = 8 * j := by simp only [IntKind.bits]; omega
  unfold shr
  rw [h1, Int.pow_mul]
  rfl
theorem put_l0 (n : Int) : ∀ (j : Nat) (acc : List Int), j ≤ 8 → acc.length + j ≤ 1000 → Ev (fun k => octet_Put.l0 k n acc ((j : Int) - 1)) (acc ++ putL n j, 0) := by
  intro j
  induction j with
  | zero => intro acc _ _; exact Ev.step (f := fun _ => some (acc ++ putL n 0, 0)) (fun k => by simp only [octet_Put.l0]; rw [if_neg (by omega)]; simp [putL]) (Ev.now _)
  | succ j ih =>
    intro acc hj ha
    have hw : wrap64 (8 * (((j + 1 : Nat) : Int) - 1)) = 8 * (j : Int) := by rw [w64_in _ (by omega) (by omega)]; omega
    have hw2 : wrap64 (((j + 1 : Nat) : Int) - 1 - 1) = (j : Int) - 1 := by rw [w64_in _ (by omega) (by omega)]; omega
    refine Ev.step (fun k => by simp only [octet_Put.l0]; rw [if_pos (by omega), hw, if_pos (by omega), if_pos (by omega), hw2, shr_pow n j (by omega)]) (ev_eq (ih (acc ++ [n / 256 ^ j % 256]) (by omega) (by simp; omega)) ?_)
    simp [putL]
/-- What Put tells. -/
def putS (n size : Int) : List Int × Int := if 0 ≤ size ∧ size ≤ 8 ∧ n < 256 ^ size.toNat then (putL n size.toNat, 0) else ([], 11)
theorem put_ev (n size : Int) (h0 : 0 ≤ n) (h1 : n < 18446744073709551616) : Ev (fun k => octet_Put.f k n size) (putS n size) := by
  have bad : ∀ (P : ¬ (0 ≤ size ∧ size ≤ 8 ∧ n < 256 ^ size.toNat)), Ev (fun k => octet_Put.j0 k n size true) (putS n size) := fun hP => by
    rw [putS, if_neg hP]
    exact Ev.step (f := fun _ => some ([], 11)) (fun k => by simp [octet_Put.j0]) (Ev.now _)
  have good : ∀ (P : 0 ≤ size ∧ size ≤ 8 ∧ n < 256 ^ size.toNat), Ev (fun k => octet_Put.j0 k n size false) (putS n size) := fun hP => by
    rw [putS, if_pos hP]
    have e1 : wrap64 (size - 1) = ((size.toNat : Nat) : Int) - 1 := by rw [w64_in _ (by omega) (by omega)]; omega
    refine Ev.step (fun k => by simp only [octet_Put.j0]; rw [if_neg (by decide), if_pos (by omega), if_pos (by omega), e1]) (ev_eq (put_l0 n size.toNat [] (by omega) (by simp; omega)) (by simp))
  by_cases c1 : size < 0
  · exact Ev.congr (fun k => by simp only [octet_Put.f]; rw [if_pos c1]) (bad (by omega))
  by_cases c2 : size > 8
  · exact Ev.congr (fun k => by simp only [octet_Put.f]; rw [if_neg c1, if_pos c2]) (bad (by omega))
  by_cases c3 : size < 8
  · have hw : wrap64 (8 * size) = 8 * (size.toNat : Int) := by rw [w64_in _ (by omega) (by omega)]; omega
    have hp : (0 : Int) < 256 ^ size.toNat := Int.pow_pos (by omega)
    have hs := shr_pow n size.toNat (by omega)
    by_cases c4 : n < 256 ^ size.toNat
    · have e : (shr .u64 n (wrap64 (8 * size)) != 0) = false := by rw [hw, hs, Int.ediv_eq_zero_of_lt h0 c4]; rfl
      exact Ev.congr (fun k => by simp only [octet_Put.f]; rw [if_neg c1, if_neg c2, if_pos c3, if_pos (by omega), e]) (good ⟨by omega, by omega, c4⟩)
    · have e : (shr .u64 n (wrap64 (8 * size)) != 0) = true := by
        have h2 : 1 ≤ n / 256 ^ size.toNat := (Int.le_ediv_iff_mul_le hp).2 (by omega)
        rw [hw, hs, bne_iff_ne]
        omega
      exact Ev.congr (fun k => by simp only [octet_Put.f]; rw [if_neg c1, if_neg c2, if_pos c3, if_pos (by omega), e]) (bad (fun h => c4 h.2.2))
  · obtain rfl : size = 8 := by omega
    exact Ev.congr (fun k => by simp only [octet_Put.f]; rw [if_neg c1, if_neg c2, if_neg c3]) (good ⟨by omega, by omega, by simpa using h1⟩)
/-! ### numbers of bytes -/
def numS (l : List Int) : Int := l.foldl (fun n x => n * 256 + x) 0
theorem numS_from (l : List Int) : ∀ n : Int, l.foldl (fun n x => n * 256 + x) n = n * 256 ^ l.length + numS l := by
  induction l with
  | nil => intro n; simp [numS]
  | cons x l ih =>
    intro n
    have h1 := ih (n * 256 + x)
    have h2 := ih (0 * 256 + x)
    simp only [numS, List.foldl_cons, List.length_cons] at h1 h2 ⊢
    rw [h1, h2, Int.pow_succ, Int.add_mul, Int.mul_assoc, Int.mul_comm 256, Int.zero_mul, Int.zero_add, Int.add_assoc]
theorem numS_cons (x : Int) (l : List Int) : numS (x :: l) = x * 256 ^ l.length + numS l := by
  have h := numS_from l (0 * 256 + x)
  rw [Int.zero_mul, Int.zero_add] at h
  rw [← h]
  simp [numS]
theorem numS_append (l m : List Int) : numS (l ++ m) = numS l * 256 ^ m.length + numS m := by
  have h := numS_from m (numS l)
  rw [← h]
  simp [numS, List.foldl_append]
theorem pow_pos256 (n : Nat) : (0 : Int) < 256 ^ n := Int.pow_pos (by omega)
theorem numS_range (l : List Int) (h : ∀ x ∈ l, 0 ≤ x ∧ x < 256) : 0 ≤ numS l ∧ numS l < 256 ^ l.length := by
  induction l with
  | nil => exact ⟨by simp [numS], by simp [numS]⟩
  | cons x l ih =>
    obtain ⟨h0, h1⟩ := ih (fun y hy => h y (List.mem_cons_of_mem _ hy))
    obtain ⟨x0, x1⟩ := h x (List.mem_cons_self)
    have hp := pow_pos256 l.length
    have h2 : 0 ≤ x * 256 ^ l.length := Int.mul_nonneg x0 (Int.le_of_lt hp)
    have h3 : x * 256 ^ l.length ≤ 255 * 256 ^ l.length := Int.mul_le_mul_of_nonneg_right (by omega) (Int.le_of_lt hp)
    rw [numS_cons, List.length_cons, Int.pow_succ]
    omega
theorem pow256_le (j : Nat) (h : j ≤ 8) : (256 : Int) ^ j ≤ 18446744073709551616 := by
  have : j = 0 ∨ j = 1 ∨ j = 2 ∨ j = 3 ∨ j = 4 ∨ j = 5 ∨ j = 6 ∨ j = 7 ∨ j = 8 := by omega
  rcases this with rfl | rfl | rfl | rfl | rfl | rfl | rfl | rfl | rfl <;> decide
theorem numS_snoc (l : List Int) (x : Int) : numS (l ++ [x]) = numS l * 256 + x := by
  rw [numS_append]
  simp [numS]
theorem take_snoc_rd (l : List Int) (i : Nat) (h : i < l.length) : l.take (i + 1) = l.take i ++ [rd l (i : Int)] := by
  rw [List.take_succ_eq_append_getElem h, rd_nat, List.getD_eq_getElem?_getD, List.getElem?_eq_getElem h]
  rfl
/-- A number's bytes, and back. -/
theorem numS_putL (n : Int) (s : Nat) : numS (putL n s) = n % 256 ^ s := by
  induction s with
  | zero => simp [putL, numS, Int.emod_one]
  | succ s ih =>
    have hp := pow_pos256 s
    rw [putL, numS_cons, putL_length, ih, Int.pow_succ]
    have h1 := Int.emod_add_mul_ediv n (256 ^ s)
    have h2 := Int.emod_add_mul_ediv (n / 256 ^ s) 256
    have h3 := Int.emod_nonneg n (Int.ne_of_gt hp)
    have h4 := Int.emod_lt_of_pos n hp
    have h5 := Int.emod_nonneg (n / 256 ^ s) (by decide : (256 : Int) ≠ 0)
    have h6 := Int.emod_lt_of_pos (n / 256 ^ s) (by decide : (0 : Int) < 256)
    have e : n = (n / 256 ^ s % 256 * 256 ^ s + n % 256 ^ s) + (256 ^ s * 256) * (n / 256 ^ s / 256) := by
      have e1 : n / 256 ^ s = n / 256 ^ s % 256 + 256 * (n / 256 ^ s / 256) := h2.symm
      have e2 : 256 ^ s * (n / 256 ^ s) = 256 ^ s * (n / 256 ^ s % 256 + 256 * (n / 256 ^ s / 256)) := by rw [← e1]
      rw [Int.mul_add, ← Int.mul_assoc] at e2
      rw [Int.mul_comm (n / 256 ^ s % 256)]
      omega
    have r0 : 0 ≤ n / 256 ^ s % 256 * 256 ^ s := Int.mul_nonneg h5 (Int.le_of_lt hp)
    have r1 : n / 256 ^ s % 256 * 256 ^ s ≤ 255 * 256 ^ s := Int.mul_le_mul_of_nonneg_right (by omega) (Int.le_of_lt hp)
    have hq : (n / 256 ^ s % 256 * 256 ^ s + n % 256 ^ s) % (256 ^ s * 256) = n / 256 ^ s % 256 * 256 ^ s + n % 256 ^ s := Int.emod_eq_of_lt (by omega) (by omega)
    conv => rhs; rw [e]
    rw [Int.add_mul_emod_self_left, hq]
theorem putL_numS (l : List Int) (h : ∀ x ∈ l, 0 ≤ x ∧ x < 256) : putL (numS l) l.length = l := by
  have key : ∀ (l : List Int), (∀ x ∈ l, 0 ≤ x ∧ x < 256) → ∀ q : Int, putL (q * 256 ^ l.length + numS l) l.length = l := by
    intro l
    induction l with
    | nil => intro _ q; rfl
    | cons x l ih =>
      intro h q
      have hl := fun y hy => h y (List.mem_cons_of_mem x hy)
      obtain ⟨x0, x1⟩ := h x (List.mem_cons_self)
      obtain ⟨n0, n1⟩ := numS_range l hl
      have hp := pow_pos256 l.length
      have e : q * 256 ^ (l.length + 1) + (x * 256 ^ l.length + numS l) = (q * 256 + x) * 256 ^ l.length + numS l := by
        rw [Int.pow_succ, Int.add_mul, ← Int.add_assoc, Int.mul_assoc, Int.mul_comm 256]
      have hd : ((q * 256 + x) * 256 ^ l.length + numS l) / 256 ^ l.length = q * 256 + x := by
        rw [Int.add_comm, Int.add_mul_ediv_right _ _ (Int.ne_of_gt hp), Int.ediv_eq_zero_of_lt n0 n1, Int.zero_add]
      rw [List.length_cons, numS_cons, e, putL, hd, ih hl]
      have : (q * 256 + x) % 256 = x := by omega
      rw [this]
  have := key l h 0
  rwa [Int.zero_mul, Int.zero_add] at this
/-! ### bytes in order -/
def bytes8 (l : List Int) : List UInt8 := l.map fun n => UInt8.ofNat n.toNat
theorem u8_lt {x y : Int} (x0 : 0 ≤ x) (x1 : x < 256) (y0 : 0 ≤ y) (y1 : y < 256) : UInt8.ofNat x.toNat < UInt8.ofNat y.toNat ↔ x < y := by
  rw [UInt8.lt_iff_toNat_lt, UInt8.toNat_ofNat', UInt8.toNat_ofNat']
  omega
theorem u8_eq {x y : Int} (x0 : 0 ≤ x) (x1 : x < 256) (y0 : 0 ≤ y) (y1 : y < 256) : UInt8.ofNat x.toNat = UInt8.ofNat y.toNat ↔ x = y := by
  constructor
  · intro h
    have h2 := congrArg UInt8.toNat h
    rw [UInt8.toNat_ofNat', UInt8.toNat_ofNat'] at h2
    omega
  · intro h; rw [h]
/-- Bytes of one length are in the order of their numbers. -/
theorem less_num : ∀ (a b : List Int), a.length = b.length → (∀ x ∈ a, 0 ≤ x ∧ x < 256) → (∀ x ∈ b, 0 ≤ x ∧ x < 256) → (Op.bytesLess (bytes8 a) (bytes8 b) = true ↔ numS a < numS b) := by
  intro a
  induction a with
  | nil =>
    intro b hl _ _
    cases b with
    | nil => simp [bytes8, Op.bytesLess, numS]
    | cons y b => simp at hl
  | cons x a ih =>
    intro b hl ha hb
    cases b with
    | nil => simp at hl
    | cons y b =>
      simp only [List.length_cons, Nat.add_right_cancel_iff] at hl
      obtain ⟨x0, x1⟩ := ha x (List.mem_cons_self)
      obtain ⟨y0, y1⟩ := hb y (List.mem_cons_self)
      have ha' := fun z hz => ha z (List.mem_cons_of_mem x hz)
      have hb' := fun z hz => hb z (List.mem_cons_of_mem y hz)
      have ra := numS_range a ha'
      have rb := numS_range b hb'
      have hp := pow_pos256 b.length
      have e : Op.bytesLess (bytes8 (x :: a)) (bytes8 (y :: b)) = (decide (UInt8.ofNat x.toNat < UInt8.ofNat y.toNat) || (UInt8.ofNat x.toNat == UInt8.ofNat y.toNat && Op.bytesLess (bytes8 a) (bytes8 b))) := rfl
      rw [e, Bool.or_eq_true, decide_eq_true_iff, Bool.and_eq_true, beq_iff_eq, u8_lt x0 x1 y0 y1, u8_eq x0 x1 y0 y1, ih b hl ha' hb', numS_cons, numS_cons, hl]
      rw [hl] at ra
      constructor
      · rintro (h | ⟨rfl, h⟩)
        · have : (x + 1) * 256 ^ b.length ≤ y * 256 ^ b.length := Int.mul_le_mul_of_nonneg_right (by omega) (Int.le_of_lt hp)
          rw [Int.add_mul] at this
          omega
        · omega
      · intro h
        by_cases h1 : x < y
        · exact .inl h1
        by_cases h2 : x = y
        · subst h2
          exact .inr ⟨rfl, by omega⟩
        · have : (y + 1) * 256 ^ b.length ≤ x * 256 ^ b.length := Int.mul_le_mul_of_nonneg_right (by omega) (Int.le_of_lt hp)
          rw [Int.add_mul] at this
          omega
end Go.Proofs.Ytikpgmajiafhgaa.PuLib
