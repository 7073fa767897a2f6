/- The plain law of halves: bytes as rows of four bits, cut, joined and trimmed: what the program's and the document's functions tell, as one function. No memory, no Go. -/
import Derived.Test.YtbiiccgheblhpacPuLib
namespace Go.Proofs.Ytbiiccgheblhpac.PuHalves
open Go.RowKit Go.Proofs.YtbiiccgheblhpacW.PrintWords Go.Proofs.YtbiiccgheblhpacW.PrintMore Go.Proofs.Ytbiiccgheblhpac.M Go.Proofs.Ytbiiccgheblhpac.Bv Go.Proofs.Ytbiiccgheblhpac.PuLib

/-! ### bits of one byte -/
theorem b_check {p : Nat → Bool} (h : (List.range 256).all p = true) {x : Int} (h0 : 0 ≤ x) (h1 : x < 256) : p x.toNat = true := List.all_eq_true.1 h x.toNat (List.mem_range.2 (by omega))
theorem andL {x : Int} (h0 : 0 ≤ x) (h1 : x < 256) : Go.bits .andNot .u8 x 15 = x / 16 * 16 := by
  have h := b_check (p := fun n => Go.bits .andNot .u8 (n : Int) 15 == (n : Int) / 16 * 16) (by decide +kernel) h0 h1
  rw [beq_iff_eq, Int.toNat_of_nonneg h0] at h
  exact h
theorem andR {x : Int} (h0 : 0 ≤ x) (h1 : x < 256) : Go.bits .andNot .u8 x 240 = x % 16 := by
  have h := b_check (p := fun n => Go.bits .andNot .u8 (n : Int) 240 == (n : Int) % 16) (by decide +kernel) h0 h1
  rw [beq_iff_eq, Int.toNat_of_nonneg h0] at h
  exact h
theorem lowB {x : Int} (h0 : 0 ≤ x) (h1 : x < 256) : Go.bits .and .u8 x 15 = x % 16 := by
  have h := b_check (p := fun n => Go.bits .and .u8 (n : Int) 15 == (n : Int) % 16) (by decide +kernel) h0 h1
  rw [beq_iff_eq, Int.toNat_of_nonneg h0] at h
  exact h
theorem highB {x : Int} (h0 : 0 ≤ x) (h1 : x < 256) : Go.bits .and .u8 x 240 = x / 16 * 16 := by
  have h := b_check (p := fun n => Go.bits .and .u8 (n : Int) 240 == (n : Int) / 16 * 16) (by decide +kernel) h0 h1
  rw [beq_iff_eq, Int.toNat_of_nonneg h0] at h
  exact h
theorem orB {x y : Int} (h0 : 0 ≤ x) (h1 : x < 256) (k0 : 0 ≤ y) (k1 : y < 16) (hx : x % 16 = 0) : Go.bits .or .u8 x y = x + y := by
  have h := b_check (p := fun n => Go.bits .or .u8 ((n : Int) / 16 * 16) ((n : Int) % 16) == (n : Int)) (by decide +kernel) (x := x + y) (by omega) (by omega)
  rw [beq_iff_eq, Int.toNat_of_nonneg (by omega)] at h
  have e1 : (x + y) / 16 * 16 = x := by omega
  have e2 : (x + y) % 16 = y := by omega
  rwa [e1, e2] at h

/-! ### rows of four bits -/
def By (l : List Int) : Prop := ∀ x ∈ l, 0 ≤ x ∧ x < 256
def fours (l : List Int) : List Int := l.flatMap fun x => [x / 16, x % 16]
def pairs : List Int → List Int
  | a :: b :: t => (a * 16 % 256 + b) % 256 :: pairs t
  | _ => []
theorem fours_nil : fours [] = [] := rfl
theorem fours_cons (x : Int) (l : List Int) : fours (x :: l) = x / 16 :: x % 16 :: fours l := by simp [fours]
theorem fours_append (a b : List Int) : fours (a ++ b) = fours a ++ fours b := by simp [fours]
theorem fours_length (l : List Int) : (fours l).length = 2 * l.length := by
  induction l with
  | nil => rfl
  | cons x l ih => rw [fours_cons, List.length_cons, List.length_cons, ih, List.length_cons]; omega
theorem By.left {a b : List Int} (h : By (a ++ b)) : By a := fun x hx => h x (List.mem_append_left _ hx)
theorem By.right {a b : List Int} (h : By (a ++ b)) : By b := fun x hx => h x (List.mem_append_right _ hx)
theorem By.head {x : Int} {l : List Int} (h : By (x :: l)) : 0 ≤ x ∧ x < 256 := h x List.mem_cons_self
theorem By.tail {x : Int} {l : List Int} (h : By (x :: l)) : By l := fun y hy => h y (List.mem_cons_of_mem _ hy)
theorem pairs_fours (l m : List Int) (h : By l) : pairs (fours l ++ m) = l ++ pairs m := by
  induction l with
  | nil => rfl
  | cons x l ih =>
    have hx := h.head
    rw [fours_cons, List.cons_append, List.cons_append, pairs, ih h.tail, List.cons_append]
    congr 1
    omega
theorem pairs_fours0 (l : List Int) (h : By l) : pairs (fours l) = l := by
  have := pairs_fours l [] h
  simpa [pairs] using this

/-! ### the document's loops -/
theorem fours_l0 (l : List Int) (hb : By l) (hl : l.length ≤ 1000) : ∀ d i : Nat, i + d = l.length → Ev (fun k => crosswayref14_Fours.l0 k l (fours (l.take i)) (i : Int)) (fours l) := by
  intro d
  induction d with
  | zero =>
    intro i hi
    refine Ev.step (f := fun _ => some (fours (l.take i))) (fun k => by simp only [crosswayref14_Fours.l0]; rw [if_neg (by omega)]) (ev_eq (Ev.now _) ?_)
    rw [List.take_of_length_le (by omega)]
  | succ d ih =>
    intro i hi
    have hx := hb _ (rd_mem l i (by omega))
    have e1 : Int.tdiv (rd l (i : Int)) 16 % 256 = rd l (i : Int) / 16 := by rw [Int.tdiv_eq_ediv_of_nonneg hx.1]; omega
    have e2 : Int.tmod (rd l (i : Int)) 16 = rd l (i : Int) % 16 := Int.tmod_eq_emod_of_nonneg hx.1
    have e3 : fours (l.take i) ++ [rd l (i : Int) / 16, rd l (i : Int) % 16] = fours (l.take (i + 1)) := by
      rw [take_snoc_rd l i (by omega), fours_append, fours_cons, fours_nil]
    have e4 : (fours (l.take i)).length ≤ 2000 := by rw [fours_length, List.length_take]; omega
    refine Ev.step (fun k => by simp only [crosswayref14_Fours.l0, Option.bind_some]; rw [if_pos (by omega), if_pos (by omega), e1, e2, e3, if_pos (by simp; omega), w64_up i (by omega)]) (ih (i + 1) (by omega))
theorem fours_ev (l : List Int) (hb : By l) (hl : l.length ≤ 1000) : Ev (fun k => crosswayref14_Fours.f k l) (fours l) := fours_l0 l hb hl l.length 0 (by omega)
theorem pairs_snoc : ∀ (m : Nat) (f : List Int) (a b : Int), f.length = 2 * m → pairs (f ++ [a, b]) = pairs f ++ [(a * 16 % 256 + b) % 256] := by
  intro m
  induction m with
  | zero =>
    intro f a b h
    obtain rfl : f = [] := List.eq_nil_of_length_eq_zero (by omega)
    rfl
  | succ m ih =>
    intro f a b h
    match f with
    | x :: y :: f =>
      simp only [List.length_cons] at h
      simp only [List.cons_append, pairs]
      rw [ih f a b (by omega)]
theorem pairs_length : ∀ (m : Nat) (f : List Int), f.length = 2 * m → (pairs f).length = m := by
  intro m
  induction m with
  | zero =>
    intro f h
    obtain rfl : f = [] := List.eq_nil_of_length_eq_zero (by omega)
    rfl
  | succ m ih =>
    intro f h
    match f with
    | x :: y :: f =>
      simp only [List.length_cons] at h
      simp only [pairs, List.length_cons]
      rw [ih f (by omega)]
theorem bytes_l0 (f : List Int) (m : Nat) (hm : f.length = 2 * m) (hl : m ≤ 1000) : ∀ d i : Nat, i + d = m → Ev (fun k => crosswayref14_Bytes.l0 k f (pairs (f.take (2 * i))) ((2 * i : Nat) : Int)) (pairs f) := by
  intro d
  induction d with
  | zero =>
    intro i hi
    refine Ev.step (f := fun _ => some (pairs (f.take (2 * i)))) (fun k => by simp only [crosswayref14_Bytes.l0]; rw [if_neg (by omega)]) (ev_eq (Ev.now _) ?_)
    rw [List.take_of_length_le (by omega)]
  | succ d ih =>
    intro i hi
    have ht : (f.take (2 * i)).length = 2 * i := by rw [List.length_take]; omega
    have e1 : wrap64 (((2 * i : Nat) : Int) + 1) = ((2 * i + 1 : Nat) : Int) := w64_up (2 * i) (by omega)
    have e2 : wrap64 (((2 * i : Nat) : Int) + 2) = ((2 * (i + 1) : Nat) : Int) := by rw [w64_in _ (by omega) (by omega)]; omega
    have e3 : pairs (f.take (2 * i)) ++ [(rd f ((2 * i : Nat) : Int) * 16 % 256 + rd f ((2 * i + 1 : Nat) : Int)) % 256] = pairs (f.take (2 * (i + 1))) := by
      rw [show 2 * (i + 1) = (2 * i + 1) + 1 by omega, take_snoc_rd f (2 * i + 1) (by omega), take_snoc_rd f (2 * i) (by omega), List.append_assoc, List.singleton_append, pairs_snoc i _ _ _ ht]
    have e4 : (pairs (f.take (2 * i))).length ≤ 1000 := by rw [pairs_length i _ ht]; omega
    refine Ev.step (fun k => by simp only [crosswayref14_Bytes.l0]; rw [if_pos (by omega), if_pos (by omega), e1, if_pos (by omega), if_pos (by omega), if_pos (by omega), e3, e2]) (ih (i + 1) (by omega))
theorem bytes_ev (f : List Int) (m : Nat) (hm : f.length = 2 * m) (hl : m ≤ 1000) : Ev (fun k => crosswayref14_Bytes.f k f) (pairs f) := bytes_l0 f m hm hl m 0 (by omega)

/-! ### sizes -/
def sizeS (n : Int) : Int := if n < 1 then 0 else n - n / 2
theorem size_eq (n : Int) (h : n < 9223372036854775808) : halves_Size.f n = some (sizeS n) := by
  unfold halves_Size.f sizeS
  by_cases c : n < 1
  · rw [if_pos c, if_pos c]
  · rw [if_neg c, if_neg c, Int.tdiv_eq_ediv_of_nonneg (by omega), w64_in (n / 2) (by omega) (by omega), w64_in _ (by omega) (by omega)]
theorem rsize_eq (n : Int) (h : n < 9223372036854775808) : crosswayref14_Size.f n = some (sizeS n) := by
  unfold crosswayref14_Size.f sizeS
  by_cases c : n < 1
  · rw [if_pos c, if_pos c]
  · rw [if_neg c, if_neg c, Int.tdiv_eq_ediv_of_nonneg (by omega), Int.tmod_eq_emod_of_nonneg (by omega), w64_in (n / 2) (by omega) (by omega), w64_in _ (by omega) (by omega)]
    congr 1
    omega
/-- May a half of a text of n bytes be so? -/
def fitP (n : Int) (l : List Int) : Prop := 2 ≤ n ∧ n ≤ 28 ∧ (l.length : Int) = n - n / 2
instance (n : Int) (l : List Int) : Decidable (fitP n l) := inferInstanceAs (Decidable (_ ∧ _ ∧ _))
theorem fit_eq (l : List Int) (n : Int) : crosswayref14_fit.f l n = some (decide (fitP n l)) := by
  unfold crosswayref14_fit.f
  by_cases c1 : n ≥ 2
  · by_cases c2 : n ≤ 28
    · rw [if_pos c1, if_pos c2, rsize_eq n (by omega), Option.bind_some, sizeS, if_neg (by omega)]
      by_cases c3 : (l.length : Int) = n - n / 2
      · rw [beq_iff_eq.2 c3, decide_eq_true (show fitP n l from ⟨c1, c2, c3⟩)]
      · rw [beq_eq_false_iff_ne.2 c3, decide_eq_false (show ¬ fitP n l from fun h => c3 h.2.2)]
    · rw [if_pos c1, if_neg c2, decide_eq_false (show ¬ fitP n l from fun h => c2 h.2.1)]
  · rw [if_neg c1, decide_eq_false (show ¬ fitP n l from fun h => c1 h.1)]
theorem rows1 (n : Int) (l : List Int) : (decide (2 ≤ n) && (decide (n ≤ 28) && halves_fits.rows n [l])) = decide (fitP n l) := by
  simp only [halves_fits.rows, List.all_cons, List.all_nil, Bool.and_true]
  rw [Bool.eq_iff_iff]
  simp only [Bool.and_eq_true, decide_eq_true_eq, beq_iff_eq]
  exact Iff.rfl
theorem rows2 (n : Int) (l r : List Int) : (decide (2 ≤ n) && (decide (n ≤ 28) && halves_fits.rows n [l, r])) = decide (fitP n l ∧ fitP n r) := by
  simp only [halves_fits.rows, List.all_cons, List.all_nil, Bool.and_true]
  rw [Bool.eq_iff_iff]
  simp only [Bool.and_eq_true, decide_eq_true_eq, beq_iff_eq]
  constructor
  · rintro ⟨a, b, c, d⟩; exact ⟨⟨a, b, c⟩, a, b, d⟩
  · rintro ⟨⟨a, b, c⟩, _, _, d⟩; exact ⟨a, b, c, d⟩

/-! ### Trim -/
theorem fours_even (l : List Int) : (fours l).length = 2 * l.length := fours_length l
def trimS (l : List Int) (n : Int) (left : Bool) : List Int × Int := if fitP n l then (halves_Trim.cut l n left, 0) else ([], 11)
theorem trim_eq (l : List Int) (n : Int) (left : Bool) : halves_Trim.f l n left = some (trimS l n left) := by
  unfold halves_Trim.f trimS
  rw [rows1]
  by_cases c : fitP n l
  · rw [if_pos (decide_eq_true c), if_pos c]
  · rw [if_neg (by rw [decide_eq_false c]; decide), if_neg c]
theorem rd_last (a : List Int) (x : Int) : rd (a ++ [x]) ((a.length : Nat) : Int) = x := by
  rw [rd_nat, List.getD_eq_getElem?_getD]
  simp
theorem set_last (a : List Int) (x y : Int) : (a ++ [x]).set a.length y = a ++ [y] := by
  rw [List.set_append_right _ _ (Nat.le_refl _)]
  simp
theorem cut_even {n : Int} (l : List Int) (left : Bool) (h : n % 2 = 0) : halves_Trim.cut l n left = l := if_pos h
theorem cut_left {n : Int} (a : List Int) (x : Int) (h : ¬ n % 2 = 0) (h0 : 0 ≤ x) (h1 : x < 256) : halves_Trim.cut (a ++ [x]) n true = a ++ [x / 16 * 16] := by
  have e : (a ++ [x]).length - 1 = a.length := by simp
  rw [halves_Trim.cut, if_neg h, if_pos rfl, e, rd_last, andL h0 h1, set_last]
theorem cut_right {n : Int} (b : List Int) (x : Int) (h : ¬ n % 2 = 0) (h0 : 0 ≤ x) (h1 : x < 256) : halves_Trim.cut (x :: b) n false = x % 16 :: b := by
  have e : rd (x :: b) 0 = x := rfl
  rw [halves_Trim.cut, if_neg h, if_neg (by decide), e, andR h0 h1]
  rfl
theorem snoc_of {l : List Int} (h : 0 < l.length) : ∃ a x, l = a ++ [x] := by
  refine ⟨l.dropLast, l.getLast (by intro e; rw [e] at h; simp at h), ?_⟩
  exact (List.dropLast_concat_getLast _).symm
theorem cons_of {l : List Int} (h : 0 < l.length) : ∃ x b, l = x :: b := by
  cases l with
  | nil => simp at h
  | cons x b => exact ⟨x, b, rfl⟩
theorem rtrim_ev (l : List Int) (n : Int) (left : Bool) (hb : By l) : Ev (fun k => crosswayref14_Trim.f k l n left) (trimS l n left) := by
  by_cases c : fitP n l
  · obtain ⟨h2, h28, hl⟩ := c
    have hm : Int.tmod n 2 = n % 2 := Int.tmod_eq_emod_of_nonneg (by omega)
    have hlen : l.length ≤ 1000 := by omega
    have hpos : 0 < l.length := by omega
    rw [trimS, if_pos ⟨h2, h28, hl⟩]
    have F := fours_ev l hb hlen
    have start : ∀ q, (∀ k, crosswayref14_Trim.f k l n left = (crosswayref14_Fours.f k l).bind fun t => (if Int.tmod n 2 = 1 then crosswayref14_Trim.j0 k n left t left else crosswayref14_Trim.j0 k n left t false)) → Ev (fun k => (if Int.tmod n 2 = 1 then crosswayref14_Trim.j0 k n left (fours l) left else crosswayref14_Trim.j0 k n left (fours l) false)) q → Ev (fun k => crosswayref14_Trim.f k l n left) q :=
      fun q h1 h2 => Ev.congr h1 (Ev.bind F h2)
    refine start _ (fun k => by simp only [crosswayref14_Trim.f]; rw [fit_eq, Option.bind_some, decide_eq_true (show fitP n l from ⟨h2, h28, hl⟩), if_pos rfl]) ?_
    by_cases hz : n % 2 = 0
    · rw [cut_even l left hz]
      refine Ev.congr (fun k => by rw [if_neg (by omega)]) (Ev.step (f := fun k => (crosswayref14_Bytes.f k (fours l)).bind fun t => some (t, 0)) (fun k => by simp only [crosswayref14_Trim.j0]; rw [if_neg (by decide), if_neg (by omega)]) (Ev.bind (bytes_ev _ _ (fours_length l) hlen) (ev_eq (Ev.now _) ?_)))
      rw [pairs_fours0 l hb]
    · cases left with
      | true =>
        obtain ⟨a, x, rfl⟩ := snoc_of hpos
        have hx := hb x (by simp)
        simp only [List.length_append, List.length_cons, List.length_nil] at hl hlen
        have hn : n = ((2 * a.length + 1 : Nat) : Int) := by omega
        have e0 : fours (a ++ [x]) = fours a ++ [x / 16, x % 16] := by rw [fours_append, fours_cons, fours_nil]
        have e1 : (fours (a ++ [x])).set n.toNat 0 = fours a ++ [x / 16, 0] := by
          rw [hn, Int.toNat_natCast, e0, List.set_append_right _ _ (by rw [fours_length]; omega), fours_length, show 2 * a.length + 1 - 2 * a.length = 1 by omega]
          rfl
        have e2 : (fours (a ++ [x])).length = 2 * a.length + 2 := by rw [fours_length, List.length_append]; simp; omega
        have e3 : (fours a ++ [x / 16, 0]).length = 2 * (a.length + 1) := by rw [List.length_append, fours_length]; simp; omega
        rw [cut_left a x hz hx.1 hx.2]
        refine Ev.congr (fun k => by rw [if_pos (by omega)]) (Ev.step (f := fun k => (crosswayref14_Bytes.f k (fours a ++ [x / 16, 0])).bind fun t => some (t, 0)) (fun k => by simp only [crosswayref14_Trim.j0, Option.bind_some]; rw [if_pos trivial, if_pos (by omega), if_pos (by omega), if_pos (by omega), if_pos trivial, e1]) (Ev.bind (bytes_ev _ _ e3 (by omega)) (ev_eq (Ev.now _) ?_)))
        rw [pairs_fours _ _ hb.left]
        have : (x / 16 * 16 % 256 + 0) % 256 = x / 16 * 16 := by omega
        simp only [pairs, this]
      | false =>
        obtain ⟨x, b, rfl⟩ := cons_of hpos
        have hx := hb.head
        rw [cut_right b x hz hx.1 hx.2]
        have e1 : (fours (x :: b)).set (0 : Int).toNat 0 = 0 :: x % 16 :: fours b := by rw [fours_cons]; rfl
        have e3 : (0 :: x % 16 :: fours b).length = 2 * (b.length + 1) := by rw [List.length_cons, List.length_cons, fours_length]; omega
        simp only [List.length_cons] at hl hlen
        have e2 : (0 : Int) < ((fours (x :: b)).length : Int) := by rw [fours_length, List.length_cons]; omega
        refine Ev.congr (fun k => by rw [if_pos (by omega)]) (Ev.step (f := fun k => (crosswayref14_Bytes.f k (0 :: x % 16 :: fours b)).bind fun t => some (t, 0)) (fun k => by simp only [crosswayref14_Trim.j0]; rw [if_neg (by decide), if_pos (by omega), if_neg (by decide), if_pos e2, e1]) (Ev.bind (bytes_ev _ _ e3 (by omega)) (ev_eq (Ev.now _) ?_)))
        have : (0 * 16 % 256 + x % 16) % 256 = x % 16 := by omega
        simp only [pairs, this, pairs_fours0 b hb.tail]
  · rw [trimS, if_neg c]
    exact Ev.congr (f := fun _ => some ([], 11)) (fun k => by simp only [crosswayref14_Trim.f]; rw [fit_eq, Option.bind_some, decide_eq_false c, if_neg (by decide)]) (Ev.now _)

/-! ### Cut -/
def cutS (l : List Int) : List Int × List Int × Int := if 2 ≤ l.length ∧ l.length ≤ 28 then (halves_Trim.cut (l.take (l.length - l.length / 2)) (l.length : Int) true, halves_Trim.cut (l.drop (l.length / 2)) (l.length : Int) false, 0) else ([], [], 11)
theorem fits0 (n : Int) : halves_fits.f n [] = some (decide (2 ≤ n ∧ n ≤ 28)) := by
  rw [halves_fits.f, halves_fits.rows, List.all_nil, Bool.and_true]
  congr 1
  rw [Bool.eq_iff_iff]
  simp only [Bool.and_eq_true, decide_eq_true_eq]
theorem cut_eq (l : List Int) (hl : l.length ≤ 1000) : halves_Cut.f l = some (cutS l) := by
  unfold halves_Cut.f cutS
  rw [fits0, Option.bind_some]
  by_cases c : 2 ≤ l.length ∧ l.length ≤ 28
  · have h1 : (l.take ((l.length : Int) - (l.length : Int) / 2).toNat).length = l.length - l.length / 2 := by rw [List.length_take]; omega
    have e1 : ((l.length : Int) - (l.length : Int) / 2).toNat = l.length - l.length / 2 := by omega
    have e2 : ((l.length : Int) - ((l.length : Int) - (l.length : Int) / 2)).toNat = l.length / 2 := by omega
    have e3 : wrap64 ((l.length : Int) - ((l.length : Int) - (l.length : Int) / 2)) = (l.length : Int) - ((l.length : Int) - (l.length : Int) / 2) := w64_in _ (by omega) (by omega)
    have h2 : (l.drop (l.length / 2)).length = l.length - l.length / 2 := List.length_drop
    have hS : sizeS (l.length : Int) = (l.length : Int) - (l.length : Int) / 2 := if_neg (by omega)
    rw [decide_eq_true (show 2 ≤ (l.length : Int) ∧ (l.length : Int) ≤ 28 by omega), if_pos rfl, if_pos c, size_eq _ (by omega), Option.bind_some, hS, if_pos (by omega), if_pos (by omega), trim_eq, Option.bind_some, Option.bind_some, e3, if_pos (by omega), if_pos (by omega), trim_eq, Option.bind_some, e1, e2, trimS, trimS, if_pos ⟨by omega, by omega, by rw [← e1, h1]; omega⟩, if_pos ⟨by omega, by omega, by rw [h2]; omega⟩]
  · rw [decide_eq_false (show ¬ (2 ≤ (l.length : Int) ∧ (l.length : Int) ≤ 28) by omega), if_neg (by decide), if_neg c]
theorem mid_of {l : List Int} {m : Nat} (h : m < l.length) : ∃ a x b, l = a ++ x :: b ∧ a.length = m := by
  refine ⟨l.take m, l[m], l.drop (m + 1), ?_, by rw [List.length_take]; omega⟩
  rw [← List.drop_eq_getElem_cons h, List.take_append_drop]
theorem two_of {l : List Int} {m : Nat} (h : m ≤ l.length) : ∃ a b, l = a ++ b ∧ a.length = m := ⟨l.take m, l.drop m, (List.take_append_drop _ _).symm, by rw [List.length_take]; omega⟩
theorem rcut_ev (l : List Int) (hb : By l) (hl : l.length ≤ 1000) : Ev (fun k => crosswayref14_Cut.f k l) (cutS l) := by
  have bad : ¬ (2 ≤ l.length ∧ l.length ≤ 28) → Ev (fun k => crosswayref14_Cut.j0 k l (l.length : Int) true) (cutS l) := fun h => by
    rw [cutS, if_neg h]
    exact Ev.step (f := fun _ => some ([], [], 11)) (fun k => by simp only [crosswayref14_Cut.j0]; rw [if_pos trivial]) (Ev.now _)
  by_cases c1 : l.length < 2
  · exact Ev.congr (fun k => by simp only [crosswayref14_Cut.f]; rw [if_pos (by omega)]) (bad (by omega))
  by_cases c2 : l.length > 28
  · exact Ev.congr (fun k => by simp only [crosswayref14_Cut.f]; rw [if_neg (by omega), decide_eq_true (by omega)]) (bad (by omega))
  have hm : Int.tmod (l.length : Int) 2 = (l.length : Int) % 2 := Int.tmod_eq_emod_of_nonneg (by omega)
  have F := fours_ev l hb hl
  have hf := fours_length l
  rw [cutS, if_pos (by omega)]
  refine Ev.congr (fun k => by simp only [crosswayref14_Cut.f]; rw [if_neg (by omega), decide_eq_false (by omega)]) (Ev.step (fun k => by simp only [crosswayref14_Cut.j0]; rw [if_neg (by decide)]) (Ev.bind F ?_))
  have ht : ((fours l).take (l.length : Int).toNat).length ≤ 2000 := by rw [List.length_take]; omega
  have hd : ((fours l).drop (l.length : Int).toNat).length ≤ 2000 := by rw [List.length_drop]; omega
  by_cases hz : l.length % 2 = 0
  · obtain ⟨a, b, rfl, ha⟩ := two_of (l := l) (m := l.length / 2) (by omega)
    have hL : (a ++ b).length = a.length + b.length := List.length_append
    have e0 : ((a ++ b).length : Int).toNat = 2 * a.length := by rw [Int.toNat_natCast]; omega
    have e1 : (fours (a ++ b)).take ((a ++ b).length : Int).toNat = fours a := by rw [e0, fours_append, List.take_left' (fours_length a)]
    have e2 : (fours (a ++ b)).drop ((a ++ b).length : Int).toNat = fours b := by rw [e0, fours_append, List.drop_left' (fours_length a)]
    rw [e1] at ht
    rw [e2] at hd
    refine Ev.congr (f := fun k => (crosswayref14_Bytes.f k (fours a)).bind fun t => (crosswayref14_Bytes.f k (fours b)).bind fun u => some (t, u, 0)) (fun k => by simp only [Option.bind_some, List.nil_append, List.length_nil, e1, e2]; rw [if_pos (by omega), if_pos (by omega), if_pos (by omega), if_pos (by omega), if_neg (by omega)]) (Ev.bind (bytes_ev _ _ (fours_length a) (by omega)) (Ev.bind (bytes_ev _ _ (fours_length b) (by omega)) (ev_eq (Ev.now _) ?_)))
    rw [pairs_fours0 a hb.left, pairs_fours0 b hb.right, cut_even _ _ (by omega), cut_even _ _ (by omega), show (a ++ b).length - (a ++ b).length / 2 = a.length by omega, ← ha, List.take_left, List.drop_left]
  · obtain ⟨a, x, b, rfl, ha⟩ := mid_of (l := l) (m := l.length / 2) (by omega)
    have hL : (a ++ x :: b).length = a.length + (b.length + 1) := by rw [List.length_append, List.length_cons]
    have hx := hb x (by simp)
    have ha2 := hb.left
    have hb2 := hb.right.tail
    have e0 : ((a ++ x :: b).length : Int).toNat = 2 * a.length + 1 := by rw [Int.toNat_natCast]; omega
    have e3 : fours (a ++ x :: b) = (fours a ++ [x / 16]) ++ (x % 16 :: fours b) := by rw [fours_append, fours_cons, List.append_assoc]; rfl
    have e4 : (fours a ++ [x / 16]).length = 2 * a.length + 1 := by rw [List.length_append, fours_length]; rfl
    have e1 : (fours (a ++ x :: b)).take ((a ++ x :: b).length : Int).toNat = fours a ++ [x / 16] := by rw [e0, e3, List.take_left' e4]
    have e2 : (fours (a ++ x :: b)).drop ((a ++ x :: b).length : Int).toNat = x % 16 :: fours b := by rw [e0, e3, List.drop_left' e4]
    rw [e1] at ht
    rw [e2] at hd
    have l1 : (fours a ++ [x / 16] ++ [0]).length = 2 * (a.length + 1) := by rw [List.length_append, e4]; simp; omega
    have l2 : ([0] ++ x % 16 :: fours b).length = 2 * (b.length + 1) := by simp only [List.singleton_append, List.length_cons, fours_length]; omega
    refine Ev.congr (f := fun k => (crosswayref14_Bytes.f k (fours a ++ [x / 16] ++ [0])).bind fun t => (crosswayref14_Bytes.f k ([0] ++ x % 16 :: fours b)).bind fun u => some (t, u, 0)) (fun k => by simp only [Option.bind_some, List.nil_append, List.length_nil, e1, e2]; rw [if_pos (by omega), if_pos (by omega), if_pos (by omega), if_pos (by omega), if_pos (by omega), if_pos (by omega), if_pos (by simp only [List.length_cons, List.length_nil] at hd ⊢; omega)]) (Ev.bind (bytes_ev _ _ l1 (by omega)) (Ev.bind (bytes_ev _ _ l2 (by omega)) (ev_eq (Ev.now _) ?_)))
    have p1 : pairs (fours a ++ [x / 16] ++ [0]) = a ++ [x / 16 * 16] := by
      have : (x / 16 * 16 % 256 + 0) % 256 = x / 16 * 16 := by omega
      rw [List.append_assoc, List.singleton_append, pairs_fours a _ ha2, pairs, pairs, this]
      exact fun _ _ _ h => by cases h
    have p2 : pairs ([0] ++ x % 16 :: fours b) = x % 16 :: b := by
      have : (0 * 16 % 256 + x % 16) % 256 = x % 16 := by omega
      rw [List.singleton_append, pairs, pairs_fours0 b hb2, this]
    have t1 : (a ++ x :: b).take ((a ++ x :: b).length - (a ++ x :: b).length / 2) = a ++ [x] := by
      rw [show (a ++ x :: b).length - (a ++ x :: b).length / 2 = (a ++ [x]).length by simp only [List.length_append, List.length_cons, List.length_nil] at hL ha hz ⊢; omega, show a ++ x :: b = (a ++ [x]) ++ b by simp, List.take_left]
    have t2 : (a ++ x :: b).drop ((a ++ x :: b).length / 2) = x :: b := by rw [← ha, List.drop_left]
    rw [p1, p2, t1, t2, cut_left a x (by omega) hx.1 hx.2, cut_right b x (by omega) hx.1 hx.2]

/-! ### rows behind one another -/
theorem rdL_nat (l : List (List Int)) (i : Nat) : rd_L1 l (i : Int) = l.getD i [] := rfl
theorem drop_rdR (l : List (List Int)) (i : Nat) (h : i < l.length) : l.drop i = rd_L1 l (i : Int) :: l.drop (i + 1) := by
  rw [rdL_nat, List.drop_eq_getElem_cons h, List.getD_eq_getElem?_getD, List.getElem?_eq_getElem h]
  rfl
theorem rdR_mem (l : List (List Int)) (i : Nat) (h : i < l.length) : rd_L1 l (i : Int) ∈ l := by
  rw [rdL_nat, List.getD_eq_getElem?_getD, List.getElem?_eq_getElem h]
  exact List.getElem_mem h
theorem cat_l1 (ls : List (List Int)) (hn : ls.length ≤ 100) (hr : ∀ r ∈ ls, r.length ≤ 1000) : ∀ d i (acc : List Int), i + d = ls.length → acc.length + 1000 * d ≤ 100000 → Ev (fun k => slices_Concat_byte_byte.l1 k acc ls (ls.length : Int) (i : Int)) (acc ++ (ls.drop i).flatten) := by
  intro d
  induction d with
  | zero =>
    intro i acc hi _
    refine Ev.step (f := fun _ => some acc) (fun k => by simp only [slices_Concat_byte_byte.l1]; rw [if_neg (by omega)]) (ev_eq (Ev.now _) ?_)
    rw [List.drop_of_length_le (by omega)]
    simp
  | succ d ih =>
    intro i acc hi h2
    have hm := hr _ (rdR_mem ls i (by omega))
    refine Ev.step (fun k => by simp only [slices_Concat_byte_byte.l1]; rw [if_pos (by omega), if_pos (by omega), if_pos (by omega), if_pos (by omega), w64_up i (by omega)]) (ev_eq (ih (i + 1) (acc ++ rd_L1 ls (i : Int)) (by omega) (by rw [List.length_append]; omega)) ?_)
    rw [drop_rdR ls i (by omega), List.flatten_cons, List.append_assoc]
theorem cat_l0 (ls : List (List Int)) (hn : ls.length ≤ 100) (hr : ∀ r ∈ ls, r.length ≤ 1000) : ∀ d i n : Nat, i + d = ls.length → n + 1000 * d ≤ 100000 → Ev (fun k => slices_Concat_byte_byte.l0 k ls (n : Int) ls (ls.length : Int) (i : Int)) ls.flatten := by
  intro d
  induction d with
  | zero =>
    intro i n hi h2
    have hg : slices_Grow_byte_byte.f (n : Int) = some [] := by rw [slices_Grow_byte_byte.f, if_pos (by omega), if_pos (by omega)]
    refine Ev.step (fun k => by simp only [slices_Concat_byte_byte.l0]; rw [if_neg (by omega), hg, Option.bind_some]; rfl) (ev_eq (cat_l1 ls hn hr ls.length 0 [] (by omega) (by simp; omega)) ?_)
    simp
  | succ d ih =>
    intro i n hi h2
    have hm := hr _ (rdR_mem ls i (by omega))
    have hw : wrap64 ((n : Int) + ((rd_L1 ls (i : Int)).length : Int)) = ((n + (rd_L1 ls (i : Int)).length : Nat) : Int) := by rw [w64_in _ (by omega) (by omega)]; omega
    exact Ev.step (fun k => by simp only [slices_Concat_byte_byte.l0]; rw [if_pos (by omega), if_pos (by omega), if_pos (by omega), hw, if_neg (by omega), w64_up i (by omega)]) (ih (i + 1) _ (by omega) (by omega))
theorem cat_ev (ls : List (List Int)) (hn : ls.length ≤ 100) (hr : ∀ r ∈ ls, r.length ≤ 1000) : Ev (fun k => octet_Join.f k ls) ls.flatten :=
  Ev.congr (fun _ => by simp only [octet_Join.f]; rfl) (Ev.bind (cat_l0 ls hn hr ls.length 0 0 (by omega) (by omega)) (Ev.now _))

/-! ### Join -/
def joinS (l r : List Int) (n : Int) : List Int × Int := if fitP n l ∧ fitP n r then (if n % 2 = 0 then (l ++ r, 0) else if halves_Join.lb l ≠ 0 ∨ halves_Join.rb r ≠ 0 then ([], 10) else ((l ++ r.drop 1).set (l.length - 1) (Go.bits .or .u8 (rd (l ++ r.drop 1) ((l.length - 1 : Nat) : Int)) (rd r 0)), 0)) else ([], 11)
theorem join_ev (l r : List Int) (n : Int) (hl : l.length ≤ 1000) (hr : r.length ≤ 1000) : Ev (fun k => halves_Join.f k l r n) (joinS l r n) := by
  by_cases c : fitP n l ∧ fitP n r
  · obtain ⟨⟨h2, h28, h3⟩, _, _, h4⟩ := id c
    rw [joinS, if_pos c]
    refine Ev.congr (fun k => by simp only [halves_Join.f]; rw [rows2, decide_eq_true c, if_pos rfl, halves_Join.body]) ?_
    by_cases hz : n % 2 = 0
    · rw [if_pos hz]
      refine Ev.congr (fun k => by rw [if_pos hz]) (Ev.bind (cat_ev [l, r] (by simp) (by intro q hq; simp at hq; rcases hq with rfl | rfl <;> assumption)) (ev_eq (Ev.now _) ?_))
      simp
    · rw [if_neg hz]
      by_cases hx : halves_Join.lb l ≠ 0 ∨ halves_Join.rb r ≠ 0
      · rw [if_pos hx]
        exact Ev.congr (f := fun _ => some ([], 10)) (fun k => by rw [if_neg hz, if_pos hx]) (Ev.now _)
      · rw [if_neg hx]
        have hd : (r.drop 1).length ≤ 1000 := by rw [List.length_drop]; omega
        refine Ev.congr (fun k => by rw [if_neg hz, if_neg hx]) (Ev.bind (cat_ev [l, r.drop 1] (by simp) (by intro q hq; simp only [List.mem_cons, List.not_mem_nil, or_false] at hq; rcases hq with rfl | rfl <;> assumption)) (ev_eq (Ev.congr (fun k => by rw [if_pos (by simp; omega)]) (Ev.now _)) ?_))
        simp
  · rw [joinS, if_neg c]
    exact Ev.congr (f := fun _ => some ([], 11)) (fun k => by simp only [halves_Join.f]; rw [rows2, decide_eq_false c, if_neg (by decide)]) (Ev.now _)
theorem rd_mid (a b : List Int) (x : Int) : rd (a ++ x :: b) ((a.length : Nat) : Int) = x := by
  rw [rd_nat, List.getD_eq_getElem?_getD]
  simp
theorem set_mid (a b : List Int) (x y : Int) : (a ++ x :: b).set a.length y = a ++ y :: b := by
  rw [List.set_append_right _ _ (Nat.le_refl _)]
  simp
theorem lb_snoc (a : List Int) (x : Int) (h0 : 0 ≤ x) (h1 : x < 256) : halves_Join.lb (a ++ [x]) = x % 16 := by
  have e : (a ++ [x]).length - 1 = a.length := by simp
  rw [halves_Join.lb, e, rd_last, lowB h0 h1]
theorem rb_cons (b : List Int) (y : Int) (h0 : 0 ≤ y) (h1 : y < 256) : halves_Join.rb (y :: b) = y / 16 * 16 := by
  have e : rd (y :: b) 0 = y := rfl
  rw [halves_Join.rb, e, highB h0 h1]
theorem tail_ev (n : Int) (L R : List Int) (m : Nat) (h0 : 0 ≤ n) (h1 : n ≤ (L.length : Int)) (h2 : 0 < R.length) (h3 : L.length + R.length ≤ 1000) (hm : (L.take n.toNat ++ R).length = 2 * m) (hm2 : m ≤ 1000) : Ev (fun k => crosswayref14_Join.tail k n L R) (pairs (L.take n.toNat ++ R), 0) :=
  Ev.congr (fun k => by simp only [crosswayref14_Join.tail]; rw [if_pos ⟨h0, h1, h2, by omega⟩]) (Ev.bind (bytes_ev _ m hm hm2) (Ev.now _))
theorem rjoin_ev (l r : List Int) (n : Int) (hb : By l) (hc : By r) : Ev (fun k => crosswayref14_Join.f k l r n) (joinS l r n) := by
  by_cases c1 : fitP n l
  · by_cases c2 : fitP n r
    · obtain ⟨h2, h28, h3⟩ := id c1
      obtain ⟨_, _, h4⟩ := id c2
      have hm : Int.tmod n 2 = n % 2 := Int.tmod_eq_emod_of_nonneg (by omega)
      rw [joinS, if_pos ⟨c1, c2⟩]
      refine Ev.congr (fun k => by simp only [crosswayref14_Join.f]; rw [fit_eq, Option.bind_some, decide_eq_true c1, if_pos rfl, fit_eq, Option.bind_some, decide_eq_true c2, if_pos rfl]) (Ev.bind (fours_ev l hb (by omega)) (Ev.bind (fours_ev r hc (by omega)) ?_))
      by_cases hz : n % 2 = 0
      · rw [if_pos hz]
        have e1 : (fours l).take n.toNat = fours l := List.take_of_length_le (by rw [fours_length]; omega)
        have hl1 := fours_length l
        have hl2 := fours_length r
        have T := tail_ev n (fours l) (fours r) (l.length + r.length) (by omega) (by omega) (by omega) (by omega) (by rw [e1, List.length_append]; omega) (by omega)
        rw [e1, pairs_fours l _ hb, pairs_fours0 r hc] at T
        exact Ev.congr (fun k => by rw [if_neg (by omega)]) T
      · rw [if_neg hz]
        obtain ⟨a, x, rfl⟩ := snoc_of (l := l) (by omega)
        obtain ⟨y, b, rfl⟩ := cons_of (l := r) (by omega)
        have hx := hb x (by simp)
        have hy := hc.head
        have ha := hb.left
        have hb2 := hc.tail
        simp only [List.length_append, List.length_cons, List.length_nil] at h3 h4
        have e0 : n.toNat = 2 * a.length + 1 := by omega
        have e1 : fours (a ++ [x]) = (fours a ++ [x / 16]) ++ [x % 16] := by rw [fours_append, fours_cons, fours_nil, List.append_assoc]; rfl
        have e2 : (fours a ++ [x / 16]).length = 2 * a.length + 1 := by rw [List.length_append, fours_length]; rfl
        have e3 : fours (y :: b) = y / 16 :: (y % 16 :: fours b) := fours_cons y b
        have e4 : rd (fours (a ++ [x])) n = x % 16 := by
          have : n = (((fours a ++ [x / 16]).length : Nat) : Int) := by omega
          rw [this, e1, rd_last]
        have e5 : rd (fours (y :: b)) 0 = y / 16 := by rw [e3]; rfl
        have l1 : (fours (a ++ [x])).length = 2 * a.length + 2 := by rw [fours_length, List.length_append]; simp; omega
        have l2 : (fours (y :: b)).length = 2 * b.length + 2 := by rw [fours_length, List.length_cons]; omega
        have l3 : (y % 16 :: fours b).length = 2 * b.length + 1 := by rw [List.length_cons, fours_length]
        rw [lb_snoc a x hx.1 hx.2, rb_cons b y hy.1 hy.2]
        by_cases c : x % 16 ≠ 0 ∨ y / 16 * 16 ≠ 0
        · rw [if_pos c]
          exact Ev.congr (f := fun _ => some ([], 10)) (fun k => by rw [if_pos (by omega), if_pos ⟨by omega, by omega, by omega⟩, e4, e5, if_pos (by omega)]) (Ev.now _)
        · rw [if_neg c]
          have e6 : (fours (a ++ [x])).take n.toNat = fours a ++ [x / 16] := by rw [e0, e1, List.take_left' e2]
          have e7 : (fours (y :: b)).drop 1 = y % 16 :: fours b := by rw [e3]; rfl
          have T := tail_ev n (fours (a ++ [x])) (y % 16 :: fours b) (a.length + 1 + b.length) (by omega) (by omega) (by omega) (by omega) (by rw [e6, List.length_append]; omega) (by omega)
          have e8 : pairs ((fours (a ++ [x])).take n.toNat ++ y % 16 :: fours b) = a ++ (x + y) :: b := by
            have : (x / 16 * 16 % 256 + y % 16) % 256 = x + y := by omega
            rw [e6, List.append_assoc, List.singleton_append, pairs_fours a _ ha, pairs, pairs_fours0 b hb2, this]
          have e9 : (a ++ [x]) ++ (y :: b).drop 1 = a ++ x :: b := by simp
          have e10 : (a ++ [x]).length - 1 = a.length := by simp
          have e11 : rd (y :: b) 0 = y := rfl
          rw [e8] at T
          refine Ev.congr (fun k => by rw [if_pos (by omega), if_pos ⟨by omega, by omega, by omega⟩, e4, e5, if_neg (by omega), e7]) (ev_eq T ?_)
          rw [e9, e10, e11, rd_mid, orB hx.1 hx.2 hy.1 (by omega) (by omega), set_mid]
    · rw [joinS, if_neg (fun h => c2 h.2)]
      exact Ev.congr (f := fun _ => some ([], 11)) (fun k => by simp only [crosswayref14_Join.f]; rw [fit_eq, Option.bind_some, decide_eq_true c1, if_pos rfl, fit_eq, Option.bind_some, decide_eq_false c2, if_neg (by decide)]) (Ev.now _)
  · rw [joinS, if_neg (fun h => c1 h.1)]
    exact Ev.congr (f := fun _ => some ([], 11)) (fun k => by simp only [crosswayref14_Join.f]; rw [fit_eq, Option.bind_some, decide_eq_false c1, if_neg (by decide)]) (Ev.now _)

/-! ### Block -/
def blockS (l : List Int) (n p : Int) : List Int × Int := if fitP n l ∧ 0 ≤ p ∧ p ≤ 255 then (l ++ (List.replicate (14 - l.length) 0 ++ [n, p]), 0) else ([], 11)
theorem block_ev (l : List Int) (n p : Int) : Ev (fun k => halves_Block.f k l n p) (blockS l n p) := by
  have hf : halves_fits.f n [l] = some (decide (fitP n l)) := by rw [halves_fits.f, rows1]
  by_cases c : fitP n l
  · obtain ⟨h2, h28, h3⟩ := id c
    by_cases p0 : p < 0
    · rw [blockS, if_neg (by omega)]
      exact Ev.congr (f := fun _ => some ([], 11)) (fun k => by simp only [halves_Block.f]; rw [hf, Option.bind_some, decide_eq_true c, if_pos rfl, if_pos p0]) (Ev.now _)
    by_cases p1 : p > 255
    · rw [blockS, if_neg (by omega)]
      exact Ev.congr (f := fun _ => some ([], 11)) (fun k => by simp only [halves_Block.f]; rw [hf, Option.bind_some, decide_eq_true c, if_pos rfl, if_neg p0, if_pos p1]) (Ev.now _)
    have hw : wrap64 (14 - (l.length : Int)) = ((14 - l.length : Nat) : Int) := by rw [w64_in _ (by omega) (by omega)]; omega
    rw [blockS, if_pos ⟨c, by omega, by omega⟩]
    refine Ev.congr (fun k => by simp only [halves_Block.f]; rw [hf, Option.bind_some, decide_eq_true c, if_pos rfl, if_neg p0, if_neg p1, hw, Int.toNat_natCast, if_pos (by omega), if_pos (by omega)]) (Ev.bind (cat_ev [l, List.replicate (14 - l.length) 0, [n % 256, p % 256]] (by simp) ?_) (ev_eq (Ev.now _) ?_))
    · intro q hq
      simp only [List.mem_cons, List.not_mem_nil, or_false] at hq
      rcases hq with rfl | rfl | rfl
      · omega
      · rw [List.length_replicate]; omega
      · simp
    · have e1 : n % 256 = n := by omega
      have e2 : p % 256 = p := by omega
      rw [e1, e2]
      simp
  · rw [blockS, if_neg (fun h => c h.1)]
    exact Ev.congr (f := fun _ => some ([], 11)) (fun k => by simp only [halves_Block.f]; rw [hf, Option.bind_some, decide_eq_false c, if_neg (by decide)]) (Ev.now _)
theorem rblock_l0 (n p : Int) : ∀ d (acc : List Int), acc.length + d = 14 → Ev (fun k => crosswayref14_Block.l0 k n p acc) (acc ++ (List.replicate d 0 ++ [n % 256, p % 256]), 0) := by
  intro d
  induction d with
  | zero =>
    intro acc h
    exact Ev.step (f := fun _ => some (acc ++ (List.replicate 0 0 ++ [n % 256, p % 256]), 0)) (fun k => by simp only [crosswayref14_Block.l0, Option.bind_some]; rw [if_neg (by omega), if_pos (by simp; omega)]; rfl) (Ev.now _)
  | succ d ih =>
    intro acc h
    refine Ev.step (fun k => by simp only [crosswayref14_Block.l0]; rw [if_pos (by omega), if_pos (by omega)]) (ev_eq (ih (acc ++ [0]) (by simp; omega)) ?_)
    rw [List.replicate_succ, List.append_assoc]
    rfl
theorem rblock_ev (l : List Int) (n p : Int) : Ev (fun k => crosswayref14_Block.f k l n p) (blockS l n p) := by
  have bad : ¬ (fitP n l ∧ 0 ≤ p ∧ p ≤ 255) → Ev (fun k => crosswayref14_Block.j0 k l n p true) (blockS l n p) := fun h => by
    rw [blockS, if_neg h]
    exact Ev.step (f := fun _ => some ([], 11)) (fun k => by simp only [crosswayref14_Block.j0]; rw [if_pos trivial]) (Ev.now _)
  by_cases c : fitP n l
  · obtain ⟨h2, h28, h3⟩ := id c
    by_cases p0 : p < 0
    · exact Ev.congr (fun k => by simp only [crosswayref14_Block.f]; rw [fit_eq, Option.bind_some, decide_eq_true c, if_pos rfl, if_pos p0]) (bad (by omega))
    by_cases p1 : p > 255
    · exact Ev.congr (fun k => by simp only [crosswayref14_Block.f]; rw [fit_eq, Option.bind_some, decide_eq_true c, if_pos rfl, if_neg p0, decide_eq_true p1]) (bad (by omega))
    rw [blockS, if_pos ⟨c, by omega, by omega⟩]
    refine Ev.congr (fun k => by simp only [crosswayref14_Block.f]; rw [fit_eq, Option.bind_some, decide_eq_true c, if_pos rfl, if_neg p0, decide_eq_false p1]) (Ev.step (fun k => by simp only [crosswayref14_Block.j0, Option.bind_some, List.nil_append, List.length_nil]; rw [if_neg (by decide), if_pos (by omega)]) (ev_eq (rblock_l0 n p (14 - l.length) l (by omega)) ?_))
    have e1 : n % 256 = n := by omega
    have e2 : p % 256 = p := by omega
    rw [e1, e2]
  · exact Ev.congr (fun k => by simp only [crosswayref14_Block.f]; rw [fit_eq, Option.bind_some, decide_eq_false c, if_neg (by decide)]) (bad (fun h => c h.1))

/-! ### what the laws share -/
theorem alive_ev : Ev (fun k => crosswaylaw14_alive.f k) true := Ev.of crosswaylaw14_alive.mono (k := 100) (by decide +kernel)
theorem same_self (a : List Int) (h : a.length ≤ 100000) : Ev (fun k => crosswayref00_SameBytes.f k a a) true := ev_eq (same_ev a a (by omega)) (decide_eq_true rfl)
theorem cut_length (l : List Int) (n : Int) (left : Bool) : (halves_Trim.cut l n left).length = l.length := by
  unfold halves_Trim.cut
  split
  · rfl
  · split <;> simp
theorem trimS_length (l : List Int) (n : Int) (left : Bool) : (trimS l n left).1.length ≤ l.length := by
  unfold trimS
  split
  · rw [cut_length]; exact Nat.le_refl _
  · simp
theorem cutS_length (l : List Int) : (cutS l).1.length ≤ l.length ∧ (cutS l).2.1.length ≤ l.length := by
  unfold cutS
  split
  · rw [cut_length, cut_length, List.length_take, List.length_drop]; omega
  · simp
theorem joinS_length (l r : List Int) (n : Int) : (joinS l r n).1.length ≤ l.length + r.length := by
  unfold joinS
  split
  · split
    · simp
    · split
      · simp
      · simp only [List.length_set, List.length_append, List.length_drop]; omega
  · simp
theorem blockS_length (l : List Int) (n p : Int) : (blockS l n p).1.length ≤ l.length + 16 := by
  unfold blockS
  split
  · simp only [List.length_append, List.length_replicate, List.length_cons, List.length_nil]; omega
  · simp
end Go.Proofs.Ytbiiccgheblhpac.PuHalves
