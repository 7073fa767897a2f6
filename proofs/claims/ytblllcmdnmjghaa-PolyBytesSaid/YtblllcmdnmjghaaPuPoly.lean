/- The plain law of poly: the program's products, sums and powers are the field's. -/
import Derived.Test.YtblllcmdnmjghaaMB
import Derived.Test.YtblllcmdnmjghaaBv
import Derived.Test.YtblllcmdnmjghaaGf
namespace Go.Proofs.Ytblllcmdnmjghaa.PuPoly
open Go.RowKit Go.Proofs.YtblllcmdnmjghaaW.PrintWords Go.Proofs.YtblllcmdnmjghaaW.PrintMore Go.Proofs.Ytblllcmdnmjghaa.M Go.Proofs.Ytblllcmdnmjghaa.Bv Go.Proofs.Ytblllcmdnmjghaa.Gf
theorem ev_eq {α : Type} {g : Nat → Option α} {r s : α} (h : Ev g r) (e : r = s) : Ev g s := e ▸ h
theorem w64_up (i : Nat) (h : i < 9223372036854775807) : wrap64 ((i : Int) + 1) = ((i + 1 : Nat) : Int) := by unfold wrap64; omega
/-- An element as the program has it. -/
def E (n : Nat) : Int × Int := (((n / 18446744073709551616 : Nat) : Int), ((n % 18446744073709551616 : Nat) : Int))
theorem top_64 : top = 18446744073709551616 * 18446744073709551616 := by decide
theorem E_of {x y : Int} (x0 : 0 ≤ x) (x1 : x < 18446744073709551616) (y0 : 0 ≤ y) (y1 : y < 18446744073709551616) : ∃ a, a < top ∧ x = (E a).1 ∧ y = (E a).2 := by
  have h := top_64
  refine ⟨x.toNat * 18446744073709551616 + y.toNat, by omega, ?_, ?_⟩
  · show x = (((x.toNat * 18446744073709551616 + y.toNat) / 18446744073709551616 : Nat) : Int)
    omega
  · show y = (((x.toNat * 18446744073709551616 + y.toNat) % 18446744073709551616 : Nat) : Int)
    omega
theorem E_inj {a b : Nat} (h : E a = E b) : a = b := by
  have h1 : ((a / 18446744073709551616 : Nat) : Int) = ((b / 18446744073709551616 : Nat) : Int) := congrArg Prod.fst h
  have h2 : ((a % 18446744073709551616 : Nat) : Int) = ((b % 18446744073709551616 : Nat) : Int) := congrArg Prod.snd h
  omega
theorem E_lt {a : Nat} (ha : a < top) : a / 18446744073709551616 < 18446744073709551616 ∧ a % 18446744073709551616 < 18446744073709551616 := by
  have h := top_64
  exact ⟨by omega, by omega⟩
theorem pow64 : (2 : Nat) ^ 64 = 18446744073709551616 := by decide
theorem plus_E {a b : Nat} (ha : a < top) (hb : b < top) : poly_Elem_Times.plus (E a) (E b) = E (a ^^^ b) := by
  obtain ⟨a1, a2⟩ := E_lt ha
  obtain ⟨b1, b2⟩ := E_lt hb
  have h1 : (a ^^^ b) / 18446744073709551616 = a / 18446744073709551616 ^^^ b / 18446744073709551616 := by rw [← pow64, ← Nat.shiftRight_eq_div_pow, ← Nat.shiftRight_eq_div_pow, ← Nat.shiftRight_eq_div_pow, Nat.shiftRight_xor_distrib]
  have h2 : (a ^^^ b) % 18446744073709551616 = a % 18446744073709551616 ^^^ b % 18446744073709551616 := by rw [← pow64, Nat.xor_mod_two_pow]
  unfold poly_Elem_Times.plus E
  rw [h1, h2]
  dsimp only
  rw [u64_xor_nat _ _ a1 b1, u64_xor_nat _ _ a2 b2]
theorem nxt_E {a : Nat} (ha : a < top) : poly_Elem_Times.nxt (E a) = E (nx a) := by
  obtain ⟨a1, a2⟩ := E_lt ha
  have ht := top_64
  have e1 : Go.bits .and .u64 (E a).2 1 = ((a % 2 : Nat) : Int) := by
    have h := u64_and_nat (a % 18446744073709551616) 1 a2 (by decide)
    show Go.bits .and .u64 ((a % 18446744073709551616 : Nat) : Int) ((1 : Nat) : Int) = _
    rw [h, Nat.and_one_is_mod]
    omega
  have e2 : (E a).1 / 2 = ((a / 2 / 18446744073709551616 : Nat) : Int) := by
    show ((a / 18446744073709551616 : Nat) : Int) / 2 = _
    omega
  have e3 : Go.bits .or .u64 ((E a).2 / 2) (IntKind.u64.wrap ((E a).1 * 9223372036854775808)) = ((a / 2 % 18446744073709551616 : Nat) : Int) := by
    have h1 : (E a).2 / 2 = ((a % 18446744073709551616 / 2 : Nat) : Int) := by show ((a % 18446744073709551616 : Nat) : Int) / 2 = _; omega
    have h2 : IntKind.u64.wrap ((E a).1 * 9223372036854775808) = (((a / 18446744073709551616 % 2) * 9223372036854775808 : Nat) : Int) := by
      rw [IntKind.wrap_u64]
      show ((a / 18446744073709551616 : Nat) : Int) * 9223372036854775808 % 18446744073709551616 = _
      omega
    rw [h1, h2, u64_or_nat _ _ (by omega) (by omega)]
    have h3 : a % 18446744073709551616 / 2 ||| a / 18446744073709551616 % 2 * 9223372036854775808 = a / 18446744073709551616 % 2 * 9223372036854775808 + a % 18446744073709551616 / 2 := by
      rw [Nat.or_comm]
      exact nat_join 63 _ _ (by omega) (by omega)
    rw [h3]
    congr 1
    omega
  have hh : a / 2 < top := by omega
  unfold poly_Elem_Times.nxt nx
  rw [e1, e2, e3]
  by_cases h : a % 2 = 1
  · rw [if_neg (by omega), if_pos h]
    have h5 := plus_E hh R_lt
    have hR : E R = (16212958658533785600, 0) := by decide
    rw [hR] at h5
    rw [← h5]
    unfold poly_Elem_Times.plus E
    dsimp only
    congr 1
    have h6 := u64_xor_nat (a / 2 % 18446744073709551616) 0 (by omega) (by omega)
    rw [Nat.xor_zero] at h6
    exact h6.symm
  · rw [if_pos (by omega), if_neg h]
    rfl
/-! ### coefficients -/
def bl (a : Nat) : Nat → List Bool
  | 0 => []
  | k + 1 => a.testBit k :: bl a k
def Sl : List Bool → Nat → Nat
  | [], _ => 0
  | b :: l, o => (if b then o else 0) ^^^ Sl l (nx o)
theorem S_bl (a : Nat) : ∀ k o, S a k o = Sl (bl a k) o := by
  intro k
  induction k with
  | zero => intro o; rfl
  | succ k ih => intro o; rw [S, bl, Sl, ih]
theorem bl_map (a : Nat) : ∀ k, bl a k = (List.range k).map fun i => a.testBit (k - 1 - i) := by
  intro k
  induction k with
  | zero => rfl
  | succ k ih =>
    rw [bl, ih, List.range_succ_eq_map, List.map_cons, List.map_map]
    congr 1
    apply List.map_congr_left
    intro i _
    show a.testBit (k - 1 - i) = a.testBit (k + 1 - 1 - (i + 1))
    congr 1
    omega
theorem bl_append (a : Nat) (k : Nat) : ∀ m, bl a (m + k) = bl (a / 2 ^ k) m ++ bl a k := by
  intro m
  induction m with
  | zero => rw [Nat.zero_add]; rfl
  | succ m ih => rw [Nat.add_right_comm, bl, ih, bl, Nat.testBit_div_two_pow]; rfl
theorem bl_mod (a : Nat) (n : Nat) : ∀ k, k ≤ n → bl (a % 2 ^ n) k = bl a k := by
  intro k
  induction k with
  | zero => intro _; rfl
  | succ k ih => intro h; rw [bl, bl, ih (by omega), Nat.testBit_mod_two_pow, decide_eq_true (by omega : k < n), Bool.true_and]
theorem wv_eq (w : Nat) (hw : w < 18446744073709551616) : ∀ j, poly_Elem_Times.wv (w : Int) j = ((w * 2 ^ j % 18446744073709551616 : Nat) : Int) := by
  intro j
  induction j with
  | zero => rw [poly_Elem_Times.wv, Nat.pow_zero, Nat.mul_one, Nat.mod_eq_of_lt hw]
  | succ j ih =>
    rw [poly_Elem_Times.wv, ih, IntKind.wrap_u64, Nat.pow_succ, ← Nat.mul_assoc]
    generalize w * 2 ^ j = q
    omega
theorem bitv_eq (w : Nat) (hw : w < 18446744073709551616) (j : Nat) (hj : j < 64) : poly_Elem_Times.bitv (w : Int) j = w.testBit (63 - j) := by
  rw [poly_Elem_Times.bitv, wv_eq w hw]
  have h := u64_and_nat (w * 2 ^ j % 18446744073709551616) 9223372036854775808 (Nat.mod_lt _ (by decide)) (by decide)
  have h0 : Go.bits .and .u64 ((w * 2 ^ j % 18446744073709551616 : Nat) : Int) 9223372036854775808 = ((w * 2 ^ j % 18446744073709551616 &&& 9223372036854775808 : Nat) : Int) := h
  rw [h0]
  have h2 : w * 2 ^ j % 18446744073709551616 &&& 9223372036854775808 = (if (w * 2 ^ j % 18446744073709551616).testBit 63 then 9223372036854775808 else 0) := by
    have e : (9223372036854775808 : Nat) = 2 ^ 63 := by decide
    rw [e]
    apply Nat.eq_of_testBit_eq
    intro i
    rw [Nat.testBit_and, Nat.testBit_two_pow]
    by_cases hi : 63 = i
    · subst hi
      cases (w * 2 ^ j % 18446744073709551616).testBit 63 with
      | true =>
        simp
        decide +kernel
      | false => simp
    · rw [decide_eq_false hi, Bool.and_false]
      split
      · rw [Nat.testBit_two_pow, decide_eq_false hi]
      · rw [Nat.zero_testBit]
  have h3 : (w * 2 ^ j % 18446744073709551616).testBit 63 = w.testBit (63 - j) := by
    rw [← pow64, Nat.testBit_mod_two_pow, Nat.mul_comm, Nat.testBit_two_pow_mul]
    simp
    omega
  rw [h2, h3]
  cases w.testBit (63 - j) <;> rfl
theorem bitsOf_bl (w : Nat) (hw : w < 18446744073709551616) : poly_Elem_Times.bitsOf (w : Int) 64 = bl w 64 := by
  rw [poly_Elem_Times.bitsOf, bl_map]
  apply List.map_congr_left
  intro i hi
  rw [List.mem_range] at hi
  rw [bitv_eq w hw i hi]
theorem run_E : ∀ (l : List Bool) (acc o : Nat), acc < top → o < top → (l.foldl poly_Elem_Times.step (E acc, E o)).1 = E (acc ^^^ Sl l o) := by
  intro l
  induction l with
  | nil => intro acc o _ _; rw [List.foldl_nil, Sl, Nat.xor_zero]
  | cons b l ih =>
    intro acc o ha ho
    rw [List.foldl_cons, poly_Elem_Times.step]
    dsimp only
    rw [nxt_E ho]
    cases b with
    | true => rw [if_pos rfl, plus_E ha ho, ih _ _ (xor_lt ha ho) (nx_lt ho), Sl, if_pos rfl, Nat.xor_assoc]
    | false => rw [if_neg (by decide), ih _ _ ha (nx_lt ho), Sl, if_neg (by decide), Nat.zero_xor]
theorem times_E {a b : Nat} (ha : a < top) (hb : b < top) : poly_Elem_Times.f (E a).1 (E a).2 (E b).1 (E b).2 = some (E (mul a b)) := by
  obtain ⟨a1, a2⟩ := E_lt ha
  have h1 : poly_Elem_Times.bitsOf (E a).1 64 ++ poly_Elem_Times.bitsOf (E a).2 64 = bl a 128 := by
    have e : bl a 128 = bl (a / 2 ^ 64) 64 ++ bl a 64 := bl_append a 64 64
    rw [e, ← bl_mod a 64 64 (Nat.le_refl _), pow64]
    show poly_Elem_Times.bitsOf ((a / 18446744073709551616 : Nat) : Int) 64 ++ poly_Elem_Times.bitsOf ((a % 18446744073709551616 : Nat) : Int) 64 = _
    rw [bitsOf_bl _ a1, bitsOf_bl _ a2]
  have h2 := run_E (bl a 128) 0 b (by decide) hb
  rw [poly_Elem_Times.f, h1, poly_Elem_Times.run]
  have e0 : E 0 = ((0 : Int), (0 : Int)) := by decide
  rw [e0, Nat.zero_xor, ← S_bl] at h2
  rw [mul, ← h2]
theorem next_E {a : Nat} (ha : a < top) : poly_Elem_Next.f (E a).1 (E a).2 = some (E (nx a)) := by
  rw [poly_Elem_Times.nxt_eq, ← nxt_E ha]
theorem one_E : poly_One.f = some (E one) := by
  have h : E one = (9223372036854775808, 0) := by decide
  rw [h]
  rfl
theorem eq_E {a b : Nat} : ((E a).1 == (E b).1 && ((E a).2 == (E b).2)) = decide (a = b) := by
  rw [Bool.eq_iff_iff, Bool.and_eq_true, beq_iff_eq, beq_iff_eq, decide_eq_true_iff]
  constructor
  · rintro ⟨h1, h2⟩
    exact E_inj (Prod.ext h1 h2)
  · rintro rfl
    exact ⟨rfl, rfl⟩
theorem ne_E {a b : Nat} : (!((E a).1 == (E b).1) || (!((E a).2 == (E b).2))) = !decide (a = b) := by rw [← eq_E, Bool.not_and]
theorem zero_E {a : Nat} : ((E a).1 == 0 && ((E a).2 == 0)) = decide (a = 0) := eq_E (a := a) (b := 0)
/-! ### sums, powers -/
def toS (n : Nat) : S24 := ⟨(E n).1, (E n).2⟩
theorem rd_toS (l : List Nat) (i : Nat) : rd_T24 (l.map toS) (i : Int) = toS (l.getD i 0) := by
  show (l.map toS).getD i z24 = _
  rw [List.getD_eq_getElem?_getD, List.getD_eq_getElem?_getD, List.getElem?_map]
  cases l[i]? <;> rfl
def sumN (l : List Nat) (acc : Nat) : Nat := l.foldl (fun a b => a ^^^ b) acc
theorem plus_f {a b : Nat} (ha : a < top) (hb : b < top) : poly_Elem_plus.f (E a).1 (E a).2 (toS b).f0 (toS b).f1 = some (E (a ^^^ b)) := by rw [← plus_E ha hb]; rfl
theorem sum_l0 (l : List Nat) (hl : ∀ x ∈ l, x < top) (hn : l.length ≤ 1000000) : ∀ (d i acc : Nat), i + d = l.length → acc < top → Ev (fun k => poly_Sum.l0 k (l.map toS) (l.length : Int) (i : Int) (E acc).1 (E acc).2) (E (sumN (l.drop i) acc)) := by
  intro d
  induction d with
  | zero =>
    intro i acc hi ha
    refine Ev.step (f := fun _ => some ((E acc).1, (E acc).2)) (fun k => by simp only [poly_Sum.l0]; rw [if_neg (by omega)]) (ev_eq (Ev.now _) ?_)
    rw [List.drop_of_length_le (by omega)]
    rfl
  | succ d ih =>
    intro i acc hi ha
    have hd : l.drop i = l.getD i 0 :: l.drop (i + 1) := by
      rw [List.drop_eq_getElem_cons (by omega), List.getD_eq_getElem?_getD, List.getElem?_eq_getElem (by omega)]
      rfl
    have hx : l.getD i 0 < top := hl _ (by rw [List.getD_eq_getElem?_getD, List.getElem?_eq_getElem (by omega)]; exact List.getElem_mem (by omega))
    refine Ev.step (fun k => ?_) (ev_eq (ih (i + 1) (acc ^^^ l.getD i 0) (by omega) (xor_lt ha hx)) (by rw [hd]; rfl))
    simp only [poly_Sum.l0]
    rw [if_pos (by omega), if_pos (by omega), if_pos (by rw [List.length_map]; omega), rd_toS, plus_f ha hx, Option.bind_some, w64_up i (by omega)]
theorem sum_ev (l : List Nat) (hl : ∀ x ∈ l, x < top) (hn : l.length ≤ 1000000) : Ev (fun k => poly_Sum.f k (l.map toS)) (E (sumN l 0)) := by
  have h := sum_l0 l hl hn l.length 0 0 (by omega) (by decide)
  exact Ev.congr (fun k => by rw [poly_Sum.f, List.length_map]; rfl) h
theorem sum2_ev {a b : Nat} (ha : a < top) (hb : b < top) : Ev (fun k => poly_Sum.f k [⟨(E a).1, (E a).2⟩, ⟨(E b).1, (E b).2⟩]) (E (a ^^^ b)) := by
  refine ev_eq (sum_ev [a, b] ?_ (by simp)) ?_
  · intro x hx
    simp only [List.mem_cons, List.not_mem_nil, or_false] at hx
    rcases hx with rfl | rfl
    · exact ha
    · exact hb
  · show E ((0 ^^^ a) ^^^ b) = _
    rw [Nat.zero_xor]
theorem and1 {n : Nat} (hn : n < 18446744073709551616) : Go.bits .and .u64 (n : Int) 1 = ((n % 2 : Nat) : Int) := by
  have h := u64_and_nat n 1 hn (by decide)
  have h0 : Go.bits .and .u64 (n : Int) 1 = ((n &&& 1 : Nat) : Int) := h
  rw [h0, Nat.and_one_is_mod]
theorem pow_l0 : ∀ (m n : Nat), n ≤ m → n < 18446744073709551616 → ∀ (e acc : Nat), e < top → acc < top → Ev (fun k => poly_Elem_Pow.l0 k (n : Int) (E e).1 (E e).2 (E acc).1 (E acc).2) (E (mul acc (pw e n))) := by
  intro m
  induction m with
  | zero =>
    intro n hn _ e acc _ ha
    obtain rfl : n = 0 := by omega
    refine Ev.step (f := fun _ => some ((E acc).1, (E acc).2)) (fun k => by simp only [poly_Elem_Pow.l0]; rw [if_pos (by omega)]) (ev_eq (Ev.now _) ?_)
    rw [pw, mul_one ha]
  | succ m ih =>
    intro n hn h64 e acc he ha
    by_cases h0 : n = 0
    · subst h0
      refine Ev.step (f := fun _ => some ((E acc).1, (E acc).2)) (fun k => by simp only [poly_Elem_Pow.l0]; rw [if_pos (by omega)]) (ev_eq (Ev.now _) ?_)
      rw [pw, mul_one ha]
    have e2 : (n : Int) / 2 = ((n / 2 : Nat) : Int) := by omega
    have hp := pw_sq he (n / 2)
    by_cases h1 : n % 2 = 0
    · refine Ev.step (fun k => ?_) (ev_eq (ih (n / 2) (by omega) (by omega) (sq e) acc (sq_lt he) ha) ?_)
      · simp only [poly_Elem_Pow.l0]
        rw [if_neg (by omega), and1 h64, if_pos (by omega), times_E he he, Option.bind_some, e2]
        rfl
      · rw [hp, show 2 * (n / 2) = n by omega]
    · refine Ev.step (fun k => ?_) (ev_eq (ih (n / 2) (by omega) (by omega) (sq e) (mul acc e) (sq_lt he) (mul_lt he)) ?_)
      · simp only [poly_Elem_Pow.l0]
        rw [if_neg (by omega), and1 h64, if_neg (by omega), times_E ha he, Option.bind_some, times_E he he, Option.bind_some, e2]
        rfl
      · rw [hp, mul_assoc ha he (pw_lt he _), mul_comm he (pw_lt he _)]
        have h : mul (pw e (2 * (n / 2))) e = pw e (2 * (n / 2) + 1) := rfl
        rw [h, show 2 * (n / 2) + 1 = n by omega]
theorem pow_ev {a n : Nat} (ha : a < top) (hn : n < 18446744073709551616) : Ev (fun k => poly_Elem_Pow.f k (E a).1 (E a).2 (n : Int)) (E (pw a n)) := by
  refine Ev.congr (fun k => by rw [poly_Elem_Pow.f, one_E, Option.bind_some]) (ev_eq (pow_l0 n n (Nat.le_refl _) hn a one ha one_lt) ?_)
  rw [one_mul (pw_lt ha n)]
theorem same_E {a b : Nat} (h : a = b) : ¬ (!((E a).1 == (E b).1) || (!((E a).2 == (E b).2))) = true := by
  rw [ne_E, decide_eq_true h]
  simp
theorem alive_ev : Ev (fun k => crosswaylaw04_alive.f k) true := Ev.of crosswaylaw04_alive.mono (k := 100) (by decide +kernel)
end Go.Proofs.Ytblllcmdnmjghaa.PuPoly
