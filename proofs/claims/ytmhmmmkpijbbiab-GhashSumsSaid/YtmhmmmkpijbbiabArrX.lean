/- Coefficients by value are the field's elements; the reference's functions, told over elements. -/
import Derived.Test.YtmhmmmkpijbbiabBv
import Derived.Test.YtmhmmmkpijbbiabArrW
namespace Go.Proofs.Ytmhmmmkpijbbiab.ArrX
open Go.RowKit Go.Proofs.YtmhmmmkpijbbiabW.PrintWords Go.Proofs.YtmhmmmkpijbbiabW.PrintMore Go.Proofs.Ytmhmmmkpijbbiab.Bv Go.Proofs.Ytmhmmmkpijbbiab.Gf Go.Proofs.Ytmhmmmkpijbbiab.Arr Go.Proofs.Ytmhmmmkpijbbiab.ArrW
/-- The coefficients of an element. -/
def fb (x i : Nat) : Bool := x.testBit (127 - i)
def FbEq (f : Nat → Bool) (x : Nat) : Prop := ∀ i, i < 128 → f i = fb x i
theorem fb_eq (x : Nat) : FbEq (fb x) x := fun _ _ => rfl
theorem arr_fb {f : Nat → Bool} {x : Nat} (h : FbEq f x) : arr 128 f = arr 128 (fb x) := arr_congr h
theorem fb_xor (x y i : Nat) : (fb x i != fb y i) = fb (x ^^^ y) i := by
  simp [fb, Nat.testBit_xor]
/-- Powers of x. -/
def xk : Nat → Nat
  | 0 => one
  | j + 1 => nx (xk j)
def nxk : Nat → Nat → Nat
  | 0, z => z
  | i + 1, z => nx (nxk i z)
theorem nxk_xor (i a b : Nat) : nxk i (a ^^^ b) = nxk i a ^^^ nxk i b := by
  induction i with
  | zero => rfl
  | succ i ih => rw [nxk, ih, nx_xor]; rfl
theorem nxk_zero (i : Nat) : nxk i 0 = 0 := by
  induction i with
  | zero => rfl
  | succ i ih => rw [nxk, ih]; exact nx_zero
theorem nxk_xk (i t : Nat) : nxk i (xk t) = xk (i + t) := by
  induction i with
  | zero => rw [Nat.zero_add]; rfl
  | succ i ih => rw [nxk, ih, Nat.succ_add]; rfl
theorem xk_pow (j : Nat) (h : j ≤ 127) : xk j = 2 ^ (127 - j) := by
  induction j with
  | zero => decide
  | succ j ih =>
    rw [xk, ih (by omega), show 127 - j = (127 - (j + 1)) + 1 by omega, nx_pow]
/-- What coefficients are worth. -/
def V (n : Nat → Bool) : Nat → Nat
  | 0 => 0
  | m + 1 => V n m ^^^ (if n m then xk m else 0)
theorem V_congr {n n' : Nat → Bool} : ∀ m, (∀ j, j < m → n j = n' j) → V n m = V n' m
  | 0, _ => rfl
  | m + 1, h => by rw [V, V, V_congr m (fun j hj => h j (by omega)), h m (by omega)]
theorem V_upd (n : Nat → Bool) (j : Nat) (v : Bool) : ∀ m, V (upd n j v) m = V n m ^^^ (if j < m ∧ n j ≠ v then xk j else 0)
  | 0 => by simp [V]
  | m + 1 => by
    rw [V, V, V_upd n j v m]
    by_cases hj : j = m
    · subst hj
      rw [if_neg (fun h => Nat.lt_irrefl _ h.1), Nat.xor_zero, Nat.xor_assoc]
      congr 1
      have : upd n j v j = v := by simp [upd]
      rw [this]
      by_cases h : n j = v
      · rw [if_neg (show ¬ (j < j + 1 ∧ n j ≠ v) from fun hh => hh.2 h), Nat.xor_zero, h]
      · rw [if_pos (show j < j + 1 ∧ n j ≠ v from ⟨Nat.lt_succ_self j, h⟩), show n j = !v by revert h; cases n j <;> cases v <;> simp]
        cases v <;> simp
    · have : upd n j v m = n m := by simp [upd, Ne.symm hj]
      rw [this, Nat.xor_assoc, Nat.xor_assoc, Nat.xor_comm (if n m = true then xk m else 0)]
      congr 2
      by_cases h : j < m ∧ n j ≠ v
      · rw [if_pos h, if_pos ⟨by omega, h.2⟩]
      · rw [if_neg h, if_neg (fun hh => h ⟨by omega, hh.2⟩)]
theorem V_bit (b : Nat → Bool) (p : Nat) : ∀ m, m ≤ 128 → (V b m).testBit p = (decide (127 - p < m) && decide (p ≤ 127) && b (127 - p))
  | 0, _ => by simp [V]
  | m + 1, h => by
    rw [V, Nat.testBit_xor, V_bit b p m (by omega)]
    by_cases hb : b m = true
    · rw [if_pos hb, xk_pow m (by omega), Nat.testBit_two_pow]
      by_cases hp : 127 - m = p
      · subst hp
        rw [show 127 - (127 - m) = m by omega, hb]
        simp
      · rw [decide_eq_false hp, Bool.xor_false]
        by_cases h2 : p ≤ 127
        · rw [show decide (127 - p < m + 1) = decide (127 - p < m) from decide_eq_decide.2 (by omega)]
        · rw [decide_eq_false h2]; simp
    · rw [if_neg hb, Nat.zero_testBit, Bool.xor_false]
      by_cases hp : 127 - p = m
      · rw [hp, show b m = false by simpa using hb]; simp
      · rw [show decide (127 - p < m + 1) = decide (127 - p < m) from decide_eq_decide.2 (by omega)]
theorem V_fb {f : Nat → Bool} {y : Nat} (hf : FbEq f y) (hy : y < top) : V f 128 = y := by
  apply Nat.eq_of_testBit_eq
  intro p
  rw [V_bit f p 128 (Nat.le_refl _)]
  by_cases h : p ≤ 127
  · rw [hf _ (by omega), fb, show 127 - (127 - p) = p by omega, decide_eq_true h, decide_eq_true (by omega)]
    simp
  · rw [decide_eq_false h, Nat.testBit_lt_two_pow (Nat.lt_of_lt_of_le (top_eq ▸ hy) (Nat.pow_le_pow_right (by omega) (by omega)))]
    simp
theorem fb_V (b : Nat → Bool) : FbEq b (V b 128) := by
  intro i hi
  rw [fb, V_bit b _ 128 (Nat.le_refl _), show 127 - (127 - i) = i by omega, decide_eq_true (by omega), decide_eq_true (by omega)]
  simp
/-- A row of products, so far, moved on. -/
theorem V_rowAdd (n b : Nat → Bool) (i m : Nat) : ∀ k, i + k ≤ m → V (rowAdd n b i k) m = V n m ^^^ nxk i (V b k)
  | 0, _ => by rw [rowAdd_zero, V, nxk_zero, Nat.xor_zero]
  | k + 1, h => by
    have e : rowAdd n b i (k + 1) = upd (rowAdd n b i k) (i + k) (n (i + k) != b k) := (rowAdd_succ n b i k).symm
    rw [e, V_upd, V_rowAdd n b i m k (by omega), rowAdd_at, V, nxk_xor, Nat.xor_assoc]
    congr 2
    cases hb : b k
    · rw [if_neg (by simp), if_neg (by simp), nxk_zero]
    · rw [if_pos ⟨by omega, by simp⟩, if_pos rfl, nxk_xk]
theorem V_zero : ∀ m, V (fun _ => false) m = 0
  | 0 => rfl
  | m + 1 => by rw [V, V_zero m]; simp
theorem V_prods {f g : Nat → Bool} {x y : Nat} (hf : FbEq f x) (hg : FbEq g y) (hy : y < top) : ∀ i, i ≤ 128 → V (prods f g i) 255 ^^^ S x (128 - i) (nxk i y) = mul x y
  | 0, _ => by rw [prods, V_zero, Nat.zero_xor]; rfl
  | i + 1, h => by
    have ih := V_prods hf hg hy i (by omega)
    rw [show 128 - i = (128 - (i + 1)) + 1 by omega, S, show 128 - (i + 1) = 127 - i by omega] at ih
    rw [show 128 - (i + 1) = 127 - i by omega, ← ih, prods, hf i (by omega), fb, ← Nat.xor_assoc]
    cases x.testBit (127 - i)
    · simp [nxk]
    · rw [if_pos rfl, if_pos rfl, V_rowAdd _ _ _ _ _ (by omega), V_fb hg hy]
      rfl
theorem xk_128 : xk 128 = xk 0 ^^^ (xk 1 ^^^ (xk 2 ^^^ xk 7)) := by decide +kernel
theorem xk_red (k : Nat) (h : 128 ≤ k) : xk k = xk (k - 128) ^^^ (xk (k - 127) ^^^ (xk (k - 126) ^^^ xk (k - 121))) := by
  have e := nxk_xk (k - 128) 128
  rw [show k - 128 + 128 = k by omega, xk_128, nxk_xor, nxk_xor, nxk_xor, nxk_xk, nxk_xk, nxk_xk, nxk_xk] at e
  rw [← e, show k - 128 + 0 = k - 128 by omega, show k - 128 + 1 = k - 127 by omega, show k - 128 + 2 = k - 126 by omega, show k - 128 + 7 = k - 121 by omega]
theorem V_tog (n : Nat → Bool) (j : Nat) (h : j < 255) : V (upd n j (!n j)) 255 = V n 255 ^^^ xk j := by
  rw [V_upd, if_pos ⟨h, by cases n j <;> simp⟩]
theorem V_red1 (n : Nat → Bool) (k : Nat) (h : 128 ≤ k) (h2 : k < 255) : V (red1 n k) 255 = V n 255 := by
  unfold red1
  by_cases hn : n k = true
  · rw [if_pos hn]
    dsimp only
    rw [V_tog _ _ (by omega), V_tog _ _ (by omega), V_tog _ _ (by omega), V_tog _ _ (by omega), V_upd, if_pos ⟨h2, by simp [hn]⟩, xk_red k h]
    generalize xk (k - 128) = a
    generalize xk (k - 127) = b
    generalize xk (k - 126) = c
    generalize xk (k - 121) = d
    rw [Nat.xor_assoc, Nat.xor_assoc, Nat.xor_assoc, Nat.xor_assoc]
    rw [show a ^^^ (b ^^^ (c ^^^ d)) ^^^ (a ^^^ (b ^^^ (c ^^^ d))) = 0 from Nat.xor_self _, Nat.xor_zero]
  · rw [if_neg hn]
theorem V_reds (n : Nat → Bool) : ∀ t, t ≤ 127 → V (reds n t) 255 = V n 255
  | 0, _ => rfl
  | t + 1, h => by rw [reds, V_red1 _ _ (by omega) (by omega), V_reds n t (by omega)]
theorem red1_at (n : Nat → Bool) (k : Nat) (h : 128 ≤ k) : red1 n k k = false := by
  unfold red1
  by_cases hn : n k = true
  · rw [if_pos hn]
    simp only [upd]
    rw [if_neg (by omega), if_neg (by omega), if_neg (by omega), if_neg (by omega)]
    simp
  · rw [if_neg hn]; simpa using hn
theorem red1_above (n : Nat → Bool) (k j : Nat) (h : 128 ≤ k) (hj : k < j) : red1 n k j = n j := by
  unfold red1
  by_cases hn : n k = true
  · rw [if_pos hn]
    simp only [upd]
    rw [if_neg (by omega), if_neg (by omega), if_neg (by omega), if_neg (by omega), if_neg (by omega)]
  · rw [if_neg hn]
theorem reds_clear (n : Nat → Bool) : ∀ t, t ≤ 127 → ∀ j, 254 - t < j → j ≤ 254 → reds n t j = false
  | 0, _, j, h1, h2 => by omega
  | t + 1, h, j, h1, h2 => by
    rw [reds]
    by_cases hj : j = 254 - t
    · subst hj; exact red1_at _ _ (by omega)
    · rw [red1_above _ _ _ (by omega) (by omega)]
      exact reds_clear n t (by omega) j (by omega) h2
theorem V_low (n : Nat → Bool) : ∀ d, d ≤ 127 → (∀ j, 128 ≤ j → j ≤ 254 → n j = false) → V n (128 + d) = V n 128
  | 0, _, _ => rfl
  | d + 1, h, hn => by
    rw [show 128 + (d + 1) = (128 + d) + 1 by omega, V, V_low n d (by omega) hn, hn _ (by omega) (by omega)]
    simp
/-- The product of coefficients is the field's. -/
theorem mulF_fb {f g : Nat → Bool} {x y : Nat} (hf : FbEq f x) (hg : FbEq g y) (hy : y < top) : FbEq (mulF f g) (mul x y) := by
  have h1 := V_prods hf hg hy 128 (Nat.le_refl _)
  rw [show S x (128 - 128) (nxk 128 y) = 0 from rfl, Nat.xor_zero] at h1
  have h2 := V_reds (prods f g 128) 127 (Nat.le_refl _)
  have h3 := V_low (reds (prods f g 128) 127) 127 (Nat.le_refl _) (fun j a b => reds_clear _ 127 (Nat.le_refl _) j (by omega) b)
  have h4 : V (mulF f g) 128 = mul x y := by rw [mulF, ← h3, ← h1, ← h2]
  rw [← h4]
  exact fb_V _
/-- An element's words. -/
def hiN (x : Nat) : Int := ((x / 18446744073709551616 : Nat) : Int)
def loN (x : Nat) : Int := ((x % 18446744073709551616 : Nat) : Int)
/-- An element's sixteen bytes. -/
def bytesN (x : Nat) : List Int := (List.range 16).map fun q => ((x / 2 ^ (8 * (15 - q)) % 256 : Nat) : Int)
theorem byteAt_nat (h i : Nat) : byteAt (h : Int) i = ((h / 2 ^ (8 * i) % 256 : Nat) : Int) := by
  have e : (h : Int) / 2 ^ (8 * i) = ((h / 2 ^ (8 * i) : Nat) : Int) := by norm_cast
  rw [byteAt, e]
  omega
theorem hi_byte (x j : Nat) : x / 18446744073709551616 / 2 ^ (8 * j) % 256 = x / 2 ^ (8 * (j + 8)) % 256 := by
  rw [Nat.div_div_eq_div_mul, show (18446744073709551616 : Nat) = 2 ^ 64 by decide, ← Nat.pow_add, show 64 + 8 * j = 8 * (j + 8) by omega]
theorem lo_byte (x j : Nat) (h : j < 8) : x % 18446744073709551616 / 2 ^ (8 * j) % 256 = x / 2 ^ (8 * j) % 256 := by
  apply Nat.eq_of_testBit_eq
  intro p
  rw [show (256 : Nat) = 2 ^ 8 by decide, show (18446744073709551616 : Nat) = 2 ^ 64 by decide, Nat.testBit_mod_two_pow, Nat.testBit_mod_two_pow, ← Nat.shiftRight_eq_div_pow, ← Nat.shiftRight_eq_div_pow, Nat.testBit_shiftRight, Nat.testBit_shiftRight, Nat.testBit_mod_two_pow]
  by_cases hp : p < 8
  · rw [decide_eq_true hp, decide_eq_true (by omega)]; simp
  · rw [decide_eq_false hp]; simp
theorem words_bytes (x : Nat) : beN (hiN x) 8 ++ beN (loN x) 8 = bytesN x := by
  unfold beN hiN loN bytesN
  rw [show (16 : Nat) = 8 + 8 from rfl, List.range_add, List.map_append, List.map_map]
  congr 1
  · apply List.map_congr_left
    intro j hj
    have := List.mem_range.1 hj
    rw [byteAt_nat, hi_byte, show 7 - j + 8 = 8 + 8 - 1 - j by omega]
  · apply List.map_congr_left
    intro j hj
    have := List.mem_range.1 hj
    show _ = ((x / 2 ^ (8 * (15 - (8 + j))) % 256 : Nat) : Int)
    rw [byteAt_nat, lo_byte _ _ (by omega), show 15 - (8 + j) = 7 - j by omega]
theorem bytesN_length (x : Nat) : (bytesN x).length = 16 := by rw [bytesN, List.length_map, List.length_range]
theorem bytesN_mem {x : Nat} {b : Int} (h : b ∈ bytesN x) : 0 ≤ b ∧ b < 256 := by
  obtain ⟨q, _, rfl⟩ := List.mem_map.1 h
  omega
theorem rd_bytesN (x q : Nat) (h : q < 16) : rd (bytesN x) (q : Int) = ((x / 2 ^ (8 * (15 - q)) % 256 : Nat) : Int) := by
  unfold rd bytesN
  rw [Int.toNat_natCast, List.getD_eq_getElem?_getD, List.getElem?_map, List.getElem?_range h]
  rfl
theorem bit_int (v k : Nat) : (((v : Int) / 2 ^ k).tmod 2 == 1) = v.testBit k := by
  rw [Nat.testBit_eq_decide_div_mod_eq]
  have : ((v : Int) / 2 ^ k).tmod 2 = ((v / 2 ^ k % 2 : Nat) : Int) := by
    have e : (v : Int) / 2 ^ k = ((v / 2 ^ k : Nat) : Int) := by norm_cast
    rw [e, Int.tmod_eq_emod_of_nonneg (Int.natCast_nonneg _)]
    norm_cast
  rw [this]
  have h2 := Nat.mod_lt (v / 2 ^ k) (by omega : 2 > 0)
  by_cases h : v / 2 ^ k % 2 = 1
  · rw [h]; rfl
  · rw [show v / 2 ^ k % 2 = 0 by omega]; rfl
/-- The coefficients of an element's bytes. -/
theorem bitF_bytes (x : Nat) : FbEq (bitF (bytesN x)) x := by
  intro i hi
  unfold bitF fb
  rw [rd_bytesN x _ (by omega), bit_int, show (256 : Nat) = 2 ^ 8 by decide, Nat.testBit_mod_two_pow, ← Nat.shiftRight_eq_div_pow, Nat.testBit_shiftRight, decide_eq_true (by omega), Bool.true_and, show 8 * (15 - i / 8) + (7 - i % 8) = 127 - i by omega]
/-- The bytes of coefficients, so far, as whole numbers. -/
def outN (f : Nat → Bool) : Nat → Nat → Nat
  | 0 => fun _ => 0
  | i + 1 => if f i then fun q => if q = i / 8 then outN f i (i / 8) ||| 2 ^ (7 - i % 8) else outN f i q else outN f i
theorem outN_lt (f : Nat → Bool) : ∀ i q, outN f i q < 256
  | 0, _ => by simp [outN]
  | i + 1, q => by
    unfold outN
    split
    · dsimp only
      split
      · exact Nat.or_lt_two_pow (n := 8) (outN_lt f i _) (Nat.pow_lt_pow_right (by omega) (by omega))
      · exact outN_lt f i q
    · exact outN_lt f i q
theorem outS_N (f : Nat → Bool) : ∀ i q, outS f i q = (outN f i q : Int)
  | 0, _ => rfl
  | i + 1, q => by
    unfold outS outN
    by_cases h : f i = true
    · rw [if_pos h, if_pos h]
      by_cases hq : q = i / 8
      · rw [if_pos hq, if_pos hq, outS_N f i]
        have hp : 2 ^ (7 - i % 8) < 256 := Nat.pow_lt_pow_right (n := 8) (by omega) (by omega)
        have := u8_or_nat (outN f i (i / 8)) (2 ^ (7 - i % 8)) (outN_lt f i _) hp
        rw [← this]
        norm_cast
      · rw [if_neg hq, if_neg hq, outS_N f i]
    · rw [if_neg h, if_neg h, outS_N f i]
theorem outN_bit (f : Nat → Bool) (q p : Nat) : ∀ i, (outN f i q).testBit p = (decide (p < 8) && decide (8 * q + (7 - p) < i) && f (8 * q + (7 - p)))
  | 0 => by simp [outN]
  | i + 1 => by
    unfold outN
    by_cases h : f i = true
    · rw [if_pos h]
      by_cases hq : q = i / 8
      · rw [if_pos hq, ← hq, Nat.testBit_or, outN_bit f q p i, Nat.testBit_two_pow]
        by_cases hp : 7 - i % 8 = p
        · have e : 8 * q + (7 - p) = i := by omega
          rw [decide_eq_true hp, e, h, decide_eq_true (show p < 8 by omega)]
          simp
        · rw [decide_eq_false hp, Bool.or_false]
          by_cases h8 : p < 8
          · rw [show decide (8 * q + (7 - p) < i + 1) = decide (8 * q + (7 - p) < i) from decide_eq_decide.2 (by omega)]
          · rw [decide_eq_false h8]; simp
      · rw [if_neg hq, outN_bit f q p i]
        by_cases h8 : p < 8
        · rw [show decide (8 * q + (7 - p) < i + 1) = decide (8 * q + (7 - p) < i) from decide_eq_decide.2 (by omega)]
        · rw [decide_eq_false h8]; simp
    · rw [if_neg h, outN_bit f q p i]
      by_cases h8 : p < 8
      · by_cases e : 8 * q + (7 - p) = i
        · rw [e, show f i = false by simpa using h]; simp
        · rw [show decide (8 * q + (7 - p) < i + 1) = decide (8 * q + (7 - p) < i) from decide_eq_decide.2 (by omega)]
      · rw [decide_eq_false h8]; simp
/-- The bytes of an element's coefficients. -/
theorem out_bytes {f : Nat → Bool} {x : Nat} (hf : FbEq f x) : (List.range 16).map (outS f 128) = bytesN x := by
  unfold bytesN
  apply List.map_congr_left
  intro q hq
  have hq' := List.mem_range.1 hq
  rw [outS_N]
  congr 1
  apply Nat.eq_of_testBit_eq
  intro p
  rw [outN_bit, show (256 : Nat) = 2 ^ 8 by decide, Nat.testBit_mod_two_pow, ← Nat.shiftRight_eq_div_pow, Nat.testBit_shiftRight]
  by_cases h8 : p < 8
  · rw [decide_eq_true h8, decide_eq_true (show 8 * q + (7 - p) < 128 by omega), hf _ (by omega), fb, show 127 - (8 * q + (7 - p)) = 8 * (15 - q) + p by omega]
    simp
  · rw [decide_eq_false h8]; simp
theorem one_fb : FbEq oneF one := by
  intro i hi
  unfold oneF fb
  rw [one_eq, Nat.testBit_two_pow]
  by_cases h : i = 0
  · subst h; rfl
  · rw [if_neg h]; exact (decide_eq_false (by omega)).symm
theorem powG_fb : ∀ (d n : Nat) (o a : Nat → Bool) (z y : Nat), n < 2 ^ d → FbEq o z → FbEq a y → z < top → y < top → FbEq (powG d o a n) (mul z (pw y n))
  | 0, n, o, a, z, y, hn, ho, ha, hz, hy => by
    obtain rfl : n = 0 := by simp at hn; omega
    rw [pw, mul_one hz]
    exact ho
  | d + 1, n, o, a, z, y, hn, ho, ha, hz, hy => by
    unfold powG
    by_cases h0 : n = 0
    · subst h0
      rw [if_pos rfl, pw, mul_one hz]
      exact ho
    · rw [if_neg h0]
      have hp := pw_sq hy (n / 2)
      have hlt : n / 2 < 2 ^ d := by rw [Nat.pow_succ] at hn; omega
      by_cases h1 : n % 2 = 1
      · rw [if_pos h1]
        have := powG_fb d (n / 2) _ _ (mul z y) (mul y y) hlt (mulF_fb ho ha hy) (mulF_fb ha ha hy) (mul_lt hy) (mul_lt hy)
        rw [show mul y y = sq y from rfl, hp, mul_assoc hz hy (pw_lt hy _), mul_comm hy (pw_lt hy _)] at this
        have h : mul (pw y (2 * (n / 2))) y = pw y (2 * (n / 2) + 1) := rfl
        rw [h, show 2 * (n / 2) + 1 = n by omega] at this
        exact this
      · rw [if_neg h1]
        have := powG_fb d (n / 2) _ _ z (mul y y) hlt ho (mulF_fb ha ha hy) hz (mul_lt hy)
        rw [show mul y y = sq y from rfl, hp, show 2 * (n / 2) = n by omega] at this
        exact this
/-! ### the contracts, over elements -/
theorem add_x (x y : Nat) (w : World) : Calls Try.prog 36 #[.agg (arr 128 (fb x)), .agg (arr 128 (fb y))] w fun e w' => e = .returned (.agg (arr 128 (fb (x ^^^ y)))) ∧ Below w.heap.size w w' :=
  (add_calls _ _ w).mono fun e w' ⟨h, hb⟩ => ⟨by rw [h, arr_congr fun i _ => fb_xor x y i], hb⟩
theorem mul_x (x y : Nat) (w : World) (hy : y < top) : Calls Try.prog 20 #[.agg (arr 128 (fb x)), .agg (arr 128 (fb y))] w fun e w' => e = .returned (.agg (arr 128 (fb (mul x y)))) ∧ Below w.heap.size w w' :=
  (mul_calls _ _ w).mono fun e w' ⟨h, hb⟩ => ⟨by rw [h, arr_fb (mulF_fb (fb_eq x) (fb_eq y) hy)], hb⟩
theorem of_x (x : Nat) (A : Option Addr) (c : Nat) (w : World) (hC : Kd.C (Kd.int .u8) w A (bytesN x).length (bytesN x)) : Calls Try.prog 17 #[.slice A (bytesN x).length c] w fun e w' => e = .returned (.agg (arr 128 (fb x))) ∧ Below w.heap.size w w' :=
  (of_calls _ A c w (bytesN_length x) hC (fun _ => bytesN_mem)).mono fun e w' ⟨h, hb⟩ => ⟨by rw [h, arr_fb (bitF_bytes x)], hb⟩
theorem bytes_x (x : Nat) (w : World) : Calls Try.prog 28 #[.agg (arr 128 (fb x))] w fun e w' => ∃ v, e = .returned v ∧ Kd.R (Kd.int .u8) 5 w' w.heap.size (fun _ => True) v (bytesN x) ∧ Below w.heap.size w w' := by
  have h := rbytes_calls (fb x) w
  rw [out_bytes (fb_eq x)] at h
  exact h
theorem word_lt {x : Nat} (hx : x < top) : (0 ≤ hiN x ∧ hiN x < 18446744073709551616) ∧ 0 ≤ loN x ∧ loN x < 18446744073709551616 := by
  have h : top = 18446744073709551616 * 18446744073709551616 := by decide
  unfold hiN loN
  omega
/-- The element of two words. -/
def nOf (a b : Int) : Nat := a.toNat * 18446744073709551616 + b.toNat
theorem nOf_lt {a b : Int} (ha : 0 ≤ a ∧ a < 18446744073709551616) (hb : 0 ≤ b ∧ b < 18446744073709551616) : nOf a b < top ∧ a = hiN (nOf a b) ∧ b = loN (nOf a b) := by
  have h : top = 18446744073709551616 * 18446744073709551616 := by decide
  exact ⟨by unfold nOf; omega, by unfold nOf hiN; omega, by unfold nOf loN; omega⟩

end Go.Proofs.Ytmhmmmkpijbbiab.ArrX
