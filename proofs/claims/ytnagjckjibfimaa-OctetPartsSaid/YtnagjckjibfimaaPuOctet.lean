/- The plain law of octets: exclusive or, sameness: what the program's and the document's functions tell, as one function. -/
import Derived.Test.YtnagjckjibfimaaPuCat
namespace Go.Proofs.Ytnagjckjibfimaa.PuOctet
open Go.RowKit Go.Proofs.YtnagjckjibfimaaW.PrintWords Go.Proofs.YtnagjckjibfimaaW.PrintMore Go.Proofs.Ytnagjckjibfimaa.M Go.Proofs.Ytnagjckjibfimaa.Bv Go.Proofs.Ytnagjckjibfimaa.PuLib Go.Proofs.Ytnagjckjibfimaa.PuCat
def By (l : List Int) : Prop := ∀ x ∈ l, 0 ≤ x ∧ x < 256
theorem alive_ev : Ev (fun k => crosswaylaw01_alive.f k) true := Ev.of crosswaylaw01_alive.mono (k := 100) (by decide +kernel)
theorem same_self (a : List Int) (h : a.length ≤ 100000) : Ev (fun k => crosswayref00_SameBytes.f k a a) true := ev_eq (same_ev a a (by omega)) (decide_eq_true rfl)
def xorB (x y : Int) : Int := Go.bits .xor .u8 x y
def xorL (a b : List Int) : List Int := List.zipWith xorB a b
theorem xorL_length {a b : List Int} (h : a.length = b.length) : (xorL a b).length = a.length := by rw [xorL, List.length_zipWith]; omega
theorem xorL_rd {a b : List Int} (h : a.length = b.length) (i : Nat) (hi : i < a.length) : rd (xorL a b) (i : Int) = xorB (rd a (i : Int)) (rd b (i : Int)) := by
  rw [rd_nat, rd_nat, rd_nat, List.getD_eq_getElem?_getD, List.getD_eq_getElem?_getD, List.getD_eq_getElem?_getD, xorL, List.getElem?_zipWith, List.getElem?_eq_getElem hi, List.getElem?_eq_getElem (by omega : i < b.length)]
  rfl
theorem fill_set (Z : List Int) (i d : Nat) (v : Int) (hi : i < Z.length) (hv : rd Z (i : Int) = v) : (Z.take i ++ List.replicate (d + 1) 0).set i v = Z.take (i + 1) ++ List.replicate d 0 := by
  have hl : (Z.take i).length = i := by rw [List.length_take]; omega
  rw [List.set_append_right _ _ (by omega), hl, Nat.sub_self, List.replicate_succ, List.set_cons_zero, take_snoc_rd Z i hi, hv, List.append_assoc]
  rfl
def xorS (a b : List Int) : List Int × Int := if a.length = b.length then (xorL a b, 0) else ([], 11)
theorem xor_l0 (a b : List Int) (h : a.length = b.length) (hl : a.length ≤ 100000) : ∀ d i : Nat, i + d = a.length → Ev (fun k => octet_Xor.l0 k a b ((xorL a b).take i ++ List.replicate d 0) (a.length : Int) (i : Int)) (xorL a b, 0) := by
  intro d
  have hz := xorL_length h
  induction d with
  | zero =>
    intro i hi
    refine Ev.step (f := fun _ => some ((xorL a b).take i ++ List.replicate 0 0, 0)) (fun k => by simp only [octet_Xor.l0]; rw [if_neg (by omega)]) (ev_eq (Ev.now _) ?_)
    rw [List.take_of_length_le (by omega)]
    simp
  | succ d ih =>
    intro i hi
    have hs : ((xorL a b).take i ++ List.replicate (d + 1) 0).length = a.length := by rw [List.length_append, List.length_take, List.length_replicate]; omega
    have hf := fill_set (xorL a b) i d (Go.bits .xor .u8 (rd a (i : Int)) (rd b (i : Int))) (by omega) (xorL_rd h i (by omega))
    exact Ev.step (fun k => by simp only [octet_Xor.l0]; rw [if_pos (by omega), if_pos (by omega), if_pos (by omega), if_pos (by omega), if_pos (by omega), Int.toNat_natCast, hf, w64_up i (by omega)]) (ih (i + 1) (by omega))
theorem xor_ev (a b : List Int) (hl : a.length ≤ 100000) : Ev (fun k => octet_Xor.f k a b) (xorS a b) := by
  by_cases h : a.length = b.length
  · rw [xorS, if_pos h]
    have h0 := xor_l0 a b h hl a.length 0 (by omega)
    rw [List.take_zero, List.nil_append] at h0
    exact Ev.congr (fun k => by simp only [octet_Xor.f, Option.bind_some]; rw [if_pos (by omega), if_pos (by omega), if_pos (by omega), Int.toNat_natCast, List.length_replicate]; rfl) h0
  · rw [xorS, if_neg h]
    exact Ev.congr (f := fun _ => some ([], 11)) (fun k => by simp only [octet_Xor.f]; rw [if_neg (by omega)]) (Ev.now _)
/-! ### the document's exclusive or: bit by bit -/
theorem bit_l0 (x : Int) (h0 : 0 ≤ x) (h1 : x < 256) (j : Nat) (hj : j ≤ 100) : ∀ d i : Nat, i + d = j → Ev (fun k => crosswayref01_bit.l0 k (j : Int) (x / 2 ^ i) (i : Int)) (x / 2 ^ j % 2) := by
  intro d
  induction d with
  | zero =>
    intro i hi
    have hq : 0 ≤ x / 2 ^ i := Int.ediv_nonneg h0 (Int.le_of_lt (Int.pow_pos (by omega)))
    refine Ev.step (f := fun _ => some (x / 2 ^ i % 2)) (fun k => by simp only [crosswayref01_bit.l0]; rw [if_neg (by omega), Int.tmod_eq_emod_of_nonneg hq]) (ev_eq (Ev.now _) ?_)
    rw [show i = j by omega]
  | succ d ih =>
    intro i hi
    have hq : 0 ≤ x / 2 ^ i := Int.ediv_nonneg h0 (Int.le_of_lt (Int.pow_pos (by omega)))
    have hq2 : x / 2 ^ i ≤ x := Int.ediv_le_self _ h0
    have e : wrap64 (Int.tdiv (x / 2 ^ i) 2) = x / 2 ^ (i + 1) := by
      rw [Int.tdiv_eq_ediv_of_nonneg hq, w64_in _ (by omega) (by omega), Int.ediv_ediv_of_nonneg (Int.le_of_lt (Int.pow_pos (by omega))), ← Int.pow_succ]
    exact Ev.step (fun k => by simp only [crosswayref01_bit.l0]; rw [if_pos (by omega), e, w64_up i (by omega)]) (ih (i + 1) (by omega))
theorem bit_ev (x : Int) (h0 : 0 ≤ x) (h1 : x < 256) (j : Nat) (hj : j ≤ 100) : Ev (fun k => crosswayref01_bit.f k x (j : Int)) (x / 2 ^ j % 2) := by
  have h := bit_l0 x h0 h1 j hj j 0 (by omega)
  rw [Int.pow_zero, Int.ediv_one] at h
  exact Ev.congr (fun k => by simp only [crosswayref01_bit.f]; rw [w64_in x (by omega) (by omega)]; rfl) h
def fb (x y : Int) : Int → Nat → Int
  | n, 0 => n
  | n, j + 1 => fb x y (2 * n + (x / 2 ^ j % 2 + y / 2 ^ j % 2) % 2) j
theorem fb_nat (X Y : Nat) : ∀ (j : Nat) (n : Int), fb (X : Int) (Y : Int) n j = n * 2 ^ j + (((X ^^^ Y) % 2 ^ j : Nat) : Int) := by
  intro j
  induction j with
  | zero => intro n; simp [fb, Nat.mod_one]
  | succ j ih =>
    intro n
    have h1 : (X ^^^ Y) / 2 ^ j = X / 2 ^ j ^^^ Y / 2 ^ j := by rw [← Nat.shiftRight_eq_div_pow, ← Nat.shiftRight_eq_div_pow, ← Nat.shiftRight_eq_div_pow, Nat.shiftRight_xor_distrib]
    have h2 : (X ^^^ Y) / 2 ^ j % 2 = (X / 2 ^ j + Y / 2 ^ j) % 2 := by
      have h5 := Nat.xor_mod_two_eq_one (a := X / 2 ^ j) (b := Y / 2 ^ j)
      rw [h1]
      omega
    have h3 : (X ^^^ Y) % 2 ^ (j + 1) = (X ^^^ Y) % 2 ^ j + 2 ^ j * ((X ^^^ Y) / 2 ^ j % 2) := Nat.mod_pow_succ
    have hx : (X : Int) / 2 ^ j = ((X / 2 ^ j : Nat) : Int) := by simp
    have hy : (Y : Int) / 2 ^ j = ((Y / 2 ^ j : Nat) : Int) := by simp
    have h4 : ((X : Int) / 2 ^ j % 2 + (Y : Int) / 2 ^ j % 2) % 2 = (((X ^^^ Y) / 2 ^ j % 2 : Nat) : Int) := by rw [hx, hy, h2]; omega
    have h5 : ((2 ^ j : Nat) : Int) = 2 ^ j := by simp
    rw [fb, ih, h3, h4, Int.natCast_add, Int.natCast_mul, h5, Int.pow_succ, Int.add_mul, Int.mul_comm 2 n, Int.mul_assoc, Int.mul_comm 2 (2 ^ j), Int.mul_comm _ (2 ^ j)]
    omega
theorem fb_xor {x y : Int} (h0 : 0 ≤ x) (h1 : x < 256) (k0 : 0 ≤ y) (k1 : y < 256) : fb x y 0 8 % 256 = xorB x y := by
  obtain ⟨X, rfl⟩ := Int.eq_ofNat_of_zero_le h0
  obtain ⟨Y, rfl⟩ := Int.eq_ofNat_of_zero_le k0
  have hl : X ^^^ Y < 2 ^ 8 := Nat.xor_lt_two_pow (by omega) (by omega)
  rw [fb_nat, xorB, u8_xor_nat X Y (by omega) (by omega)]
  omega
theorem rxor_l1 (a b acc : List Int) (i : Nat) (R : List Int × Int) (hi : i < a.length) (hi2 : i < b.length) (hl : a.length ≤ 100000) (hacc : acc.length ≤ 100000) (x0 : 0 ≤ rd a (i : Int)) (x1 : rd a (i : Int) < 256) (y0 : 0 ≤ rd b (i : Int)) (y1 : rd b (i : Int) < 256) :
    ∀ (j : Nat) (n : Int), j ≤ 8 → 0 ≤ n → (n + 1) * 2 ^ j ≤ 256 → Ev (fun k => crosswayref01_Xor.l0 k a b (acc ++ [fb (rd a (i : Int)) (rd b (i : Int)) n j % 256]) ((i + 1 : Nat) : Int)) R → Ev (fun k => crosswayref01_Xor.l1 k a b acc (i : Int) n ((j : Int) - 1)) R := by
  intro j
  induction j with
  | zero =>
    intro n _ _ _ hR
    rw [fb] at hR
    exact Ev.step (fun k => by simp only [crosswayref01_Xor.l1]; rw [if_neg (by omega), if_pos (by omega), w64_up i (by omega)]) hR
  | succ j ih =>
    intro n hj n0 hn hR
    have hp : (1 : Int) ≤ 2 ^ j := Int.pow_pos (by omega)
    have hs : (2 : Int) ^ (j + 1) = 2 ^ j * 2 := Int.pow_succ 2 j
    have hn2 : n + 1 ≤ 256 := by
      have h1 : (n + 1) * 1 ≤ (n + 1) * 2 ^ (j + 1) := Int.mul_le_mul_of_nonneg_left (by omega) (by omega)
      omega
    have bx := Int.emod_nonneg (rd a (i : Int) / 2 ^ j) (by decide : (2 : Int) ≠ 0)
    have bx2 := Int.emod_lt_of_pos (rd a (i : Int) / 2 ^ j) (by decide : (0 : Int) < 2)
    have by_ := Int.emod_nonneg (rd b (i : Int) / 2 ^ j) (by decide : (2 : Int) ≠ 0)
    have by2 := Int.emod_lt_of_pos (rd b (i : Int) / 2 ^ j) (by decide : (0 : Int) < 2)
    have b1 := bit_ev (rd a (i : Int)) x0 x1 j (by omega)
    have b2 := bit_ev (rd b (i : Int)) y0 y1 j (by omega)
    rw [fb] at hR
    have e1 : ((j + 1 : Nat) : Int) - 1 = (j : Int) := by omega
    have e3 : wrap64 ((j : Int) - 1) = (j : Int) - 1 := w64_in _ (by omega) (by omega)
    have e2 : wrap64 (wrap64 (2 * n) + Int.tmod (wrap64 (rd a (i : Int) / 2 ^ j % 2 + rd b (i : Int) / 2 ^ j % 2)) 2) = 2 * n + (rd a (i : Int) / 2 ^ j % 2 + rd b (i : Int) / 2 ^ j % 2) % 2 := by
      generalize rd a (i : Int) / 2 ^ j % 2 = p at bx bx2
      generalize rd b (i : Int) / 2 ^ j % 2 = q at by_ by2
      rw [w64_in (2 * n) (by omega) (by omega), w64_in (p + q) (by omega) (by omega), Int.tmod_eq_emod_of_nonneg (by omega), w64_in _ (by omega) (by omega)]
    have hm : (2 * n + (rd a (i : Int) / 2 ^ j % 2 + rd b (i : Int) / 2 ^ j % 2) % 2 + 1) * 2 ^ j ≤ 256 := by
      generalize rd a (i : Int) / 2 ^ j % 2 = p at bx bx2
      generalize rd b (i : Int) / 2 ^ j % 2 = q at by_ by2
      have h1 : (2 * n + (p + q) % 2 + 1) * 2 ^ j ≤ ((n + 1) * 2) * 2 ^ j := Int.mul_le_mul_of_nonneg_right (by omega) (by omega)
      have h2 : ((n + 1) * 2) * 2 ^ j = (n + 1) * 2 ^ (j + 1) := by rw [hs, Int.mul_assoc, Int.mul_comm 2]
      omega
    have hrec := ih (2 * n + (rd a (i : Int) / 2 ^ j % 2 + rd b (i : Int) / 2 ^ j % 2) % 2) (by omega) (by generalize rd a (i : Int) / 2 ^ j % 2 = p at bx bx2; generalize rd b (i : Int) / 2 ^ j % 2 = q at by_ by2; omega) hm hR
    rw [e1]
    refine Ev.step (fun k => by simp only [crosswayref01_Xor.l1]; rw [if_pos (by omega), if_pos (by omega), if_pos (by omega)]) (Ev.bind b1 ?_)
    refine Ev.congr (fun k => if_pos (by omega)) (Ev.bind b2 ?_)
    exact Ev.congr (fun k => by rw [e2, e3]) hrec
theorem rxor_l0 (a b : List Int) (h : a.length = b.length) (hl : a.length ≤ 50000) (ha : By a) (hb : By b) : ∀ d i : Nat, i + d = a.length → Ev (fun k => crosswayref01_Xor.l0 k a b ((xorL a b).take i) (i : Int)) (xorL a b, 0) := by
  intro d
  have hz := xorL_length h
  induction d with
  | zero =>
    intro i hi
    refine Ev.step (f := fun _ => some ((xorL a b).take i, 0)) (fun k => by simp only [crosswayref01_Xor.l0]; rw [if_neg (by omega)]) (ev_eq (Ev.now _) ?_)
    rw [List.take_of_length_le (by omega)]
  | succ d ih =>
    intro i hi
    have hx := ha _ (rd_mem a i (by omega))
    have hy := hb _ (rd_mem b i (by omega))
    have ht : ((xorL a b).take i).length ≤ 100000 := by rw [List.length_take]; omega
    have h8 : ((8 : Nat) : Int) - 1 = 7 := by omega
    have hn := ih (i + 1) (by omega)
    rw [take_snoc_rd (xorL a b) i (by omega), xorL_rd h i (by omega), ← fb_xor hx.1 hx.2 hy.1 hy.2] at hn
    have hA := rxor_l1 a b ((xorL a b).take i) i (xorL a b, 0) (by omega) (by omega) (by omega) ht hx.1 hx.2 hy.1 hy.2 8 0 (by omega) (by omega) (by decide) hn
    rw [h8] at hA
    exact Ev.step (fun k => by simp only [crosswayref01_Xor.l0]; rw [if_pos (by omega)]) hA
theorem rxor_ev (a b : List Int) (hl : a.length ≤ 50000) (ha : By a) (hb : By b) : Ev (fun k => crosswayref01_Xor.f k a b) (xorS a b) := by
  by_cases h : a.length = b.length
  · rw [xorS, if_pos h]
    exact Ev.congr (fun k => by simp only [crosswayref01_Xor.f]; rw [if_pos (by omega)]; rfl) (rxor_l0 a b h hl ha hb a.length 0 (by omega))
  · rw [xorS, if_neg h]
    exact Ev.congr (f := fun _ => some ([], 11)) (fun k => by simp only [crosswayref01_Xor.f]; rw [if_neg (by omega)]) (Ev.now _)
/-! ### Equal -/
theorem or_off {o x y : Int} (o0 : 0 ≤ o) (o1 : o < 256) (x0 : 0 ≤ x) (x1 : x < 256) (y0 : 0 ≤ y) (y1 : y < 256) :
    0 ≤ Go.bits .or .u8 o (Go.bits .xor .u8 x y) ∧ Go.bits .or .u8 o (Go.bits .xor .u8 x y) < 256 ∧ (Go.bits .or .u8 o (Go.bits .xor .u8 x y) = 0 ↔ o = 0 ∧ x = y) := by
  obtain ⟨O, rfl⟩ := Int.eq_ofNat_of_zero_le o0
  obtain ⟨X, rfl⟩ := Int.eq_ofNat_of_zero_le x0
  obtain ⟨Y, rfl⟩ := Int.eq_ofNat_of_zero_le y0
  have hx : X ^^^ Y < 2 ^ 8 := Nat.xor_lt_two_pow (by omega) (by omega)
  have ho : O ||| (X ^^^ Y) < 2 ^ 8 := Nat.or_lt_two_pow (by omega) hx
  rw [u8_xor_nat X Y (by omega) (by omega), u8_or_nat O (X ^^^ Y) (by omega) (by omega)]
  refine ⟨by omega, by omega, ?_⟩
  have h1 : (((O ||| (X ^^^ Y) : Nat) : Int) = 0) ↔ (O ||| (X ^^^ Y) = 0) := by omega
  have h2 : X ^^^ Y = 0 ↔ X = Y := by
    constructor
    · intro h
      have h3 : X ^^^ Y ^^^ Y = 0 ^^^ Y := by rw [h]
      rwa [Nat.xor_assoc, Nat.xor_self, Nat.xor_zero, Nat.zero_xor] at h3
    · intro h
      rw [h, Nat.xor_self]
  rw [h1, Nat.or_eq_zero_iff, h2]
  omega
theorem equal_l0 (a b : List Int) (h : a.length = b.length) (hl : a.length ≤ 100000) (ha : By a) (hb : By b) : ∀ d i : Nat, i + d = a.length → ∀ o : Int, 0 ≤ o → o < 256 → Ev (fun k => octet_Equal.l0 k a b o (a.length : Int) (i : Int)) (decide (o = 0 ∧ a.drop i = b.drop i)) := by
  intro d
  induction d with
  | zero =>
    intro i hi o o0 o1
    refine Ev.step (f := fun _ => some (o == 0)) (fun k => by simp only [octet_Equal.l0]; rw [if_neg (by omega)]) (ev_eq (Ev.now _) ?_)
    rw [List.drop_of_length_le (by omega), List.drop_of_length_le (by omega), Bool.eq_iff_iff]
    simp
  | succ d ih =>
    intro i hi o o0 o1
    have hx := ha _ (rd_mem a i (by omega))
    have hy := hb _ (rd_mem b i (by omega))
    obtain ⟨n0, n1, n2⟩ := or_off o0 o1 hx.1 hx.2 hy.1 hy.2
    refine Ev.step (fun k => by simp only [octet_Equal.l0]; rw [if_pos (by omega), if_pos (by omega), if_pos (by omega), if_pos (by omega), w64_up i (by omega)]) (ev_eq (ih (i + 1) (by omega) _ n0 n1) ?_)
    rw [decide_eq_decide, n2, drop_rd a i (by omega), drop_rd b i (by omega), List.cons.injEq, and_assoc]
theorem equal_ev (a b : List Int) (hl : a.length ≤ 100000) (ha : By a) (hb : By b) : Ev (fun k => octet_Equal.f k a b) (decide (a = b)) := by
  by_cases h : a.length = b.length
  · exact Ev.congr (fun k => by simp only [octet_Equal.f]; rw [if_pos (by omega)]; rfl) (ev_eq (equal_l0 a b h hl ha hb a.length 0 (by omega) 0 (by omega) (by omega)) (by simp))
  · refine Ev.congr (f := fun _ => some false) (fun k => by simp only [octet_Equal.f]; rw [if_neg (by omega)]) (ev_eq (Ev.now _) ?_)
    have : a ≠ b := fun e => h (by rw [e])
    simp [this]
/-! ### Hex -/
abbrev D16 : ByteArray := ⟨#[48, 49, 50, 51, 52, 53, 54, 55, 56, 57, 97, 98, 99, 100, 101, 102]⟩
def hexI (l : List Int) : List Int := l.flatMap fun x => [bt D16 (x / 16), bt D16 (x % 16)]
theorem hexI_length (l : List Int) : (hexI l).length = 2 * l.length := by
  induction l with
  | nil => rfl
  | cons x l ih =>
    simp only [hexI, List.flatMap_cons, List.length_append, List.length_cons, List.length_nil] at ih ⊢
    omega
theorem hexI_snoc (l : List Int) (x : Int) : hexI (l ++ [x]) = hexI l ++ [bt D16 (x / 16), bt D16 (x % 16)] := by simp [hexI]
theorem hexI_cons (x : Int) (l : List Int) : hexI (x :: l) = bt D16 (x / 16) :: bt D16 (x % 16) :: hexI l := by simp [hexI]
theorem hexI_By (l : List Int) : By (hexI l) := by
  intro x hx
  obtain ⟨y, _, hy⟩ := List.mem_flatMap.1 hx
  simp only [List.mem_cons, List.not_mem_nil, or_false] at hy
  rcases hy with rfl | rfl
  · have := bt_range D16 (y / 16); omega
  · have := bt_range D16 (y % 16); omega
theorem hexI_str (l : List Int) : strOfNums (hexI l) = ⟨(octet_Hex.hexL l).toArray⟩ := by
  have h : (hexI l).map (fun n => UInt8.ofNat n.toNat) = octet_Hex.hexL l := by
    induction l with
    | nil => rfl
    | cons x l ih =>
      rw [hexI_cons, List.map_cons, List.map_cons, ih]
      rfl
  rw [← h]
  rfl
theorem hex_eq (l : List Int) (hl : l.length ≤ 100000) (hb : By l) : octet_Hex.f l = some (strOfNums (hexI l)) := by
  rw [hexI_str, octet_Hex.f, if_pos ⟨by omega, hb⟩]
theorem rhex_l0 (l : List Int) (hl : l.length ≤ 100000) (hb : By l) : ∀ d i : Nat, i + d = l.length → Ev (fun k => crosswayref01_Hex.l0 k l (hexI (l.take i)) (i : Int)) (strOfNums (hexI l)) := by
  intro d
  induction d with
  | zero =>
    intro i hi
    refine Ev.step (f := fun _ => some (strOfNums (hexI (l.take i)))) (fun k => by simp only [crosswayref01_Hex.l0]; rw [if_neg (by omega)]) (ev_eq (Ev.now _) ?_)
    rw [List.take_of_length_le (by omega)]
  | succ d ih =>
    intro i hi
    have hx := hb _ (rd_mem l i (by omega))
    have e1 : Int.tdiv (rd l (i : Int)) 16 % 256 = rd l (i : Int) / 16 := by rw [Int.tdiv_eq_ediv_of_nonneg hx.1]; omega
    have e2 : Int.tmod (rd l (i : Int)) 16 = rd l (i : Int) % 16 := Int.tmod_eq_emod_of_nonneg hx.1
    have hn := ih (i + 1) (by omega)
    rw [take_snoc_rd l i (by omega), hexI_snoc] at hn
    have hlen := hexI_length (l.take i)
    rw [List.length_take] at hlen
    refine Ev.step (fun k => by simp only [crosswayref01_Hex.l0]; rw [e1, e2, if_pos (by omega), if_pos (by omega), if_pos (by omega), if_pos (by omega), if_pos (by omega), if_pos (by omega), Option.bind_some, if_pos (by simp only [List.length_cons, List.length_nil]; omega), w64_up i (by omega)]) hn
theorem rhex_ev (l : List Int) (hl : l.length ≤ 100000) (hb : By l) : Ev (fun k => crosswayref01_Hex.f k l) (strOfNums (hexI l)) :=
  Ev.congr (fun k => rfl) (rhex_l0 l hl hb l.length 0 (by omega))
/-! ### Unhex -/
def digv (c : Int) : Int := Lib.indexByte D16.data.toList c.toNat.toUInt8
theorem b_check {p : Nat → Bool} (h : (List.range 256).all p = true) {x : Int} (h0 : 0 ≤ x) (h1 : x < 256) : p x.toNat = true := List.all_eq_true.1 h x.toNat (List.mem_range.2 (by omega))
theorem digit_ev {c : Int} (h0 : 0 ≤ c) (h1 : c < 256) : Ev (fun k => crosswayref01_digit.f k c) (digv c) := by
  have h := b_check (p := fun n => crosswayref01_digit.f 20 (n : Int) == some (digv (n : Int))) (by decide +kernel) h0 h1
  rw [beq_iff_eq, Int.toNat_of_nonneg h0] at h
  exact Ev.of (crosswayref01_digit.mono c) (k := 20) h
theorem digv_range {c : Int} (h0 : 0 ≤ c) (h1 : c < 256) : -1 ≤ digv c ∧ digv c < 16 := by
  have h := b_check (p := fun n => decide (-1 ≤ digv (n : Int) ∧ digv (n : Int) < 16)) (by decide +kernel) h0 h1
  rw [decide_eq_true_iff, Int.toNat_of_nonneg h0] at h
  exact h
theorem digv_bt {n : Int} (h0 : 0 ≤ n) (h1 : n < 16) : digv (bt D16 n) = n := by
  have h : (List.range 16).all (fun n => digv (bt D16 (n : Int)) == (n : Int)) = true := by decide +kernel
  have h2 := List.all_eq_true.1 h n.toNat (List.mem_range.2 (by omega))
  rw [beq_iff_eq, Int.toNat_of_nonneg h0] at h2
  exact h2
theorem or_nib {x y : Int} (x0 : 0 ≤ x) (x1 : x < 16) (y0 : 0 ≤ y) (y1 : y < 16) : Go.bits .or .i64 (wrap64 (x * 16)) y = 16 * x + y := by
  have h : (List.range 16).all (fun i => (List.range 16).all fun j => Go.bits .or .i64 (wrap64 ((i : Int) * 16)) (j : Int) == 16 * (i : Int) + (j : Int)) = true := by decide +kernel
  have h2 := List.all_eq_true.1 (List.all_eq_true.1 h x.toNat (List.mem_range.2 (by omega))) y.toNat (List.mem_range.2 (by omega))
  rw [beq_iff_eq, Int.toNat_of_nonneg x0, Int.toNat_of_nonneg y0] at h2
  exact h2
def unh : List Int → List Int → List Int × Int
  | a :: b :: t, acc => if digv a < 0 ∨ digv b < 0 then ([], 10) else unh t (acc ++ [16 * digv a + digv b])
  | _, acc => (acc, 0)
def unhS (l : List Int) : List Int × Int := if l.length % 2 = 0 then unh l [] else ([], 10)
theorem bytesOf_By (s : ByteArray) : By (bytesOf s) := by
  intro x hx
  obtain ⟨y, _, rfl⟩ := List.mem_map.1 hx
  have := y.toNat_lt
  omega
theorem bytesOf_strOfNums (l : List Int) (hb : By l) : bytesOf (strOfNums l) = l := by
  show (l.map (fun n => UInt8.ofNat n.toNat)).map (fun b : UInt8 => (b.toNat : Int)) = l
  rw [List.map_map]
  have : l.map ((fun b : UInt8 => (b.toNat : Int)) ∘ fun n => UInt8.ofNat n.toNat) = l.map id := by
    apply List.map_congr_left
    intro x hx
    have := hb x hx
    simp only [Function.comp, id, UInt8.toNat_ofNat']
    omega
  rw [this, List.map_id]
theorem bytesOf_drop2 (s : ByteArray) : bytesOf (s.extract 2 s.size) = (bytesOf s).drop 2 := by
  rw [bytesOf, bytesOf, ByteArray.data_extract, Array.toList_extract, ← List.map_drop, List.extract_eq_take_drop]
  congr 1
  rw [List.take_of_length_le]
  rw [List.length_drop, data_length]
  exact Nat.le_refl _
theorem toList_nil_iff (s : ByteArray) : s.toList = [] ↔ bytesOf s = [] := by
  rw [bytesOf, List.map_eq_nil_iff, ByteArray.toList_eq]
theorem unhex_l0 : ∀ (d : Nat) (s : ByteArray) (acc : List Int), s.size = 2 * d → acc.length + d ≤ 100000 → Ev (fun k => octet_Unhex.l0 k s acc) (unh (bytesOf s) acc) := by
  intro d
  induction d with
  | zero =>
    intro s acc hs _
    have hn : bytesOf s = [] := List.eq_nil_of_length_eq_zero (by rw [bytesOf_length]; omega)
    refine Ev.step (f := fun _ => some (acc, 0)) (fun k => by simp only [octet_Unhex.l0]; rw [if_pos ((toList_nil_iff s).2 hn)]) (ev_eq (Ev.now _) ?_)
    rw [hn, unh]
    simp
  | succ d ih =>
    intro s acc hs ha
    have hlen := bytesOf_length s
    have hB := bytesOf_By s
    have e0 := rd_bytesOf s 0
    have e1 := rd_bytesOf s 1
    match hl : bytesOf s, hlen, hB, e0, e1 with
    | [], hlen, _, _, _ => simp at hlen; omega
    | [x], hlen, _, _, _ => simp at hlen; omega
    | x :: y :: t, hlen, hB, e0, e1 =>
      have e0' : bt s 0 = x := e0.symm
      have e1' : bt s 1 = y := e1.symm
      have hx := hB x (by simp)
      have hy := hB y (by simp)
      have rx := digv_range hx.1 hx.2
      have ry := digv_range hy.1 hy.2
      have hd : bytesOf (s.extract 2 s.size) = t := by rw [bytesOf_drop2, hl]; rfl
      have hsz : (s.extract 2 s.size).size = 2 * d := by have h1 := bytesOf_length (s.extract 2 s.size); rw [hd] at h1; simp at hlen; omega
      have hne : ¬ s.toList = [] := fun h => by rw [toList_nil_iff, hl] at h; cases h
      have f1 : strings_IndexByte.f D16 x = some (digv x) := rfl
      have f2 : strings_IndexByte.f D16 y = some (digv y) := rfl
      rw [unh]
      by_cases hc : digv x < 0 ∨ digv y < 0
      · rw [if_pos hc]
        refine Ev.step (f := fun _ => some ([], 10)) (fun k => ?_) (Ev.now _)
        simp only [octet_Unhex.l0]
        rw [if_neg hne, if_pos (by omega), e0', e1', f1, Option.bind_some, if_pos (by omega), f2, Option.bind_some, if_pos (by unfold mn; split <;> omega)]
      · rw [if_neg hc]
        refine Ev.step (fun k => ?_) (ev_eq (ih (s.extract 2 s.size) (acc ++ [16 * digv x + digv y]) hsz (by rw [List.length_append, List.length_cons, List.length_nil]; omega)) (by rw [hd]))
        simp only [octet_Unhex.l0]
        rw [if_neg hne, if_pos (by omega), e0', e1', f1, Option.bind_some, if_pos (by omega), f2, Option.bind_some, if_neg (by unfold mn; split <;> omega), if_pos (by omega), if_pos (by omega), or_nib (by omega) rx.2 (by omega) ry.2]
        have : (16 * digv x + digv y) % 256 = 16 * digv x + digv y := by omega
        rw [this]
theorem unhex_ev (s : ByteArray) (hs : s.size ≤ 100000) : Ev (fun k => octet_Unhex.f k s) (unhS (bytesOf s)) := by
  rw [unhS, bytesOf_length]
  by_cases h : s.size % 2 = 0
  · rw [if_pos h]
    exact Ev.congr (fun k => by simp only [octet_Unhex.f]; rw [if_pos (by omega)]) (unhex_l0 (s.size / 2) s [] (by omega) (by simp; omega))
  · rw [if_neg h]
    exact Ev.congr (f := fun _ => some ([], 10)) (fun k => by simp only [octet_Unhex.f]; rw [if_neg (by omega)]) (Ev.now _)
theorem runhex_l0 (s : ByteArray) (hs : s.size ≤ 100000) : ∀ (d i : Nat) (acc : List Int), i + 2 * d = s.size → acc.length ≤ i → Ev (fun k => crosswayref01_Unhex.l0 k s acc (i : Int)) (unh ((bytesOf s).drop i) acc) := by
  intro d
  have hlen := bytesOf_length s
  induction d with
  | zero =>
    intro i acc hi _
    refine Ev.step (f := fun _ => some (acc, 0)) (fun k => by simp only [crosswayref01_Unhex.l0]; rw [if_neg (by omega)]) (ev_eq (Ev.now _) ?_)
    rw [List.drop_of_length_le (by omega), unh]
    simp
  | succ d ih =>
    intro i acc hi ha
    have e0 : bt s (i : Int) = rd (bytesOf s) (i : Int) := (rd_bytesOf s _).symm
    have e1 : bt s ((i + 1 : Nat) : Int) = rd (bytesOf s) ((i + 1 : Nat) : Int) := (rd_bytesOf s _).symm
    have hx := bytesOf_By s _ (rd_mem (bytesOf s) i (by omega))
    have hy := bytesOf_By s _ (rd_mem (bytesOf s) (i + 1) (by omega))
    have w1 : wrap64 ((i : Int) + 1) = ((i + 1 : Nat) : Int) := w64_up i (by omega)
    have w2 : wrap64 ((i : Int) + 2) = ((i + 2 : Nat) : Int) := by rw [w64_in _ (by omega) (by omega)]; omega
    rw [drop_rd (bytesOf s) i (by omega), drop_rd (bytesOf s) (i + 1) (by omega), unh]
    generalize rd (bytesOf s) (i : Int) = x at hx e0 ⊢
    generalize rd (bytesOf s) ((i + 1 : Nat) : Int) = y at hy e1 ⊢
    have d1 := digit_ev hx.1 hx.2
    have d2 := digit_ev hy.1 hy.2
    have rx := digv_range hx.1 hx.2
    have ry := digv_range hy.1 hy.2
    generalize digv x = p at d1 rx ⊢
    generalize digv y = q at d2 ry ⊢
    refine Ev.step (fun k => by simp only [crosswayref01_Unhex.l0]; rw [if_pos (by omega), if_pos (by omega), w1, e0, e1]) (Ev.bind d1 (Ev.congr (fun k => by rw [if_pos (by omega), if_pos (by omega)]) (Ev.bind d2 ?_)))
    by_cases c1 : p < 0
    · rw [if_pos (.inl c1)]
      exact Ev.congr (f := fun _ => some ([], 10)) (fun k => if_pos c1) (Ev.now _)
    by_cases c2 : q < 0
    · rw [if_pos (.inr c2)]
      exact Ev.congr (f := fun _ => some ([], 10)) (fun k => by rw [if_neg c1, if_pos c2]) (Ev.now _)
    rw [if_neg (by omega)]
    have ew : wrap64 (wrap64 (16 * p) + q) % 256 = 16 * p + q := by rw [w64_in (16 * p) (by omega) (by omega), w64_in _ (by omega) (by omega)]; omega
    exact Ev.congr (fun k => by rw [if_neg c1, if_neg c2, if_pos (by omega), ew, w2]) (ih (i + 2) _ (by omega) (by rw [List.length_append, List.length_cons, List.length_nil]; omega))
theorem runhex_ev (s : ByteArray) (hs : s.size ≤ 100000) : Ev (fun k => crosswayref01_Unhex.f k s) (unhS (bytesOf s)) := by
  rw [unhS, bytesOf_length]
  by_cases h : s.size % 2 = 0
  · rw [if_pos h]
    exact Ev.congr (fun k => by simp only [crosswayref01_Unhex.f]; rw [if_neg (by omega)]; rfl) (ev_eq (runhex_l0 s hs (s.size / 2) 0 [] (by omega) (by simp)) (by simp))
  · rw [if_neg h]
    exact Ev.congr (f := fun _ => some ([], 10)) (fun k => by simp only [crosswayref01_Unhex.f]; rw [if_pos (by omega)]) (Ev.now _)
theorem unh_length : ∀ (n : Nat) (l acc : List Int), l.length ≤ n → (unh l acc).1.length ≤ acc.length + n := by
  intro n
  induction n with
  | zero =>
    intro l acc h
    have : l = [] := List.eq_nil_of_length_eq_zero (by omega)
    subst this
    simp [unh]
  | succ n ih =>
    intro l acc h
    match l, h with
    | [], _ => simp [unh]
    | [x], _ => simp [unh]
    | x :: y :: t, h =>
      rw [unh]
      split
      · simp
      · have := ih t (acc ++ [16 * digv x + digv y]) (by simp at h; omega)
        simp only [List.length_append, List.length_cons, List.length_nil] at this
        omega
theorem unhS_length (l : List Int) : (unhS l).1.length ≤ l.length := by
  rw [unhS]
  split
  · have := unh_length l.length l [] (Nat.le_refl _)
    simpa using this
  · simp
theorem unh_hexI (l : List Int) (hb : By l) : ∀ acc : List Int, unh (hexI l) acc = (acc ++ l, 0) := by
  induction l with
  | nil => intro acc; simp [hexI, unh]
  | cons x l ih =>
    intro acc
    have hx := hb x (List.mem_cons_self)
    rw [hexI_cons, unh, digv_bt (by omega) (by omega), digv_bt (by omega) (by omega), if_neg (by omega), ih (fun y hy => hb y (List.mem_cons_of_mem _ hy))]
    have : 16 * (x / 16) + x % 16 = x := by omega
    rw [this, List.append_assoc]
    rfl
theorem unhS_hexI (l : List Int) (hb : By l) : unhS (hexI l) = (l, 0) := by
  rw [unhS, hexI_length, if_pos (by omega), unh_hexI l hb, List.nil_append]
/-! ### twice the exclusive or -/
theorem xorB_range {x y : Int} (x0 : 0 ≤ x) (x1 : x < 256) (y0 : 0 ≤ y) (y1 : y < 256) : 0 ≤ xorB x y ∧ xorB x y < 256 := by
  rw [xorB, u8_xor x y x0 x1 y0 y1]
  have := Nat.xor_lt_two_pow (n := 8) (x := x.toNat) (y := y.toNat) (by omega) (by omega)
  omega
theorem xorB_twice {x y : Int} (x0 : 0 ≤ x) (x1 : x < 256) (y0 : 0 ≤ y) (y1 : y < 256) : xorB (xorB x y) y = x := by
  obtain ⟨X, rfl⟩ := Int.eq_ofNat_of_zero_le x0
  obtain ⟨Y, rfl⟩ := Int.eq_ofNat_of_zero_le y0
  have hl : X ^^^ Y < 2 ^ 8 := Nat.xor_lt_two_pow (by omega) (by omega)
  rw [xorB, xorB, u8_xor_nat X Y (by omega) (by omega), u8_xor_nat (X ^^^ Y) Y (by omega) (by omega), Nat.xor_assoc, Nat.xor_self, Nat.xor_zero]
theorem xorL_By {a b : List Int} (ha : By a) (hb : By b) : By (xorL a b) := by
  induction a generalizing b with
  | nil => intro x hx; cases b <;> simp [xorL] at hx
  | cons x a ih =>
    cases b with
    | nil => intro x hx; simp [xorL] at hx
    | cons y b =>
      have hx := ha x (List.mem_cons_self)
      have hy := hb y (List.mem_cons_self)
      intro z hz
      rw [xorL, List.zipWith_cons_cons] at hz
      rcases List.mem_cons.1 hz with rfl | h2
      · exact xorB_range hx.1 hx.2 hy.1 hy.2
      · exact ih (fun z hz => ha z (List.mem_cons_of_mem _ hz)) (fun z hz => hb z (List.mem_cons_of_mem _ hz)) z h2
theorem xorL_twice : ∀ {a b : List Int}, a.length = b.length → By a → By b → xorL (xorL a b) b = a := by
  intro a
  induction a with
  | nil => intro b _ _ _; cases b <;> simp [xorL]
  | cons x a ih =>
    intro b h ha hb
    cases b with
    | nil => simp at h
    | cons y b =>
      have hx := ha x (List.mem_cons_self)
      have hy := hb y (List.mem_cons_self)
      have h2 := ih (b := b) (by simpa using h) (fun z hz => ha z (List.mem_cons_of_mem _ hz)) (fun z hz => hb z (List.mem_cons_of_mem _ hz))
      simp only [xorL, List.zipWith_cons_cons] at h2 ⊢
      rw [h2, xorB_twice hx.1 hx.2 hy.1 hy.2]
end Go.Proofs.Ytnagjckjibfimaa.PuOctet
