/- Plain facts on words of 64 bits, as the walk's whole numbers have them: exclusive or, shifts and odd products are undone. No program in sight. -/
import Derived.Laws.BitsAllLaws
import Derived.Laws.Bits64
import Derived.RowKit
namespace Go.Proofs.Ytikpgmajiafhgaa.Bv
open Go Go.RowKit

theorem wf_u64 {a : Int} (h : (Lit.int .u64 a).wf = true) : 0 ≤ a ∧ a < 18446744073709551616 := by
  simp [Lit.wf, IntKind.min, IntKind.max, IntKind.bits, IntKind.signed] at h
  omega
theorem wf_u8 {a : Int} (h : (Lit.int .u8 a).wf = true) : 0 ≤ a ∧ a < 256 := by
  simp [Lit.wf, IntKind.min, IntKind.max, IntKind.bits, IntKind.signed] at h
  omega
theorem wf_u32 {a : Int} (h : (Lit.int .u32 a).wf = true) : 0 ≤ a ∧ a < 4294967296 := by
  simp [Lit.wf, IntKind.min, IntKind.max, IntKind.bits, IntKind.signed] at h
  omega
theorem wf_i64 {a : Int} (h : (Lit.int .i64 a).wf = true) : -9223372036854775808 ≤ a ∧ a < 9223372036854775808 := by
  simp [Lit.wf, IntKind.min, IntKind.max, IntKind.bits, IntKind.signed] at h
  omega

def W (a : Int) : BitVec 64 := BitVec.ofInt 64 a
theorem wrap_W (a : Int) : IntKind.u64.wrap a = ((W a).toNat : Int) := by
  rw [IntKind.wrap_u64, W, BitVec.toNat_ofInt]
  have h : (0 : Int) ≤ a % 18446744073709551616 := by omega
  have : ((2 ^ 64 : Nat) : Int) = 18446744073709551616 := by decide
  rw [this]
  omega
theorem toNat_W {a : Int} (h0 : 0 ≤ a) (h1 : a < 18446744073709551616) : ((W a).toNat : Int) = a := by
  rw [← wrap_W, IntKind.wrap_u64]
  omega
theorem W_toNat (x : BitVec 64) : W (x.toNat : Int) = x := by
  rw [W, BitVec.ofInt_natCast, BitVec.ofNat_toNat, BitVec.setWidth_eq]
theorem W_wrap (a : Int) : W (IntKind.u64.wrap a) = W a := by rw [wrap_W, W_toNat]
theorem wrap_range (a : Int) : 0 ≤ IntKind.u64.wrap a ∧ IntKind.u64.wrap a < 18446744073709551616 := by
  rw [IntKind.wrap_u64]
  omega
theorem wrap_id {a : Int} (h0 : 0 ≤ a) (h1 : a < 18446744073709551616) : IntKind.u64.wrap a = a := by
  rw [IntKind.wrap_u64]
  omega
theorem W_inj {a b : Int} (h0 : 0 ≤ a) (h1 : a < 18446744073709551616) (k0 : 0 ≤ b) (k1 : b < 18446744073709551616) (h : W a = W b) : a = b := by
  rw [← toNat_W h0 h1, ← toNat_W k0 k1, h]
theorem xor_W (a b : Int) : Go.bits .xor .u64 a b = ((W a ^^^ W b).toNat : Int) := by
  show IntKind.u64.wrap (((W a ^^^ W b).toNat : Nat) : Int) = _
  rw [wrap_W, W_toNat]
theorem W_xor (a b : Int) : W (Go.bits .xor .u64 a b) = W a ^^^ W b := by rw [xor_W, W_toNat]
theorem xor_range (a b : Int) : 0 ≤ Go.bits .xor .u64 a b ∧ Go.bits .xor .u64 a b < 18446744073709551616 := by
  have := (W a ^^^ W b).isLt
  rw [xor_W]
  omega
theorem W_mul (a b : Int) : W (IntKind.u64.wrap (a * b)) = W a * W b := by
  rw [W_wrap, W, BitVec.ofInt_mul]
  rfl
theorem W_div33 {a : Int} (h0 : 0 ≤ a) (h1 : a < 18446744073709551616) : W (a / 8589934592) = W a >>> 33 := by
  have h2 : a / (8589934592 : Int) = ((W a >>> 33).toNat : Int) := by
    rw [BitVec.toNat_ushiftRight, Nat.shiftRight_eq_div_pow]
    have := toNat_W h0 h1
    omega
  rw [h2, W_toNat]
/-- Odd products are undone. -/
theorem mul_inj {x y c d : BitVec 64} (hd : c * d = 1#64) (h : x * c = y * c) : x = y := by
  have h2 : x * c * d = y * c * d := by rw [h]
  rwa [BitVec.mul_assoc, BitVec.mul_assoc, hd, BitVec.mul_one, BitVec.mul_one] at h2
theorem xor_inj_right {x y c : BitVec 64} (h : x ^^^ c = y ^^^ c) : x = y := by
  have h2 : x ^^^ c ^^^ c = y ^^^ c ^^^ c := by rw [h]
  rwa [BitVec.xor_assoc, BitVec.xor_assoc, BitVec.xor_self, BitVec.xor_zero, BitVec.xor_zero] at h2
theorem shift_inj {x y : BitVec 64} (h : x ^^^ x >>> 33 = y ^^^ y >>> 33) : x = y := by
  have key : ∀ z : BitVec 64, (z ^^^ z >>> 33) ^^^ (z ^^^ z >>> 33) >>> 33 = z := by
    intro z
    rw [BitVec.ushiftRight_xor_distrib, ← BitVec.shiftRight_add]
    have h66 : z >>> (33 + 33) = 0#64 := BitVec.ushiftRight_eq_zero (by decide)
    rw [h66, BitVec.xor_zero, BitVec.xor_assoc, BitVec.xor_self, BitVec.xor_zero]
  rw [← key x, ← key y, h]
end Go.Proofs.Ytikpgmajiafhgaa.Bv
