/- The plain law of the mix: what the program's and the document's functions tell, as one function; that unlike numbers stay unlike. No memory, no Go. -/
import Derived.Test.YtikpgmajiafhgaaPuLib
namespace Go.Proofs.Ytikpgmajiafhgaa.PuMix
open Go.RowKit Go.Proofs.YtikpgmajiafhgaaW.PrintWords Go.Proofs.YtikpgmajiafhgaaW.PrintMore Go.Proofs.Ytikpgmajiafhgaa.M Go.Proofs.Ytikpgmajiafhgaa.Bv Go.Proofs.Ytikpgmajiafhgaa.PuLib

theorem rdL1_nat (l : List (List Int)) (i : Nat) : rd_L1 l (i : Int) = l.getD i [] := rfl
theorem drop_rdL (l : List (List Int)) (i : Nat) (h : i < l.length) : l.drop i = rd_L1 l (i : Int) :: l.drop (i + 1) := by
  rw [rdL1_nat, List.drop_eq_getElem_cons h, List.getD_eq_getElem?_getD, List.getElem?_eq_getElem h]
  rfl
theorem rdL_mem (l : List (List Int)) (i : Nat) (h : i < l.length) : rd_L1 l (i : Int) ∈ l := by
  rw [rdL1_nat, List.getD_eq_getElem?_getD, List.getElem?_eq_getElem h]
  exact List.getElem_mem h
def step (a x : Int) : Int := IntKind.u64.wrap (Go.bits .xor .u64 a (IntKind.u64.wrap x) * 1099511628211)
def foldS (a : Int) (l : List Int) : Int := l.foldl step a
theorem foldS_cons (a x : Int) (l : List Int) : foldS a (x :: l) = foldS (step a x) l := rfl
theorem foldS_append (a : Int) (l m : List Int) : foldS a (l ++ m) = foldS (foldS a l) m := List.foldl_append
theorem fold_l0 (l : List Int) (hm : l.length ≤ 9223372036854775807) : ∀ (d i : Nat) (a : Int), i + d = l.length → Ev (fun k => mix_Fold.l0 k a l (l.length : Int) (i : Int)) (foldS a (l.drop i)) := by
  intro d
  induction d with
  | zero =>
    intro i a hi
    refine Ev.step (f := fun _ => some a) (fun k => by simp only [mix_Fold.l0]; rw [if_neg (by omega)]) (ev_eq (Ev.now _) ?_)
    rw [List.drop_of_length_le (by omega)]
    rfl
  | succ d ih =>
    intro i a hi
    refine Ev.step (fun k => by simp only [mix_Fold.l0]; rw [if_pos (by omega), if_pos (by omega), if_pos (by omega), w64_up i (by omega)]; rfl) (ev_eq (ih (i + 1) (step a (rd l i)) (by omega)) ?_)
    rw [drop_rd l i (by omega), foldS_cons]
theorem fold_ev (a : Int) (l : List Int) (hm : l.length ≤ 9223372036854775807) : Ev (fun k => mix_Fold.f k a l) (foldS a l) := Ev.congr (fun k => rfl) (fold_l0 l hm l.length 0 a (by omega))
theorem step_range (a x : Int) : 0 ≤ step a x ∧ step a x < 18446744073709551616 := wrap_range _
theorem foldS_range (l : List Int) : ∀ a : Int, 0 ≤ a → a < 18446744073709551616 → 0 ≤ foldS a l ∧ foldS a l < 18446744073709551616 := by
  induction l with
  | nil => intro a h0 h1; exact ⟨h0, h1⟩
  | cons x l ih => intro a _ _; rw [foldS_cons]; exact ih _ (step_range a x).1 (step_range a x).2
theorem W_step (a x : Int) : W (step a x) = (W a ^^^ W x) * 1099511628211#64 := by
  rw [step, W_mul, W_xor, W_wrap]
  rfl
theorem step_inj {a b x : Int} (a0 : 0 ≤ a) (a1 : a < 18446744073709551616) (b0 : 0 ≤ b) (b1 : b < 18446744073709551616) (h : step a x = step b x) : a = b := by
  have h2 := congrArg W h
  rw [W_step, W_step] at h2
  exact W_inj a0 a1 b0 b1 (xor_inj_right (mul_inj (d := 14886173955864302971#64) (by decide) h2))
theorem step_inj_right {a x y : Int} (x0 : 0 ≤ x) (x1 : x < 256) (y0 : 0 ≤ y) (y1 : y < 256) (h : step a x = step a y) : x = y := by
  have h2 := congrArg W h
  rw [W_step, W_step] at h2
  have h3 := mul_inj (d := 14886173955864302971#64) (by decide) h2
  rw [BitVec.xor_comm, BitVec.xor_comm (W a)] at h3
  exact W_inj x0 (by omega) y0 (by omega) (xor_inj_right h3)
theorem foldS_inj (l : List Int) : ∀ {a b : Int}, 0 ≤ a → a < 18446744073709551616 → 0 ≤ b → b < 18446744073709551616 → foldS a l = foldS b l → a = b := by
  induction l with
  | nil => intro a b _ _ _ _ h; exact h
  | cons x l ih =>
    intro a b a0 a1 b0 b1 h
    rw [foldS_cons, foldS_cons] at h
    exact step_inj a0 a1 b0 b1 (ih (step_range a x).1 (step_range a x).2 (step_range b x).1 (step_range b x).2 h)
/-! ### the end -/
def endS (a : Int) : Int := xorsh (mix_End.to a 2)
theorem end_eq (a : Int) : mix_End.f a = some (endS a) := rfl
theorem tdiv_range {a : Int} (h0 : 0 ≤ a) (h1 : a < 18446744073709551616) : IntKind.u64.wrap (Int.tdiv a 8589934592) = a / 8589934592 := by
  rw [Int.tdiv_eq_ediv_of_nonneg h0, wrap_id (by omega) (by omega)]
theorem W_xorsh {a : Int} (h0 : 0 ≤ a) (h1 : a < 18446744073709551616) : W (xorsh a) = W a ^^^ W a >>> 33 := by rw [xorsh, W_xor, W_div33 h0 h1]
theorem xorsh_inj {a b : Int} (a0 : 0 ≤ a) (a1 : a < 18446744073709551616) (b0 : 0 ≤ b) (b1 : b < 18446744073709551616) (h : xorsh a = xorsh b) : a = b := by
  have h2 := congrArg W h
  rw [W_xorsh a0 a1, W_xorsh b0 b1] at h2
  exact W_inj a0 a1 b0 b1 (shift_inj h2)
theorem mul1_inj {a b : Int} (a0 : 0 ≤ a) (a1 : a < 18446744073709551616) (b0 : 0 ≤ b) (b1 : b < 18446744073709551616) (h : IntKind.u64.wrap (a * 18397679294719823053) = IntKind.u64.wrap (b * 18397679294719823053)) : a = b := by
  have h2 := congrArg W h
  rw [W_mul, W_mul] at h2
  exact W_inj a0 a1 b0 b1 (mul_inj (d := 5725274745694666757#64) (by decide) h2)
theorem mul2_inj {a b : Int} (a0 : 0 ≤ a) (a1 : a < 18446744073709551616) (b0 : 0 ≤ b) (b1 : b < 18446744073709551616) (h : IntKind.u64.wrap (a * 14181476777654086739) = IntKind.u64.wrap (b * 14181476777654086739)) : a = b := by
  have h2 := congrArg W h
  rw [W_mul, W_mul] at h2
  exact W_inj a0 a1 b0 b1 (mul_inj (d := 11291846944257947611#64) (by decide) h2)
theorem endS_inj {a b : Int} (a0 : 0 ≤ a) (a1 : a < 18446744073709551616) (b0 : 0 ≤ b) (b1 : b < 18446744073709551616) (h : endS a = endS b) : a = b := by
  have r := wrap_range
  have x := fun z => xor_range z (z / 8589934592)
  have h3 := xorsh_inj (r _).1 (r _).2 (r _).1 (r _).2 h
  have h4 := xorsh_inj (r _).1 (r _).2 (r _).1 (r _).2 (mul2_inj (x _).1 (x _).2 (x _).1 (x _).2 h3)
  exact xorsh_inj a0 a1 b0 b1 (mul1_inj (x _).1 (x _).2 (x _).1 (x _).2 h4)
/-! ### the mix -/
def part (n : Int) (p : List Int) : Int := foldS (foldS n (putL (p.length : Int) 8)) p
def mixS (a : Int) (ps : List (List Int)) : Int := endS (ps.foldl part (Go.bits .xor .u64 14695981039346656037 a))
theorem part_range (p : List Int) {a : Int} (h0 : 0 ≤ a) (h1 : a < 18446744073709551616) : 0 ≤ part a p ∧ part a p < 18446744073709551616 :=
  foldS_range p _ (foldS_range _ a h0 h1).1 (foldS_range _ a h0 h1).2
theorem part_inj (p : List Int) {a b : Int} (a0 : 0 ≤ a) (a1 : a < 18446744073709551616) (b0 : 0 ≤ b) (b1 : b < 18446744073709551616) (h : part a p = part b p) : a = b :=
  foldS_inj _ a0 a1 b0 b1 (foldS_inj p (foldS_range _ a a0 a1).1 (foldS_range _ a a0 a1).2 (foldS_range _ b b0 b1).1 (foldS_range _ b b0 b1).2 h)
theorem parts_range (ps : List (List Int)) : ∀ {a : Int}, 0 ≤ a → a < 18446744073709551616 → 0 ≤ ps.foldl part a ∧ ps.foldl part a < 18446744073709551616 := by
  induction ps with
  | nil => intro a h0 h1; exact ⟨h0, h1⟩
  | cons p ps ih => intro a h0 h1; exact ih (part_range p h0 h1).1 (part_range p h0 h1).2
theorem parts_inj (ps : List (List Int)) : ∀ {a b : Int}, 0 ≤ a → a < 18446744073709551616 → 0 ≤ b → b < 18446744073709551616 → ps.foldl part a = ps.foldl part b → a = b := by
  induction ps with
  | nil => intro a b _ _ _ _ h; exact h
  | cons p ps ih =>
    intro a b a0 a1 b0 b1 h
    exact part_inj p a0 a1 b0 b1 (ih (part_range p a0 a1).1 (part_range p a0 a1).2 (part_range p b0 b1).1 (part_range p b0 b1).2 h)
theorem put8 (p : List Int) (h : p.length ≤ 9223372036854775807) : putS (p.length : Int) 8 = (putL (p.length : Int) 8, 0) := by
  rw [putS, if_pos ⟨by omega, by omega, by simp; omega⟩]
  rfl
theorem mix_l0 (ps : List (List Int)) (hm : ps.length ≤ 9223372036854775807) (hp : ∀ p ∈ ps, p.length ≤ 9223372036854775807) : ∀ (d i : Nat) (a : Int), i + d = ps.length → Ev (fun k => mix_Mix.l0 k a ps (ps.length : Int) (i : Int)) (endS ((ps.drop i).foldl part a)) := by
  intro d
  induction d with
  | zero =>
    intro i a hi
    refine Ev.step (f := fun _ => some (endS a)) (fun k => by simp only [mix_Mix.l0]; rw [if_neg (by omega), end_eq]; rfl) (ev_eq (Ev.now _) ?_)
    rw [List.drop_of_length_le (by omega)]
    rfl
  | succ d ih =>
    intro i a hi
    have hl := hp _ (rdL_mem ps i (by omega))
    have hw : IntKind.u64.wrap ((rd_L1 ps (i : Int)).length : Int) = ((rd_L1 ps (i : Int)).length : Int) := wrap_id (by omega) (by omega)
    refine Ev.step (fun k => by simp only [mix_Mix.l0]; rw [if_pos (by omega), if_pos (by omega), if_pos (by omega), w64_up i (by omega), hw]) ?_
    refine Ev.bind (put_ev _ 8 (by omega) (by omega)) ?_
    rw [put8 _ hl]
    refine Ev.bind (fold_ev a _ (by rw [putL_length]; omega)) (Ev.bind (fold_ev _ _ hl) (ev_eq (ih (i + 1) _ (by omega)) ?_))
    rw [drop_rdL ps i (by omega)]
    rfl
theorem mix_ev (a : Int) (ps : List (List Int)) (hm : ps.length ≤ 9223372036854775807) (hp : ∀ p ∈ ps, p.length ≤ 9223372036854775807) : Ev (fun k => mix_Mix.f k a ps) (mixS a ps) := Ev.congr (fun k => rfl) (mix_l0 ps hm hp ps.length 0 _ (by omega))
/-- What is left of a number. -/
def belowS (a m : Int) : Int := if m < 1 then 0 else a % m
theorem below_some (a m : Int) (a0 : 0 ≤ a) (m1 : m < 9223372036854775808) : mix_Below.f a m = some (belowS a m) := by
  simp only [mix_Below.f, belowS]
  by_cases h : m < 1
  · rw [if_pos h, if_pos h]
  · have hw : IntKind.u64.wrap m = m := wrap_id (by omega) (by omega)
    have hlt : a % m < m := Int.emod_lt_of_pos _ (by omega)
    have hge : 0 ≤ a % m := Int.emod_nonneg _ (by omega)
    rw [if_neg h, if_neg h, hw, if_neg (by omega), Int.tmod_eq_emod_of_nonneg a0, w64_in _ (by omega) (by omega)]
theorem same_test {x y a b : Int} (h : x = y ↔ a = b) : ((x == y) != (a == b)) = false := by
  rw [bne_eq_false_iff_eq, Bool.eq_iff_iff, beq_iff_eq, beq_iff_eq]
  exact h
end Go.Proofs.Ytikpgmajiafhgaa.PuMix
