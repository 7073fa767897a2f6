/- ghash: elements as whole numbers; the contracts of poly.Sum and Next over them. -/
import Derived.Test.YtmhmmmkpijbbiabMB
import Derived.Test.YtmhmmmkpijbbiabBv
import Derived.Test.YtmhmmmkpijbbiabGf
namespace Go.Proofs.Ytmhmmmkpijbbiab.Gh
open Go.RowKit Go.Proofs.YtmhmmmkpijbbiabW.PrintWords Go.Proofs.YtmhmmmkpijbbiabW.PrintMore Go.Proofs.Ytmhmmmkpijbbiab.M Go.Proofs.Ytmhmmmkpijbbiab.Bv Go.Proofs.Ytmhmmmkpijbbiab.Gf
theorem ev_eq {α : Type} {g : Nat → Option α} {r s : α} (h : Ev g r) (e : r = s) : Ev g s := e ▸ h
theorem w64_up (i : Nat) (h : i < 9223372036854775807) : wrap64 ((i : Int) + 1) = ((i + 1 : Nat) : Int) := by unfold wrap64; omega
def nxtE (s : Int × Int) : Int × Int := if Go.bits .and .u64 s.2 1 = 0 then (s.1 / 2, Go.bits .or .u64 (s.2 / 2) (IntKind.u64.wrap (s.1 * 9223372036854775808))) else (Go.bits .xor .u64 (s.1 / 2) 16212958658533785600, Go.bits .or .u64 (s.2 / 2) (IntKind.u64.wrap (s.1 * 9223372036854775808)))
theorem nxtE_eq (x y : Int) : poly_Elem_Next.f x y = some (nxtE (x, y)) := by
  unfold poly_Elem_Next.f nxtE
  split <;> rfl
def plusE (s t : Int × Int) : Int × Int := (Go.bits .xor .u64 s.1 t.1, Go.bits .xor .u64 s.2 t.2)
def E (n : Nat) : Int × Int := (((n / 18446744073709551616 : Nat) : Int), ((n % 18446744073709551616 : Nat) : Int))
theorem top_64 : top = 18446744073709551616 * 18446744073709551616 := by decide
theorem E_of {x y : Int} (x0 : 0 ≤ x) (x1 : x < 18446744073709551616) (y0 : 0 ≤ y) (y1 : y < 18446744073709551616) : ∃ a, a < top ∧ x = (E a).1 ∧ y = (E a).2 := by
  have h := top_64
  refine ⟨x.toNat * 18446744073709551616 + y.toNat, by omega, ?_, ?_⟩
  · show x = (((x.toNat * 18446744073709551616 + y.toNat) / 18446744073709551616 : Nat) : Int)
    omega
  · show y = (((x.toNat * 18446744073709551616 + y.toNat) % 18446744073709551616 : Nat) : Int)
    omega
theorem E_inj {a b : Nat} (h : E a = E b) : a = b := by
  have h1 : ((a / 18446744073709551616 : Nat) : Int) = ((b / 18446744073709551616 : Nat) : Int) := congrArg Prod.fst h
  have h2 : ((a % 18446744073709551616 : Nat) : Int) = ((b % 18446744073709551616 : Nat) : Int) := congrArg Prod.snd h
  omega
theorem E_lt {a : Nat} (ha : a < top) : a / 18446744073709551616 < 18446744073709551616 ∧ a % 18446744073709551616 < 18446744073709551616 := by
  have h := top_64
  exact ⟨by omega, by omega⟩
theorem pow64 : (2 : Nat) ^ 64 = 18446744073709551616 := by decide
theorem plus_E {a b : Nat} (ha : a < top) (hb : b < top) : plusE (E a) (E b) = E (a ^^^ b) := by
  obtain ⟨a1, a2⟩ := E_lt ha
  obtain ⟨b1, b2⟩ := E_lt hb
  have h1 : (a ^^^ b) / 18446744073709551616 = a / 18446744073709551616 ^^^ b / 18446744073709551616 := by rw [← pow64, ← Nat.shiftRight_eq_div_pow, ← Nat.shiftRight_eq_div_pow, ← Nat.shiftRight_eq_div_pow, Nat.shiftRight_xor_distrib]
  have h2 : (a ^^^ b) % 18446744073709551616 = a % 18446744073709551616 ^^^ b % 18446744073709551616 := by rw [← pow64, Nat.xor_mod_two_pow]
  unfold plusE E
  rw [h1, h2]
  dsimp only
  rw [u64_xor_nat _ _ a1 b1, u64_xor_nat _ _ a2 b2]
theorem nxt_E {a : Nat} (ha : a < top) : nxtE (E a) = E (nx a) := by
  obtain ⟨a1, a2⟩ := E_lt ha
  have ht := top_64
  have e1 : Go.bits .and .u64 (E a).2 1 = ((a % 2 : Nat) : Int) := by
    have h := u64_and_nat (a % 18446744073709551616) 1 a2 (by decide)
    show Go.bits .and .u64 ((a % 18446744073709551616 : Nat) : Int) ((1 : Nat) : Int) = _
    rw [h, Nat.and_one_is_mod]
    omega
  have e2 : (E a).1 / 2 = ((a / 2 / 18446744073709551616 : Nat) : Int) := by
    show ((a / 18446744073709551616 : Nat) : Int) / 2 = _
    omega
  have e3 : Go.bits .or .u64 ((E a).2 / 2) (IntKind.u64.wrap ((E a).1 * 9223372036854775808)) = ((a / 2 % 18446744073709551616 : Nat) : Int) := by
    have h1 : (E a).2 / 2 = ((a % 18446744073709551616 / 2 : Nat) : Int) := by show ((a % 18446744073709551616 : Nat) : Int) / 2 = _; omega
    have h2 : IntKind.u64.wrap ((E a).1 * 9223372036854775808) = (((a / 18446744073709551616 % 2) * 9223372036854775808 : Nat) : Int) := by
      rw [IntKind.wrap_u64]
      show ((a / 18446744073709551616 : Nat) : Int) * 9223372036854775808 % 18446744073709551616 = _
      omega
    rw [h1, h2, u64_or_nat _ _ (by omega) (by omega)]
    have h3 : a % 18446744073709551616 / 2 ||| a / 18446744073709551616 % 2 * 9223372036854775808 = a / 18446744073709551616 % 2 * 9223372036854775808 + a % 18446744073709551616 / 2 := by
      rw [Nat.or_comm]
      exact nat_join 63 _ _ (by omega) (by omega)
    rw [h3]
    congr 1
    omega
  have hh : a / 2 < top := by omega
  unfold nxtE nx
  rw [e1, e2, e3]
  by_cases h : a % 2 = 1
  · rw [if_neg (by omega), if_pos h]
    have h5 := plus_E hh R_lt
    have hR : E R = (16212958658533785600, 0) := by decide
    rw [hR] at h5
    rw [← h5]
    unfold plusE E
    dsimp only
    congr 1
    have h6 := u64_xor_nat (a / 2 % 18446744073709551616) 0 (by omega) (by omega)
    rw [Nat.xor_zero] at h6
    exact h6.symm
  · rw [if_pos (by omega), if_neg h]
    rfl
theorem next_E {a : Nat} (ha : a < top) : poly_Elem_Next.f (E a).1 (E a).2 = some (E (nx a)) := by
  rw [nxtE_eq, ← nxt_E ha]
theorem one_E : poly_One.f = some (E one) := by
  have h : E one = (9223372036854775808, 0) := by decide
  rw [h]
  rfl
theorem eq_E {a b : Nat} : ((E a).1 == (E b).1 && ((E a).2 == (E b).2)) = decide (a = b) := by
  rw [Bool.eq_iff_iff, Bool.and_eq_true, beq_iff_eq, beq_iff_eq, decide_eq_true_iff]
  constructor
  · rintro ⟨h1, h2⟩
    exact E_inj (Prod.ext h1 h2)
  · rintro rfl
    exact ⟨rfl, rfl⟩
theorem ne_E {a b : Nat} : (!((E a).1 == (E b).1) || (!((E a).2 == (E b).2))) = !decide (a = b) := by rw [← eq_E, Bool.not_and]
theorem zero_E {a : Nat} : ((E a).1 == 0 && ((E a).2 == 0)) = decide (a = 0) := eq_E (a := a) (b := 0)
/-! ### sums, powers -/
def toS (n : Nat) : S36 := ⟨(E n).1, (E n).2⟩
theorem rd_toS (l : List Nat) (i : Nat) : rd_T36 (l.map toS) (i : Int) = toS (l.getD i 0) := by
  show (l.map toS).getD i z36 = _
  rw [List.getD_eq_getElem?_getD, List.getD_eq_getElem?_getD, List.getElem?_map]
  cases l[i]? <;> rfl
def sumN (l : List Nat) (acc : Nat) : Nat := l.foldl (fun a b => a ^^^ b) acc
theorem plus_f {a b : Nat} (ha : a < top) (hb : b < top) : poly_Elem_plus.f (E a).1 (E a).2 (toS b).f0 (toS b).f1 = some (E (a ^^^ b)) := by rw [← plus_E ha hb]; rfl
theorem sum_l0 (l : List Nat) (hl : ∀ x ∈ l, x < top) (hn : l.length ≤ 1000000) : ∀ (d i acc : Nat), i + d = l.length → acc < top → Ev (fun k => poly_Sum.l0 k (l.map toS) (l.length : Int) (i : Int) (E acc).1 (E acc).2) (E (sumN (l.drop i) acc)) := by
  intro d
  induction d with
  | zero =>
    intro i acc hi ha
    refine Ev.step (f := fun _ => some ((E acc).1, (E acc).2)) (fun k => by simp only [poly_Sum.l0]; rw [if_neg (by omega)]) (ev_eq (Ev.now _) ?_)
    rw [List.drop_of_length_le (by omega)]
    rfl
  | succ d ih =>
    intro i acc hi ha
    have hd : l.drop i = l.getD i 0 :: l.drop (i + 1) := by
      rw [List.drop_eq_getElem_cons (by omega), List.getD_eq_getElem?_getD, List.getElem?_eq_getElem (by omega)]
      rfl
    have hx : l.getD i 0 < top := hl _ (by rw [List.getD_eq_getElem?_getD, List.getElem?_eq_getElem (by omega)]; exact List.getElem_mem (by omega))
    refine Ev.step (fun k => ?_) (ev_eq (ih (i + 1) (acc ^^^ l.getD i 0) (by omega) (xor_lt ha hx)) (by rw [hd]; rfl))
    simp only [poly_Sum.l0]
    rw [if_pos (by omega), if_pos (by omega), if_pos (by rw [List.length_map]; omega), rd_toS, plus_f ha hx, Option.bind_some, w64_up i (by omega)]
theorem sum_ev (l : List Nat) (hl : ∀ x ∈ l, x < top) (hn : l.length ≤ 1000000) : Ev (fun k => poly_Sum.f k (l.map toS)) (E (sumN l 0)) := by
  have h := sum_l0 l hl hn l.length 0 0 (by omega) (by decide)
  exact Ev.congr (fun k => by rw [poly_Sum.f, List.length_map]; rfl) h
theorem sum2_ev {a b : Nat} (ha : a < top) (hb : b < top) : Ev (fun k => poly_Sum.f k [⟨(E a).1, (E a).2⟩, ⟨(E b).1, (E b).2⟩]) (E (a ^^^ b)) := by
  refine ev_eq (sum_ev [a, b] ?_ (by simp)) ?_
  · intro x hx
    simp only [List.mem_cons, List.not_mem_nil, or_false] at hx
    rcases hx with rfl | rfl
    · exact ha
    · exact hb
  · show E ((0 ^^^ a) ^^^ b) = _
    rw [Nat.zero_xor]
/-- An element as a value. -/
abbrev el (n : Nat) : Value := .agg #[.int .u64 (E n).1, .int .u64 (E n).2]
theorem next_calls (n : Nat) (hn : n < top) (w : World) : Calls Try.prog 24 #[el n] w fun e w' => e = .returned (el (nx n)) ∧ Below w.heap.size w w' :=
  poly_Elem_Next.calls _ _ _ _ w (next_E hn)
theorem two_els {u : Nat} {w : World} {g : Nat} {x0 x1 x2 x3 : Int} (hb : w.heap[g]? = some (.cells #[.int .u64 x0, .int .u64 x1, .int .u64 x2, .int .u64 x3] u (0, 0))) : Kd.C k36 w (some ⟨g, 0, none⟩) 2 [⟨x0, x1⟩, ⟨x2, x3⟩] := by
  have h0 := blk_cell hb 0
  have h1 := blk_cell hb 1
  have h2 := blk_cell hb 2
  have h3 := blk_cell hb 3
  simp at h0 h1 h2 h3
  refine ⟨rfl, by decide, fun _ => ⟨_, rfl, fun j p hj => ?_⟩⟩
  have hj2 : j = 0 ∨ j = 1 := by have := (List.getElem?_eq_some_iff.1 hj).1; simp at this; omega
  rcases hj2 with rfl | rfl
  · have hp : (⟨x0, x1⟩ : S36) = p := Option.some.inj hj
    subst hp
    refine ⟨[.int .u64 x0, .int .u64 x1], rfl, ⟨[.int .u64 x0], [.int .u64 x1], rfl, rfl, rfl⟩, fun i v hv => ?_⟩
    have hi2 : i = 0 ∨ i = 1 := by have := (List.getElem?_eq_some_iff.1 hv).1; simp at this; omega
    rw [Addr.add_mid]
    rcases hi2 with rfl | rfl
    · have hv2 : Value.int .u64 x0 = v := Option.some.inj hv
      rw [← hv2]; exact h0
    · have hv2 : Value.int .u64 x1 = v := Option.some.inj hv
      rw [← hv2]; exact h1
  · have hp : (⟨x2, x3⟩ : S36) = p := Option.some.inj hj
    subst hp
    refine ⟨[.int .u64 x2, .int .u64 x3], rfl, ⟨[.int .u64 x2], [.int .u64 x3], rfl, rfl, rfl⟩, fun i v hv => ?_⟩
    have hi2 : i = 0 ∨ i = 1 := by have := (List.getElem?_eq_some_iff.1 hv).1; simp at this; omega
    rw [Addr.add_mid]
    rcases hi2 with rfl | rfl
    · have hv2 : Value.int .u64 x2 = v := Option.some.inj hv
      rw [← hv2]; exact h2
    · have hv2 : Value.int .u64 x3 = v := Option.some.inj hv
      rw [← hv2]; exact h3
theorem sum_calls (a b : Nat) (ha : a < top) (hb : b < top) (w : World) (g u : Nat) (hg : w.heap[g]? = some (.cells #[.int .u64 (E a).1, .int .u64 (E a).2, .int .u64 (E b).1, .int .u64 (E b).2] u (0, 0))) :
    Calls Try.prog 23 #[.slice (some ⟨g, 0, none⟩) 2 2] w fun e w' => e = .returned (el (a ^^^ b)) ∧ Below w.heap.size w w' := by
  obtain ⟨k, hk⟩ := Ev.rounds (sum2_ev ha hb)
  exact poly_Sum.calls k (some ⟨g, 0, none⟩) 2 [⟨(E a).1, (E a).2⟩, ⟨(E b).1, (E b).2⟩] (E (a ^^^ b)).1 (E (a ^^^ b)).2 w (two_els hg) (Nat.le_refl 2) hk
end Go.Proofs.Ytmhmmmkpijbbiab.Gh
