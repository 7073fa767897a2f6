/- Contracts of the Go functions that the laws reach, each as a plain Lean function: written by xprint.py, a program of this repo. -/
import Derived.Test.YtnmhnihhlakinacM0
import Derived.Test.YtnmhnihhlakinacM1
import Derived.Test.YtnmhnihhlakinacM2
import Derived.Test.YtnmhnihhlakinacM3
namespace Go.Proofs.Ytnmhnihhlakinac.M
open Go.RowKit Go.Proofs.YtnmhnihhlakinacW.PrintWords Go.Proofs.YtnmhnihhlakinacW.PrintLast Go.Proofs.YtnmhnihhlakinacW.PrintMore Go.Proofs.Ytnmhnihhlakinac.X
attribute [local go_sem] max2_int min2_int max_two min_two max_three min_three max_four min_four   -- for this text's walks alone
set_option linter.unusedVariables false
set_option linter.unusedSimpArgs false

/-! ### offer_Make: function 8, typed by hand -/
/-- Numbers of four bytes, written one behind the other. -/
def wrNums (k : Nat) : Int → List Int → List Int → Option (Int × List Int)
  | e, l, [] => some (e, l)
  | e, l, v :: t => (wrNum k e l (IntKind.u64.wrap v) 4).bind fun q => wrNums k q.1 q.2 t
set_option maxRecDepth 100000 in
set_option maxHeartbeats 4000000 in
theorem offmake_straight (k : Nat) (a0 : Int) (A1 A2 A3 : Option Addr) (c1 c2 c3 : Nat) (l1 l2 l3 b m1 m2 r : List Int) (e1 e2 : Int) (w : World) (hr1 : Kd.C (Kd.int .u8) w A1 l1.length l1) (hc1 : l1.length ≤ c1) (hr2 : Kd.C (Kd.int .u8) w A2 l2.length l2) (hc2 : l2.length ≤ c2) (hr3 : Kd.C (Kd.int .u32) w A3 l3.length l3) (hc3 : l3.length ≤ c3) (h1 : 1 ≤ l3.length) (h64 : l3.length ≤ 64)
    (qb : head_Head_Bytes.f k (Go.bits .or .u8 a0 128) 0 l1 l2 = some (b, 0)) (q1 : wrOne k 0 [] b = some (e1, m1)) (q2 : wrNums k e1 m1 l3 = some (e2, m2)) (hl : m2.length < 140737488355328) (hres : r = if e2 = 0 then m2 else []) :
    Calls Try.prog 8 #[.int .u8 a0, .slice A1 l1.length c1, .slice A2 l2.length c2, .slice A3 l3.length c3] w fun e w' => ∃ v0_ : Value, e = .returned (.tuple #[v0_, .int .i64 e2]) ∧ Kd.R (Kd.int .u8) 5 w' w.heap.size (fun _ => True) v0_ r ∧ Below w.heap.size w w' := by
  have HRES := Aside0.mk hres
  have QB := Aside0.mk qb
  have Q1 := Aside0.mk q1
  have Q2 := Aside0.mk q2
  have HL := Aside0.mk hl
  have HR1 := Aside0.mk hr1
  have HR2 := Aside0.mk hr2
  have HR3 := Aside0.mk hr3
  have HC1 := Aside0.mk hc1
  have HC2 := Aside0.mk hc2
  have HC3 := Aside0.mk hc3
  have g1 : decide ((l3.length : Int) < 1) = false := decide_eq_false (by omega)
  have g2 : decide ((l3.length : Int) > 64) = false := decide_eq_false (by omega)
  obtain ⟨n, hn⟩ : ∃ n : Nat, n = l3.length := ⟨_, rfl⟩
  rw [← hn] at g1 g2 ⊢
  have HN := Aside0.mk (show n = l3.length ∧ n ≤ 64 from ⟨hn, by omega⟩)
  have g1' : ¬ ((n : Int) < 1) := by omega
  have g2' : ¬ (64 < (n : Int)) := by omega
  clear hres qb q1 q2 hl hr1 hr2 hr3 hc1 hc2 hc3 h1 h64 hn
  go_enter Try.func8, Try.ntmps8
  go_wp2_with fail
  (with_reducible refine (head_Head_Bytes.calls k _ _ _ _ _ _ _ _ _ _ _ HR1.out HC1.out HR2.out HC2.out QB.out).mono ?_)
  rintro en w1 ⟨vb, rfl, hvb, hb1⟩
  obtain ⟨Ab, cb, rfl, hcb, hCb⟩ := row_at hvb
  have HCB := Aside0.mk hcb
  have HRB := Aside0.mk hCb
  have HB1 := Aside0.mk hb1
  clear hvb hcb hCb hb1
  go_wp2_with fail
  (with_reducible refine (write_calls _).mono ?_)
  rintro en w2 ⟨rfl, hw2⟩
  have hq : WrAt w2 w1.heap.size w1.heap.size 0 [] := by rw [hw2]; exact write_at w1 w1.heap.size (Nat.le_refl _)
  have hz : Below w1.heap.size w1 w2 := by rw [hw2]; exact below_alloc (Below.refl _ _) _
  have HW2 := Aside0.mk hq
  have HB2 := Aside0.mk hz
  clear hw2 hq hz
  go_wp2_with fail
  have hrow := Aside0.mk (one_row (t := 5) (u := 22) (Kd.C_below HRB.out HB2.out) HCB.out)
  have hw3 := Aside0.mk (HW2.out.below (below_alloc (Below.refl _ w2) (.cells #[.slice Ab b.length cb] 22)))
  (with_reducible refine (wone_calls k _ w1.heap.size w1.heap.size 0 e1 [] m1 b _ 1 hw3.out hrow.out (Nat.le_refl _) Q1.out).mono ?_)
  rintro en w3 ⟨rfl, hw3, hb3⟩
  have HW3 := Aside0.mk hw3
  have HB3 := Aside0.mk (HB1.out.trans ((HB2.out.trans (((below_alloc (Below.refl _ w2) (.cells #[.slice Ab b.length cb] 22)).mono HB2.out.size).trans hb3)).mono HB1.out.size))
  clear hrow hw3 hb3 HW2
  have HS1 := Aside0.mk HB1.out.size
  go_wp2_with fail
  go_loopg [41] n (fun kq v41 wr => ∃ (m : Nat) (i e : Int) (l : List Int), v41 = .int .i64 i ∧ Aside0 (i = (m : Int) ∧ m + kq = n) ∧ Aside0 (wrNums k e l (l3.drop m) = some (e2, m2)) ∧ Aside0 (WrAt wr w1.heap.size w1.heap.size e l) ∧ Aside0 (Below w.heap.size w wr))
  case atStart => exact ⟨0, 0, e1, m1, rfl, ⟨rfl, Nat.zero_add _⟩, Q2, HW3, HB3⟩
  case round =>
    obtain ⟨m, i, e, l, rfl, HI, HQ, HW, HB⟩ := hrel
    clear HB3 HW3
    by_cases hm : i < (n : Int)
    · have hi0 : 0 ≤ i := by have := HI.out.1; omega
      obtain ⟨ad, e0, hx⟩ := Kd.at_int (Kd.C_below HR3.out HB.out) i hi0 (by rw [← HN.out.1]; exact hm)
      subst e0
      obtain ⟨x, hxv⟩ : ∃ x : Int, x = rd l3 i := ⟨_, rfl⟩
      rw [← hxv] at hx
      have hml : m < l3.length := by have := HI.out.1; have := HN.out.1; omega
      have hdr : l3.drop m = x :: l3.drop (m + 1) := by
        rw [List.drop_eq_getElem_cons hml, hxv, HI.out.1]
        congr 1
        simp [rd, hml]
      have hq := HQ.out
      rw [hdr, wrNums] at hq
      obtain ⟨⟨e3, l4⟩, q3, q4⟩ := Option.bind_eq_some_iff.1 hq
      have Q3 := Aside0.mk q3
      have Q4 := Aside0.mk q4
      have hc : decide (i < (n : Int)) = true := decide_eq_true hm
      have HM := Aside0.mk hm
      have p1 := eq_true hi0
      have p2 := eq_true hm
      have w4 : IntKind.i64.wrap (i + 1) = i + 1 := IntWalk.i64_in _ (by have := HN.out.2; omega)
      clear hm hi0 hxv hml hdr hq q3 q4 HQ
      go_wp2_with fail
      (with_reducible refine (wnum_calls k _ _ _ _ _ _ _ _ _ HW.out Q3.out).mono ?_)
      rintro en w5 ⟨rfl, hw5, hb5⟩
      have HW5 := Aside0.mk hw5
      have HB5 := Aside0.mk (HB.out.trans (hb5.mono HS1.out))
      clear hw5 hb5
      go_wp2_with fail
      go_roundg (gk - 1)
      case measure => have := HI.out; have := HM.out; omega
      case rel => exact ⟨m + 1, i + 1, e3, l4, rfl, ⟨by have := HI.out.1; omega, by have := HI.out; have := HM.out; omega⟩, Q4, HW5, HB5⟩
    · have hc : decide (i < (n : Int)) = false := decide_eq_false hm
      have hq := HQ.out
      have hmn : m = n := by have := HI.out; omega
      rw [List.drop_of_length_le (by have := HN.out.1; omega), wrNums] at hq
      simp only [Option.some.injEq, Prod.mk.injEq] at hq
      obtain ⟨rfl, rfl⟩ := hq
      clear hm hmn HQ
      go_wp2_with fail
      (with_reducible refine (done_calls _ _ _ _ _ HW.out HL.out).mono ?_)
      rintro en w7 ⟨v7, rfl, hr7, hb7⟩
      have HR7 := Aside0.mk hr7
      have HB7 := Aside0.mk (HB.out.trans (hb7.mono HB.out.size))
      clear hr7 hb7
      go_wp2_with fail
      go_ret2
      exact ⟨v7, rfl, by rw [HRES.out]; exact Kd.R_lower HR7.out HB.out.size, HB7.out⟩
def offer_Make.f (k : Nat) (a0 : Int) (l1 l2 l3 : List Int) : Option (List Int × Int) :=
  if l3.length < 1 ∨ l3.length > 64 then (if l3.length < 140737488355328 then some ([], 11) else none) else (head_Head_Bytes.f k (Go.bits .or .u8 a0 128) 0 l1 l2).bind fun b => if b.2 = 0 then ((wrOne k 0 [] b.1).bind fun q => (wrNums k q.1 q.2 l3).bind fun z => if z.2.length < 140737488355328 then some (if z.1 = 0 then z.2 else [], z.1) else none) else some ([], b.2)
theorem wrNums_mono (k : Nat) : ∀ (vs : List Int) (e : Int) (l : List Int), LeO (wrNums k e l vs) (wrNums (k + 1) e l vs)
  | [], _, _ => LeO.refl _
  | v :: t, e, l => by
    unfold wrNums
    refine LeO.bind ?_ (fun q => wrNums_mono k t q.1 q.2)
    unfold wrNum
    exact LeO.bind (octet_Put.mono _ _ k) (fun _ => LeO.refl _)
theorem wrOne_mono2 (k : Nat) (e : Int) (l ys : List Int) : LeO (wrOne k e l ys) (wrOne (k + 1) e l ys) := by
  unfold wrOne
  exact LeO.bind (octet_Join.mono _ k) (fun _ => LeO.refl _)
theorem offer_Make.mono : ∀ (a0 : Int) (l1 l2 l3 : List Int) (k : Nat), LeO (offer_Make.f k a0 l1 l2 l3) (offer_Make.f (k + 1) a0 l1 l2 l3) := by
  intro a0 l1 l2 l3 k
  unfold offer_Make.f
  exact LeO.ite (LeO.refl _) (LeO.bind (head_Head_Bytes.mono _ _ _ _ k) (fun _ => LeO.ite (LeO.bind (wrOne_mono2 k _ _ _) (fun _ => LeO.bind (wrNums_mono k _ _ _) (fun _ => LeO.refl _))) (LeO.refl _)))
set_option maxRecDepth 100000 in
set_option maxHeartbeats 1000000 in
theorem offmake_range (a0 : Int) (v1 v2 : Value) (A3 : Option Addr) (n c3 : Nat) (w : World) (A1 A2 : Option Addr) (n1 n2 c1 c2 : Nat) (e1 : v1 = .slice A1 n1 c1) (e2 : v2 = .slice A2 n2 c2) (h : n < 1 ∨ n > 64) :
    Calls Try.prog 8 #[.int .u8 a0, v1, v2, .slice A3 n c3] w fun e w' => e = .returned (.tuple #[.slice none 0 0, .int .i64 11]) ∧ Below w.heap.size w w' := by
  subst e1
  subst e2
  by_cases h1 : (n : Int) < 1
  · have g1 : decide ((n : Int) < 1) = true := decide_eq_true h1
    clear h h1
    go_enter Try.func8, Try.ntmps8
    go_wp2_with fail
    go_ret2
    exact ⟨rfl, Below.refl _ _⟩
  · have g1 : decide ((n : Int) < 1) = false := decide_eq_false h1
    have g2 : decide ((n : Int) > 64) = true := decide_eq_true (by omega)
    have g3 : 64 < (n : Int) := by omega
    clear h
    go_enter Try.func8, Try.ntmps8
    go_wp2_with fail
    go_ret2
    exact ⟨rfl, Below.refl _ _⟩
set_option maxRecDepth 100000 in
set_option maxHeartbeats 1000000 in
theorem offmake_err (k : Nat) (a0 : Int) (A1 A2 A3 : Option Addr) (c1 c2 c3 n : Nat) (l1 l2 b : List Int) (eb : Int) (w : World) (hr1 : Kd.C (Kd.int .u8) w A1 l1.length l1) (hc1 : l1.length ≤ c1) (hr2 : Kd.C (Kd.int .u8) w A2 l2.length l2) (hc2 : l2.length ≤ c2) (h1 : 1 ≤ n) (h64 : n ≤ 64)
    (qb : head_Head_Bytes.f k (Go.bits .or .u8 a0 128) 0 l1 l2 = some (b, eb)) (he : eb ≠ 0) :
    Calls Try.prog 8 #[.int .u8 a0, .slice A1 l1.length c1, .slice A2 l2.length c2, .slice A3 n c3] w fun e w' => e = .returned (.tuple #[.slice none 0 0, .int .i64 eb]) ∧ Below w.heap.size w w' := by
  have QB := Aside0.mk qb
  have HR1 := Aside0.mk hr1
  have HR2 := Aside0.mk hr2
  have HC1 := Aside0.mk hc1
  have HC2 := Aside0.mk hc2
  have g1 : decide ((n : Int) < 1) = false := decide_eq_false (by omega)
  have g2 : decide ((n : Int) > 64) = false := decide_eq_false (by omega)
  have g1' : ¬ ((n : Int) < 1) := by omega
  have g2' : ¬ (64 < (n : Int)) := by omega
  have ge : (eb != 0) = true := bne_iff_ne.mpr he
  clear qb hr1 hr2 hc1 hc2 h1 h64 he
  go_enter Try.func8, Try.ntmps8
  go_wp2_with fail
  (with_reducible refine (head_Head_Bytes.calls k _ _ _ _ _ _ _ _ _ _ _ HR1.out HC1.out HR2.out HC2.out QB.out).mono ?_)
  rintro en w1 ⟨vb, rfl, hvb, hb1⟩
  obtain ⟨Ab, cb, rfl, hcb, hCb⟩ := row_at hvb
  have HB1 := Aside0.mk hb1
  clear hvb hcb hCb hb1
  go_wp2_with fail
  go_ret2
  exact ⟨rfl, HB1.out⟩
theorem offer_Make.calls (k : Nat) (a0 : Int) (A1 : Option Addr) (c1 : Nat) (l1 : List Int) (A2 : Option Addr) (c2 : Nat) (l2 : List Int) (A3 : Option Addr) (c3 : Nat) (l3 : List Int) (r1 : List Int) (r2 : Int) (w : World) (hr1 : Kd.C (Kd.int .u8) w A1 l1.length l1) (hc1 : l1.length ≤ c1) (hr2 : Kd.C (Kd.int .u8) w A2 l2.length l2) (hc2 : l2.length ≤ c2) (hr3 : Kd.C (Kd.int .u32) w A3 l3.length l3) (hc3 : l3.length ≤ c3) (h : offer_Make.f k a0 l1 l2 l3 = some (r1, r2)) :
    Calls Try.prog 8 #[.int .u8 a0, .slice A1 l1.length c1, .slice A2 l2.length c2, .slice A3 l3.length c3] w fun e w' => ∃ v0_ : Value, e = .returned (.tuple #[v0_, .int .i64 r2]) ∧ Kd.R (Kd.int .u8) 5 w' w.heap.size (fun _ => True) v0_ r1 ∧ Below w.heap.size w w' := by
  unfold offer_Make.f at h
  by_cases hn : l3.length < 1 ∨ l3.length > 64
  · rw [if_pos hn] at h
    split at h
    · simp only [Option.some.injEq, Prod.mk.injEq] at h
      obtain ⟨rfl, rfl⟩ := h
      exact (offmake_range a0 _ _ A3 l3.length c3 w _ _ _ _ _ _ rfl rfl hn).mono fun e w' ⟨he, hb⟩ => ⟨_, he, Kd.R_nil _ _ _ _ _, hb⟩
    · cases h
  · rw [if_neg hn] at h
    obtain ⟨⟨b, eb⟩, qb, h⟩ := Option.bind_eq_some_iff.1 h
    dsimp only at h
    by_cases he : eb = 0
    · rw [if_pos he] at h
      subst he
      obtain ⟨⟨e1, m1⟩, q1, h⟩ := Option.bind_eq_some_iff.1 h
      obtain ⟨⟨e2, m2⟩, q2, h⟩ := Option.bind_eq_some_iff.1 h
      dsimp only at h q2
      split at h
      · rename_i hl
        simp only [Option.some.injEq, Prod.mk.injEq] at h
        obtain ⟨h1, rfl⟩ := h
        exact offmake_straight k a0 A1 A2 A3 c1 c2 c3 l1 l2 l3 b m1 m2 r1 e1 e2 w hr1 hc1 hr2 hc2 hr3 hc3 (by omega) (by omega) qb q1 q2 hl h1.symm
      · cases h
    · rw [if_neg he] at h
      simp only [Option.some.injEq, Prod.mk.injEq] at h
      obtain ⟨rfl, rfl⟩ := h
      exact (offmake_err k a0 A1 A2 A3 c1 c2 c3 l3.length l1 l2 b eb w hr1 hc1 hr2 hc2 (by omega) (by omega) qb he).mono fun e w' ⟨he, hb⟩ => ⟨_, he, Kd.R_nil _ _ _ _ _, hb⟩


/-! ### head_Long: function 21 -/
def head_Long.f (l0 : List Int) : Option (Bool) := if (l0.length : Int) > 0 then (if 0 < (l0.length : Int) then (some ((Go.bits .and .u8 (rd l0 0) 128) != 0)) else (none)) else (some false)
set_option maxHeartbeats 8000000 in
set_option maxRecDepth 100000 in
theorem head_Long.calls (A0 : Option Addr) (c0 : Nat) (l0 : List Int) (r : Bool) (w : World) (hr0 : Kd.C (Kd.int .u8) w A0 l0.length l0) (hc0 : l0.length ≤ c0) (h : head_Long.f l0 = some r) :
    Calls Try.prog 21 #[.slice A0 l0.length c0] w fun e w' => e = .returned (.bool r) ∧ Drawn0 w w' := by
  have HR0 := Aside0.mk hr0
  have HC0 := Aside0.mk hc0
  clear hr0 hc0
  have H : (if (l0.length : Int) > 0 then (if 0 < (l0.length : Int) then (some ((Go.bits .and .u8 (rd l0 0) 128) != 0)) else (none)) else (some false)) = some r := h
  clear h
  by_cases c2 : (l0.length : Int) > 0
  · rw [if_pos c2] at H
    have c2b0 : decide (0 < (l0.length : Int)) = true := decide_eq_true c2
    have c2b1 : decide (0 < l0.length) = true := decide_eq_true (by omega)
    clear c2
    by_cases c3 : 0 < (l0.length : Int)
    · rw [if_pos c3] at H
      have c3b0 : decide (0 < (l0.length : Int)) = true := decide_eq_true c3
      have c3b1 : decide (0 < l0.length) = true := decide_eq_true (by omega)
      clear c3
      obtain rfl := Option.some.inj H
      have p119 : 0 ≤ (0 : Int) := (by omega)
      have q119 : 0 < (l0.length : Int) := of_decide_eq_true (by first | (with_reducible assumption) | assumption)
      obtain ⟨ad119, e119, hx119_0⟩ := Kd.at_int HR0.out 0 p119 q119
      cases e119
      have qi119 : (0 < l0.length) = True := eq_true (by omega)
      (try rw [show ((0 : Int)).toNat = 0 from rfl] at hx119_0)
      (try rw [Addr.add_zero'] at hx119_0)
      replace p119 := eq_true p119
      replace q119 := eq_true q119
      go_enter Try.func21, Try.ntmps21
      go_wp2
      go_ret
      exact ⟨by first | rfl | (simp; done) | (simp [*]; done), by repeat (first | exact Drawn0.refl _ | apply Drawn0.step)⟩
    · rw [if_neg c3] at H
      exact absurd H (by simp)
  · rw [if_neg c2] at H
    have c2b0 : decide (0 < (l0.length : Int)) = false := decide_eq_false c2
    have c2b1 : decide (0 < l0.length) = false := decide_eq_false (by omega)
    clear c2
    obtain rfl := Option.some.inj H
    go_enter Try.func21, Try.ntmps21
    go_wp2
    go_ret
    exact ⟨by first | rfl | (simp; done) | (simp [*]; done), by repeat (first | exact Drawn0.refl _ | apply Drawn0.step)⟩

/-! ### scan_Read: function 30, typed by hand -/
set_option maxRecDepth 100000 in
theorem read_calls (W : World) (A : Option Addr) (n c : Nat) : Calls Try.prog 30 #[.slice A n c] W fun en W' => en = .returned (.pointer (some ⟨W.heap.size, 0, none⟩)) ∧ W' = W.alloc (.cells #[.int .i64 0, .slice A n c] 77) := by
  go_enter Try.func30, Try.ntmps30
  go_wp2
  go_ret
  exact ⟨rfl, rfl⟩
theorem read_at {W : World} {A : Option Addr} {c : Nat} {l : List Int} (hC : Kd.C (Kd.int .u8) W A l.length l) (hc : l.length ≤ c) : RdAt (W.alloc (.cells #[.int .i64 0, .slice A l.length c] 77)) W.heap.size (fun k => k < W.heap.size) 0 l :=
  ⟨A, c, heap_alloc_new W _, hc, Kd.F_alloc (Kd.C_F (Kd.heap_int .u8) hC) _, Nat.lt_irrefl _⟩


/-! ### scan_Reader_Short: function 39, typed by hand -/
theorem short1_calls (k : Nat) (W : World) (g b : Nat) (P : Nat → Prop) (e v e2 : Int) (l l2 : List Int) (hR : RdAt W g P e l) (hl : l.length < 140737488355328) (hb : W.cell? ⟨b, 0, none⟩ = some (.pointer (some ⟨g, 0, none⟩))) (h : rdNum k e l 1 = some (v, e2, l2)) :
    Calls Try.prog 50 #[.pointer (some ⟨b, 0, none⟩)] W fun en W' => en = .returned (.int .u64 v) ∧ RdAt W' g P e2 l2 ∧ W.grownBy W' (some g) := by
  have HN := Aside0.mk (num_calls k W g P e 1 v e2 l l2 hR hl h)
  clear hR h hl
  go_enter Try.func50, Try.ntmps50
  go_wp2_with (go_at_call 32; (with_reducible refine HN.out.mono ?_); rintro en w1 ⟨rfl, hr1, hg1⟩)
  go_ret
  exact ⟨rfl, hr1, hg1⟩
/-- What a reader's Short tells. -/
def rdShort (k : Nat) (e : Int) (l : List Int) : Option (List Int × Int × List Int) := (rdNum k e l 1).bind fun n => if 0 ≤ n.1 then (if n.1 > (n.2.2.length : Int) then some ([], if n.2.1 = 0 then 12 else n.2.1, l) else if n.2.1 = 0 then some (n.2.2.take n.1.toNat, 0, n.2.2.drop n.1.toNat) else some ([], n.2.1, l)) else none
theorem RdAt.opens {W : World} {g : Nat} {P : Nat → Prop} {e : Int} {l : List Int} (h : RdAt W g P e l) : ∃ A c, W.heap[g]? = some (.cells #[.int .i64 e, .slice A l.length c] 77 (0, 0)) ∧ l.length ≤ c ∧ Kd.F (Kd.int .u8) W P A l.length l ∧ ¬ P g := h
set_option maxRecDepth 100000 in
set_option maxHeartbeats 1000000 in
theorem counted_calls (k : Nat) (W : World) (g b : Nat) (P : Nat → Prop) (e e2 : Int) (l r l2 : List Int) (hR : RdAt W g P e l) (hl : l.length < 140737488355328) (hb : W.cell? ⟨b, 0, none⟩ = some (.pointer (some ⟨g, 0, none⟩))) (h : rdShort k e l = some (r, e2, l2)) :
    Calls Try.prog 49 #[.pointer (some ⟨g, 0, none⟩), .func (.func 50) #[] #[.pointer (some ⟨b, 0, none⟩)]] W fun en W' => ∃ v, en = .returned v ∧ Kd.R (Kd.int .u8) 5 W' W.heap.size (fun _ => True) v r ∧ RdAt W' g P e2 l2 ∧ W.grownBy W' (some g) := by
  unfold rdShort at h
  obtain ⟨⟨n, e1, l1⟩, hn, h⟩ := Option.bind_eq_some_iff.1 h
  dsimp only at h
  have HS := Aside0.mk (short1_calls k W g b P e n e1 l l1 hR hl hb hn)
  obtain ⟨A, c, hbk, hc, hF, hg⟩ := hR.opens
  have hc1 := blk_cell hbk 1
  simp at hc1
  have HLL := Aside0.mk hl
  have HF := Aside0.mk hF
  have HC := Aside0.mk hc
  have HG := Aside0.mk hg
  have hl1 : l1.length ≤ l.length := by
    unfold rdNum at hn
    split at hn
    · obtain ⟨_, _, h2⟩ := Option.bind_eq_some_iff.1 hn
      simp only [Option.some.injEq, Prod.mk.injEq] at h2
      rw [← h2.2.2, List.length_drop]; omega
    · simp only [Option.some.injEq, Prod.mk.injEq] at hn
      rw [hn.2.2]; exact Nat.le_refl _
  have hl1b : l1.length < 140737488355328 := by omega
  have HL1 := Aside0.mk hl1b
  clear hn hR hbk hF hc hg hl hb hl1
  by_cases h0 : 0 ≤ n
  · rw [if_pos h0] at h
    by_cases hq : n > (l1.length : Int)
    · rw [if_pos hq] at h
      obtain ⟨e3, he3⟩ : ∃ e3, e3 = (if e1 = 0 then 12 else e1) := ⟨_, rfl⟩
      rw [← he3] at h
      simp only [Option.some.injEq, Prod.mk.injEq] at h
      obtain ⟨rfl, rfl, rfl⟩ := h
      have hz : (e3 != 0) = true := bne_iff_ne.mpr (by rw [he3]; split <;> omega)
      have H3 := Aside0.mk hz
      have HE := Aside0.mk he3
      clear hz he3
      go_enter Try.func49, Try.ntmps49
      go_wp2_with (first | (go_at_call 50; (with_reducible refine HS.out.mono ?_); rintro en w1 ⟨rfl, hr1, hg1⟩; obtain ⟨A1, c1, hb1, hc1, hF1, hgg⟩ := hr1.opens; have hd0 := blk_cell hb1 0; have hd1 := blk_cell hb1 1; have hf1 := blk_frozen hb1 1; have hf0 := blk_frozen hb1 0; simp at hd0 hd1; have HR1 := Aside0.mk hr1; have HG1 := Aside0.mk hg1; have HB1 := Aside0.mk hb1; clear hr1 hg1 hb1 hF1 hc1 hgg) | (go_at_call 43; (with_reducible refine (fail_calls w1 g e1 12 e3 (.slice A1 l1.length c1) HB1.out HE.out).mono ?_); rintro en w2 ⟨rfl, hb2, hg2⟩; have hk0 := blk_cell hb2 0; have hk1 := blk_cell hb2 1; have hm1 := blk_frozen hb2 1; simp at hk0 hk1; rw [H3.out]; have hz := H3.out; have HB2 := Aside0.mk hb2; have HG2 := Aside0.mk (HG1.out.trans hg2); clear hb2 hg2))
      go_ret
      have hgf := HG2.out.trans (setCell_grownBy w2 g 1 (.slice A l.length c))
      exact ⟨_, rfl, Kd.R_nil _ _ _ _ _, ⟨A, c, blk_put (cs := #[.int .i64 e3, .slice A1 l1.length c1]) HB2.out 1 _ rfl, HC.out, Kd.F_grown HF.out hgf (fun k hk e => HG.out (by cases e; exact hk)), HG.out⟩, hgf⟩
    · rw [if_neg hq] at h
      by_cases hz : e1 = 0
      · rw [if_pos hz] at h
        simp only [Option.some.injEq, Prod.mk.injEq] at h
        obtain ⟨hy, rfl, hl2⟩ := h
        obtain ⟨m, rfl⟩ := Int.eq_ofNat_of_zero_le h0
        rw [Int.toNat_natCast] at hy hl2
        have HY := Aside0.mk hy.symm
        have HZ := Aside0.mk hl2.symm
        have HM := Aside0.mk (show m ≤ l1.length by omega)
        subst hz
        clear hy hl2
        go_enter Try.func49, Try.ntmps49
        go_wp2_with (first | (go_at_call 50; (with_reducible refine HS.out.mono ?_); rintro en w1 ⟨rfl, hr1, hg1⟩; obtain ⟨A1, c1, hb1, hc1, hF1, hgg⟩ := hr1.opens; have hd0 := blk_cell hb1 0; have hd1 := blk_cell hb1 1; have hf1 := blk_frozen hb1 1; have hf0 := blk_frozen hb1 0; simp at hd0 hd1; have HR1 := Aside0.mk hr1; have HG1 := Aside0.mk hg1; have HB1 := Aside0.mk hb1; clear hr1 hg1 hb1 hF1 hc1 hgg) | (go_at_call 46; (with_reducible refine (cut_calls w1 g m P 0 l1 r l2 HY.out HZ.out HR1.out HM.out HL1.out).mono ?_); rintro en w2 ⟨vr, rfl, hv, hr2, hg2⟩; have HV := Aside0.mk hv; have HR2 := Aside0.mk hr2; have HG2 := Aside0.mk (HG1.out.trans hg2); clear hv hr2 hg2))
        go_ret
        exact ⟨_, rfl, Kd.R_lower HV.out HG1.out.size, HR2.out, HG2.out⟩
      · rw [if_neg hz] at h
        simp only [Option.some.injEq, Prod.mk.injEq] at h
        obtain ⟨rfl, rfl, rfl⟩ := h
        have hz2 : (e1 != 0) = true := bne_iff_ne.mpr hz
        clear hz
        go_enter Try.func49, Try.ntmps49
        go_wp2_with (go_at_call 50; (with_reducible refine HS.out.mono ?_); rintro en w1 ⟨rfl, hr1, hg1⟩; obtain ⟨A1, c1, hb1, hc1, hF1, hgg⟩ := hr1.opens; have hd0 := blk_cell hb1 0; have hd1 := blk_cell hb1 1; have hf1 := blk_frozen hb1 1; have hf0 := blk_frozen hb1 0; simp at hd0 hd1; have HR1 := Aside0.mk hr1; have HG1 := Aside0.mk hg1; have HB1 := Aside0.mk hb1; clear hr1 hg1 hb1 hF1 hc1 hgg)
        go_ret
        have hgf := HG1.out.trans (setCell_grownBy w1 g 1 (.slice A l.length c))
        exact ⟨_, rfl, Kd.R_nil _ _ _ _ _, ⟨A, c, blk_put (cs := #[.int .i64 e1, .slice A1 l1.length c1]) HB1.out 1 _ rfl, HC.out, Kd.F_grown HF.out hgf (fun k hk e => HG.out (by cases e; exact hk)), HG.out⟩, hgf⟩
  · rw [if_neg h0] at h
    cases h
set_option maxRecDepth 100000 in
set_option maxHeartbeats 1000000 in
theorem short_calls (k : Nat) (W : World) (g : Nat) (P : Nat → Prop) (e e2 : Int) (l r l2 : List Int) (hR : RdAt W g P e l) (hl : l.length < 140737488355328) (h : rdShort k e l = some (r, e2, l2)) :
    Calls Try.prog 39 #[.pointer (some ⟨g, 0, none⟩)] W fun en W' => ∃ v, en = .returned v ∧ Kd.R (Kd.int .u8) 5 W' W.heap.size (fun _ => True) v r ∧ RdAt W' g P e2 l2 ∧ W.grownBy W' (some g) := by
  have hR1 := hR.below (below_alloc (Below.refl _ W) (.cells #[.pointer (some ⟨g, 0, none⟩)] 61))
  have HS := Aside0.mk (counted_calls k _ g W.heap.size P e e2 l r l2 hR1 hl (by simp [go_sem]) h)
  clear hR hR1 h hl
  go_enter Try.func39, Try.ntmps39
  go_wp2_with (go_at_call 49; (with_reducible refine HS.out.mono ?_); rintro en w1 ⟨v, rfl, hv, hr1, hg1⟩; have HV := Aside0.mk hv; have HR1 := Aside0.mk hr1; have HG1 := Aside0.mk hg1; clear hv hr1 hg1)
  go_ret
  exact ⟨_, rfl, Kd.R_lower HV.out (by simp), HR1.out, (World.grownBy_alloc W _ (some g)).trans HG1.out⟩
theorem rdShort_len {k : Nat} {e e2 : Int} {l r l2 : List Int} (h : rdShort k e l = some (r, e2, l2)) : l2.length ≤ l.length := by
  unfold rdShort at h
  obtain ⟨⟨n, e1, l1⟩, hn, h⟩ := Option.bind_eq_some_iff.1 h
  have := rdNum_len hn
  dsimp only at h
  split at h
  · split at h
    · simp only [Option.some.injEq, Prod.mk.injEq] at h
      rw [h.2.2]; exact Nat.le_refl _
    · split at h
      · simp only [Option.some.injEq, Prod.mk.injEq] at h
        rw [← h.2.2, List.length_drop]; omega
      · simp only [Option.some.injEq, Prod.mk.injEq] at h
        rw [h.2.2]; exact Nat.le_refl _
  · cases h


/-! ### scan_Reader_Bytes: function 51, typed by hand -/
/-- What a reader's Bytes tells. -/
def rdBytes (e : Int) (l : List Int) (n : Int) : List Int × Int × List Int := if stays e n (mx n 0) l.length = 0 then (l.take n.toNat, 0, l.drop n.toNat) else ([], stays e n (mx n 0) l.length, l)
set_option maxRecDepth 100000 in
set_option maxHeartbeats 1000000 in
theorem bytes_calls (W : World) (g : Nat) (P : Nat → Prop) (e n e2 : Int) (l r l2 : List Int) (hR : RdAt W g P e l) (hl : l.length < 140737488355328) (h : rdBytes e l n = (r, e2, l2)) :
    Calls Try.prog 51 #[.pointer (some ⟨g, 0, none⟩), .int .i64 n] W fun en W' => ∃ v, en = .returned v ∧ Kd.R (Kd.int .u8) 5 W' W.heap.size (fun _ => True) v r ∧ RdAt W' g P e2 l2 ∧ W.grownBy W' (some g) := by
  obtain ⟨A, c, hb, hc, hF, hg⟩ := hR
  obtain ⟨e1, he1⟩ : ∃ e1, e1 = stays e n (mx n 0) l.length := ⟨_, rfl⟩
  have HCK := Aside0.mk (check_calls W.drew g e n (mx n 0) A l.length c (blk_drew hb))
  have HFL := Aside0.mk (fail_calls W.drew g e (chkS n (mx n 0) l.length) e1 (.slice A l.length c) (blk_drew hb) he1)
  have HR1 : ∀ w1 : World, w1.heap[g]? = some (.cells #[.int .i64 e1, .slice A l.length c] 77 (0, 0)) → W.drew.grownBy w1 (some g) → RdAt w1 g P e1 l := fun w1 h1 h2 => ⟨A, c, h1, hc, Kd.F_grown (Kd.F_drew hF) h2 (fun k hk e => hg (by cases e; exact hk)), hg⟩
  have HRA := Aside0.mk HR1
  have HLL := Aside0.mk hl
  have h' : (if e1 = 0 then (l.take n.toNat, 0, l.drop n.toNat) else ([], e1, l)) = (r, e2, l2) := by rw [he1]; exact h
  clear h HR1 hb hc hF hg hl
  by_cases h0 : e1 = 0
  · rw [if_pos h0] at h'
    simp only [Prod.mk.injEq] at h'
    obtain ⟨hy, rfl, hl2⟩ := h'
    obtain ⟨he, s0, s1, s2⟩ := stays_zero (he1.symm.trans h0)
    obtain ⟨m, rfl⟩ := Int.eq_ofNat_of_zero_le s0
    rw [Int.toNat_natCast] at hy hl2
    have HY := Aside0.mk hy.symm
    have HZ := Aside0.mk hl2.symm
    have HM := Aside0.mk (show m ≤ l.length by omega)
    clear s0 s1 s2 he1 he hy hl2
    rw [h0] at HFL HRA
    clear h0
    go_enter Try.func51, Try.ntmps51
    go_wp2
    go_still_tail 8, (by kernel_rfl)
    change wpStill _ _ W.drew _ _ _
    refine wpStill_step (fun K hK => ?_)
    go_simp
    refine ⟨_, HCK.out, hK _ ?_⟩
    clear hK K HCK
    refine wpStill_nil ?_
    change wpList _ _ _ _ _ W.drew
    go_wp2_with (first | (go_at_call 43; (with_reducible refine HFL.out.mono ?_); rintro en w1 ⟨rfl, hb1, hg1⟩; have HR1 := Aside0.mk (HRA.out w1 hb1 hg1); have HG1 := Aside0.mk ((drew_grownBy W (some g)).trans hg1); clear hb1 hg1) | (go_at_call 46; (with_reducible refine (cut_calls _ g m P 0 l r l2 HY.out HZ.out HR1.out HM.out HLL.out).mono ?_); rintro en w2 ⟨vr, rfl, hv, hr2, hg2⟩; have HV := Aside0.mk hv; have HR2 := Aside0.mk hr2; have HG2 := Aside0.mk (HG1.out.trans hg2); clear hv hr2 hg2))
    go_ret
    exact ⟨_, rfl, Kd.R_lower HV.out HG1.out.size, HR2.out, HG2.out⟩
  · rw [if_neg h0] at h'
    simp only [Prod.mk.injEq] at h'
    obtain ⟨rfl, rfl, rfl⟩ := h'
    have h1 : (e1 != 0) = true := bne_iff_ne.mpr h0
    have H1 := Aside0.mk h1
    clear h1 h0 he1
    by_cases hn : n < 0
    · have hmx : mx n 0 = 0 := if_pos hn
      rw [hmx] at HCK HFL
      clear hmx
      go_enter Try.func51, Try.ntmps51
      go_wp2
      go_still_tail 8, (by kernel_rfl)
      change wpStill _ _ W.drew _ _ _
      refine wpStill_step (fun K hK => ?_)
      go_simp
      refine ⟨_, HCK.out, hK _ ?_⟩
      clear hK K HCK
      refine wpStill_nil ?_
      change wpList _ _ _ _ _ W.drew
      go_wp2_with (go_at_call 43; (with_reducible refine HFL.out.mono ?_); rintro en w1 ⟨rfl, hb1, hg1⟩; rw [H1.out]; have HR1 := Aside0.mk (HRA.out w1 hb1 hg1); have HG1 := Aside0.mk ((drew_grownBy W (some g)).trans hg1); clear hb1 hg1)
      go_ret
      exact ⟨_, rfl, Kd.R_nil _ _ _ _ _, HR1.out, HG1.out⟩
    · have hmx : mx n 0 = n := if_neg hn
      rw [hmx] at HCK HFL
      clear hmx
      go_enter Try.func51, Try.ntmps51
      go_wp2
      go_still_tail 8, (by kernel_rfl)
      change wpStill _ _ W.drew _ _ _
      refine wpStill_step (fun K hK => ?_)
      go_simp
      rw [if_neg (by omega : ¬ n < 0)]
      refine ⟨_, HCK.out, hK _ ?_⟩
      clear hK K HCK
      refine wpStill_nil ?_
      change wpList _ _ _ _ _ W.drew
      go_wp2_with (go_at_call 43; (with_reducible refine HFL.out.mono ?_); rintro en w1 ⟨rfl, hb1, hg1⟩; rw [H1.out]; have HR1 := Aside0.mk (HRA.out w1 hb1 hg1); have HG1 := Aside0.mk ((drew_grownBy W (some g)).trans hg1); clear hb1 hg1)
      go_ret
      exact ⟨_, rfl, Kd.R_nil _ _ _ _ _, HR1.out, HG1.out⟩


/-! ### scan_Reader_Rest: function 40, typed by hand -/
set_option maxRecDepth 100000 in
set_option maxHeartbeats 1000000 in
theorem rest_calls (W : World) (g : Nat) (P : Nat → Prop) (e e2 : Int) (l r l2 : List Int) (hR : RdAt W g P e l) (hl : l.length < 140737488355328) (h : rdBytes e l (l.length : Int) = (r, e2, l2)) :
    Calls Try.prog 40 #[.pointer (some ⟨g, 0, none⟩)] W fun en W' => ∃ v, en = .returned v ∧ Kd.R (Kd.int .u8) 5 W' W.heap.size (fun _ => True) v r ∧ RdAt W' g P e2 l2 ∧ W.grownBy W' (some g) := by
  have HS := Aside0.mk (bytes_calls W g P e (l.length : Int) e2 l r l2 hR hl h)
  obtain ⟨A, c, hb, _, _, _⟩ := hR.opens
  have hc1 := blk_cell hb 1
  simp at hc1
  clear hR hb h hl
  go_enter Try.func40, Try.ntmps40
  go_wp2_with (go_at_call 51; (with_reducible refine HS.out.mono ?_); rintro en w1 ⟨v, rfl, hv, hr1, hg1⟩; have HV := Aside0.mk hv; have HR1 := Aside0.mk hr1; have HG1 := Aside0.mk hg1; clear hv hr1 hg1)
  go_ret
  exact ⟨_, rfl, HV.out, HR1.out, HG1.out⟩


/-! ### scan_fault_Err: function 41, typed by hand -/
set_option maxRecDepth 100000 in
theorem err_calls (W : World) (g : Nat) (e : Int) (x : Value) (hb : W.heap[g]? = some (.cells #[.int .i64 e, x] 77 (0, 0))) : Calls Try.prog 41 #[.pointer (some ⟨g, 0, none⟩)] W fun en W' => en = .returned (.int .i64 e) ∧ W' = W := by
  have hc0 := blk_cell hb 0
  simp at hc0
  clear hb
  go_enter Try.func41, Try.ntmps41
  go_wp2
  go_ret
  exact ⟨rfl, rfl⟩


end Go.Proofs.Ytnmhnihhlakinac.M
