/- Contracts of the Go functions that the laws reach, each as a plain Lean function: written by xprint.py, a program of this repo. -/
import Derived.Test.YtmhmmmkpijbbiaaM0
namespace Go.Proofs.Ytmhmmmkpijbbiaa.M
open Go.RowKit Go.Proofs.YtmhmmmkpijbbiaaW.PrintWords Go.Proofs.YtmhmmmkpijbbiaaW.PrintLast Go.Proofs.YtmhmmmkpijbbiaaW.PrintMore Go.Proofs.Ytmhmmmkpijbbiaa.X
attribute [local go_sem] max2_int min2_int max_two min_two max_three min_three max_four min_four   -- for this text's walks alone
set_option linter.unusedVariables false
set_option linter.unusedSimpArgs false

/-! ### crosswaylaw09_great: function 8 -/
def crosswaylaw09_great.l0 : Nat → List (S35) → Int → Option (Bool)
  | 0, _, _ => none
  | k + 1, x0, x3 => if x3 < (x0.length : Int) then (if 0 ≤ x3 then (if (((rd_T35 x0 x3).f3).length : Int) > 300 then (some true) else (crosswaylaw09_great.l0 k x0 (wrap64 (x3 + 1)))) else (none)) else (some false)
def crosswaylaw09_great.f (k : Nat) (l0 : List (S35)) : Option (Bool) := if (l0.length : Int) > 60 then (some true) else (crosswaylaw09_great.l0 k l0 0)
theorem crosswaylaw09_great.mono_l : ∀ k, (∀ y0 y1, LeO (crosswaylaw09_great.l0 k y0 y1) (crosswaylaw09_great.l0 (k + 1) y0 y1))
  | 0 => fun _ _ r h => by simp [crosswaylaw09_great.l0] at h
  | k + 1 => by
    have ih0 := crosswaylaw09_great.mono_l k
    · intro y0 y1
      unfold crosswaylaw09_great.l0
      repeat' first
      | (with_reducible exact ih0 _ _)
      | (with_reducible exact LeO.refl _)
      | (with_reducible exact LeO.none _)
      | (with_reducible refine LeO.ite ?_ ?_)
      | (with_reducible refine LeO.bind ?_ (fun _ => ?_))
      | exact ih0 _ _
      | exact LeO.none _
      | refine LeO.ite ?_ ?_
      | refine LeO.bind ?_ (fun _ => ?_)
theorem crosswaylaw09_great.mono : ∀ a0 k, LeO (crosswaylaw09_great.f k a0) (crosswaylaw09_great.f (k + 1) a0) := by
  intro a0 k
  have ih0 := crosswaylaw09_great.mono_l k
  unfold crosswaylaw09_great.f
  repeat' first
      | (with_reducible exact ih0 _ _)
      | (with_reducible exact LeO.refl _)
      | (with_reducible exact LeO.none _)
      | (with_reducible refine LeO.ite ?_ ?_)
      | (with_reducible refine LeO.bind ?_ (fun _ => ?_))
      | exact ih0 _ _
      | exact LeO.none _
      | refine LeO.ite ?_ ?_
      | refine LeO.bind ?_ (fun _ => ?_)
set_option maxHeartbeats 8000000 in
set_option maxRecDepth 100000 in
theorem crosswaylaw09_great.calls (k : Nat) (A0 : Option Addr) (c0 : Nat) (l0 : List (S35)) (r : Bool) (w : World) (hr0 : Kd.C k35 w A0 l0.length l0) (hc0 : l0.length ≤ c0) (h : crosswaylaw09_great.f k l0 = some r) :
    Calls Try.prog 8 #[.slice A0 l0.length c0] w fun e w' => e = .returned (.bool r) ∧ Drawn0 w w' := by
  have HR0 := Aside0.mk hr0
  have HC0 := Aside0.mk hc0
  clear hr0 hc0
  have H : (if (l0.length : Int) > 60 then (some true) else (crosswaylaw09_great.l0 k l0 0)) = some r := h
  clear h
  by_cases c2 : (l0.length : Int) > 60
  · rw [if_pos c2] at H
    have c2b0 : decide (60 < (l0.length : Int)) = true := decide_eq_true c2
    have c2b1 : decide (60 < l0.length) = true := decide_eq_true (by omega)
    clear c2
    obtain rfl := Option.some.inj H
    go_enter Try.func8, Try.ntmps8
    go_wp2
    go_ret
    exact ⟨by first | rfl | (simp; done) | (simp [*]; done), by repeat (first | exact Drawn0.refl _ | apply Drawn0.step)⟩
  · rw [if_neg c2] at H
    have c2b0 : decide (60 < (l0.length : Int)) = false := decide_eq_false c2
    have c2b1 : decide (60 < l0.length) = false := decide_eq_false (by omega)
    clear c2
    have H' := Aside0.mk H
    clear H
    go_enter Try.func8, Try.ntmps8
    go_wp2
    go_loopg [3] k (fun kq v3 w' => ∃ (x3_1 : Int), v3 = .int .i64 x3_1 ∧ Aside0 (crosswaylaw09_great.l0 kq l0 x3_1 = some r) ∧ Aside0 (kq ≤ k) ∧ Drawn0 w w')
    case atStart => exact ⟨(0), (by first | rfl | (simp; done) | (simp [*]; done) | (simp only [i64_w]; done) | (simp [i64_w]; done)), H', ⟨Nat.le_refl _⟩, by repeat (first | exact Drawn0.refl _ | apply Drawn0.step)⟩
    case round =>
      clear H'
      try clear c2
      try clear c2b0
      try clear c2b1
      try clear p2
      obtain ⟨x3_1, rfl, HA, HK1, ⟨m1, rfl⟩⟩ := hrel
      cases gk with
      | zero => exact absurd HA.out (by simp [crosswaylaw09_great.l0])
      | succ k1 =>
        have H := HA.out
        clear HA
        simp only [crosswaylaw09_great.l0] at H
        by_cases c3 : x3_1 < (l0.length : Int)
        · rw [if_pos c3] at H
          have c3b0 : decide (x3_1 < (l0.length : Int)) = true := decide_eq_true c3
          clear c3
          by_cases c4 : 0 ≤ x3_1
          · rw [if_pos c4] at H
            have c4b0 : decide (0 ≤ x3_1) = true := decide_eq_true c4
            clear c4
            by_cases c5 : (((rd_T35 l0 x3_1).f3).length : Int) > 300
            · rw [if_pos c5] at H
              have c5b0 : decide (300 < (((rd_T35 l0 x3_1).f3).length : Int)) = true := decide_eq_true c5
              have c5b1 : decide (300 < ((rd_T35 l0 x3_1).f3).length) = true := decide_eq_true (by omega)
              clear c5
              obtain rfl := Option.some.inj H
              have p101 : 0 ≤ (x3_1 : Int) := of_decide_eq_true (by first | (with_reducible assumption) | assumption)
              have q101 : x3_1 < (l0.length : Int) := of_decide_eq_true (by first | (with_reducible assumption) | assumption)
              obtain ⟨ad101, A101_3, c101_3, e101, hx101_0, hx101_1, hx101_2, hx101_3, hl101_3, hi101_3⟩ := at_T35 HR0.out x3_1 p101 q101
              cases e101
              have HR101_3 := Aside0.mk hi101_3
              have HC101_3 := Aside0.mk hl101_3
              clear hi101_3 hl101_3
              replace p101 := eq_true p101
              replace q101 := eq_true q101
              go_wp2
              go_ret
              exact ⟨by first | rfl | (simp; done) | (simp [*]; done), by repeat (first | exact Drawn0.refl _ | apply Drawn0.step)⟩
            · rw [if_neg c5] at H
              have c5b0 : decide (300 < (((rd_T35 l0 x3_1).f3).length : Int)) = false := decide_eq_false c5
              have c5b1 : decide (300 < ((rd_T35 l0 x3_1).f3).length) = false := decide_eq_false (by omega)
              clear c5
              have H' := Aside0.mk H
              clear H
              have p101 : 0 ≤ (x3_1 : Int) := of_decide_eq_true (by first | (with_reducible assumption) | assumption)
              have q101 : x3_1 < (l0.length : Int) := of_decide_eq_true (by first | (with_reducible assumption) | assumption)
              obtain ⟨ad101, A101_3, c101_3, e101, hx101_0, hx101_1, hx101_2, hx101_3, hl101_3, hi101_3⟩ := at_T35 HR0.out x3_1 p101 q101
              cases e101
              have HR101_3 := Aside0.mk hi101_3
              have HC101_3 := Aside0.mk hl101_3
              clear hi101_3 hl101_3
              replace p101 := eq_true p101
              replace q101 := eq_true q101
              go_wp2
              go_roundg k1
              case measure => have := HK1.out; omega
              case rel => exact ⟨(wrap64 (x3_1 + 1)), (by first | rfl | (simp; done) | (simp [*]; done) | (simp only [i64_w]; done) | (simp [i64_w]; done)), H', ⟨by have := HK1.out; omega⟩, by repeat (first | exact Drawn0.refl _ | apply Drawn0.step)⟩
          · rw [if_neg c4] at H
            exact absurd H (by simp)
        · rw [if_neg c3] at H
          have c3b0 : decide (x3_1 < (l0.length : Int)) = false := decide_eq_false c3
          clear c3
          obtain rfl := Option.some.inj H
          go_wp2
          go_ret
          exact ⟨by first | rfl | (simp; done) | (simp [*]; done), by repeat (first | exact Drawn0.refl _ | apply Drawn0.step)⟩

/-! ### slices_Clone_byte_byte: function 37, typed by hand -/
def slices_Clone_byte_byte.f (l0 : List Int) : Option (List Int) := if l0.length < 140737488355328 then some l0 else none
set_option maxRecDepth 100000 in
theorem slices_Clone_byte_byte.calls (A0 : Option Addr) (c0 : Nat) (l0 : List Int) (r : List Int) (w : World) (hr0 : Kd.C (Kd.int .u8) w A0 l0.length l0) (hc0 : l0.length ≤ c0) (h : slices_Clone_byte_byte.f l0 = some r) :
    Calls Try.prog 37 #[.slice A0 l0.length c0] w fun e w' => ∃ v0_ : Value, e = .returned (v0_) ∧ Kd.R (Kd.int .u8) 5 w' w.heap.size (fun _ => True) v0_ r ∧ Below w.heap.size w w' := by
  have h1 : l0.length < 140737488355328 ∧ l0 = r := by
    simp only [slices_Clone_byte_byte.f] at h
    by_cases c1 : l0.length < 140737488355328
    · rw [if_pos c1] at h
      exact ⟨c1, Option.some.inj h⟩
    · rw [if_neg c1] at h
      cases h
  obtain ⟨c1, rfl⟩ := h1
  clear h
  have HL := Aside0.mk c1
  have HR0 := Aside0.mk hr0
  clear c1
  cases A0 with
  | none =>
    have hl : l0 = [] := by
      cases l0 with
      | nil => rfl
      | cons x l =>
        obtain ⟨ad, e, _⟩ := hr0.2.2 (by simp)
        cases e
    subst hl
    clear hr0
    have hn := fun W => Lib.run_eql_slice_nil (P := Try.prog) W 28 5 none 0 c0 0 0 Try.underlying28
    simp only [Option.isNone_none] at hn
    go_enter Try.func37, Try.ntmps37
    go_wp2
    go_ret
    exact ⟨_, rfl, Kd.R_nil _ _ _ _ _, Below.refl _ _⟩
  | some ad =>
    clear hr0
    have hn := fun W => Lib.run_eql_slice_nil (P := Try.prog) W 28 5 (some ad) l0.length c0 0 0 Try.underlying28
    simp only [Option.isNone_some] at hn
    go_enter Try.func37, Try.ntmps37
    go_wp2_with (first | ((with_reducible refine gate_dst (N := 5) rfl ?_); refine Kd.R_lit (Kd.int .u8) _ 5 ?hg (N := 5) ?hd (xs := ([] : List Int)) (inner := []) (ok := fun _ => True) (okp := fun _ => True) ?hr ?hp (fun _ hk => hk) trivial (Below.refl _ _) (Nat.le_refl _) (by simp) ?_; (case hd => rfl); (case hg => rfl); (case hr => first | (go_simp; done) | (go_simp; rfl)); (case hp => exact (Reps.none _ _)); intro v1 w3 ho4 hb hg_ hnew_; clear hg_ hnew_; have HO := Aside0.mk ho4; have HB := Aside0.mk hb; clear hb ho4) | ((with_reducible refine gate_builtin (b := .append) (xs := #[.tmp 5, .tmp 6]) rfl ?_); at_builtin; refine Kd.R_append_rows (Kd.int .u8) (w0 := w) w.heap.size rfl (.tmp 5) (.tmp 6) 28 5 (.int .u8 0) 1 rfl Try.underlying28 info5 rfl (by decide) (by omega) v1 [] l0 _ _ _ (fun _ => True) (fun _ => False) rfl rfl ?aO ?aR (fun _ _ h => h) (fun _ h => h.elim) ?aF ?aB ?aS ?aL ?_; (case aR => exact Kd.C_below HR0.out HB.out); (case aB => exact HB.out); (case aF => exact (fun _ _ => trivial)); (case aO => exact HO.out); (case aS => exact below_size HB.out); (case aL => have := HL.out; simp; omega); intro v2 w5 ho hb hg hat; have HO2 := Aside0.mk ho; have HB2 := Aside0.mk hb; clear ho hb hg hat))
    go_ret
    exact ⟨_, rfl, HO2.out, HB2.out⟩


/-! ### octet_Num: function 47 -/
def octet_Num.l0 : Nat → Int → List Int → Int → Int → Option (Int × Int)
  | 0, _, _, _, _ => none
  | k + 1, x4, x10, x11, x12 => if x12 < x11 then (if 0 ≤ x12 then (if x12 < (x10.length : Int) then (octet_Num.l0 k (Go.bits .or .u64 (IntKind.u64.wrap (x4 * 256)) (IntKind.u64.wrap (rd x10 x12))) x10 x11 (wrap64 (x12 + 1))) else (none)) else (none)) else (some (x4, 0))
def octet_Num.f (k : Nat) (l0 : List Int) : Option (Int × Int) := if (l0.length : Int) > 8 then (some (0, 11)) else (octet_Num.l0 k 0 l0 (l0.length : Int) 0)
theorem octet_Num.mono_l : ∀ k, (∀ y0 y1 y2 y3, LeO (octet_Num.l0 k y0 y1 y2 y3) (octet_Num.l0 (k + 1) y0 y1 y2 y3))
  | 0 => fun _ _ _ _ r h => by simp [octet_Num.l0] at h
  | k + 1 => by
    have ih0 := octet_Num.mono_l k
    · intro y0 y1 y2 y3
      unfold octet_Num.l0
      repeat' first
      | (with_reducible exact ih0 _ _ _ _)
      | (with_reducible exact LeO.refl _)
      | (with_reducible exact LeO.none _)
      | (with_reducible refine LeO.ite ?_ ?_)
      | (with_reducible refine LeO.bind ?_ (fun _ => ?_))
      | exact ih0 _ _ _ _
      | exact LeO.none _
      | refine LeO.ite ?_ ?_
      | refine LeO.bind ?_ (fun _ => ?_)
theorem octet_Num.mono : ∀ a0 k, LeO (octet_Num.f k a0) (octet_Num.f (k + 1) a0) := by
  intro a0 k
  have ih0 := octet_Num.mono_l k
  unfold octet_Num.f
  repeat' first
      | (with_reducible exact ih0 _ _ _ _)
      | (with_reducible exact LeO.refl _)
      | (with_reducible exact LeO.none _)
      | (with_reducible refine LeO.ite ?_ ?_)
      | (with_reducible refine LeO.bind ?_ (fun _ => ?_))
      | exact ih0 _ _ _ _
      | exact LeO.none _
      | refine LeO.ite ?_ ?_
      | refine LeO.bind ?_ (fun _ => ?_)
set_option maxHeartbeats 8000000 in
set_option maxRecDepth 100000 in
theorem octet_Num.calls (k : Nat) (A0 : Option Addr) (c0 : Nat) (l0 : List Int) (r1 : Int) (r2 : Int) (w : World) (hr0 : Kd.C (Kd.int .u8) w A0 l0.length l0) (hc0 : l0.length ≤ c0) (h : octet_Num.f k l0 = some (r1, r2)) :
    Calls Try.prog 47 #[.slice A0 l0.length c0] w fun e w' => e = .returned (.tuple #[.int .u64 r1, .int .i64 r2]) ∧ Drawn0 w w' := by
  have HR0 := Aside0.mk hr0
  have HC0 := Aside0.mk hc0
  clear hr0 hc0
  have H : (if (l0.length : Int) > 8 then (some (0, 11)) else (octet_Num.l0 k 0 l0 (l0.length : Int) 0)) = some (r1, r2) := h
  clear h
  by_cases c2 : (l0.length : Int) > 8
  · rw [if_pos c2] at H
    have c2b0 : decide (8 < (l0.length : Int)) = true := decide_eq_true c2
    have c2b1 : decide (8 < l0.length) = true := decide_eq_true (by omega)
    clear c2
    simp only [Option.some.injEq, Prod.mk.injEq] at H
    obtain ⟨rfl, rfl⟩ := H
    go_enter Try.func47, Try.ntmps47
    go_wp2
    go_ret2
    exact ⟨by first | rfl | (simp; done) | (simp [*]; done), by repeat (first | exact Drawn0.refl _ | apply Drawn0.step)⟩
  · rw [if_neg c2] at H
    have c2b0 : decide (8 < (l0.length : Int)) = false := decide_eq_false c2
    have c2b1 : decide (8 < l0.length) = false := decide_eq_false (by omega)
    clear c2
    have H' := Aside0.mk H
    clear H
    go_enter Try.func47, Try.ntmps47
    go_wp2
    go_loopg [4, 12] k (fun kq v4 v12 w' => ∃ (x4_1 : Int) (x12_1 : Int), v4 = .int .u64 x4_1 ∧ v12 = .int .i64 x12_1 ∧ Aside0 (octet_Num.l0 kq x4_1 l0 (l0.length : Int) x12_1 = some (r1, r2)) ∧ Aside0 (kq ≤ k) ∧ Drawn0 w w')
    case atStart => exact ⟨(0), (0), (by first | rfl | (simp; done) | (simp [*]; done) | (simp only [i64_w]; done) | (simp [i64_w]; done)), (by first | rfl | (simp; done) | (simp [*]; done) | (simp only [i64_w]; done) | (simp [i64_w]; done)), H', ⟨Nat.le_refl _⟩, by repeat (first | exact Drawn0.refl _ | apply Drawn0.step)⟩
    case round =>
      clear H'
      try clear c2
      try clear c2b0
      try clear c2b1
      try clear p2
      obtain ⟨x4_1, x12_1, rfl, rfl, HA, HK1, ⟨m1, rfl⟩⟩ := hrel
      cases gk with
      | zero => exact absurd HA.out (by simp [octet_Num.l0])
      | succ k1 =>
        have H := HA.out
        clear HA
        simp only [octet_Num.l0] at H
        by_cases c3 : x12_1 < (l0.length : Int)
        · rw [if_pos c3] at H
          have c3b0 : decide (x12_1 < (l0.length : Int)) = true := decide_eq_true c3
          clear c3
          by_cases c4 : 0 ≤ x12_1
          · rw [if_pos c4] at H
            have c4b0 : decide (0 ≤ x12_1) = true := decide_eq_true c4
            clear c4
            by_cases c5 : x12_1 < (l0.length : Int)
            · rw [if_pos c5] at H
              have c5b0 : decide (x12_1 < (l0.length : Int)) = true := decide_eq_true c5
              clear c5
              have H' := Aside0.mk H
              clear H
              have p102 : 0 ≤ (x12_1 : Int) := of_decide_eq_true (by first | (with_reducible assumption) | assumption)
              have q102 : x12_1 < (l0.length : Int) := of_decide_eq_true (by first | (with_reducible assumption) | assumption)
              obtain ⟨ad102, e102, hx102_0⟩ := Kd.at_int HR0.out x12_1 p102 q102
              cases e102
              replace p102 := eq_true p102
              replace q102 := eq_true q102
              go_wp2
              go_roundg k1
              case measure => have := HK1.out; omega
              case rel => exact ⟨(Go.bits .or .u64 (IntKind.u64.wrap (x4_1 * 256)) (IntKind.u64.wrap (rd l0 x12_1))), (wrap64 (x12_1 + 1)), (by first | rfl | (simp; done) | (simp [*]; done) | (simp only [i64_w]; done) | (simp [i64_w]; done)), (by first | rfl | (simp; done) | (simp [*]; done) | (simp only [i64_w]; done) | (simp [i64_w]; done)), H', ⟨by have := HK1.out; omega⟩, by repeat (first | exact Drawn0.refl _ | apply Drawn0.step)⟩
            · rw [if_neg c5] at H
              exact absurd H (by simp)
          · rw [if_neg c4] at H
            exact absurd H (by simp)
        · rw [if_neg c3] at H
          have c3b0 : decide (x12_1 < (l0.length : Int)) = false := decide_eq_false c3
          clear c3
          simp only [Option.some.injEq, Prod.mk.injEq] at H
          obtain ⟨rfl, rfl⟩ := H
          go_wp2
          go_ret2
          exact ⟨by first | rfl | (simp; done) | (simp [*]; done), by repeat (first | exact Drawn0.refl _ | apply Drawn0.step)⟩

/-! ### scan_Reader_Num: function 21, typed by hand -/
/-- A reader at block g: its error, and the bytes that it has before it; where these lie is P. -/
def RdAt (W : World) (g : Nat) (P : Nat → Prop) (e : Int) (l : List Int) : Prop := ∃ A c, W.heap[g]? = some (.cells #[.int .i64 e, .slice A l.length c] 52 (0, 0)) ∧ l.length ≤ c ∧ Kd.F (Kd.int .u8) W P A l.length l ∧ ¬ P g
theorem RdAt.opens {W : World} {g : Nat} {P : Nat → Prop} {e : Int} {l : List Int} (h : RdAt W g P e l) : ∃ A c, W.heap[g]? = some (.cells #[.int .i64 e, .slice A l.length c] 52 (0, 0)) ∧ l.length ≤ c ∧ Kd.F (Kd.int .u8) W P A l.length l ∧ ¬ P g := h
theorem RdAt.below {W W1 : World} {g : Nat} {P : Nat → Prop} {e : Int} {l : List Int} (h : RdAt W g P e l) (hb : Below W.heap.size W W1) : RdAt W1 g P e l := by
  obtain ⟨A, c, h1, h2, h3, h4⟩ := h
  exact ⟨A, c, blk_below h1 hb, h2, Kd.F_below h3 hb, h4⟩
theorem below_grownBy {W W1 : World} (hb : Below W.heap.size W W1) (r : Option Nat) : W.grownBy W1 r := grown_of_below hb r
theorem setCell_grownBy (W : World) (g i : Nat) (v : Value) : W.grownBy (W.setCell ⟨g, i, none⟩ v) (some g) := by
  refine ⟨rfl, rfl, rfl, by simp, fun k _ hk => Below.heap_setCell W ⟨g, i, none⟩ v k (fun e => hk (by rw [e]))⟩
theorem grownBy_below {w W W' : World} {g : Nat} (h : W.grownBy W' (some g)) (hb : Below w.heap.size w W) (hg : w.heap.size ≤ g) : Below w.heap.size w W' :=
  hb.grown h hb.size (fun k e => by cases e; exact hg)
theorem RdAt.set {W W1 : World} {g : Nat} {P : Nat → Prop} {e e1 : Int} {l : List Int} (h : RdAt W g P e l) (hx : ∀ A c, W.heap[g]? = some (.cells #[.int .i64 e, .slice A l.length c] 52 (0, 0)) → W1.heap[g]? = some (.cells #[.int .i64 e1, .slice A l.length c] 52 (0, 0))) (hg : W.grownBy W1 (some g)) : RdAt W1 g P e1 l := by
  obtain ⟨A, c, h1, h2, h3, h4⟩ := h
  exact ⟨A, c, hx A c h1, h2, Kd.F_grown h3 hg (fun k hk e => h4 (by cases e; exact hk)), h4⟩
set_option maxRecDepth 100000 in
theorem fail_calls (W : World) (g : Nat) (e e1 e2 : Int) (x : Value) (hb : W.heap[g]? = some (.cells #[.int .i64 e, x] 52 (0, 0))) (he : e2 = if e = 0 then e1 else e) :
    Calls Try.prog 45 #[.pointer (some ⟨g, 0, none⟩), .int .i64 e1] W fun en W' => en = .returned (.bool (e2 != 0)) ∧ W'.heap[g]? = some (.cells #[.int .i64 e2, x] 52 (0, 0)) ∧ W.grownBy W' (some g) := by
  have hc0 := blk_cell hb 0
  have hf0 := blk_frozen hb 0
  simp at hc0
  have HB := Aside0.mk hb
  clear hb
  by_cases h : e = 0
  · rw [if_pos h] at he
    subst he
    subst h
    go_enter Try.func45, Try.ntmps45
    go_wp2
    go_ret
    exact ⟨rfl, blk_put (cs := #[.int .i64 0, x]) HB.out 0 _ rfl, setCell_grownBy W g 0 _⟩
  · rw [if_neg h] at he
    subst he
    have h1 : (e2 == 0) = false := beq_eq_false_iff_ne.mpr h
    have h2 : (e2 != 0) = true := bne_iff_ne.mpr h
    clear h
    go_enter Try.func45, Try.ntmps45
    go_wp2
    go_ret
    exact ⟨by rw [h2]; rfl, HB.out, World.grownBy.refl _ _⟩
def chkS (n most len : Int) : Int := if n < 0 ∨ n > most then 11 else if n > len then 12 else 0
set_option maxRecDepth 100000 in
theorem check_calls (W : World) (g : Nat) (e n most : Int) (A : Option Addr) (len c : Nat) (hb : W.heap[g]? = some (.cells #[.int .i64 e, .slice A len c] 52 (0, 0))) :
    Calls Try.prog 46 #[.pointer (some ⟨g, 0, none⟩), .int .i64 n, .int .i64 most] W fun en W' => en = .returned (.int .i64 (chkS n most len)) ∧ W' = W := by
  have hc1 := blk_cell hb 1
  simp at hc1
  clear hb
  by_cases h0 : n < 0
  · rw [chkS, if_pos (.inl h0)]
    go_enter Try.func46, Try.ntmps46
    go_wp2
    go_ret
    exact ⟨rfl, rfl⟩
  by_cases h1 : n > most
  · rw [chkS, if_pos (.inr h1)]
    go_enter Try.func46, Try.ntmps46
    go_wp2
    go_ret
    exact ⟨rfl, rfl⟩
  by_cases h2 : n > len
  · rw [chkS, if_neg (by omega), if_pos h2]
    go_enter Try.func46, Try.ntmps46
    go_wp2
    go_ret
    exact ⟨rfl, rfl⟩
  · rw [chkS, if_neg (by omega), if_neg h2]
    go_enter Try.func46, Try.ntmps46
    go_wp2
    go_ret
    exact ⟨rfl, rfl⟩
set_option maxRecDepth 100000 in
set_option maxHeartbeats 1000000 in
theorem cut_calls (W : World) (g m : Nat) (P : Nat → Prop) (e : Int) (l y z : List Int) (hy : y = l.take m) (hz : z = l.drop m) (h : RdAt W g P e l) (hm : m ≤ l.length) (hl : l.length < 140737488355328) :
    Calls Try.prog 48 #[.pointer (some ⟨g, 0, none⟩), .int .i64 (m : Int)] W fun en W' => ∃ v, en = .returned v ∧ Kd.R (Kd.int .u8) 5 W' W.heap.size (fun _ => True) v y ∧ RdAt W' g P e z ∧ W.grownBy W' (some g) := by
  obtain ⟨A, c, hb, hc, hF, hg⟩ := h
  obtain ⟨i0, hi0, _, hsz, _⟩ := info_parts info5
  have hc0 := blk_cell hb 0
  have hc1 := blk_cell hb 1
  have hf1 := blk_frozen hb 1
  simp at hc0 hc1
  have hcut := cut_to (P := Try.prog) 28 5 .i64 Try.underlying28 hi0 A l.length c (m : Int) (by omega) (by omega) hc
  rw [Int.toNat_natCast] at hcut
  have hyl : y.length = m := by rw [hy, List.length_take]; omega
  have hcut1 : ∀ W' : World, (Instr.slice 28 (.slice A l.length c) none (some (.int .i64 (m : Int))) none).run Try.prog W' = .ok (.slice A y.length c) W' := fun W' => by rw [hyl]; exact hcut W'
  clear hcut
  have hCy : Kd.C (Kd.int .u8) W A y.length y := by rw [hy]; exact Kd.F_now (Kd.F_take hF hm)
  have hzl : z.length = l.length - m := by rw [hz, List.length_drop]
  have hcut2 := cut_from (P := Try.prog) 28 5 .i64 Try.underlying28 hi0 1 hsz A l.length c (m : Int) (by omega) (by omega)
  rw [Int.toNat_natCast] at hcut2
  have hFz := Kd.F_cut (m := m) (c := c) hF hm hc
  obtain ⟨A2, hA2⟩ : ∃ A2 : Option Addr, A2 = (if c = m then A else A.map (·.add (m * 1))) := ⟨_, rfl⟩
  obtain ⟨c2, hc2⟩ : ∃ c2 : Nat, c2 = c - m := ⟨_, rfl⟩
  have hFz2 : Kd.F (Kd.int .u8) W P A2 z.length z := by rw [hA2, hz]; exact hFz
  rw [← hA2, ← hzl, ← hc2] at hcut2
  have HZ := Aside0.mk hFz2
  have HC := Aside0.mk hCy
  have HB := Aside0.mk hb
  have HY := Aside0.mk (show y.length ≤ c by omega)
  have HZ2 := Aside0.mk (show z.length ≤ c2 by omega)
  have HCL := Aside0.mk (show slices_Clone_byte_byte.f y = some y by rw [slices_Clone_byte_byte.f, if_pos (by omega)])
  have HG := Aside0.mk hg
  clear hFz hFz2 hCy hF hb hc hyl hzl hA2 hc2 hm hl hi0 hsz hy hz hg
  go_enter Try.func48, Try.ntmps48
  go_wp2_with (go_at_call 37; refine (slices_Clone_byte_byte.calls _ _ y y _ HC.out HY.out HCL.out).mono ?_; rintro en w1 ⟨v, rfl, hR, hbl⟩; have hb1 := blk_below HB.out hbl; have hd0 := blk_cell hb1 0; have hd1 := blk_cell hb1 1; have hg1 := blk_frozen hb1 1; simp at hd0 hd1; have HB1 := Aside0.mk hb1; have HZ1 := Aside0.mk (Kd.F_below HZ.out hbl); have HR := Aside0.mk hR; have HL := Aside0.mk hbl; clear hb1 hR hbl)
  go_ret
  have hsg := setCell_grownBy w1 g 1 (.slice A2 z.length c2)
  have hlt : g < W.heap.size := blk_lt HB.out
  refine ⟨v, rfl, ?_, ?_, (below_grownBy HL.out (some g)).trans hsg⟩
  · exact Kd.R_mono (Kd.R_grown (Kd.R_bound HR.out) hsg (fun k hk e => by cases e; have := hk.2.1; omega)) (fun _ _ => trivial)
  · exact ⟨A2, c2, blk_put (cs := #[.int .i64 e, .slice A l.length c]) HB1.out 1 _ rfl, HZ2.out, Kd.F_grown HZ1.out hsg (fun k hk e => HG.out (by cases e; exact hk)), HG.out⟩
theorem RdAt.drew {W : World} {g : Nat} {P : Nat → Prop} {e : Int} {l : List Int} (h : RdAt W g P e l) : RdAt W.drew g P e l := h.below (below_drew (Below.refl _ _))
theorem drew_grownBy (W : World) (r : Option Nat) : W.grownBy W.drew r := ⟨rfl, rfl, rfl, Nat.le_refl _, fun _ _ _ => rfl⟩
/-- The check and the error that stays, in one: 'if r.fail(r.check(n, most))'. -/
def stays (e n most len : Int) : Int := if e = 0 then chkS n most len else e
/-- What a reader's Num tells: the number, the error, what is left. -/
def rdNum (k : Nat) (e : Int) (l : List Int) (size : Int) : Option (Int × Int × List Int) :=
  if stays e size 8 l.length = 0 then (octet_Num.f k (l.take size.toNat)).bind fun b => some (b.1, 0, l.drop size.toNat) else some (0, stays e size 8 l.length, l)
theorem chkS_zero {n most len : Int} (h : chkS n most len = 0) : 0 ≤ n ∧ n ≤ most ∧ n ≤ len := by
  unfold chkS at h
  split at h
  · cases h
  · split at h
    · cases h
    · omega
theorem row_at {e base : Nat} {ok : Nat → Prop} {w : World} {v : Value} {xs : List Int} {k : IntKind} (h : Kd.R (Kd.int k) e w base ok v xs) : ∃ A c, v = .slice A xs.length c ∧ xs.length ≤ c ∧ Kd.C (Kd.int k) w A xs.length xs := Kd.Q_reads (Kd.Q_of_R h)
theorem stays_zero {e n most len : Int} (h : stays e n most len = 0) : e = 0 ∧ 0 ≤ n ∧ n ≤ most ∧ n ≤ len := by
  unfold stays at h
  by_cases he : e = 0
  · rw [if_pos he] at h; exact ⟨he, chkS_zero h⟩
  · rw [if_neg he] at h; exact absurd h he
set_option maxRecDepth 100000 in
set_option maxHeartbeats 1000000 in
theorem num_calls (k : Nat) (W : World) (g : Nat) (P : Nat → Prop) (e size v e2 : Int) (l l2 : List Int) (hR : RdAt W g P e l) (hl : l.length < 140737488355328) (h : rdNum k e l size = some (v, e2, l2)) :
    Calls Try.prog 21 #[.pointer (some ⟨g, 0, none⟩), .int .i64 size] W fun en W' => en = .returned (.int .u64 v) ∧ RdAt W' g P e2 l2 ∧ W.grownBy W' (some g) := by
  obtain ⟨A, c, hb, hc, hF, hg⟩ := hR
  obtain ⟨e1, he1⟩ : ∃ e1, e1 = stays e size 8 l.length := ⟨_, rfl⟩
  have HCK := Aside0.mk (check_calls W.drew g e size 8 A l.length c (blk_drew hb))
  have HFL := Aside0.mk (fail_calls W.drew g e (chkS size 8 l.length) e1 (.slice A l.length c) (blk_drew hb) he1)
  have HR1 : ∀ w1 : World, w1.heap[g]? = some (.cells #[.int .i64 e1, .slice A l.length c] 52 (0, 0)) → W.drew.grownBy w1 (some g) → RdAt w1 g P e1 l := fun w1 h1 h2 => ⟨A, c, h1, hc, Kd.F_grown (Kd.F_drew hF) h2 (fun k hk e => hg (by cases e; exact hk)), hg⟩
  have HRA := Aside0.mk HR1
  have HLL := Aside0.mk hl
  have h' : (if e1 = 0 then (octet_Num.f k (l.take size.toNat)).bind fun b => some (b.1, 0, l.drop size.toNat) else some (0, e1, l)) = some (v, e2, l2) := by rw [he1]; exact h
  clear h HR1 hb hc hF hg hl
  by_cases h0 : e1 = 0
  · rw [if_pos h0] at h'
    obtain ⟨⟨b1, b2⟩, hnum, h2⟩ := Option.bind_eq_some_iff.1 h'
    simp only [Option.some.injEq, Prod.mk.injEq] at h2
    obtain ⟨rfl, rfl, hl2⟩ := h2
    obtain ⟨he, s0, s1, s2⟩ := stays_zero (he1.symm.trans h0)
    obtain ⟨m, rfl⟩ := Int.eq_ofNat_of_zero_le s0
    have h1 : (e1 != 0) = false := bne_eq_false_iff_eq.mpr h0
    rw [Int.toNat_natCast] at hnum hl2
    obtain ⟨y, hy⟩ : ∃ y, y = l.take m := ⟨_, rfl⟩
    rw [← hy] at hnum
    have HY := Aside0.mk hy
    have HZ := Aside0.mk hl2.symm
    have HN := Aside0.mk hnum
    have HM := Aside0.mk (show m ≤ l.length by omega)
    clear hnum h' s0 s1 s2 he1 he hy hl2
    rw [h0] at HFL HRA
    clear h0 h1
    go_enter Try.func21, Try.ntmps21
    go_wp2
    go_still_tail 6, (by kernel_rfl)
    change wpStill _ _ W.drew _ _ _
    refine wpStill_step (fun K hK => ?_)
    go_simp
    refine ⟨_, HCK.out, hK _ ?_⟩
    clear hK K HCK
    refine wpStill_nil ?_
    change wpList _ _ _ _ _ W.drew
    go_wp2_with (first | (go_at_call 45; (with_reducible refine HFL.out.mono ?_); rintro en w1 ⟨rfl, hb1, hg1⟩; have HR1 := Aside0.mk (HRA.out w1 hb1 hg1); have HG1 := Aside0.mk ((drew_grownBy W (some g)).trans hg1); clear hb1 hg1) | (go_at_call 48; (with_reducible refine (cut_calls _ g m P 0 l y l2 HY.out HZ.out HR1.out HM.out HLL.out).mono ?_); rintro en w2 ⟨vr, rfl, hv, hr2, hg2⟩; obtain ⟨A2, c2, rfl, hvc, hvC⟩ := row_at hv; have HV := Aside0.mk hvC; have HVC := Aside0.mk hvc; have HR2 := Aside0.mk hr2; have HG2 := Aside0.mk (HG1.out.trans hg2); clear hv hvc hvC hr2 hg2) | (go_at_call 47; (with_reducible refine (octet_Num.calls k _ _ _ _ _ _ HV.out HVC.out HN.out).mono ?_); rintro en w3 ⟨rfl, ⟨n3, rfl⟩⟩))
    go_ret
    exact ⟨rfl, HR2.out.below (pw_below_drewN (Below.refl _ _) n3), HG2.out.trans (below_grownBy (pw_below_drewN (Below.refl _ _) n3) _)⟩
  · rw [if_neg h0] at h'
    simp only [Option.some.injEq, Prod.mk.injEq] at h'
    obtain ⟨rfl, rfl, rfl⟩ := h'
    have h1 : (e1 != 0) = true := bne_iff_ne.mpr h0
    have H1 := Aside0.mk h1
    clear h1 h0 he1
    go_enter Try.func21, Try.ntmps21
    go_wp2
    go_still_tail 6, (by kernel_rfl)
    change wpStill _ _ W.drew _ _ _
    refine wpStill_step (fun K hK => ?_)
    go_simp
    refine ⟨_, HCK.out, hK _ ?_⟩
    clear hK K HCK
    refine wpStill_nil ?_
    change wpList _ _ _ _ _ W.drew
    go_wp2_with (go_at_call 45; (with_reducible refine HFL.out.mono ?_); rintro en w1 ⟨rfl, hb1, hg1⟩; rw [H1.out]; have HR1 := Aside0.mk (HRA.out w1 hb1 hg1); have HG1 := Aside0.mk ((drew_grownBy W (some g)).trans hg1); clear hb1 hg1)
    go_ret
    exact ⟨rfl, HR1.out, HG1.out⟩
theorem rdNum_len {k : Nat} {e size v e2 : Int} {l l2 : List Int} (h : rdNum k e l size = some (v, e2, l2)) : l2.length ≤ l.length := by
  unfold rdNum at h
  split at h
  · obtain ⟨_, _, h2⟩ := Option.bind_eq_some_iff.1 h
    simp only [Option.some.injEq, Prod.mk.injEq] at h2
    rw [← h2.2.2, List.length_drop]; omega
  · simp only [Option.some.injEq, Prod.mk.injEq] at h
    rw [h.2.2]; exact Nat.le_refl _


end Go.Proofs.Ytmhmmmkpijbbiaa.M
