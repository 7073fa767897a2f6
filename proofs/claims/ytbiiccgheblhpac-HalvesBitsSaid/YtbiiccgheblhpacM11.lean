/- Contracts of the Go functions that the laws reach, each as a plain Lean function: written by xprint.py, a program of this repo. -/
import Derived.Test.YtbiiccgheblhpacM0
import Derived.Test.YtbiiccgheblhpacM1
import Derived.Test.YtbiiccgheblhpacM3
namespace Go.Proofs.Ytbiiccgheblhpac.M
open Go.RowKit Go.Proofs.YtbiiccgheblhpacW.PrintWords Go.Proofs.YtbiiccgheblhpacW.PrintLast Go.Proofs.YtbiiccgheblhpacW.PrintMore Go.Proofs.Ytbiiccgheblhpac.X
attribute [local go_sem] max2_int min2_int max_two min_two max_three min_three max_four min_four   -- for this text's walks alone
set_option linter.unusedVariables false
set_option linter.unusedSimpArgs false

/-! ### crosswaylaw14_HalvesBits: function 6 -/
mutual
def crosswaylaw14_HalvesBits.l0 : Nat → List Int → Int → Bool → Int → List Int → Int → Option (Bool)
  | 0, _, _, _, _, _, _ => none
  | k + 1, x0, x1, x2, x3, x9, x11 => if x11 < (x0.length : Int) then (if 0 ≤ x11 then (if x11 < (x9.length : Int) then (if (Go.bits .xor .u8 (rd x9 x11) (rd x0 x11)) = 0 then (crosswaylaw14_HalvesBits.l0 k x0 x1 x2 x3 x9 (wrap64 (x11 + 1))) else (if (Int.tmod x1 2) = 0 then (some false) else (if x2 = true then (if x11 = (wrap64 ((x0.length : Int) - 1)) then (if (Go.bits .xor .u8 (rd x9 x11) (rd x0 x11)) > 15 then (some false) else (crosswaylaw14_HalvesBits.l0 k x0 x1 x2 x3 x9 (wrap64 (x11 + 1)))) else (some false)) else (if x11 = 0 then (if (Int.tmod (Go.bits .xor .u8 (rd x9 x11) (rd x0 x11)) 16) = 0 then (crosswaylaw14_HalvesBits.l0 k x0 x1 x2 x3 x9 (wrap64 (x11 + 1))) else (some false)) else (some false))))) else (none)) else (none)) else ((halves_Block.f k x9 x1 (wrap64 (x3))).bind fun bt430 => (if bt430.2 = 0 then (if (bt430.1.length : Int) = 16 then (if 14 < (bt430.1.length : Int) then (if (rd bt430.1 14) = ((x1) % 256) then (if 15 < (bt430.1.length : Int) then (if (rd bt430.1 15) = x3 then (if 0 ≤ (x9.length : Int) then (if (x9.length : Int) ≤ (bt430.1.length : Int) then ((crosswayref00_SameBytes.f k (bt430.1.take ((x9.length : Int) : Int).toNat) x9).bind fun t440 => (crosswaylaw14_HalvesBits.j1 k x9 bt430.1 (!t440))) else (none)) else (none)) else (crosswaylaw14_HalvesBits.j1 k x9 bt430.1 true)) else (none)) else (crosswaylaw14_HalvesBits.j1 k x9 bt430.1 true)) else (none)) else (crosswaylaw14_HalvesBits.j1 k x9 bt430.1 true)) else (crosswaylaw14_HalvesBits.j1 k x9 bt430.1 true)))
def crosswaylaw14_HalvesBits.j1 : Nat → List Int → List Int → Bool → Option (Bool)
  | 0, _, _, _ => none
  | k + 1, x9, x13, x134 => if x134 = true then (some false) else (crosswaylaw14_HalvesBits.l1 k x13 (x9.length : Int))
def crosswaylaw14_HalvesBits.l1 : Nat → List Int → Int → Option (Bool)
  | 0, _, _ => none
  | k + 1, x13, x15 => if x15 < 14 then (if 0 ≤ x15 then (if x15 < (x13.length : Int) then (if (rd x13 x15) = 0 then (crosswaylaw14_HalvesBits.l1 k x13 (wrap64 (x15 + 1))) else (some false)) else (none)) else (none)) else (some true)
end
def crosswaylaw14_HalvesBits.f (k : Nat) (l0 : List Int) (a1 : Int) (a2 : Bool) (a3 : Int) : Option (Bool) := (crosswaylaw14_alive.f k).bind fun t422 => (if t422 = true then (if (l0.length : Int) > 100 then (some true) else ((halves_Trim.f l0 a1 a2).bind fun bt423 => (if bt423.2 = 0 then (crosswaylaw14_HalvesBits.l0 k l0 a1 a2 a3 bt423.1 0) else (if bt423.2 = 11 then (if a1 < 2 then (some true) else (if a1 > 28 then (some true) else ((halves_Size.f a1).bind fun t427 => (some ((l0.length : Int) != t427))))) else (some false))))) else (some false))
theorem crosswaylaw14_HalvesBits.mono_l : ∀ k, (∀ y0 y1 y2 y3 y4 y5, LeO (crosswaylaw14_HalvesBits.l0 k y0 y1 y2 y3 y4 y5) (crosswaylaw14_HalvesBits.l0 (k + 1) y0 y1 y2 y3 y4 y5)) ∧ (∀ y0 y1 y2, LeO (crosswaylaw14_HalvesBits.j1 k y0 y1 y2) (crosswaylaw14_HalvesBits.j1 (k + 1) y0 y1 y2)) ∧ (∀ y0 y1, LeO (crosswaylaw14_HalvesBits.l1 k y0 y1) (crosswaylaw14_HalvesBits.l1 (k + 1) y0 y1))
  | 0 => ⟨fun _ _ _ _ _ _ r h => by simp [crosswaylaw14_HalvesBits.l0] at h, fun _ _ _ r h => by simp [crosswaylaw14_HalvesBits.j1] at h, fun _ _ r h => by simp [crosswaylaw14_HalvesBits.l1] at h⟩
  | k + 1 => by
    obtain ⟨ih0, ih1, ih2⟩ := crosswaylaw14_HalvesBits.mono_l k
    refine ⟨?_, ?_, ?_⟩
    · intro y0 y1 y2 y3 y4 y5
      unfold crosswaylaw14_HalvesBits.l0
      repeat' first
      | (with_reducible exact ih0 _ _ _ _ _ _)
      | (with_reducible exact ih1 _ _ _)
      | (with_reducible exact ih2 _ _)
      | (with_reducible exact crosswaylaw14_alive.mono _)
      | (with_reducible exact crosswayref00_SameBytes.mono _ _ _)
      | (with_reducible exact halves_Block.mono _ _ _ _)
      | (with_reducible exact LeO.refl _)
      | (with_reducible exact LeO.none _)
      | (with_reducible refine LeO.ite ?_ ?_)
      | (with_reducible refine LeO.bind ?_ (fun _ => ?_))
      | exact ih0 _ _ _ _ _ _
      | exact ih1 _ _ _
      | exact ih2 _ _
      | exact crosswaylaw14_alive.mono _
      | exact crosswayref00_SameBytes.mono _ _ _
      | exact halves_Block.mono _ _ _ _
      | exact LeO.none _
      | refine LeO.ite ?_ ?_
      | refine LeO.bind ?_ (fun _ => ?_)
    · intro y0 y1 y2
      unfold crosswaylaw14_HalvesBits.j1
      repeat' first
      | (with_reducible exact ih0 _ _ _ _ _ _)
      | (with_reducible exact ih1 _ _ _)
      | (with_reducible exact ih2 _ _)
      | (with_reducible exact crosswaylaw14_alive.mono _)
      | (with_reducible exact crosswayref00_SameBytes.mono _ _ _)
      | (with_reducible exact halves_Block.mono _ _ _ _)
      | (with_reducible exact LeO.refl _)
      | (with_reducible exact LeO.none _)
      | (with_reducible refine LeO.ite ?_ ?_)
      | (with_reducible refine LeO.bind ?_ (fun _ => ?_))
      | exact ih0 _ _ _ _ _ _
      | exact ih1 _ _ _
      | exact ih2 _ _
      | exact crosswaylaw14_alive.mono _
      | exact crosswayref00_SameBytes.mono _ _ _
      | exact halves_Block.mono _ _ _ _
      | exact LeO.none _
      | refine LeO.ite ?_ ?_
      | refine LeO.bind ?_ (fun _ => ?_)
    · intro y0 y1
      unfold crosswaylaw14_HalvesBits.l1
      repeat' first
      | (with_reducible exact ih0 _ _ _ _ _ _)
      | (with_reducible exact ih1 _ _ _)
      | (with_reducible exact ih2 _ _)
      | (with_reducible exact crosswaylaw14_alive.mono _)
      | (with_reducible exact crosswayref00_SameBytes.mono _ _ _)
      | (with_reducible exact halves_Block.mono _ _ _ _)
      | (with_reducible exact LeO.refl _)
      | (with_reducible exact LeO.none _)
      | (with_reducible refine LeO.ite ?_ ?_)
      | (with_reducible refine LeO.bind ?_ (fun _ => ?_))
      | exact ih0 _ _ _ _ _ _
      | exact ih1 _ _ _
      | exact ih2 _ _
      | exact crosswaylaw14_alive.mono _
      | exact crosswayref00_SameBytes.mono _ _ _
      | exact halves_Block.mono _ _ _ _
      | exact LeO.none _
      | refine LeO.ite ?_ ?_
      | refine LeO.bind ?_ (fun _ => ?_)
theorem crosswaylaw14_HalvesBits.mono : ∀ a0 a1 a2 a3 k, LeO (crosswaylaw14_HalvesBits.f k a0 a1 a2 a3) (crosswaylaw14_HalvesBits.f (k + 1) a0 a1 a2 a3) := by
  intro a0 a1 a2 a3 k
  obtain ⟨ih0, ih1, ih2⟩ := crosswaylaw14_HalvesBits.mono_l k
  unfold crosswaylaw14_HalvesBits.f
  repeat' first
      | (with_reducible exact ih0 _ _ _ _ _ _)
      | (with_reducible exact ih1 _ _ _)
      | (with_reducible exact ih2 _ _)
      | (with_reducible exact crosswaylaw14_alive.mono _)
      | (with_reducible exact crosswayref00_SameBytes.mono _ _ _)
      | (with_reducible exact halves_Block.mono _ _ _ _)
      | (with_reducible exact LeO.refl _)
      | (with_reducible exact LeO.none _)
      | (with_reducible refine LeO.ite ?_ ?_)
      | (with_reducible refine LeO.bind ?_ (fun _ => ?_))
      | exact ih0 _ _ _ _ _ _
      | exact ih1 _ _ _
      | exact ih2 _ _
      | exact crosswaylaw14_alive.mono _
      | exact crosswayref00_SameBytes.mono _ _ _
      | exact halves_Block.mono _ _ _ _
      | exact LeO.none _
      | refine LeO.ite ?_ ?_
      | refine LeO.bind ?_ (fun _ => ?_)
set_option maxHeartbeats 8000000 in
set_option maxRecDepth 100000 in
theorem crosswaylaw14_HalvesBits.calls (k : Nat) (A0 : Option Addr) (c0 : Nat) (l0 : List Int) (a1 : Int) (a2 : Bool) (a3 : Int) (r : Bool) (w : World) (hr0 : Kd.C (Kd.int .u8) w A0 l0.length l0) (hc0 : l0.length ≤ c0) (h : crosswaylaw14_HalvesBits.f k l0 a1 a2 a3 = some r) :
    Calls Try.prog 6 #[.slice A0 l0.length c0, .int .i64 a1, .bool a2, .int .u8 a3] w fun e w' => e = .returned (.bool r) ∧ Below w.heap.size w w' := by
  have HR0 := Aside0.mk hr0
  have HC0 := Aside0.mk hc0
  clear hr0 hc0
  have HB := Aside0.mk (Below.refl w.heap.size w)
  have H : ((crosswaylaw14_alive.f k).bind fun t422 => (if t422 = true then (if (l0.length : Int) > 100 then (some true) else ((halves_Trim.f l0 a1 a2).bind fun bt423 => (if bt423.2 = 0 then (crosswaylaw14_HalvesBits.l0 k l0 a1 a2 a3 bt423.1 0) else (if bt423.2 = 11 then (if a1 < 2 then (some true) else (if a1 > 28 then (some true) else ((halves_Size.f a1).bind fun t427 => (some ((l0.length : Int) != t427))))) else (some false))))) else (some false))) = some r := h
  clear h
  replace H := Option.bind_eq_some_iff.mp H
  obtain ⟨t422, A50, H⟩ := H
  replace H : (if t422 = true then (if (l0.length : Int) > 100 then (some true) else ((halves_Trim.f l0 a1 a2).bind fun bt423 => (if bt423.2 = 0 then (crosswaylaw14_HalvesBits.l0 k l0 a1 a2 a3 bt423.1 0) else (if bt423.2 = 11 then (if a1 < 2 then (some true) else (if a1 > 28 then (some true) else ((halves_Size.f a1).bind fun t427 => (some ((l0.length : Int) != t427))))) else (some false))))) else (some false)) = some r := H
  have A5 := Aside0.mk A50
  clear A50
  by_cases c6 : t422 = true
  · subst c6
    have H1 : (if (l0.length : Int) > 100 then (some true) else ((halves_Trim.f l0 a1 a2).bind fun bt423 => (if bt423.2 = 0 then (crosswaylaw14_HalvesBits.l0 k l0 a1 a2 a3 bt423.1 0) else (if bt423.2 = 11 then (if a1 < 2 then (some true) else (if a1 > 28 then (some true) else ((halves_Size.f a1).bind fun t427 => (some ((l0.length : Int) != t427))))) else (some false))))) = some r := by rw [if_pos rfl] at H; exact H
    clear H
    have H := H1
    clear H1
    by_cases c7 : (l0.length : Int) > 100
    · rw [if_pos c7] at H
      have c7b0 : decide (100 < (l0.length : Int)) = true := decide_eq_true c7
      have c7b1 : decide (100 < l0.length) = true := decide_eq_true (by omega)
      clear c7
      obtain rfl := Option.some.inj H
      go_enter Try.func6, Try.ntmps6
      go_wp2_with (first | (go_at_call 7; (with_reducible refine (crosswaylaw14_alive.calls k  true _ A5.out).mono ?_); rintro e w8 ⟨rfl, hb⟩; have n0_ := Aside0.mk (below_step (by repeat (first | (with_reducible first | exact HB.out | apply below_alloc | apply pw_below_drewN | apply below_drew1) | exact HB.out)) hb); clear HB; have HB := n0_; clear n0_; (try clear hb); (try clear hb2); (try clear hk); (try clear hi)))
      repeat (go_quiet (first | (go_at_call 7; (with_reducible refine (crosswaylaw14_alive.calls k  true _ A5.out).mono ?_); rintro e w8 ⟨rfl, hb⟩; have n0_ := Aside0.mk (below_step (by repeat (first | (with_reducible first | exact HB.out | apply below_alloc | apply pw_below_drewN | apply below_drew1) | exact HB.out)) hb); clear HB; have HB := n0_; clear n0_; (try clear hb); (try clear hb2); (try clear hk); (try clear hi))); try go_wp2_with (first | (go_at_call 7; (with_reducible refine (crosswaylaw14_alive.calls k  true _ A5.out).mono ?_); rintro e w8 ⟨rfl, hb⟩; have n0_ := Aside0.mk (below_step (by repeat (first | (with_reducible first | exact HB.out | apply below_alloc | apply pw_below_drewN | apply below_drew1) | exact HB.out)) hb); clear HB; have HB := n0_; clear n0_; (try clear hb); (try clear hb2); (try clear hk); (try clear hi))))
      go_ret
      exact ⟨by first | rfl | (simp [errW_none, errW_some] <;> rfl) | (simp [*, errW_none, errW_some] <;> rfl), by repeat (first | (with_reducible first | exact HB.out | apply below_alloc | apply pw_below_drewN | apply below_drew1) | exact HB.out)⟩
    · rw [if_neg c7] at H
      have c7b0 : decide (100 < (l0.length : Int)) = false := decide_eq_false c7
      have c7b1 : decide (100 < l0.length) = false := decide_eq_false (by omega)
      clear c7
      replace H := Option.bind_eq_some_iff.mp H
      obtain ⟨⟨t423, t424⟩, A90, H⟩ := H
      replace H : (if t424 = 0 then (crosswaylaw14_HalvesBits.l0 k l0 a1 a2 a3 t423 0) else (if t424 = 11 then (if a1 < 2 then (some true) else (if a1 > 28 then (some true) else ((halves_Size.f a1).bind fun t427 => (some ((l0.length : Int) != t427))))) else (some false))) = some r := H
      have A9 := Aside0.mk A90
      clear A90
      by_cases c10 : t424 = 0
      · rw [if_pos c10] at H
        have c10b0 : (t424 == 0) = true := beq_iff_eq.mpr c10
        have c10b1 : (t424 != 0) = false := bne_eq_false_iff_eq.mpr c10
        clear c10
        have H' := Aside0.mk H
        clear H
        go_enter Try.func6, Try.ntmps6
        go_wp2_with (first | (go_at_call 7; (with_reducible refine (crosswaylaw14_alive.calls k  true _ A5.out).mono ?_); rintro e w11 ⟨rfl, hb⟩; have n0_ := Aside0.mk (below_step (by repeat (first | (with_reducible first | exact HB.out | apply below_alloc | apply pw_below_drewN | apply below_drew1) | exact HB.out)) hb); clear HB; have HB := n0_; clear n0_; (try clear hb); (try clear hb2); (try clear hk); (try clear hi)) | (go_at_call 16; (with_reducible refine (halves_Trim.calls _ _ l0 a1 a2 t423 t424 _ ?side1 ?side2 A9.out).mono ?_); (case side1 => repeat (first | exact (Kd.C_below HR0.out HB.out) | (with_reducible refine Kd.C_alloc ?_ _) | (with_reducible refine Kd.C_drewN ?_ _) | (with_reducible refine Kd.C_drew ?_))); (case side2 => exact HC0.out); rintro e w12 ⟨v425, rfl, ho0, hb⟩; have n0_ := Aside0.mk (Kd.R_lower ho0 (below_size (by repeat (first | (with_reducible first | exact HB.out | apply below_alloc | apply pw_below_drewN | apply below_drew1) | exact HB.out)))); have n1_ := Aside0.mk (below_step (by repeat (first | (with_reducible first | exact HB.out | apply below_alloc | apply pw_below_drewN | apply below_drew1) | exact HB.out)) hb); clear HB; have HO426 := n0_; have HB := n1_; clear n0_ n1_; (try clear hb); (try clear hb2); (try clear hk); (try clear hi); (try clear ho0)))
        repeat (go_quiet (first | (go_at_call 7; (with_reducible refine (crosswaylaw14_alive.calls k  true _ A5.out).mono ?_); rintro e w11 ⟨rfl, hb⟩; have n0_ := Aside0.mk (below_step (by repeat (first | (with_reducible first | exact HB.out | apply below_alloc | apply pw_below_drewN | apply below_drew1) | exact HB.out)) hb); clear HB; have HB := n0_; clear n0_; (try clear hb); (try clear hb2); (try clear hk); (try clear hi)) | (go_at_call 16; (with_reducible refine (halves_Trim.calls _ _ l0 a1 a2 t423 t424 _ ?side1 ?side2 A9.out).mono ?_); (case side1 => repeat (first | exact (Kd.C_below HR0.out HB.out) | (with_reducible refine Kd.C_alloc ?_ _) | (with_reducible refine Kd.C_drewN ?_ _) | (with_reducible refine Kd.C_drew ?_))); (case side2 => exact HC0.out); rintro e w12 ⟨v425, rfl, ho0, hb⟩; have n0_ := Aside0.mk (Kd.R_lower ho0 (below_size (by repeat (first | (with_reducible first | exact HB.out | apply below_alloc | apply pw_below_drewN | apply below_drew1) | exact HB.out)))); have n1_ := Aside0.mk (below_step (by repeat (first | (with_reducible first | exact HB.out | apply below_alloc | apply pw_below_drewN | apply below_drew1) | exact HB.out)) hb); clear HB; have HO426 := n0_; have HB := n1_; clear n0_ n1_; (try clear hb); (try clear hb2); (try clear hk); (try clear hi); (try clear ho0))); try go_wp2_with (first | (go_at_call 7; (with_reducible refine (crosswaylaw14_alive.calls k  true _ A5.out).mono ?_); rintro e w11 ⟨rfl, hb⟩; have n0_ := Aside0.mk (below_step (by repeat (first | (with_reducible first | exact HB.out | apply below_alloc | apply pw_below_drewN | apply below_drew1) | exact HB.out)) hb); clear HB; have HB := n0_; clear n0_; (try clear hb); (try clear hb2); (try clear hk); (try clear hi)) | (go_at_call 16; (with_reducible refine (halves_Trim.calls _ _ l0 a1 a2 t423 t424 _ ?side1 ?side2 A9.out).mono ?_); (case side1 => repeat (first | exact (Kd.C_below HR0.out HB.out) | (with_reducible refine Kd.C_alloc ?_ _) | (with_reducible refine Kd.C_drewN ?_ _) | (with_reducible refine Kd.C_drew ?_))); (case side2 => exact HC0.out); rintro e w12 ⟨v425, rfl, ho0, hb⟩; have n0_ := Aside0.mk (Kd.R_lower ho0 (below_size (by repeat (first | (with_reducible first | exact HB.out | apply below_alloc | apply pw_below_drewN | apply below_drew1) | exact HB.out)))); have n1_ := Aside0.mk (below_step (by repeat (first | (with_reducible first | exact HB.out | apply below_alloc | apply pw_below_drewN | apply below_drew1) | exact HB.out)) hb); clear HB; have HO426 := n0_; have HB := n1_; clear n0_ n1_; (try clear hb); (try clear hb2); (try clear hk); (try clear hi); (try clear ho0))))
        go_loopg [11] k (fun kq v11 w' => ∃ (x11_1 : Int), v11 = .int .i64 x11_1 ∧ Aside0 (crosswaylaw14_HalvesBits.l0 kq l0 a1 a2 a3 t423 x11_1 = some r) ∧ Aside0 (kq ≤ k) ∧ Aside0 (Kd.R (Kd.int .u8) 5 w' w.heap.size (fun _ => True) v425 t423) ∧ Aside0 (Below w.heap.size w w'))
        case atStart => exact ⟨(0), (by first | rfl | (simp; done) | (simp [*]; done)), H', ⟨Nat.le_refl _⟩, ⟨by (with_reducible repeat (first | apply Kd.R_alloc | apply Kd.R_drewN | apply Kd.R_drew)); exact HO426.out⟩, ⟨by repeat (first | (with_reducible first | exact HB.out | apply below_alloc | apply pw_below_drewN | apply below_drew1) | exact HB.out)⟩⟩
        case round =>
          clear H'
          try clear c1
          try clear p2
          try clear c6
          try clear c7
          try clear c7b0
          try clear c7b1
          try clear c10
          try clear c10b0
          try clear c10b1
          obtain ⟨x11_1, rfl, HA, HK1, HO_9, HB⟩ := hrel
          cases gk with
          | zero => exact absurd HA.out (by simp [crosswaylaw14_HalvesBits.l0])
          | succ k1 =>
            have H := HA.out
            clear HA
            simp only [crosswaylaw14_HalvesBits.l0] at H
            by_cases c13 : x11_1 < (l0.length : Int)
            · rw [if_pos c13] at H
              have c13b0 : decide (x11_1 < (l0.length : Int)) = true := decide_eq_true c13
              clear c13
              by_cases c14 : 0 ≤ x11_1
              · rw [if_pos c14] at H
                have c14b0 : decide (0 ≤ x11_1) = true := decide_eq_true c14
                clear c14
                by_cases c15 : x11_1 < (t423.length : Int)
                · rw [if_pos c15] at H
                  have c15b0 : decide (x11_1 < (t423.length : Int)) = true := decide_eq_true c15
                  clear c15
                  by_cases c16 : (Go.bits .xor .u8 (rd t423 x11_1) (rd l0 x11_1)) = 0
                  · rw [if_pos c16] at H
                    have c16b0 : ((Go.bits .xor .u8 (rd t423 x11_1) (rd l0 x11_1)) == 0) = true := beq_iff_eq.mpr c16
                    have c16b1 : ((Go.bits .xor .u8 (rd t423 x11_1) (rd l0 x11_1)) != 0) = false := bne_eq_false_iff_eq.mpr c16
                    clear c16
                    have H' := Aside0.mk H
                    clear H
                    obtain ⟨Ao17, co17, eo17⟩ := Kd.R_slice HO_9.out
                    subst eo17
                    have p428 : 0 ≤ (x11_1 : Int) := of_decide_eq_true (by first | (with_reducible assumption) | assumption)
                    have q428 : x11_1 < (t423.length : Int) := of_decide_eq_true (by first | (with_reducible assumption) | assumption)
                    obtain ⟨ad428, e428, hx428_0⟩ := Kd.at_int (Kd.R_reads' HO_9.out).2.2 x11_1 p428 q428
                    cases e428
                    replace p428 := eq_true p428
                    replace q428 := eq_true q428
                    have p429 : 0 ≤ (x11_1 : Int) := of_decide_eq_true (by first | (with_reducible assumption) | assumption)
                    have q429 : x11_1 < (l0.length : Int) := of_decide_eq_true (by first | (with_reducible assumption) | assumption)
                    obtain ⟨ad429, e429, hx429_0⟩ := Kd.at_int HR0.out x11_1 p429 q429
                    cases e429
                    replace hx429_0 := (HB.out.cell (World.block_lt_of_cell? w _ hx429_0)).trans hx429_0
                    replace p429 := eq_true p429
                    replace q429 := eq_true q429
                    go_wp2
                    repeat (go_quiet (fail); try go_wp2)
                    go_roundg k1
                    case measure => have := HK1.out; omega
                    case rel => exact ⟨(wrap64 (x11_1 + 1)), (by first | rfl | (simp; done) | (simp [*]; done)), H', ⟨by have := HK1.out; omega⟩, ⟨by (with_reducible repeat (first | apply Kd.R_alloc | apply Kd.R_drewN | apply Kd.R_drew)); exact HO_9.out⟩, ⟨by repeat (first | (with_reducible first | exact HB.out | apply below_alloc | apply pw_below_drewN | apply below_drew1) | exact HB.out)⟩⟩
                  · rw [if_neg c16] at H
                    have c16b0 : ((Go.bits .xor .u8 (rd t423 x11_1) (rd l0 x11_1)) == 0) = false := beq_eq_false_iff_ne.mpr c16
                    have c16b1 : ((Go.bits .xor .u8 (rd t423 x11_1) (rd l0 x11_1)) != 0) = true := bne_iff_ne.mpr c16
                    by_cases c18 : (Int.tmod a1 2) = 0
                    · rw [if_pos c18] at H
                      have c18b0 : ((Int.tmod a1 2) == 0) = true := beq_iff_eq.mpr c18
                      have c18b1 : ((Int.tmod a1 2) != 0) = false := bne_eq_false_iff_eq.mpr c18
                      clear c18
                      obtain rfl := Option.some.inj H
                      obtain ⟨Ao19, co19, eo19⟩ := Kd.R_slice HO_9.out
                      subst eo19
                      have p428 : 0 ≤ (x11_1 : Int) := of_decide_eq_true (by first | (with_reducible assumption) | assumption)
                      have q428 : x11_1 < (t423.length : Int) := of_decide_eq_true (by first | (with_reducible assumption) | assumption)
                      obtain ⟨ad428, e428, hx428_0⟩ := Kd.at_int (Kd.R_reads' HO_9.out).2.2 x11_1 p428 q428
                      cases e428
                      replace p428 := eq_true p428
                      replace q428 := eq_true q428
                      have p429 : 0 ≤ (x11_1 : Int) := of_decide_eq_true (by first | (with_reducible assumption) | assumption)
                      have q429 : x11_1 < (l0.length : Int) := of_decide_eq_true (by first | (with_reducible assumption) | assumption)
                      obtain ⟨ad429, e429, hx429_0⟩ := Kd.at_int HR0.out x11_1 p429 q429
                      cases e429
                      replace hx429_0 := (HB.out.cell (World.block_lt_of_cell? w _ hx429_0)).trans hx429_0
                      replace p429 := eq_true p429
                      replace q429 := eq_true q429
                      go_wp2
                      repeat (go_quiet (fail); try go_wp2)
                      go_ret
                      exact ⟨by first | rfl | (simp [errW_none, errW_some] <;> rfl) | (simp [*, errW_none, errW_some] <;> rfl), by repeat (first | (with_reducible first | exact HB.out | apply below_alloc | apply pw_below_drewN | apply below_drew1) | exact HB.out)⟩
                    · rw [if_neg c18] at H
                      have c18b0 : ((Int.tmod a1 2) == 0) = false := beq_eq_false_iff_ne.mpr c18
                      have c18b1 : ((Int.tmod a1 2) != 0) = true := bne_iff_ne.mpr c18
                      by_cases c20 : a2 = true
                      · subst c20
                        have H1 : (if x11_1 = (wrap64 ((l0.length : Int) - 1)) then (if (Go.bits .xor .u8 (rd t423 x11_1) (rd l0 x11_1)) > 15 then (some false) else (crosswaylaw14_HalvesBits.l0 k1 l0 a1 true a3 t423 (wrap64 (x11_1 + 1)))) else (some false)) = some r := by rw [if_pos rfl] at H; exact H
                        clear H
                        have H := H1
                        clear H1
                        by_cases c21 : x11_1 = (wrap64 ((l0.length : Int) - 1))
                        · rw [if_pos c21] at H
                          have c21b0 : (x11_1 == (wrap64 ((l0.length : Int) - 1))) = true := beq_iff_eq.mpr c21
                          have c21b1 : (x11_1 != (wrap64 ((l0.length : Int) - 1))) = false := bne_eq_false_iff_eq.mpr c21
                          clear c21
                          by_cases c22 : (Go.bits .xor .u8 (rd t423 x11_1) (rd l0 x11_1)) > 15
                          · rw [if_pos c22] at H
                            have c22b0 : decide (15 < (Go.bits .xor .u8 (rd t423 x11_1) (rd l0 x11_1))) = true := decide_eq_true c22
                            clear c22
                            obtain rfl := Option.some.inj H
                            obtain ⟨Ao23, co23, eo23⟩ := Kd.R_slice HO_9.out
                            subst eo23
                            have p428 : 0 ≤ (x11_1 : Int) := of_decide_eq_true (by first | (with_reducible assumption) | assumption)
                            have q428 : x11_1 < (t423.length : Int) := of_decide_eq_true (by first | (with_reducible assumption) | assumption)
                            obtain ⟨ad428, e428, hx428_0⟩ := Kd.at_int (Kd.R_reads' HO_9.out).2.2 x11_1 p428 q428
                            cases e428
                            replace p428 := eq_true p428
                            replace q428 := eq_true q428
                            have p429 : 0 ≤ (x11_1 : Int) := of_decide_eq_true (by first | (with_reducible assumption) | assumption)
                            have q429 : x11_1 < (l0.length : Int) := of_decide_eq_true (by first | (with_reducible assumption) | assumption)
                            obtain ⟨ad429, e429, hx429_0⟩ := Kd.at_int HR0.out x11_1 p429 q429
                            cases e429
                            replace hx429_0 := (HB.out.cell (World.block_lt_of_cell? w _ hx429_0)).trans hx429_0
                            replace p429 := eq_true p429
                            replace q429 := eq_true q429
                            go_wp2
                            repeat (go_quiet (fail); try go_wp2)
                            go_ret
                            exact ⟨by first | rfl | (simp [errW_none, errW_some] <;> rfl) | (simp [*, errW_none, errW_some] <;> rfl), by repeat (first | (with_reducible first | exact HB.out | apply below_alloc | apply pw_below_drewN | apply below_drew1) | exact HB.out)⟩
                          · rw [if_neg c22] at H
                            have c22b0 : decide (15 < (Go.bits .xor .u8 (rd t423 x11_1) (rd l0 x11_1))) = false := decide_eq_false c22
                            clear c22
                            have H' := Aside0.mk H
                            clear H
                            obtain ⟨Ao24, co24, eo24⟩ := Kd.R_slice HO_9.out
                            subst eo24
                            have p428 : 0 ≤ (x11_1 : Int) := of_decide_eq_true (by first | (with_reducible assumption) | assumption)
                            have q428 : x11_1 < (t423.length : Int) := of_decide_eq_true (by first | (with_reducible assumption) | assumption)
                            obtain ⟨ad428, e428, hx428_0⟩ := Kd.at_int (Kd.R_reads' HO_9.out).2.2 x11_1 p428 q428
                            cases e428
                            replace p428 := eq_true p428
                            replace q428 := eq_true q428
                            have p429 : 0 ≤ (x11_1 : Int) := of_decide_eq_true (by first | (with_reducible assumption) | assumption)
                            have q429 : x11_1 < (l0.length : Int) := of_decide_eq_true (by first | (with_reducible assumption) | assumption)
                            obtain ⟨ad429, e429, hx429_0⟩ := Kd.at_int HR0.out x11_1 p429 q429
                            cases e429
                            replace hx429_0 := (HB.out.cell (World.block_lt_of_cell? w _ hx429_0)).trans hx429_0
                            replace p429 := eq_true p429
                            replace q429 := eq_true q429
                            go_wp2
                            repeat (go_quiet (fail); try go_wp2)
                            go_roundg k1
                            case measure => have := HK1.out; omega
                            case rel => exact ⟨(wrap64 (x11_1 + 1)), (by first | rfl | (simp; done) | (simp [*]; done)), H', ⟨by have := HK1.out; omega⟩, ⟨by (with_reducible repeat (first | apply Kd.R_alloc | apply Kd.R_drewN | apply Kd.R_drew)); exact HO_9.out⟩, ⟨by repeat (first | (with_reducible first | exact HB.out | apply below_alloc | apply pw_below_drewN | apply below_drew1) | exact HB.out)⟩⟩
                        · rw [if_neg c21] at H
                          have c21b0 : (x11_1 == (wrap64 ((l0.length : Int) - 1))) = false := beq_eq_false_iff_ne.mpr c21
                          have c21b1 : (x11_1 != (wrap64 ((l0.length : Int) - 1))) = true := bne_iff_ne.mpr c21
                          obtain rfl := Option.some.inj H
                          obtain ⟨Ao25, co25, eo25⟩ := Kd.R_slice HO_9.out
                          subst eo25
                          have p428 : 0 ≤ (x11_1 : Int) := of_decide_eq_true (by first | (with_reducible assumption) | assumption)
                          have q428 : x11_1 < (t423.length : Int) := of_decide_eq_true (by first | (with_reducible assumption) | assumption)
                          obtain ⟨ad428, e428, hx428_0⟩ := Kd.at_int (Kd.R_reads' HO_9.out).2.2 x11_1 p428 q428
                          cases e428
                          replace p428 := eq_true p428
                          replace q428 := eq_true q428
                          have p429 : 0 ≤ (x11_1 : Int) := of_decide_eq_true (by first | (with_reducible assumption) | assumption)
                          have q429 : x11_1 < (l0.length : Int) := of_decide_eq_true (by first | (with_reducible assumption) | assumption)
                          obtain ⟨ad429, e429, hx429_0⟩ := Kd.at_int HR0.out x11_1 p429 q429
                          cases e429
                          replace hx429_0 := (HB.out.cell (World.block_lt_of_cell? w _ hx429_0)).trans hx429_0
                          replace p429 := eq_true p429
                          replace q429 := eq_true q429
                          go_wp2
                          repeat (go_quiet (fail); try go_wp2)
                          go_ret
                          exact ⟨by first | rfl | (simp [errW_none, errW_some] <;> rfl) | (simp [*, errW_none, errW_some] <;> rfl), by repeat (first | (with_reducible first | exact HB.out | apply below_alloc | apply pw_below_drewN | apply below_drew1) | exact HB.out)⟩
                      · replace c20 := Bool.eq_false_iff.mpr c20
                        subst c20
                        have H1 : (if x11_1 = 0 then (if (Int.tmod (Go.bits .xor .u8 (rd t423 x11_1) (rd l0 x11_1)) 16) = 0 then (crosswaylaw14_HalvesBits.l0 k1 l0 a1 false a3 t423 (wrap64 (x11_1 + 1))) else (some false)) else (some false)) = some r := by rw [if_neg (show ¬ (false = true) by decide)] at H; exact H
                        clear H
                        have H := H1
                        clear H1
                        by_cases c26 : x11_1 = 0
                        · rw [if_pos c26] at H
                          have c26b0 : (x11_1 == 0) = true := beq_iff_eq.mpr c26
                          have c26b1 : (x11_1 != 0) = false := bne_eq_false_iff_eq.mpr c26
                          clear c26
                          by_cases c27 : (Int.tmod (Go.bits .xor .u8 (rd t423 x11_1) (rd l0 x11_1)) 16) = 0
                          · rw [if_pos c27] at H
                            have c27b0 : ((Int.tmod (Go.bits .xor .u8 (rd t423 x11_1) (rd l0 x11_1)) 16) == 0) = true := beq_iff_eq.mpr c27
                            have c27b1 : ((Int.tmod (Go.bits .xor .u8 (rd t423 x11_1) (rd l0 x11_1)) 16) != 0) = false := bne_eq_false_iff_eq.mpr c27
                            clear c27
                            have H' := Aside0.mk H
                            clear H
                            obtain ⟨Ao28, co28, eo28⟩ := Kd.R_slice HO_9.out
                            subst eo28
                            have p428 : 0 ≤ (x11_1 : Int) := of_decide_eq_true (by first | (with_reducible assumption) | assumption)
                            have q428 : x11_1 < (t423.length : Int) := of_decide_eq_true (by first | (with_reducible assumption) | assumption)
                            obtain ⟨ad428, e428, hx428_0⟩ := Kd.at_int (Kd.R_reads' HO_9.out).2.2 x11_1 p428 q428
                            cases e428
                            replace p428 := eq_true p428
                            replace q428 := eq_true q428
                            have p429 : 0 ≤ (x11_1 : Int) := of_decide_eq_true (by first | (with_reducible assumption) | assumption)
                            have q429 : x11_1 < (l0.length : Int) := of_decide_eq_true (by first | (with_reducible assumption) | assumption)
                            obtain ⟨ad429, e429, hx429_0⟩ := Kd.at_int HR0.out x11_1 p429 q429
                            cases e429
                            replace hx429_0 := (HB.out.cell (World.block_lt_of_cell? w _ hx429_0)).trans hx429_0
                            replace p429 := eq_true p429
                            replace q429 := eq_true q429
                            go_wp2
                            repeat (go_quiet (fail); try go_wp2)
                            go_roundg k1
                            case measure => have := HK1.out; omega
                            case rel => exact ⟨(wrap64 (x11_1 + 1)), (by first | rfl | (simp; done) | (simp [*]; done)), H', ⟨by have := HK1.out; omega⟩, ⟨by (with_reducible repeat (first | apply Kd.R_alloc | apply Kd.R_drewN | apply Kd.R_drew)); exact HO_9.out⟩, ⟨by repeat (first | (with_reducible first | exact HB.out | apply below_alloc | apply pw_below_drewN | apply below_drew1) | exact HB.out)⟩⟩
                          · rw [if_neg c27] at H
                            have c27b0 : ((Int.tmod (Go.bits .xor .u8 (rd t423 x11_1) (rd l0 x11_1)) 16) == 0) = false := beq_eq_false_iff_ne.mpr c27
                            have c27b1 : ((Int.tmod (Go.bits .xor .u8 (rd t423 x11_1) (rd l0 x11_1)) 16) != 0) = true := bne_iff_ne.mpr c27
                            obtain rfl := Option.some.inj H
                            obtain ⟨Ao29, co29, eo29⟩ := Kd.R_slice HO_9.out
                            subst eo29
                            have p428 : 0 ≤ (x11_1 : Int) := of_decide_eq_true (by first | (with_reducible assumption) | assumption)
                            have q428 : x11_1 < (t423.length : Int) := of_decide_eq_true (by first | (with_reducible assumption) | assumption)
                            obtain ⟨ad428, e428, hx428_0⟩ := Kd.at_int (Kd.R_reads' HO_9.out).2.2 x11_1 p428 q428
                            cases e428
                            replace p428 := eq_true p428
                            replace q428 := eq_true q428
                            have p429 : 0 ≤ (x11_1 : Int) := of_decide_eq_true (by first | (with_reducible assumption) | assumption)
                            have q429 : x11_1 < (l0.length : Int) := of_decide_eq_true (by first | (with_reducible assumption) | assumption)
                            obtain ⟨ad429, e429, hx429_0⟩ := Kd.at_int HR0.out x11_1 p429 q429
                            cases e429
                            replace hx429_0 := (HB.out.cell (World.block_lt_of_cell? w _ hx429_0)).trans hx429_0
                            replace p429 := eq_true p429
                            replace q429 := eq_true q429
                            go_wp2
                            repeat (go_quiet (fail); try go_wp2)
                            go_ret
                            exact ⟨by first | rfl | (simp [errW_none, errW_some] <;> rfl) | (simp [*, errW_none, errW_some] <;> rfl), by repeat (first | (with_reducible first | exact HB.out | apply below_alloc | apply pw_below_drewN | apply below_drew1) | exact HB.out)⟩
                        · rw [if_neg c26] at H
                          have c26b0 : (x11_1 == 0) = false := beq_eq_false_iff_ne.mpr c26
                          have c26b1 : (x11_1 != 0) = true := bne_iff_ne.mpr c26
                          obtain rfl := Option.some.inj H
                          obtain ⟨Ao30, co30, eo30⟩ := Kd.R_slice HO_9.out
                          subst eo30
                          have p428 : 0 ≤ (x11_1 : Int) := of_decide_eq_true (by first | (with_reducible assumption) | assumption)
                          have q428 : x11_1 < (t423.length : Int) := of_decide_eq_true (by first | (with_reducible assumption) | assumption)
                          obtain ⟨ad428, e428, hx428_0⟩ := Kd.at_int (Kd.R_reads' HO_9.out).2.2 x11_1 p428 q428
                          cases e428
                          replace p428 := eq_true p428
                          replace q428 := eq_true q428
                          have p429 : 0 ≤ (x11_1 : Int) := of_decide_eq_true (by first | (with_reducible assumption) | assumption)
                          have q429 : x11_1 < (l0.length : Int) := of_decide_eq_true (by first | (with_reducible assumption) | assumption)
                          obtain ⟨ad429, e429, hx429_0⟩ := Kd.at_int HR0.out x11_1 p429 q429
                          cases e429
                          replace hx429_0 := (HB.out.cell (World.block_lt_of_cell? w _ hx429_0)).trans hx429_0
                          replace p429 := eq_true p429
                          replace q429 := eq_true q429
                          go_wp2
                          repeat (go_quiet (fail); try go_wp2)
                          go_ret
                          exact ⟨by first | rfl | (simp [errW_none, errW_some] <;> rfl) | (simp [*, errW_none, errW_some] <;> rfl), by repeat (first | (with_reducible first | exact HB.out | apply below_alloc | apply pw_below_drewN | apply below_drew1) | exact HB.out)⟩
                · rw [if_neg c15] at H
                  exact absurd H (by simp)
              · rw [if_neg c14] at H
                exact absurd H (by simp)
            · rw [if_neg c13] at H
              have c13b0 : decide (x11_1 < (l0.length : Int)) = false := decide_eq_false c13
              clear c13
              replace H := Option.bind_eq_some_iff.mp H
              obtain ⟨⟨t430, t433⟩, A310, H⟩ := H
              replace H : (if t433 = 0 then (if (t430.length : Int) = 16 then (if 14 < (t430.length : Int) then (if (rd t430 14) = ((a1) % 256) then (if 15 < (t430.length : Int) then (if (rd t430 15) = a3 then (if 0 ≤ (t423.length : Int) then (if (t423.length : Int) ≤ (t430.length : Int) then ((crosswayref00_SameBytes.f k1 (t430.take ((t423.length : Int) : Int).toNat) t423).bind fun t440 => (crosswaylaw14_HalvesBits.j1 k1 t423 t430 (!t440))) else (none)) else (none)) else (crosswaylaw14_HalvesBits.j1 k1 t423 t430 true)) else (none)) else (crosswaylaw14_HalvesBits.j1 k1 t423 t430 true)) else (none)) else (crosswaylaw14_HalvesBits.j1 k1 t423 t430 true)) else (crosswaylaw14_HalvesBits.j1 k1 t423 t430 true)) = some r := H
              have A31 := Aside0.mk A310
              clear A310
              have HC32 := Aside0.mk H
              clear H
              obtain ⟨Ao33, co33, eo33⟩ := Kd.R_slice HO_9.out
              subst eo33
              go_upto_region 15 with (first | (go_at_call 18; (with_reducible refine (halves_Block.calls k1 (fun k_ => some k_ = (.slice Ao33 t423.length co33 : Value).ownBlock) _ _ t423 a1 (wrap64 (a3)) t430 t433 _ ?side1 A31.out).mono ?_); (case side1 => exact Kd.R_V (Kd.R_tight rfl (HO_9.out))); rintro e w34 ⟨v431, rfl, ho0, hb⟩; have n0_ := Aside0.mk (Kd.R_elder' (by (with_reducible repeat (first | apply Kd.R_alloc | apply Kd.R_drewN | apply Kd.R_drew)); exact HO_9.out) (Kd.R_base ho0) hb); have n1_ := Aside0.mk (Kd.R_lower (Kd.R_new' (Kd.R_mono (ok' := fun k_ => True) ho0 (fun _ hk_ => trivial)) (Kd.R_lt (by (with_reducible repeat (first | apply Kd.R_alloc | apply Kd.R_drewN | apply Kd.R_drew)); exact HO_9.out))) (below_size (by repeat (first | (with_reducible first | exact HB.out | apply below_alloc | apply pw_below_drewN | apply below_drew1) | exact HB.out)))); have n2_ := Aside0.mk (below_step (by repeat (first | (with_reducible first | exact HB.out | apply below_alloc | apply pw_below_drewN | apply below_drew1) | exact HB.out)) hb); clear HO_9; clear HB; have HO_9 := n0_; have HO432 := n1_; have HB := n2_; clear n0_ n1_ n2_; (try clear hb); (try clear hb2); (try clear hk); (try clear hi); (try clear ho0)))
              repeat (go_quiet (first | (go_at_call 18; (with_reducible refine (halves_Block.calls k1 (fun k_ => some k_ = (.slice Ao33 t423.length co33 : Value).ownBlock) _ _ t423 a1 (wrap64 (a3)) t430 t433 _ ?side1 A31.out).mono ?_); (case side1 => exact Kd.R_V (Kd.R_tight rfl (HO_9.out))); rintro e w34 ⟨v431, rfl, ho0, hb⟩; have n0_ := Aside0.mk (Kd.R_elder' (by (with_reducible repeat (first | apply Kd.R_alloc | apply Kd.R_drewN | apply Kd.R_drew)); exact HO_9.out) (Kd.R_base ho0) hb); have n1_ := Aside0.mk (Kd.R_lower (Kd.R_new' (Kd.R_mono (ok' := fun k_ => True) ho0 (fun _ hk_ => trivial)) (Kd.R_lt (by (with_reducible repeat (first | apply Kd.R_alloc | apply Kd.R_drewN | apply Kd.R_drew)); exact HO_9.out))) (below_size (by repeat (first | (with_reducible first | exact HB.out | apply below_alloc | apply pw_below_drewN | apply below_drew1) | exact HB.out)))); have n2_ := Aside0.mk (below_step (by repeat (first | (with_reducible first | exact HB.out | apply below_alloc | apply pw_below_drewN | apply below_drew1) | exact HB.out)) hb); clear HO_9; clear HB; have HO_9 := n0_; have HO432 := n1_; have HB := n2_; clear n0_ n1_ n2_; (try clear hb); (try clear hb2); (try clear hk); (try clear hi); (try clear ho0))); go_upto_region 15 with (first | (go_at_call 18; (with_reducible refine (halves_Block.calls k1 (fun k_ => some k_ = (.slice Ao33 t423.length co33 : Value).ownBlock) _ _ t423 a1 (wrap64 (a3)) t430 t433 _ ?side1 A31.out).mono ?_); (case side1 => exact Kd.R_V (Kd.R_tight rfl (HO_9.out))); rintro e w34 ⟨v431, rfl, ho0, hb⟩; have n0_ := Aside0.mk (Kd.R_elder' (by (with_reducible repeat (first | apply Kd.R_alloc | apply Kd.R_drewN | apply Kd.R_drew)); exact HO_9.out) (Kd.R_base ho0) hb); have n1_ := Aside0.mk (Kd.R_lower (Kd.R_new' (Kd.R_mono (ok' := fun k_ => True) ho0 (fun _ hk_ => trivial)) (Kd.R_lt (by (with_reducible repeat (first | apply Kd.R_alloc | apply Kd.R_drewN | apply Kd.R_drew)); exact HO_9.out))) (below_size (by repeat (first | (with_reducible first | exact HB.out | apply below_alloc | apply pw_below_drewN | apply below_drew1) | exact HB.out)))); have n2_ := Aside0.mk (below_step (by repeat (first | (with_reducible first | exact HB.out | apply below_alloc | apply pw_below_drewN | apply below_drew1) | exact HB.out)) hb); clear HO_9; clear HB; have HO_9 := n0_; have HO432 := n1_; have HB := n2_; clear n0_ n1_ n2_; (try clear hb); (try clear hb2); (try clear hk); (try clear hi); (try clear ho0))))
              (try simp only [Act.put, List.setIfInBounds_toArray, List.set_cons_zero, List.set_cons_succ])
              go_cut [134] (fun v134 wc => ∃ (kq : Nat) (x134_31 : Bool), v134 = .bool x134_31 ∧ Aside0 (crosswaylaw14_HalvesBits.j1 kq t423 t430 x134_31 = some r) ∧ Aside0 (kq ≤ k1) ∧ Aside0 (Kd.R (Kd.int .u8) 5 wc w.heap.size (fun k_ => some k_ ≠ (v431 : Value).ownBlock) (.slice Ao33 t423.length co33) t423) ∧ Aside0 (Kd.R (Kd.int .u8) 5 wc w.heap.size (fun k_ => some k_ ≠ ((.slice Ao33 t423.length co33) : Value).ownBlock) v431 t430) ∧ Aside0 (Below w.heap.size w wc))
              case first =>
                have H := HC32.out
                clear HC32
                by_cases c35 : t433 = 0
                · rw [if_pos c35] at H
                  have c35b0 : (t433 == 0) = true := beq_iff_eq.mpr c35
                  have c35b1 : (t433 != 0) = false := bne_eq_false_iff_eq.mpr c35
                  clear c35
                  (first | rw [c35b0] | (simp only [i64_w, i32_w]; rw [c35b0]) | skip)
                  by_cases c36 : (t430.length : Int) = 16
                  · rw [if_pos c36] at H
                    have c36b0 : ((t430.length : Int) == 16) = true := beq_iff_eq.mpr c36
                    have c36b1 : ((t430.length : Int) != 16) = false := bne_eq_false_iff_eq.mpr c36
                    clear c36
                    by_cases c37 : 14 < (t430.length : Int)
                    · rw [if_pos c37] at H
                      have c37b0 : decide (14 < (t430.length : Int)) = true := decide_eq_true c37
                      have c37b1 : decide (14 < t430.length) = true := decide_eq_true (by omega)
                      clear c37
                      by_cases c38 : (rd t430 14) = ((a1) % 256)
                      · rw [if_pos c38] at H
                        have c38b0 : ((rd t430 14) == ((a1) % 256)) = true := beq_iff_eq.mpr c38
                        have c38b1 : ((rd t430 14) != ((a1) % 256)) = false := bne_eq_false_iff_eq.mpr c38
                        clear c38
                        by_cases c39 : 15 < (t430.length : Int)
                        · rw [if_pos c39] at H
                          have c39b0 : decide (15 < (t430.length : Int)) = true := decide_eq_true c39
                          have c39b1 : decide (15 < t430.length) = true := decide_eq_true (by omega)
                          clear c39
                          by_cases c40 : (rd t430 15) = a3
                          · rw [if_pos c40] at H
                            have c40b0 : ((rd t430 15) == a3) = true := beq_iff_eq.mpr c40
                            have c40b1 : ((rd t430 15) != a3) = false := bne_eq_false_iff_eq.mpr c40
                            clear c40
                            by_cases c41 : 0 ≤ (t423.length : Int)
                            · rw [if_pos c41] at H
                              have c41b0 := eq_true c41
                              have c41b1 : decide (0 ≤ (t423.length : Int)) = true := decide_eq_true c41
                              clear c41
                              by_cases c42 : (t423.length : Int) ≤ (t430.length : Int)
                              · rw [if_pos c42] at H
                                have c42b0 := eq_true c42
                                have c42b1 : decide ((t423.length : Int) ≤ (t430.length : Int)) = true := decide_eq_true c42
                                clear c42
                                obtain ⟨y436, hy436⟩ : ∃ y_ : List Int, y_ = (t430.take ((t423.length : Int) : Int).toNat) := ⟨_, rfl⟩
                                replace H : ((crosswayref00_SameBytes.f k1 y436 t423).bind fun t440 => (crosswaylaw14_HalvesBits.j1 k1 t423 t430 (!t440))) = some r := by first | (rw [hy436]; with_reducible exact H) | (have H2_ := (Option.bind_some _ _).symm.trans H; rw [hy436]; with_reducible exact H2_) | (have H2_ := (Option.bind_some _ _).symm.trans H; with_reducible exact H2_) | with_reducible exact H | (rw [hy436]; exact H) | exact H
                                have Ny436 := Aside0.mk hy436
                                clear hy436
                                replace H := Option.bind_eq_some_iff.mp H
                                obtain ⟨t440, A430, H⟩ := H
                                replace H : (crosswaylaw14_HalvesBits.j1 k1 t423 t430 (!t440)) = some r := H
                                have A43 := Aside0.mk A430
                                clear A430
                                have H' := Aside0.mk H
                                clear H
                                obtain ⟨Ao44, co44, eo44⟩ := Kd.R_slice HO432.out
                                subst eo44
                                have p434 : 0 ≤ (14 : Int) := (by omega)
                                have q434 : 14 < (t430.length : Int) := of_decide_eq_true (by first | (with_reducible assumption) | assumption)
                                obtain ⟨ad434, e434, hx434_0⟩ := Kd.at_int (Kd.R_reads' HO432.out).2.2 14 p434 q434
                                cases e434
                                (try simp only [show (14 : Int).toNat = 14 from rfl, Nat.reduceMul, Nat.reduceEqDiff, Go.Addr.add, ↓reduceIte] at hx434_0)
                                have qi434 : (14 < t430.length) = True := eq_true (by omega)
                                (try rw [show ((14 : Int)).toNat = 14 from rfl] at hx434_0)
                                replace p434 := eq_true p434
                                replace q434 := eq_true q434
                                have p435 : 0 ≤ (15 : Int) := (by omega)
                                have q435 : 15 < (t430.length : Int) := of_decide_eq_true (by first | (with_reducible assumption) | assumption)
                                obtain ⟨ad435, e435, hx435_0⟩ := Kd.at_int (Kd.R_reads' HO432.out).2.2 15 p435 q435
                                obtain rfl : ad434 = ad435 := (by injection e435)
                                (try simp only [show (15 : Int).toNat = 15 from rfl, Nat.reduceMul, Nat.reduceEqDiff, Go.Addr.add, ↓reduceIte] at hx435_0)
                                have qi435 : (15 < t430.length) = True := eq_true (by omega)
                                (try rw [show ((15 : Int)).toNat = 15 from rfl] at hx435_0)
                                replace p435 := eq_true p435
                                replace q435 := eq_true q435
                                have q45 : ((t423.length : Int) : Int) ≤ ((t430.length : Int) : Int) := of_decide_eq_true (by first | (with_reducible assumption) | assumption)
                                obtain ⟨i045, hi045, _, hsz45, _⟩ := info_parts info5
                                have hroom45 : t430.length ≤ co44 := (Kd.R_reads' HO432.out).2.1
                                have hC45 : Kd.C (Kd.int .u8) _ (some ad434) t430.length t430 := (Kd.R_reads' HO432.out).2.2
                                have hcut45 := cut_to (P := Try.prog) 22 5 .i64 Try.underlying22 hi045 (some ad434) t430.length co44 (t423.length : Int) (of_decide_eq_true (by first | (with_reducible assumption) | assumption)) q45 hroom45
                                have hr45 := Kd.C_take (m := ((t423.length : Int) : Int).toNat) hC45 (by omega)
                                have hy45 : y436.length = ((t423.length : Int) : Int).toNat := (by rw [Ny436.out, List.length_take]; omega)
                                rw [← Ny436.out] at hr45
                                rw [← hy45] at hcut45
                                have HR439 := Aside0.mk hr45
                                have HC439 := Aside0.mk (show y436.length ≤ co44 from by omega)
                                clear hr45 hC45 hroom45 hi045 hsz45
                                have KY45 := Aside0.mk hy45
                                clear hy45
                                have KL45 := Aside0.mk (show ((t423.length : Int) : Int).toNat ≤ t430.length from by omega)
                                replace q45 := eq_true q45
                                go_wp2_with (first | (go_at_call 11; (with_reducible refine (crosswayref00_SameBytes.calls k1 _ _ y436 _ _ t423 t440 _ ?side1 ?side2 ?side3 ?side4 A43.out).mono ?_); (case side1 => repeat (first | exact (by repeat (first | (with_reducible exact HR439.out) | (with_reducible refine Kd.C_alloc ?_ _) | (with_reducible refine Kd.C_drewN ?_ _) | (with_reducible refine Kd.C_drew ?_) | exact HR439.out)) | (with_reducible refine Kd.C_alloc ?_ _) | (with_reducible refine Kd.C_drewN ?_ _) | (with_reducible refine Kd.C_drew ?_))); (case side2 => exact HC439.out); (case side3 => repeat (first | exact (Kd.R_reads' HO_9.out).2.2 | (with_reducible refine Kd.C_alloc ?_ _) | (with_reducible refine Kd.C_drewN ?_ _) | (with_reducible refine Kd.C_drew ?_))); (case side4 => exact (Kd.R_reads' HO_9.out).2.1); rintro e w' ⟨rfl, ⟨nd, rfl⟩⟩; (try first | exact ⟨rfl, _, World.drewN_drewN _ _ _⟩ | exact ⟨rfl, _, Eq.trans (World.drewN_drewN _ _ _) (congrArg (World.drewN _) (Nat.add_assoc _ _ _))⟩)))
                                repeat (go_quiet (first | (go_at_call 11; (with_reducible refine (crosswayref00_SameBytes.calls k1 _ _ y436 _ _ t423 t440 _ ?side1 ?side2 ?side3 ?side4 A43.out).mono ?_); (case side1 => repeat (first | exact (by repeat (first | (with_reducible exact HR439.out) | (with_reducible refine Kd.C_alloc ?_ _) | (with_reducible refine Kd.C_drewN ?_ _) | (with_reducible refine Kd.C_drew ?_) | exact HR439.out)) | (with_reducible refine Kd.C_alloc ?_ _) | (with_reducible refine Kd.C_drewN ?_ _) | (with_reducible refine Kd.C_drew ?_))); (case side2 => exact HC439.out); (case side3 => repeat (first | exact (Kd.R_reads' HO_9.out).2.2 | (with_reducible refine Kd.C_alloc ?_ _) | (with_reducible refine Kd.C_drewN ?_ _) | (with_reducible refine Kd.C_drew ?_))); (case side4 => exact (Kd.R_reads' HO_9.out).2.1); rintro e w' ⟨rfl, ⟨nd, rfl⟩⟩; (try first | exact ⟨rfl, _, World.drewN_drewN _ _ _⟩ | exact ⟨rfl, _, Eq.trans (World.drewN_drewN _ _ _) (congrArg (World.drewN _) (Nat.add_assoc _ _ _))⟩))); try go_wp2_with (first | (go_at_call 11; (with_reducible refine (crosswayref00_SameBytes.calls k1 _ _ y436 _ _ t423 t440 _ ?side1 ?side2 ?side3 ?side4 A43.out).mono ?_); (case side1 => repeat (first | exact (by repeat (first | (with_reducible exact HR439.out) | (with_reducible refine Kd.C_alloc ?_ _) | (with_reducible refine Kd.C_drewN ?_ _) | (with_reducible refine Kd.C_drew ?_) | exact HR439.out)) | (with_reducible refine Kd.C_alloc ?_ _) | (with_reducible refine Kd.C_drewN ?_ _) | (with_reducible refine Kd.C_drew ?_))); (case side2 => exact HC439.out); (case side3 => repeat (first | exact (Kd.R_reads' HO_9.out).2.2 | (with_reducible refine Kd.C_alloc ?_ _) | (with_reducible refine Kd.C_drewN ?_ _) | (with_reducible refine Kd.C_drew ?_))); (case side4 => exact (Kd.R_reads' HO_9.out).2.1); rintro e w' ⟨rfl, ⟨nd, rfl⟩⟩; (try first | exact ⟨rfl, _, World.drewN_drewN _ _ _⟩ | exact ⟨rfl, _, Eq.trans (World.drewN_drewN _ _ _) (congrArg (World.drewN _) (Nat.add_assoc _ _ _))⟩))))
                                go_meet
                                case rel => exact ⟨_, (!t440), (by first | rfl | (simp; done) | (simp [*]; done)), H', ⟨by have := HK1.out; first | omega | exact Nat.le_refl _⟩, ⟨by (with_reducible repeat (first | apply Kd.R_alloc | apply Kd.R_drewN | apply Kd.R_drew)); exact Kd.R_mono HO_9.out (fun _ hk => hk.2)⟩, ⟨by (with_reducible repeat (first | apply Kd.R_alloc | apply Kd.R_drewN | apply Kd.R_drew)); exact Kd.R_mono HO432.out (fun _ hk => hk.2)⟩, ⟨by repeat (first | (with_reducible first | exact HB.out | apply below_alloc | apply pw_below_drewN | apply below_drew1) | exact HB.out)⟩⟩
                              · rw [if_neg c42] at H
                                exact absurd H (by simp)
                            · rw [if_neg c41] at H
                              exact absurd H (by simp)
                          · rw [if_neg c40] at H
                            have c40b0 : ((rd t430 15) == a3) = false := beq_eq_false_iff_ne.mpr c40
                            have c40b1 : ((rd t430 15) != a3) = true := bne_iff_ne.mpr c40
                            have H' := Aside0.mk H
                            clear H
                            obtain ⟨Ao46, co46, eo46⟩ := Kd.R_slice HO432.out
                            subst eo46
                            have p434 : 0 ≤ (14 : Int) := (by omega)
                            have q434 : 14 < (t430.length : Int) := of_decide_eq_true (by first | (with_reducible assumption) | assumption)
                            obtain ⟨ad434, e434, hx434_0⟩ := Kd.at_int (Kd.R_reads' HO432.out).2.2 14 p434 q434
                            cases e434
                            (try simp only [show (14 : Int).toNat = 14 from rfl, Nat.reduceMul, Nat.reduceEqDiff, Go.Addr.add, ↓reduceIte] at hx434_0)
                            have qi434 : (14 < t430.length) = True := eq_true (by omega)
                            (try rw [show ((14 : Int)).toNat = 14 from rfl] at hx434_0)
                            replace p434 := eq_true p434
                            replace q434 := eq_true q434
                            have p435 : 0 ≤ (15 : Int) := (by omega)
                            have q435 : 15 < (t430.length : Int) := of_decide_eq_true (by first | (with_reducible assumption) | assumption)
                            obtain ⟨ad435, e435, hx435_0⟩ := Kd.at_int (Kd.R_reads' HO432.out).2.2 15 p435 q435
                            obtain rfl : ad434 = ad435 := (by injection e435)
                            (try simp only [show (15 : Int).toNat = 15 from rfl, Nat.reduceMul, Nat.reduceEqDiff, Go.Addr.add, ↓reduceIte] at hx435_0)
                            have qi435 : (15 < t430.length) = True := eq_true (by omega)
                            (try rw [show ((15 : Int)).toNat = 15 from rfl] at hx435_0)
                            replace p435 := eq_true p435
                            replace q435 := eq_true q435
                            go_wp2
                            repeat (go_quiet (fail); try go_wp2)
                            go_meet
                            case rel => exact ⟨_, (true), (by first | rfl | (simp; done) | (simp [*]; done)), H', ⟨by have := HK1.out; first | omega | exact Nat.le_refl _⟩, ⟨by (with_reducible repeat (first | apply Kd.R_alloc | apply Kd.R_drewN | apply Kd.R_drew)); exact Kd.R_mono HO_9.out (fun _ hk => hk.2)⟩, ⟨by (with_reducible repeat (first | apply Kd.R_alloc | apply Kd.R_drewN | apply Kd.R_drew)); exact Kd.R_mono HO432.out (fun _ hk => hk.2)⟩, ⟨by repeat (first | (with_reducible first | exact HB.out | apply below_alloc | apply pw_below_drewN | apply below_drew1) | exact HB.out)⟩⟩
                        · rw [if_neg c39] at H
                          exact absurd H (by simp)
                      · rw [if_neg c38] at H
                        have c38b0 : ((rd t430 14) == ((a1) % 256)) = false := beq_eq_false_iff_ne.mpr c38
                        have c38b1 : ((rd t430 14) != ((a1) % 256)) = true := bne_iff_ne.mpr c38
                        have H' := Aside0.mk H
                        clear H
                        obtain ⟨Ao47, co47, eo47⟩ := Kd.R_slice HO432.out
                        subst eo47
                        have p434 : 0 ≤ (14 : Int) := (by omega)
                        have q434 : 14 < (t430.length : Int) := of_decide_eq_true (by first | (with_reducible assumption) | assumption)
                        obtain ⟨ad434, e434, hx434_0⟩ := Kd.at_int (Kd.R_reads' HO432.out).2.2 14 p434 q434
                        cases e434
                        (try simp only [show (14 : Int).toNat = 14 from rfl, Nat.reduceMul, Nat.reduceEqDiff, Go.Addr.add, ↓reduceIte] at hx434_0)
                        have qi434 : (14 < t430.length) = True := eq_true (by omega)
                        (try rw [show ((14 : Int)).toNat = 14 from rfl] at hx434_0)
                        replace p434 := eq_true p434
                        replace q434 := eq_true q434
                        go_wp2
                        repeat (go_quiet (fail); try go_wp2)
                        go_meet
                        case rel => exact ⟨_, (true), (by first | rfl | (simp; done) | (simp [*]; done)), H', ⟨by have := HK1.out; first | omega | exact Nat.le_refl _⟩, ⟨by (with_reducible repeat (first | apply Kd.R_alloc | apply Kd.R_drewN | apply Kd.R_drew)); exact Kd.R_mono HO_9.out (fun _ hk => hk.2)⟩, ⟨by (with_reducible repeat (first | apply Kd.R_alloc | apply Kd.R_drewN | apply Kd.R_drew)); exact Kd.R_mono HO432.out (fun _ hk => hk.2)⟩, ⟨by repeat (first | (with_reducible first | exact HB.out | apply below_alloc | apply pw_below_drewN | apply below_drew1) | exact HB.out)⟩⟩
                    · rw [if_neg c37] at H
                      exact absurd H (by simp)
                  · rw [if_neg c36] at H
                    have c36b0 : ((t430.length : Int) == 16) = false := beq_eq_false_iff_ne.mpr c36
                    have c36b1 : ((t430.length : Int) != 16) = true := bne_iff_ne.mpr c36
                    have H' := Aside0.mk H
                    clear H
                    obtain ⟨Ao48, co48, eo48⟩ := Kd.R_slice HO432.out
                    subst eo48
                    go_wp2
                    repeat (go_quiet (fail); try go_wp2)
                    go_meet
                    case rel => exact ⟨_, (true), (by first | rfl | (simp; done) | (simp [*]; done)), H', ⟨by have := HK1.out; first | omega | exact Nat.le_refl _⟩, ⟨by (with_reducible repeat (first | apply Kd.R_alloc | apply Kd.R_drewN | apply Kd.R_drew)); exact Kd.R_mono HO_9.out (fun _ hk => hk.2)⟩, ⟨by (with_reducible repeat (first | apply Kd.R_alloc | apply Kd.R_drewN | apply Kd.R_drew)); exact Kd.R_mono HO432.out (fun _ hk => hk.2)⟩, ⟨by repeat (first | (with_reducible first | exact HB.out | apply below_alloc | apply pw_below_drewN | apply below_drew1) | exact HB.out)⟩⟩
                · rw [if_neg c35] at H
                  have c35b0 : (t433 == 0) = false := beq_eq_false_iff_ne.mpr c35
                  have c35b1 : (t433 != 0) = true := bne_iff_ne.mpr c35
                  (first | rw [c35b0] | (simp only [i64_w, i32_w]; rw [c35b0]) | skip)
                  have H' := Aside0.mk H
                  clear H
                  go_wp2
                  repeat (go_quiet (fail); try go_wp2)
                  go_meet
                  case rel => exact ⟨_, (true), (by first | rfl | (simp; done) | (simp [*]; done)), H', ⟨by have := HK1.out; first | omega | exact Nat.le_refl _⟩, ⟨by (with_reducible repeat (first | apply Kd.R_alloc | apply Kd.R_drewN | apply Kd.R_drew)); exact Kd.R_mono HO_9.out (fun _ hk => hk.2)⟩, ⟨by (with_reducible repeat (first | apply Kd.R_alloc | apply Kd.R_drewN | apply Kd.R_drew)); exact Kd.R_mono HO432.out (fun _ hk => hk.2)⟩, ⟨by repeat (first | (with_reducible first | exact HB.out | apply below_alloc | apply pw_below_drewN | apply below_drew1) | exact HB.out)⟩⟩
              case rest =>
                clear HC32
                try clear c1
                try clear c2
                try clear p2
                try clear c3
                try clear c4
                try clear p4
                try clear q4
                try clear hx4
                try clear qi4
                try clear c6
                try clear p6
                try clear c7
                try clear c7b0
                try clear c7b1
                try clear c10
                try clear c10b0
                try clear c10b1
                try clear c13
                try clear c13b0
                try clear c14
                try clear c14b0
                try clear c15
                try clear c15b0
                try clear c16
                try clear c16b0
                try clear c16b1
                try clear c18
                try clear c18b0
                try clear c18b1
                try clear c20
                try clear c21
                try clear c21b0
                try clear c21b1
                try clear c22
                try clear c22b0
                try clear c26
                try clear c26b0
                try clear c26b1
                try clear c27
                try clear c27b0
                try clear c27b1
                try clear c35
                try clear c35b0
                try clear c35b1
                try clear c36
                try clear c36b0
                try clear c36b1
                try clear c37
                try clear c37b0
                try clear c37b1
                try clear c38
                try clear c38b0
                try clear c38b1
                try clear c39
                try clear c39b0
                try clear c39b1
                try clear c40
                try clear c40b0
                try clear c40b1
                try clear c41
                try clear c41b0
                try clear c41b1
                try clear c42
                try clear c42b0
                try clear c42b1
                try clear p42
                try clear q42
                try clear hx42
                try clear p43
                try clear q43
                try clear hx43
                try clear qi43
                try clear q45
                try clear hx428_0
                try clear hx429_0
                try clear hx434_0
                try clear hx435_0
                try clear p2
                try clear p428
                try clear p429
                try clear p434
                try clear p435
                try clear q428
                try clear q429
                try clear q434
                try clear q435
                try clear q45
                obtain ⟨kq, x134_31, rfl, HA, HJ31, HO_9, HO_13, HB⟩ := hcut
                cases kq with
                | zero => exact absurd HA.out (by simp [crosswaylaw14_HalvesBits.j1])
                | succ kj31 =>
                  have H := HA.out
                  clear HA
                  simp only [crosswaylaw14_HalvesBits.j1] at H
                  by_cases c49 : x134_31 = true
                  · subst c49
                    have H1 : (some false) = some r := by rw [if_pos rfl] at H; exact H
                    clear H
                    have H := H1
                    clear H1
                    obtain rfl := Option.some.inj H
                    go_wp2
                    repeat (go_quiet (fail); try go_wp2)
                    go_ret
                    exact ⟨by first | rfl | (simp [errW_none, errW_some] <;> rfl) | (simp [*, errW_none, errW_some] <;> rfl), by repeat (first | (with_reducible first | exact HB.out | apply below_alloc | apply pw_below_drewN | apply below_drew1) | exact HB.out)⟩
                  · replace c49 := Bool.eq_false_iff.mpr c49
                    subst c49
                    have H1 : (crosswaylaw14_HalvesBits.l1 kj31 t430 (t423.length : Int)) = some r := by rw [if_neg (show ¬ (false = true) by decide)] at H; exact H
                    clear H
                    have H := H1
                    clear H1
                    have H' := Aside0.mk H
                    clear H
                    go_wp2
                    repeat (go_quiet (fail); try go_wp2)
                    go_loopg [15] kj31 (fun kq v15 w' => ∃ (x15_3 : Int), v15 = .int .i64 x15_3 ∧ Aside0 (crosswaylaw14_HalvesBits.l1 kq t430 x15_3 = some r) ∧ Aside0 (kq ≤ kj31) ∧ Aside0 (Kd.R (Kd.int .u8) 5 w' w.heap.size (fun _ => True) v431 t430) ∧ Aside0 (Below w.heap.size w w'))
                    case atStart => exact ⟨((t423.length : Int)), (by first | rfl | (simp; done) | (simp [*]; done)), H', ⟨Nat.le_refl _⟩, ⟨by (with_reducible repeat (first | apply Kd.R_alloc | apply Kd.R_drewN | apply Kd.R_drew)); exact Kd.R_mono HO_13.out (fun _ hk => trivial)⟩, ⟨by repeat (first | (with_reducible first | exact HB.out | apply below_alloc | apply pw_below_drewN | apply below_drew1) | exact HB.out)⟩⟩
                    case round =>
                      clear H'
                      try clear c1
                      try clear c2
                      try clear p2
                      try clear c3
                      try clear c4
                      try clear p4
                      try clear q4
                      try clear hx4
                      try clear qi4
                      try clear c6
                      try clear p6
                      try clear c7
                      try clear c7b0
                      try clear c7b1
                      try clear c10
                      try clear c10b0
                      try clear c10b1
                      try clear c13
                      try clear c13b0
                      try clear c14
                      try clear c14b0
                      try clear c15
                      try clear c15b0
                      try clear c16
                      try clear c16b0
                      try clear c16b1
                      try clear c18
                      try clear c18b0
                      try clear c18b1
                      try clear c20
                      try clear c21
                      try clear c21b0
                      try clear c21b1
                      try clear c22
                      try clear c22b0
                      try clear c26
                      try clear c26b0
                      try clear c26b1
                      try clear c27
                      try clear c27b0
                      try clear c27b1
                      try clear c35
                      try clear c35b0
                      try clear c35b1
                      try clear c36
                      try clear c36b0
                      try clear c36b1
                      try clear c37
                      try clear c37b0
                      try clear c37b1
                      try clear c38
                      try clear c38b0
                      try clear c38b1
                      try clear c39
                      try clear c39b0
                      try clear c39b1
                      try clear c40
                      try clear c40b0
                      try clear c40b1
                      try clear c41
                      try clear c41b0
                      try clear c41b1
                      try clear c42
                      try clear c42b0
                      try clear c42b1
                      try clear p42
                      try clear q42
                      try clear hx42
                      try clear p43
                      try clear q43
                      try clear hx43
                      try clear qi43
                      try clear q45
                      try clear c49
                      try clear hx428_0
                      try clear hx429_0
                      try clear hx434_0
                      try clear hx435_0
                      try clear p2
                      try clear p4
                      try clear p42
                      try clear p428
                      try clear p429
                      try clear p43
                      try clear p434
                      try clear p435
                      try clear p6
                      try clear q4
                      try clear q42
                      try clear q428
                      try clear q429
                      try clear q43
                      try clear q434
                      try clear q435
                      try clear q45
                      obtain ⟨x15_3, rfl, HA, HK3, HO_13, HB⟩ := hrel
                      cases gk with
                      | zero => exact absurd HA.out (by simp [crosswaylaw14_HalvesBits.l1])
                      | succ k3 =>
                        have H := HA.out
                        clear HA
                        simp only [crosswaylaw14_HalvesBits.l1] at H
                        by_cases c50 : x15_3 < 14
                        · rw [if_pos c50] at H
                          have c50b0 : decide (x15_3 < 14) = true := decide_eq_true c50
                          clear c50
                          by_cases c51 : 0 ≤ x15_3
                          · rw [if_pos c51] at H
                            have c51b0 : decide (0 ≤ x15_3) = true := decide_eq_true c51
                            clear c51
                            by_cases c52 : x15_3 < (t430.length : Int)
                            · rw [if_pos c52] at H
                              have c52b0 : decide (x15_3 < (t430.length : Int)) = true := decide_eq_true c52
                              clear c52
                              by_cases c53 : (rd t430 x15_3) = 0
                              · rw [if_pos c53] at H
                                have c53b0 : ((rd t430 x15_3) == 0) = true := beq_iff_eq.mpr c53
                                have c53b1 : ((rd t430 x15_3) != 0) = false := bne_eq_false_iff_eq.mpr c53
                                clear c53
                                have H' := Aside0.mk H
                                clear H
                                obtain ⟨Ao54, co54, eo54⟩ := Kd.R_slice HO_13.out
                                subst eo54
                                have p441 : 0 ≤ (x15_3 : Int) := of_decide_eq_true (by first | (with_reducible assumption) | assumption)
                                have q441 : x15_3 < (t430.length : Int) := of_decide_eq_true (by first | (with_reducible assumption) | assumption)
                                obtain ⟨ad441, e441, hx441_0⟩ := Kd.at_int (Kd.R_reads' HO_13.out).2.2 x15_3 p441 q441
                                cases e441
                                replace p441 := eq_true p441
                                replace q441 := eq_true q441
                                go_wp2
                                repeat (go_quiet (fail); try go_wp2)
                                go_roundg k3
                                case measure => have := HK1.out; have := HJ31.out; have := HK3.out; omega
                                case rel => exact ⟨(wrap64 (x15_3 + 1)), (by first | rfl | (simp; done) | (simp [*]; done)), H', ⟨by have := HK1.out; have := HJ31.out; have := HK3.out; omega⟩, ⟨by (with_reducible repeat (first | apply Kd.R_alloc | apply Kd.R_drewN | apply Kd.R_drew)); exact HO_13.out⟩, ⟨by repeat (first | (with_reducible first | exact HB.out | apply below_alloc | apply pw_below_drewN | apply below_drew1) | exact HB.out)⟩⟩
                              · rw [if_neg c53] at H
                                have c53b0 : ((rd t430 x15_3) == 0) = false := beq_eq_false_iff_ne.mpr c53
                                have c53b1 : ((rd t430 x15_3) != 0) = true := bne_iff_ne.mpr c53
                                obtain rfl := Option.some.inj H
                                obtain ⟨Ao55, co55, eo55⟩ := Kd.R_slice HO_13.out
                                subst eo55
                                have p441 : 0 ≤ (x15_3 : Int) := of_decide_eq_true (by first | (with_reducible assumption) | assumption)
                                have q441 : x15_3 < (t430.length : Int) := of_decide_eq_true (by first | (with_reducible assumption) | assumption)
                                obtain ⟨ad441, e441, hx441_0⟩ := Kd.at_int (Kd.R_reads' HO_13.out).2.2 x15_3 p441 q441
                                cases e441
                                replace p441 := eq_true p441
                                replace q441 := eq_true q441
                                go_wp2
                                repeat (go_quiet (fail); try go_wp2)
                                go_ret
                                exact ⟨by first | rfl | (simp [errW_none, errW_some] <;> rfl) | (simp [*, errW_none, errW_some] <;> rfl), by repeat (first | (with_reducible first | exact HB.out | apply below_alloc | apply pw_below_drewN | apply below_drew1) | exact HB.out)⟩
                            · rw [if_neg c52] at H
                              exact absurd H (by simp)
                          · rw [if_neg c51] at H
                            exact absurd H (by simp)
                        · rw [if_neg c50] at H
                          have c50b0 : decide (x15_3 < 14) = false := decide_eq_false c50
                          clear c50
                          obtain rfl := Option.some.inj H
                          go_wp2
                          repeat (go_quiet (fail); try go_wp2)
                          go_ret
                          exact ⟨by first | rfl | (simp [errW_none, errW_some] <;> rfl) | (simp [*, errW_none, errW_some] <;> rfl), by repeat (first | (with_reducible first | exact HB.out | apply below_alloc | apply pw_below_drewN | apply below_drew1) | exact HB.out)⟩
      · rw [if_neg c10] at H
        have c10b0 : (t424 == 0) = false := beq_eq_false_iff_ne.mpr c10
        have c10b1 : (t424 != 0) = true := bne_iff_ne.mpr c10
        by_cases c56 : t424 = 11
        · rw [if_pos c56] at H
          have c56b0 : (t424 == 11) = true := beq_iff_eq.mpr c56
          have c56b1 : (t424 != 11) = false := bne_eq_false_iff_eq.mpr c56
          clear c56
          by_cases c57 : a1 < 2
          · rw [if_pos c57] at H
            have c57b0 : decide (a1 < 2) = true := decide_eq_true c57
            clear c57
            obtain rfl := Option.some.inj H
            go_enter Try.func6, Try.ntmps6
            go_wp2_with (first | (go_at_call 7; (with_reducible refine (crosswaylaw14_alive.calls k  true _ A5.out).mono ?_); rintro e w58 ⟨rfl, hb⟩; have n0_ := Aside0.mk (below_step (by repeat (first | (with_reducible first | exact HB.out | apply below_alloc | apply pw_below_drewN | apply below_drew1) | exact HB.out)) hb); clear HB; have HB := n0_; clear n0_; (try clear hb); (try clear hb2); (try clear hk); (try clear hi)) | (go_at_call 16; (with_reducible refine (halves_Trim.calls _ _ l0 a1 a2 t423 t424 _ ?side1 ?side2 A9.out).mono ?_); (case side1 => repeat (first | exact (Kd.C_below HR0.out HB.out) | (with_reducible refine Kd.C_alloc ?_ _) | (with_reducible refine Kd.C_drewN ?_ _) | (with_reducible refine Kd.C_drew ?_))); (case side2 => exact HC0.out); rintro e w59 ⟨v425, rfl, ho0, hb⟩; have n0_ := Aside0.mk (Kd.R_lower ho0 (below_size (by repeat (first | (with_reducible first | exact HB.out | apply below_alloc | apply pw_below_drewN | apply below_drew1) | exact HB.out)))); have n1_ := Aside0.mk (below_step (by repeat (first | (with_reducible first | exact HB.out | apply below_alloc | apply pw_below_drewN | apply below_drew1) | exact HB.out)) hb); clear HB; have HO426 := n0_; have HB := n1_; clear n0_ n1_; (try clear hb); (try clear hb2); (try clear hk); (try clear hi); (try clear ho0)))
            repeat (go_quiet (first | (go_at_call 7; (with_reducible refine (crosswaylaw14_alive.calls k  true _ A5.out).mono ?_); rintro e w58 ⟨rfl, hb⟩; have n0_ := Aside0.mk (below_step (by repeat (first | (with_reducible first | exact HB.out | apply below_alloc | apply pw_below_drewN | apply below_drew1) | exact HB.out)) hb); clear HB; have HB := n0_; clear n0_; (try clear hb); (try clear hb2); (try clear hk); (try clear hi)) | (go_at_call 16; (with_reducible refine (halves_Trim.calls _ _ l0 a1 a2 t423 t424 _ ?side1 ?side2 A9.out).mono ?_); (case side1 => repeat (first | exact (Kd.C_below HR0.out HB.out) | (with_reducible refine Kd.C_alloc ?_ _) | (with_reducible refine Kd.C_drewN ?_ _) | (with_reducible refine Kd.C_drew ?_))); (case side2 => exact HC0.out); rintro e w59 ⟨v425, rfl, ho0, hb⟩; have n0_ := Aside0.mk (Kd.R_lower ho0 (below_size (by repeat (first | (with_reducible first | exact HB.out | apply below_alloc | apply pw_below_drewN | apply below_drew1) | exact HB.out)))); have n1_ := Aside0.mk (below_step (by repeat (first | (with_reducible first | exact HB.out | apply below_alloc | apply pw_below_drewN | apply below_drew1) | exact HB.out)) hb); clear HB; have HO426 := n0_; have HB := n1_; clear n0_ n1_; (try clear hb); (try clear hb2); (try clear hk); (try clear hi); (try clear ho0))); try go_wp2_with (first | (go_at_call 7; (with_reducible refine (crosswaylaw14_alive.calls k  true _ A5.out).mono ?_); rintro e w58 ⟨rfl, hb⟩; have n0_ := Aside0.mk (below_step (by repeat (first | (with_reducible first | exact HB.out | apply below_alloc | apply pw_below_drewN | apply below_drew1) | exact HB.out)) hb); clear HB; have HB := n0_; clear n0_; (try clear hb); (try clear hb2); (try clear hk); (try clear hi)) | (go_at_call 16; (with_reducible refine (halves_Trim.calls _ _ l0 a1 a2 t423 t424 _ ?side1 ?side2 A9.out).mono ?_); (case side1 => repeat (first | exact (Kd.C_below HR0.out HB.out) | (with_reducible refine Kd.C_alloc ?_ _) | (with_reducible refine Kd.C_drewN ?_ _) | (with_reducible refine Kd.C_drew ?_))); (case side2 => exact HC0.out); rintro e w59 ⟨v425, rfl, ho0, hb⟩; have n0_ := Aside0.mk (Kd.R_lower ho0 (below_size (by repeat (first | (with_reducible first | exact HB.out | apply below_alloc | apply pw_below_drewN | apply below_drew1) | exact HB.out)))); have n1_ := Aside0.mk (below_step (by repeat (first | (with_reducible first | exact HB.out | apply below_alloc | apply pw_below_drewN | apply below_drew1) | exact HB.out)) hb); clear HB; have HO426 := n0_; have HB := n1_; clear n0_ n1_; (try clear hb); (try clear hb2); (try clear hk); (try clear hi); (try clear ho0))))
            go_ret
            exact ⟨by first | rfl | (simp [errW_none, errW_some] <;> rfl) | (simp [*, errW_none, errW_some] <;> rfl), by repeat (first | (with_reducible first | exact HB.out | apply below_alloc | apply pw_below_drewN | apply below_drew1) | exact HB.out)⟩
          · rw [if_neg c57] at H
            have c57b0 : decide (a1 < 2) = false := decide_eq_false c57
            clear c57
            by_cases c60 : a1 > 28
            · rw [if_pos c60] at H
              have c60b0 : decide (28 < a1) = true := decide_eq_true c60
              clear c60
              obtain rfl := Option.some.inj H
              go_enter Try.func6, Try.ntmps6
              go_wp2_with (first | (go_at_call 7; (with_reducible refine (crosswaylaw14_alive.calls k  true _ A5.out).mono ?_); rintro e w61 ⟨rfl, hb⟩; have n0_ := Aside0.mk (below_step (by repeat (first | (with_reducible first | exact HB.out | apply below_alloc | apply pw_below_drewN | apply below_drew1) | exact HB.out)) hb); clear HB; have HB := n0_; clear n0_; (try clear hb); (try clear hb2); (try clear hk); (try clear hi)) | (go_at_call 16; (with_reducible refine (halves_Trim.calls _ _ l0 a1 a2 t423 t424 _ ?side1 ?side2 A9.out).mono ?_); (case side1 => repeat (first | exact (Kd.C_below HR0.out HB.out) | (with_reducible refine Kd.C_alloc ?_ _) | (with_reducible refine Kd.C_drewN ?_ _) | (with_reducible refine Kd.C_drew ?_))); (case side2 => exact HC0.out); rintro e w62 ⟨v425, rfl, ho0, hb⟩; have n0_ := Aside0.mk (Kd.R_lower ho0 (below_size (by repeat (first | (with_reducible first | exact HB.out | apply below_alloc | apply pw_below_drewN | apply below_drew1) | exact HB.out)))); have n1_ := Aside0.mk (below_step (by repeat (first | (with_reducible first | exact HB.out | apply below_alloc | apply pw_below_drewN | apply below_drew1) | exact HB.out)) hb); clear HB; have HO426 := n0_; have HB := n1_; clear n0_ n1_; (try clear hb); (try clear hb2); (try clear hk); (try clear hi); (try clear ho0)))
              repeat (go_quiet (first | (go_at_call 7; (with_reducible refine (crosswaylaw14_alive.calls k  true _ A5.out).mono ?_); rintro e w61 ⟨rfl, hb⟩; have n0_ := Aside0.mk (below_step (by repeat (first | (with_reducible first | exact HB.out | apply below_alloc | apply pw_below_drewN | apply below_drew1) | exact HB.out)) hb); clear HB; have HB := n0_; clear n0_; (try clear hb); (try clear hb2); (try clear hk); (try clear hi)) | (go_at_call 16; (with_reducible refine (halves_Trim.calls _ _ l0 a1 a2 t423 t424 _ ?side1 ?side2 A9.out).mono ?_); (case side1 => repeat (first | exact (Kd.C_below HR0.out HB.out) | (with_reducible refine Kd.C_alloc ?_ _) | (with_reducible refine Kd.C_drewN ?_ _) | (with_reducible refine Kd.C_drew ?_))); (case side2 => exact HC0.out); rintro e w62 ⟨v425, rfl, ho0, hb⟩; have n0_ := Aside0.mk (Kd.R_lower ho0 (below_size (by repeat (first | (with_reducible first | exact HB.out | apply below_alloc | apply pw_below_drewN | apply below_drew1) | exact HB.out)))); have n1_ := Aside0.mk (below_step (by repeat (first | (with_reducible first | exact HB.out | apply below_alloc | apply pw_below_drewN | apply below_drew1) | exact HB.out)) hb); clear HB; have HO426 := n0_; have HB := n1_; clear n0_ n1_; (try clear hb); (try clear hb2); (try clear hk); (try clear hi); (try clear ho0))); try go_wp2_with (first | (go_at_call 7; (with_reducible refine (crosswaylaw14_alive.calls k  true _ A5.out).mono ?_); rintro e w61 ⟨rfl, hb⟩; have n0_ := Aside0.mk (below_step (by repeat (first | (with_reducible first | exact HB.out | apply below_alloc | apply pw_below_drewN | apply below_drew1) | exact HB.out)) hb); clear HB; have HB := n0_; clear n0_; (try clear hb); (try clear hb2); (try clear hk); (try clear hi)) | (go_at_call 16; (with_reducible refine (halves_Trim.calls _ _ l0 a1 a2 t423 t424 _ ?side1 ?side2 A9.out).mono ?_); (case side1 => repeat (first | exact (Kd.C_below HR0.out HB.out) | (with_reducible refine Kd.C_alloc ?_ _) | (with_reducible refine Kd.C_drewN ?_ _) | (with_reducible refine Kd.C_drew ?_))); (case side2 => exact HC0.out); rintro e w62 ⟨v425, rfl, ho0, hb⟩; have n0_ := Aside0.mk (Kd.R_lower ho0 (below_size (by repeat (first | (with_reducible first | exact HB.out | apply below_alloc | apply pw_below_drewN | apply below_drew1) | exact HB.out)))); have n1_ := Aside0.mk (below_step (by repeat (first | (with_reducible first | exact HB.out | apply below_alloc | apply pw_below_drewN | apply below_drew1) | exact HB.out)) hb); clear HB; have HO426 := n0_; have HB := n1_; clear n0_ n1_; (try clear hb); (try clear hb2); (try clear hk); (try clear hi); (try clear ho0))))
              go_ret
              exact ⟨by first | rfl | (simp [errW_none, errW_some] <;> rfl) | (simp [*, errW_none, errW_some] <;> rfl), by repeat (first | (with_reducible first | exact HB.out | apply below_alloc | apply pw_below_drewN | apply below_drew1) | exact HB.out)⟩
            · rw [if_neg c60] at H
              have c60b0 : decide (28 < a1) = false := decide_eq_false c60
              clear c60
              replace H := Option.bind_eq_some_iff.mp H
              obtain ⟨t427, A630, H⟩ := H
              replace H : (some ((l0.length : Int) != t427)) = some r := H
              have A63 := Aside0.mk A630
              clear A630
              obtain rfl := Option.some.inj H
              go_enter Try.func6, Try.ntmps6
              go_wp2_with (first | (go_at_call 7; (with_reducible refine (crosswaylaw14_alive.calls k  true _ A5.out).mono ?_); rintro e w64 ⟨rfl, hb⟩; have n0_ := Aside0.mk (below_step (by repeat (first | (with_reducible first | exact HB.out | apply below_alloc | apply pw_below_drewN | apply below_drew1) | exact HB.out)) hb); clear HB; have HB := n0_; clear n0_; (try clear hb); (try clear hb2); (try clear hk); (try clear hi)) | (go_at_call 16; (with_reducible refine (halves_Trim.calls _ _ l0 a1 a2 t423 t424 _ ?side1 ?side2 A9.out).mono ?_); (case side1 => repeat (first | exact (Kd.C_below HR0.out HB.out) | (with_reducible refine Kd.C_alloc ?_ _) | (with_reducible refine Kd.C_drewN ?_ _) | (with_reducible refine Kd.C_drew ?_))); (case side2 => exact HC0.out); rintro e w65 ⟨v425, rfl, ho0, hb⟩; have n0_ := Aside0.mk (Kd.R_lower ho0 (below_size (by repeat (first | (with_reducible first | exact HB.out | apply below_alloc | apply pw_below_drewN | apply below_drew1) | exact HB.out)))); have n1_ := Aside0.mk (below_step (by repeat (first | (with_reducible first | exact HB.out | apply below_alloc | apply pw_below_drewN | apply below_drew1) | exact HB.out)) hb); clear HB; have HO426 := n0_; have HB := n1_; clear n0_ n1_; (try clear hb); (try clear hb2); (try clear hk); (try clear hi); (try clear ho0)) | (go_at_call 12; (with_reducible refine (halves_Size.calls a1 t427 _ A63.out).mono ?_); rintro e w' ⟨rfl, ⟨nd, rfl⟩⟩; (try first | exact ⟨rfl, _, World.drewN_drewN _ _ _⟩ | exact ⟨rfl, _, Eq.trans (World.drewN_drewN _ _ _) (congrArg (World.drewN _) (Nat.add_assoc _ _ _))⟩)))
              repeat (go_quiet (first | (go_at_call 7; (with_reducible refine (crosswaylaw14_alive.calls k  true _ A5.out).mono ?_); rintro e w64 ⟨rfl, hb⟩; have n0_ := Aside0.mk (below_step (by repeat (first | (with_reducible first | exact HB.out | apply below_alloc | apply pw_below_drewN | apply below_drew1) | exact HB.out)) hb); clear HB; have HB := n0_; clear n0_; (try clear hb); (try clear hb2); (try clear hk); (try clear hi)) | (go_at_call 16; (with_reducible refine (halves_Trim.calls _ _ l0 a1 a2 t423 t424 _ ?side1 ?side2 A9.out).mono ?_); (case side1 => repeat (first | exact (Kd.C_below HR0.out HB.out) | (with_reducible refine Kd.C_alloc ?_ _) | (with_reducible refine Kd.C_drewN ?_ _) | (with_reducible refine Kd.C_drew ?_))); (case side2 => exact HC0.out); rintro e w65 ⟨v425, rfl, ho0, hb⟩; have n0_ := Aside0.mk (Kd.R_lower ho0 (below_size (by repeat (first | (with_reducible first | exact HB.out | apply below_alloc | apply pw_below_drewN | apply below_drew1) | exact HB.out)))); have n1_ := Aside0.mk (below_step (by repeat (first | (with_reducible first | exact HB.out | apply below_alloc | apply pw_below_drewN | apply below_drew1) | exact HB.out)) hb); clear HB; have HO426 := n0_; have HB := n1_; clear n0_ n1_; (try clear hb); (try clear hb2); (try clear hk); (try clear hi); (try clear ho0)) | (go_at_call 12; (with_reducible refine (halves_Size.calls a1 t427 _ A63.out).mono ?_); rintro e w' ⟨rfl, ⟨nd, rfl⟩⟩; (try first | exact ⟨rfl, _, World.drewN_drewN _ _ _⟩ | exact ⟨rfl, _, Eq.trans (World.drewN_drewN _ _ _) (congrArg (World.drewN _) (Nat.add_assoc _ _ _))⟩))); try go_wp2_with (first | (go_at_call 7; (with_reducible refine (crosswaylaw14_alive.calls k  true _ A5.out).mono ?_); rintro e w64 ⟨rfl, hb⟩; have n0_ := Aside0.mk (below_step (by repeat (first | (with_reducible first | exact HB.out | apply below_alloc | apply pw_below_drewN | apply below_drew1) | exact HB.out)) hb); clear HB; have HB := n0_; clear n0_; (try clear hb); (try clear hb2); (try clear hk); (try clear hi)) | (go_at_call 16; (with_reducible refine (halves_Trim.calls _ _ l0 a1 a2 t423 t424 _ ?side1 ?side2 A9.out).mono ?_); (case side1 => repeat (first | exact (Kd.C_below HR0.out HB.out) | (with_reducible refine Kd.C_alloc ?_ _) | (with_reducible refine Kd.C_drewN ?_ _) | (with_reducible refine Kd.C_drew ?_))); (case side2 => exact HC0.out); rintro e w65 ⟨v425, rfl, ho0, hb⟩; have n0_ := Aside0.mk (Kd.R_lower ho0 (below_size (by repeat (first | (with_reducible first | exact HB.out | apply below_alloc | apply pw_below_drewN | apply below_drew1) | exact HB.out)))); have n1_ := Aside0.mk (below_step (by repeat (first | (with_reducible first | exact HB.out | apply below_alloc | apply pw_below_drewN | apply below_drew1) | exact HB.out)) hb); clear HB; have HO426 := n0_; have HB := n1_; clear n0_ n1_; (try clear hb); (try clear hb2); (try clear hk); (try clear hi); (try clear ho0)) | (go_at_call 12; (with_reducible refine (halves_Size.calls a1 t427 _ A63.out).mono ?_); rintro e w' ⟨rfl, ⟨nd, rfl⟩⟩; (try first | exact ⟨rfl, _, World.drewN_drewN _ _ _⟩ | exact ⟨rfl, _, Eq.trans (World.drewN_drewN _ _ _) (congrArg (World.drewN _) (Nat.add_assoc _ _ _))⟩))))
              go_ret
              exact ⟨by first | rfl | (simp [errW_none, errW_some] <;> rfl) | (simp [*, errW_none, errW_some] <;> rfl), by repeat (first | (with_reducible first | exact HB.out | apply below_alloc | apply pw_below_drewN | apply below_drew1) | exact HB.out)⟩
        · rw [if_neg c56] at H
          have c56b0 : (t424 == 11) = false := beq_eq_false_iff_ne.mpr c56
          have c56b1 : (t424 != 11) = true := bne_iff_ne.mpr c56
          obtain rfl := Option.some.inj H
          go_enter Try.func6, Try.ntmps6
          go_wp2_with (first | (go_at_call 7; (with_reducible refine (crosswaylaw14_alive.calls k  true _ A5.out).mono ?_); rintro e w66 ⟨rfl, hb⟩; have n0_ := Aside0.mk (below_step (by repeat (first | (with_reducible first | exact HB.out | apply below_alloc | apply pw_below_drewN | apply below_drew1) | exact HB.out)) hb); clear HB; have HB := n0_; clear n0_; (try clear hb); (try clear hb2); (try clear hk); (try clear hi)) | (go_at_call 16; (with_reducible refine (halves_Trim.calls _ _ l0 a1 a2 t423 t424 _ ?side1 ?side2 A9.out).mono ?_); (case side1 => repeat (first | exact (Kd.C_below HR0.out HB.out) | (with_reducible refine Kd.C_alloc ?_ _) | (with_reducible refine Kd.C_drewN ?_ _) | (with_reducible refine Kd.C_drew ?_))); (case side2 => exact HC0.out); rintro e w67 ⟨v425, rfl, ho0, hb⟩; have n0_ := Aside0.mk (Kd.R_lower ho0 (below_size (by repeat (first | (with_reducible first | exact HB.out | apply below_alloc | apply pw_below_drewN | apply below_drew1) | exact HB.out)))); have n1_ := Aside0.mk (below_step (by repeat (first | (with_reducible first | exact HB.out | apply below_alloc | apply pw_below_drewN | apply below_drew1) | exact HB.out)) hb); clear HB; have HO426 := n0_; have HB := n1_; clear n0_ n1_; (try clear hb); (try clear hb2); (try clear hk); (try clear hi); (try clear ho0)))
          repeat (go_quiet (first | (go_at_call 7; (with_reducible refine (crosswaylaw14_alive.calls k  true _ A5.out).mono ?_); rintro e w66 ⟨rfl, hb⟩; have n0_ := Aside0.mk (below_step (by repeat (first | (with_reducible first | exact HB.out | apply below_alloc | apply pw_below_drewN | apply below_drew1) | exact HB.out)) hb); clear HB; have HB := n0_; clear n0_; (try clear hb); (try clear hb2); (try clear hk); (try clear hi)) | (go_at_call 16; (with_reducible refine (halves_Trim.calls _ _ l0 a1 a2 t423 t424 _ ?side1 ?side2 A9.out).mono ?_); (case side1 => repeat (first | exact (Kd.C_below HR0.out HB.out) | (with_reducible refine Kd.C_alloc ?_ _) | (with_reducible refine Kd.C_drewN ?_ _) | (with_reducible refine Kd.C_drew ?_))); (case side2 => exact HC0.out); rintro e w67 ⟨v425, rfl, ho0, hb⟩; have n0_ := Aside0.mk (Kd.R_lower ho0 (below_size (by repeat (first | (with_reducible first | exact HB.out | apply below_alloc | apply pw_below_drewN | apply below_drew1) | exact HB.out)))); have n1_ := Aside0.mk (below_step (by repeat (first | (with_reducible first | exact HB.out | apply below_alloc | apply pw_below_drewN | apply below_drew1) | exact HB.out)) hb); clear HB; have HO426 := n0_; have HB := n1_; clear n0_ n1_; (try clear hb); (try clear hb2); (try clear hk); (try clear hi); (try clear ho0))); try go_wp2_with (first | (go_at_call 7; (with_reducible refine (crosswaylaw14_alive.calls k  true _ A5.out).mono ?_); rintro e w66 ⟨rfl, hb⟩; have n0_ := Aside0.mk (below_step (by repeat (first | (with_reducible first | exact HB.out | apply below_alloc | apply pw_below_drewN | apply below_drew1) | exact HB.out)) hb); clear HB; have HB := n0_; clear n0_; (try clear hb); (try clear hb2); (try clear hk); (try clear hi)) | (go_at_call 16; (with_reducible refine (halves_Trim.calls _ _ l0 a1 a2 t423 t424 _ ?side1 ?side2 A9.out).mono ?_); (case side1 => repeat (first | exact (Kd.C_below HR0.out HB.out) | (with_reducible refine Kd.C_alloc ?_ _) | (with_reducible refine Kd.C_drewN ?_ _) | (with_reducible refine Kd.C_drew ?_))); (case side2 => exact HC0.out); rintro e w67 ⟨v425, rfl, ho0, hb⟩; have n0_ := Aside0.mk (Kd.R_lower ho0 (below_size (by repeat (first | (with_reducible first | exact HB.out | apply below_alloc | apply pw_below_drewN | apply below_drew1) | exact HB.out)))); have n1_ := Aside0.mk (below_step (by repeat (first | (with_reducible first | exact HB.out | apply below_alloc | apply pw_below_drewN | apply below_drew1) | exact HB.out)) hb); clear HB; have HO426 := n0_; have HB := n1_; clear n0_ n1_; (try clear hb); (try clear hb2); (try clear hk); (try clear hi); (try clear ho0))))
          go_ret
          exact ⟨by first | rfl | (simp [errW_none, errW_some] <;> rfl) | (simp [*, errW_none, errW_some] <;> rfl), by repeat (first | (with_reducible first | exact HB.out | apply below_alloc | apply pw_below_drewN | apply below_drew1) | exact HB.out)⟩
  · replace c6 := Bool.eq_false_iff.mpr c6
    subst c6
    have H1 : (some false) = some r := by rw [if_neg (show ¬ (false = true) by decide)] at H; exact H
    clear H
    have H := H1
    clear H1
    obtain rfl := Option.some.inj H
    go_enter Try.func6, Try.ntmps6
    go_wp2_with (first | (go_at_call 7; (with_reducible refine (crosswaylaw14_alive.calls k  false _ A5.out).mono ?_); rintro e w68 ⟨rfl, hb⟩; have n0_ := Aside0.mk (below_step (by repeat (first | (with_reducible first | exact HB.out | apply below_alloc | apply pw_below_drewN | apply below_drew1) | exact HB.out)) hb); clear HB; have HB := n0_; clear n0_; (try clear hb); (try clear hb2); (try clear hk); (try clear hi)))
    repeat (go_quiet (first | (go_at_call 7; (with_reducible refine (crosswaylaw14_alive.calls k  false _ A5.out).mono ?_); rintro e w68 ⟨rfl, hb⟩; have n0_ := Aside0.mk (below_step (by repeat (first | (with_reducible first | exact HB.out | apply below_alloc | apply pw_below_drewN | apply below_drew1) | exact HB.out)) hb); clear HB; have HB := n0_; clear n0_; (try clear hb); (try clear hb2); (try clear hk); (try clear hi))); try go_wp2_with (first | (go_at_call 7; (with_reducible refine (crosswaylaw14_alive.calls k  false _ A5.out).mono ?_); rintro e w68 ⟨rfl, hb⟩; have n0_ := Aside0.mk (below_step (by repeat (first | (with_reducible first | exact HB.out | apply below_alloc | apply pw_below_drewN | apply below_drew1) | exact HB.out)) hb); clear HB; have HB := n0_; clear n0_; (try clear hb); (try clear hb2); (try clear hk); (try clear hi))))
    go_ret
    exact ⟨by first | rfl | (simp [errW_none, errW_some] <;> rfl) | (simp [*, errW_none, errW_some] <;> rfl), by repeat (first | (with_reducible first | exact HB.out | apply below_alloc | apply pw_below_drewN | apply below_drew1) | exact HB.out)⟩

/-- The one pure statement of crosswaylaw14_HalvesBits. -/
def crosswaylaw14_HalvesBits.Pure : Prop := ∀ (l0 : List Int) (a1 : Int) (a2 : Bool) (a3 : Int), l0.length ≤ maxLen → (∀ x ∈ l0, (Lit.int .u8 x).wf = true) → (Lit.int .i64 a1).wf = true → (Lit.int .u8 a3).wf = true → ∃ k, crosswaylaw14_HalvesBits.f k l0 a1 a2 a3 = some true

end Go.Proofs.Ytbiiccgheblhpac.M
