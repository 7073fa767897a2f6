/- Contracts of the Go functions that the laws reach, each as a plain Lean function: written by xprint.py, a program of this repo. -/
import Derived.Test.YtnmhnihhlakinacM0
import Derived.Test.YtnmhnihhlakinacM4
import Derived.Test.YtnmhnihhlakinacM5
import Derived.Test.YtnmhnihhlakinacM6
import Derived.Test.YtnmhnihhlakinacM8
import Derived.Test.YtnmhnihhlakinacM10
import Derived.Test.YtnmhnihhlakinacM11
namespace Go.Proofs.Ytnmhnihhlakinac.M
open Go.RowKit Go.Proofs.YtnmhnihhlakinacW.PrintWords Go.Proofs.YtnmhnihhlakinacW.PrintLast Go.Proofs.YtnmhnihhlakinacW.PrintMore Go.Proofs.Ytnmhnihhlakinac.X
attribute [local go_sem] max2_int min2_int max_two min_two max_three min_three max_four min_four   -- for this text's walks alone
set_option linter.unusedVariables false
set_option linter.unusedSimpArgs false

/-! ### crosswaylaw13_OfferMakes: function 3 -/
def crosswaylaw13_OfferMakes.j0 : Nat → List Int → Int → List Int → List Int → List Int → Bool → Option (Bool)
  | 0, _, _, _, _, _, _ => none
  | k + 1, x0, x1, x2, x3, x4, x39 => if x39 = true then (some true) else ((some (([] : List Int) : List Int)).bind fun y272 => (if y272.length + x4.length < 35184372088832 then ((some (y272 ++ x4 : List Int)).bind fun y275 => ((offer_Make.f k x1 x2 x3 y275).bind fun bt278 => ((crosswayref13_Make.f k x1 x2 x3 x4).bind fun bt282 => ((offer_Answer.f k x0 x1 y275).bind fun bt286 => ((crosswayref13_Answer.f k x0 x1 x4).bind fun bt290 => (if bt278.2 = bt282.2 then ((crosswayref00_SameBytes.f k bt278.1 bt282.1).bind fun t294 => (if t294 = true then (if bt286.2 = bt290.2 then ((crosswayref00_SameBytes.f k bt286.1 bt290.1).bind fun t295 => (if t295 = true then ((crosswaylaw13_same.f k y275 x4).bind fun t296 => (some t296)) else (none))) else (none)) else (none))) else (none))))))) else (none)))
def crosswaylaw13_OfferMakes.f (k : Nat) (l0 : List Int) (a1 : Int) (l2 : List Int) (l3 : List Int) (l4 : List Int) : Option (Bool) := (crosswaylaw13_alive.f k).bind fun t271 => (if t271 = true then (if (l0.length : Int) > 3000 then (crosswaylaw13_OfferMakes.j0 k l0 a1 l2 l3 l4 true) else (if (l2.length : Int) > 400 then (crosswaylaw13_OfferMakes.j0 k l0 a1 l2 l3 l4 true) else (if (l3.length : Int) > 400 then (crosswaylaw13_OfferMakes.j0 k l0 a1 l2 l3 l4 true) else (crosswaylaw13_OfferMakes.j0 k l0 a1 l2 l3 l4 (decide ((l4.length : Int) > 200)))))) else (none))
theorem crosswaylaw13_OfferMakes.mono_l : ∀ k, (∀ y0 y1 y2 y3 y4 y5, LeO (crosswaylaw13_OfferMakes.j0 k y0 y1 y2 y3 y4 y5) (crosswaylaw13_OfferMakes.j0 (k + 1) y0 y1 y2 y3 y4 y5))
  | 0 => fun _ _ _ _ _ _ r h => by simp [crosswaylaw13_OfferMakes.j0] at h
  | k + 1 => by
    have ih0 := crosswaylaw13_OfferMakes.mono_l k
    · intro y0 y1 y2 y3 y4 y5
      unfold crosswaylaw13_OfferMakes.j0
      repeat' first
      | (with_reducible exact ih0 _ _ _ _ _ _)
      | (with_reducible exact crosswaylaw13_alive.mono _)
      | (with_reducible exact crosswaylaw13_same.mono _ _ _)
      | (with_reducible exact crosswayref00_SameBytes.mono _ _ _)
      | (with_reducible exact crosswayref13_Answer.mono _ _ _ _)
      | (with_reducible exact crosswayref13_Make.mono _ _ _ _ _)
      | (with_reducible exact offer_Answer.mono _ _ _ _)
      | (with_reducible exact offer_Make.mono _ _ _ _ _)
      | (with_reducible exact LeO.refl _)
      | (with_reducible exact LeO.none _)
      | (with_reducible refine LeO.ite ?_ ?_)
      | (with_reducible refine LeO.bind ?_ (fun _ => ?_))
      | exact ih0 _ _ _ _ _ _
      | exact crosswaylaw13_alive.mono _
      | exact crosswaylaw13_same.mono _ _ _
      | exact crosswayref00_SameBytes.mono _ _ _
      | exact crosswayref13_Answer.mono _ _ _ _
      | exact crosswayref13_Make.mono _ _ _ _ _
      | exact offer_Answer.mono _ _ _ _
      | exact offer_Make.mono _ _ _ _ _
      | exact LeO.none _
      | refine LeO.ite ?_ ?_
      | refine LeO.bind ?_ (fun _ => ?_)
theorem crosswaylaw13_OfferMakes.mono : ∀ a0 a1 a2 a3 a4 k, LeO (crosswaylaw13_OfferMakes.f k a0 a1 a2 a3 a4) (crosswaylaw13_OfferMakes.f (k + 1) a0 a1 a2 a3 a4) := by
  intro a0 a1 a2 a3 a4 k
  have ih0 := crosswaylaw13_OfferMakes.mono_l k
  unfold crosswaylaw13_OfferMakes.f
  repeat' first
      | (with_reducible exact ih0 _ _ _ _ _ _)
      | (with_reducible exact crosswaylaw13_alive.mono _)
      | (with_reducible exact crosswaylaw13_same.mono _ _ _)
      | (with_reducible exact crosswayref00_SameBytes.mono _ _ _)
      | (with_reducible exact crosswayref13_Answer.mono _ _ _ _)
      | (with_reducible exact crosswayref13_Make.mono _ _ _ _ _)
      | (with_reducible exact offer_Answer.mono _ _ _ _)
      | (with_reducible exact offer_Make.mono _ _ _ _ _)
      | (with_reducible exact LeO.refl _)
      | (with_reducible exact LeO.none _)
      | (with_reducible refine LeO.ite ?_ ?_)
      | (with_reducible refine LeO.bind ?_ (fun _ => ?_))
      | exact ih0 _ _ _ _ _ _
      | exact crosswaylaw13_alive.mono _
      | exact crosswaylaw13_same.mono _ _ _
      | exact crosswayref00_SameBytes.mono _ _ _
      | exact crosswayref13_Answer.mono _ _ _ _
      | exact crosswayref13_Make.mono _ _ _ _ _
      | exact offer_Answer.mono _ _ _ _
      | exact offer_Make.mono _ _ _ _ _
      | exact LeO.none _
      | refine LeO.ite ?_ ?_
      | refine LeO.bind ?_ (fun _ => ?_)
set_option maxHeartbeats 8000000 in
set_option maxRecDepth 100000 in
theorem crosswaylaw13_OfferMakes.calls (k : Nat) (A0 : Option Addr) (c0 : Nat) (l0 : List Int) (a1 : Int) (A2 : Option Addr) (c2 : Nat) (l2 : List Int) (A3 : Option Addr) (c3 : Nat) (l3 : List Int) (A4 : Option Addr) (c4 : Nat) (l4 : List Int) (r : Bool) (w : World) (hr0 : Kd.C (Kd.int .u8) w A0 l0.length l0) (hc0 : l0.length ≤ c0) (hr2 : Kd.C (Kd.int .u8) w A2 l2.length l2) (hc2 : l2.length ≤ c2) (hr3 : Kd.C (Kd.int .u8) w A3 l3.length l3) (hc3 : l3.length ≤ c3) (hr4 : Kd.C (Kd.int .u32) w A4 l4.length l4) (hc4 : l4.length ≤ c4) (h : crosswaylaw13_OfferMakes.f k l0 a1 l2 l3 l4 = some r) :
    Calls Try.prog 3 #[.slice A0 l0.length c0, .int .u8 a1, .slice A2 l2.length c2, .slice A3 l3.length c3, .slice A4 l4.length c4] w fun e w' => e = .returned (.bool r) ∧ Below w.heap.size w w' := by
  have HR0 := Aside0.mk hr0
  have HC0 := Aside0.mk hc0
  clear hr0 hc0
  have HR2 := Aside0.mk hr2
  have HC2 := Aside0.mk hc2
  clear hr2 hc2
  have HR3 := Aside0.mk hr3
  have HC3 := Aside0.mk hc3
  clear hr3 hc3
  have HR4 := Aside0.mk hr4
  have HC4 := Aside0.mk hc4
  clear hr4 hc4
  have HB := Aside0.mk (Below.refl w.heap.size w)
  have H : ((crosswaylaw13_alive.f k).bind fun t271 => (if t271 = true then (if (l0.length : Int) > 3000 then (crosswaylaw13_OfferMakes.j0 k l0 a1 l2 l3 l4 true) else (if (l2.length : Int) > 400 then (crosswaylaw13_OfferMakes.j0 k l0 a1 l2 l3 l4 true) else (if (l3.length : Int) > 400 then (crosswaylaw13_OfferMakes.j0 k l0 a1 l2 l3 l4 true) else (crosswaylaw13_OfferMakes.j0 k l0 a1 l2 l3 l4 (decide ((l4.length : Int) > 200)))))) else (none))) = some r := h
  clear h
  replace H := Option.bind_eq_some_iff.mp H
  obtain ⟨t271, A60, H⟩ := H
  replace H : (if t271 = true then (if (l0.length : Int) > 3000 then (crosswaylaw13_OfferMakes.j0 k l0 a1 l2 l3 l4 true) else (if (l2.length : Int) > 400 then (crosswaylaw13_OfferMakes.j0 k l0 a1 l2 l3 l4 true) else (if (l3.length : Int) > 400 then (crosswaylaw13_OfferMakes.j0 k l0 a1 l2 l3 l4 true) else (crosswaylaw13_OfferMakes.j0 k l0 a1 l2 l3 l4 (decide ((l4.length : Int) > 200)))))) else (none)) = some r := H
  have A6 := Aside0.mk A60
  clear A60
  by_cases c7 : t271 = true
  · subst c7
    have H1 : (if (l0.length : Int) > 3000 then (crosswaylaw13_OfferMakes.j0 k l0 a1 l2 l3 l4 true) else (if (l2.length : Int) > 400 then (crosswaylaw13_OfferMakes.j0 k l0 a1 l2 l3 l4 true) else (if (l3.length : Int) > 400 then (crosswaylaw13_OfferMakes.j0 k l0 a1 l2 l3 l4 true) else (crosswaylaw13_OfferMakes.j0 k l0 a1 l2 l3 l4 (decide ((l4.length : Int) > 200)))))) = some r := by rw [if_pos rfl] at H; exact H
    clear H
    have H := H1
    clear H1
    have HC8 := Aside0.mk H
    clear H
    go_enter Try.func3, Try.ntmps3
    go_upto_region 3 with (first | ((with_reducible refine gate_callee (f := 7) rfl ?_); refine goesL_ (some 20) rfl rfl Try.func7 (by kernel_rfl) rfl #[] rfl (by (try simp only [List.map_toArray, List.map_cons, List.map_nil]); first | done | rfl | (simp only [List.length_drop, List.length_take]; rfl)) ?_; (with_reducible refine (crosswaylaw13_alive.calls k  true _ A6.out).mono ?_); rintro e w9 ⟨rfl, hb⟩; refine ⟨_, rfl, ?_⟩; have n0_ := Aside0.mk (below_step (by repeat (first | (with_reducible first | exact HB.out | apply below_alloc | apply pw_below_drewN | apply below_drew1) | exact HB.out)) hb); clear HB; have HB := n0_; clear n0_; (try clear hb); (try clear hb2); (try clear hk); (try clear hi)))
    (try simp only [Act.put, List.setIfInBounds_toArray, List.set_cons_zero, List.set_cons_succ])
    go_cut [39] (fun v39 wc => ∃ (kq : Nat) (x39_7 : Bool), v39 = .bool x39_7 ∧ Aside0 (crosswaylaw13_OfferMakes.j0 kq l0 a1 l2 l3 l4 x39_7 = some r) ∧ Aside0 (kq ≤ k) ∧ Aside0 (Below w.heap.size w wc))
    case first =>
      have H := HC8.out
      clear HC8
      by_cases c10 : (l0.length : Int) > 3000
      · rw [if_pos c10] at H
        have c10b0 : decide (3000 < (l0.length : Int)) = true := decide_eq_true c10
        have c10b1 : decide (3000 < l0.length) = true := decide_eq_true (by omega)
        clear c10
        (first | rw [c10b0] | (simp only [i64_w, i32_w]; rw [c10b0]) | skip)
        have H' := Aside0.mk H
        clear H
        go_wp2
        go_meet
        case rel => exact ⟨_, (true), (by first | rfl | (simp; done) | (simp [*]; done) | (simp only [i64_w]; done) | (simp [i64_w]; done)), H', ⟨by first | omega | exact Nat.le_refl _⟩, ⟨by repeat (first | (with_reducible first | exact HB.out | apply below_alloc | apply pw_below_drewN | apply below_drew1) | exact HB.out)⟩⟩
      · rw [if_neg c10] at H
        have c10b0 : decide (3000 < (l0.length : Int)) = false := decide_eq_false c10
        have c10b1 : decide (3000 < l0.length) = false := decide_eq_false (by omega)
        clear c10
        (first | rw [c10b0] | (simp only [i64_w, i32_w]; rw [c10b0]) | skip)
        by_cases c11 : (l2.length : Int) > 400
        · rw [if_pos c11] at H
          have c11b0 : decide (400 < (l2.length : Int)) = true := decide_eq_true c11
          have c11b1 : decide (400 < l2.length) = true := decide_eq_true (by omega)
          clear c11
          have H' := Aside0.mk H
          clear H
          go_wp2
          go_meet
          case rel => exact ⟨_, (true), (by first | rfl | (simp; done) | (simp [*]; done) | (simp only [i64_w]; done) | (simp [i64_w]; done)), H', ⟨by first | omega | exact Nat.le_refl _⟩, ⟨by repeat (first | (with_reducible first | exact HB.out | apply below_alloc | apply pw_below_drewN | apply below_drew1) | exact HB.out)⟩⟩
        · rw [if_neg c11] at H
          have c11b0 : decide (400 < (l2.length : Int)) = false := decide_eq_false c11
          have c11b1 : decide (400 < l2.length) = false := decide_eq_false (by omega)
          clear c11
          by_cases c12 : (l3.length : Int) > 400
          · rw [if_pos c12] at H
            have c12b0 : decide (400 < (l3.length : Int)) = true := decide_eq_true c12
            have c12b1 : decide (400 < l3.length) = true := decide_eq_true (by omega)
            clear c12
            have H' := Aside0.mk H
            clear H
            go_wp2
            go_meet
            case rel => exact ⟨_, (true), (by first | rfl | (simp; done) | (simp [*]; done) | (simp only [i64_w]; done) | (simp [i64_w]; done)), H', ⟨by first | omega | exact Nat.le_refl _⟩, ⟨by repeat (first | (with_reducible first | exact HB.out | apply below_alloc | apply pw_below_drewN | apply below_drew1) | exact HB.out)⟩⟩
          · rw [if_neg c12] at H
            have c12b0 : decide (400 < (l3.length : Int)) = false := decide_eq_false c12
            have c12b1 : decide (400 < l3.length) = false := decide_eq_false (by omega)
            clear c12
            have H' := Aside0.mk H
            clear H
            go_wp2
            go_meet
            case rel => exact ⟨_, (decide ((l4.length : Int) > 200)), (by first | rfl | (simp; done) | (simp [*]; done) | (simp only [i64_w]; done) | (simp [i64_w]; done)), H', ⟨by first | omega | exact Nat.le_refl _⟩, ⟨by repeat (first | (with_reducible first | exact HB.out | apply below_alloc | apply pw_below_drewN | apply below_drew1) | exact HB.out)⟩⟩
    case rest =>
      clear HC8
      try clear c1
      try clear c2
      try clear p2
      try clear c3
      try clear c4
      try clear c7
      try clear c10
      try clear c10b0
      try clear c10b1
      try clear c11
      try clear c11b0
      try clear c11b1
      try clear c12
      try clear c12b0
      try clear c12b1
      obtain ⟨kq, x39_7, rfl, HA, HJ7, HB⟩ := hcut
      cases kq with
      | zero => exact absurd HA.out (by simp [crosswaylaw13_OfferMakes.j0])
      | succ kj7 =>
        have H := HA.out
        clear HA
        simp only [crosswaylaw13_OfferMakes.j0] at H
        by_cases c13 : x39_7 = true
        · subst c13
          have H1 : (some true) = some r := by rw [if_pos rfl] at H; exact H
          clear H
          have H := H1
          clear H1
          obtain rfl := Option.some.inj H
          go_wp2
          go_ret
          exact ⟨by first | rfl | (simp [errW_none, errW_some] <;> rfl) | (simp [*, errW_none, errW_some] <;> rfl), by repeat (first | (with_reducible first | exact HB.out | apply below_alloc | apply pw_below_drewN | apply below_drew1) | exact HB.out)⟩
        · replace c13 := Bool.eq_false_iff.mpr c13
          subst c13
          have H1 : ((some (([] : List Int) : List Int)).bind fun y272 => (if y272.length + l4.length < 35184372088832 then ((some (y272 ++ l4 : List Int)).bind fun y275 => ((offer_Make.f kj7 a1 l2 l3 y275).bind fun bt278 => ((crosswayref13_Make.f kj7 a1 l2 l3 l4).bind fun bt282 => ((offer_Answer.f kj7 l0 a1 y275).bind fun bt286 => ((crosswayref13_Answer.f kj7 l0 a1 l4).bind fun bt290 => (if bt278.2 = bt282.2 then ((crosswayref00_SameBytes.f kj7 bt278.1 bt282.1).bind fun t294 => (if t294 = true then (if bt286.2 = bt290.2 then ((crosswayref00_SameBytes.f kj7 bt286.1 bt290.1).bind fun t295 => (if t295 = true then ((crosswaylaw13_same.f kj7 y275 l4).bind fun t296 => (some t296)) else (none))) else (none)) else (none))) else (none))))))) else (none))) = some r := by rw [if_neg (show ¬ (false = true) by decide)] at H; exact H
          clear H
          have H := H1
          clear H1
          obtain ⟨y272, hy272⟩ : ∃ y_ : List Int, y_ = (([] : List Int)) := ⟨_, rfl⟩
          replace H : (if y272.length + l4.length < 35184372088832 then ((some (y272 ++ l4 : List Int)).bind fun y275 => ((offer_Make.f kj7 a1 l2 l3 y275).bind fun bt278 => ((crosswayref13_Make.f kj7 a1 l2 l3 l4).bind fun bt282 => ((offer_Answer.f kj7 l0 a1 y275).bind fun bt286 => ((crosswayref13_Answer.f kj7 l0 a1 l4).bind fun bt290 => (if bt278.2 = bt282.2 then ((crosswayref00_SameBytes.f kj7 bt278.1 bt282.1).bind fun t294 => (if t294 = true then (if bt286.2 = bt290.2 then ((crosswayref00_SameBytes.f kj7 bt286.1 bt290.1).bind fun t295 => (if t295 = true then ((crosswaylaw13_same.f kj7 y275 l4).bind fun t296 => (some t296)) else (none))) else (none)) else (none))) else (none))))))) else (none)) = some r := by first | (rw [hy272]; with_reducible exact H) | (have H2_ := (Option.bind_some _ _).symm.trans H; rw [hy272]; with_reducible exact H2_) | (have H2_ := (Option.bind_some _ _).symm.trans H; with_reducible exact H2_) | with_reducible exact H | (rw [hy272]; exact H) | exact H
          have Ny272 := Aside0.mk hy272
          clear hy272
          by_cases c14 : y272.length + l4.length < 35184372088832
          · rw [if_pos c14] at H
            have LMc14 := Aside0.mk c14
            clear c14
            obtain ⟨y275, hy275⟩ : ∃ y_ : List Int, y_ = (y272 ++ l4) := ⟨_, rfl⟩
            replace H : ((offer_Make.f kj7 a1 l2 l3 y275).bind fun bt278 => ((crosswayref13_Make.f kj7 a1 l2 l3 l4).bind fun bt282 => ((offer_Answer.f kj7 l0 a1 y275).bind fun bt286 => ((crosswayref13_Answer.f kj7 l0 a1 l4).bind fun bt290 => (if bt278.2 = bt282.2 then ((crosswayref00_SameBytes.f kj7 bt278.1 bt282.1).bind fun t294 => (if t294 = true then (if bt286.2 = bt290.2 then ((crosswayref00_SameBytes.f kj7 bt286.1 bt290.1).bind fun t295 => (if t295 = true then ((crosswaylaw13_same.f kj7 y275 l4).bind fun t296 => (some t296)) else (none))) else (none)) else (none))) else (none)))))) = some r := by first | (rw [hy275]; with_reducible exact H) | (have H2_ := (Option.bind_some _ _).symm.trans H; rw [hy275]; with_reducible exact H2_) | (have H2_ := (Option.bind_some _ _).symm.trans H; with_reducible exact H2_) | with_reducible exact H | (rw [hy275]; exact H) | exact H
            have Ny275 := Aside0.mk hy275
            clear hy275
            replace H := Option.bind_eq_some_iff.mp H
            obtain ⟨⟨t278, t279⟩, A150, H⟩ := H
            replace H : ((crosswayref13_Make.f kj7 a1 l2 l3 l4).bind fun bt282 => ((offer_Answer.f kj7 l0 a1 y275).bind fun bt286 => ((crosswayref13_Answer.f kj7 l0 a1 l4).bind fun bt290 => (if t279 = bt282.2 then ((crosswayref00_SameBytes.f kj7 t278 bt282.1).bind fun t294 => (if t294 = true then (if bt286.2 = bt290.2 then ((crosswayref00_SameBytes.f kj7 bt286.1 bt290.1).bind fun t295 => (if t295 = true then ((crosswaylaw13_same.f kj7 y275 l4).bind fun t296 => (some t296)) else (none))) else (none)) else (none))) else (none))))) = some r := H
            have A15 := Aside0.mk A150
            clear A150
            replace H := Option.bind_eq_some_iff.mp H
            obtain ⟨⟨t282, t283⟩, A160, H⟩ := H
            replace H : ((offer_Answer.f kj7 l0 a1 y275).bind fun bt286 => ((crosswayref13_Answer.f kj7 l0 a1 l4).bind fun bt290 => (if t279 = t283 then ((crosswayref00_SameBytes.f kj7 t278 t282).bind fun t294 => (if t294 = true then (if bt286.2 = bt290.2 then ((crosswayref00_SameBytes.f kj7 bt286.1 bt290.1).bind fun t295 => (if t295 = true then ((crosswaylaw13_same.f kj7 y275 l4).bind fun t296 => (some t296)) else (none))) else (none)) else (none))) else (none)))) = some r := H
            have A16 := Aside0.mk A160
            clear A160
            replace H := Option.bind_eq_some_iff.mp H
            obtain ⟨⟨t286, t287⟩, A170, H⟩ := H
            replace H : ((crosswayref13_Answer.f kj7 l0 a1 l4).bind fun bt290 => (if t279 = t283 then ((crosswayref00_SameBytes.f kj7 t278 t282).bind fun t294 => (if t294 = true then (if t287 = bt290.2 then ((crosswayref00_SameBytes.f kj7 t286 bt290.1).bind fun t295 => (if t295 = true then ((crosswaylaw13_same.f kj7 y275 l4).bind fun t296 => (some t296)) else (none))) else (none)) else (none))) else (none))) = some r := H
            have A17 := Aside0.mk A170
            clear A170
            replace H := Option.bind_eq_some_iff.mp H
            obtain ⟨⟨t290, t291⟩, A180, H⟩ := H
            replace H : (if t279 = t283 then ((crosswayref00_SameBytes.f kj7 t278 t282).bind fun t294 => (if t294 = true then (if t287 = t291 then ((crosswayref00_SameBytes.f kj7 t286 t290).bind fun t295 => (if t295 = true then ((crosswaylaw13_same.f kj7 y275 l4).bind fun t296 => (some t296)) else (none))) else (none)) else (none))) else (none)) = some r := H
            have A18 := Aside0.mk A180
            clear A180
            by_cases c19 : t279 = t283
            · rw [if_pos c19] at H
              have c19b0 : (t279 == t283) = true := beq_iff_eq.mpr c19
              have c19b1 : (t279 != t283) = false := bne_eq_false_iff_eq.mpr c19
              clear c19
              replace H := Option.bind_eq_some_iff.mp H
              obtain ⟨t294, A200, H⟩ := H
              replace H : (if t294 = true then (if t287 = t291 then ((crosswayref00_SameBytes.f kj7 t286 t290).bind fun t295 => (if t295 = true then ((crosswaylaw13_same.f kj7 y275 l4).bind fun t296 => (some t296)) else (none))) else (none)) else (none)) = some r := H
              have A20 := Aside0.mk A200
              clear A200
              by_cases c21 : t294 = true
              · subst c21
                have H1 : (if t287 = t291 then ((crosswayref00_SameBytes.f kj7 t286 t290).bind fun t295 => (if t295 = true then ((crosswaylaw13_same.f kj7 y275 l4).bind fun t296 => (some t296)) else (none))) else (none)) = some r := by rw [if_pos rfl] at H; exact H
                clear H
                have H := H1
                clear H1
                by_cases c22 : t287 = t291
                · rw [if_pos c22] at H
                  have c22b0 : (t287 == t291) = true := beq_iff_eq.mpr c22
                  have c22b1 : (t287 != t291) = false := bne_eq_false_iff_eq.mpr c22
                  clear c22
                  replace H := Option.bind_eq_some_iff.mp H
                  obtain ⟨t295, A230, H⟩ := H
                  replace H : (if t295 = true then ((crosswaylaw13_same.f kj7 y275 l4).bind fun t296 => (some t296)) else (none)) = some r := H
                  have A23 := Aside0.mk A230
                  clear A230
                  by_cases c24 : t295 = true
                  · subst c24
                    have H1 : ((crosswaylaw13_same.f kj7 y275 l4).bind fun t296 => (some t296)) = some r := by rw [if_pos rfl] at H; exact H
                    clear H
                    have H := H1
                    clear H1
                    replace H := Option.bind_eq_some_iff.mp H
                    obtain ⟨t296, A250, H⟩ := H
                    replace H : (some t296) = some r := H
                    have A25 := Aside0.mk A250
                    clear A250
                    obtain rfl := Option.some.inj H
                    go_wp2_with (first | ((with_reducible refine gate_dst (N := 40) rfl ?_); (try (refine gate_guard (by rfl) ?_; dsimp only)); refine Kd.R_lit (Kd.int .u32) _ 34 ?hg (N := 40) ?hd (xs := ([] : List Int)) (inner := []) (ok := fun _ => True) (okp := fun _ => True) ?hr ?hp (fun _ hk => hk) trivial (Below.refl _ _) (Nat.le_refl _) (by simp) ?_; (case hd => rfl); (case hg => rfl); (case hr => first | (go_simp; done) | (go_simp; rfl)); (case hp => exact (Reps.none _ _)); intro v273 w26 ho27 hb hg_ hnew_; clear hg_ hnew_; (first | rw [← Ny272.out] at ho27 | (simp only [Int.reduceToNat] at ho27; rw [← Ny272.out] at ho27)); have n0_ := Aside0.mk (Kd.R_lower ho27 (below_size (by repeat (first | (with_reducible first | exact HB.out | apply below_alloc | apply pw_below_drewN | apply below_drew1) | exact HB.out)))); have n1_ := Aside0.mk (below_step (by repeat (first | (with_reducible first | exact HB.out | apply below_alloc | apply pw_below_drewN | apply below_drew1) | exact HB.out)) hb); clear HB; have HO274 := n0_; have HB := n1_; clear n0_ n1_; clear hb ho27) | ((with_reducible refine gate_builtin (b := .append) (xs := #[.tmp 40, .tmp 41]) rfl ?_); (try (refine gate_guard (by rfl) ?_; dsimp only)); at_builtin; refine Kd.R_append_rows (Kd.int .u32) (w0 := w) w.heap.size rfl (.tmp 40) (.tmp 41) 23 34 (.int .u32 0) 4 rfl Try.underlying23 info34 rfl (by decide) (by omega) v273 y272 l4 _ _ _ (fun _ => True) (fun _ => False) rfl rfl ?aO ?aR (fun _ _ h => h) (fun _ h => h.elim) ?aF ?aB ?aS ?aL ?_; (case aR => repeat (first | exact (Kd.C_below HR4.out HB.out) | (with_reducible refine Kd.C_alloc ?_ _) | (with_reducible refine Kd.C_drewN ?_ _) | (with_reducible refine Kd.C_drew ?_))); (case aB => exact (by repeat (first | (with_reducible first | exact HB.out | apply below_alloc | apply pw_below_drewN | apply below_drew1) | exact HB.out))); (case aF => exact (fun _ _ => trivial)); (case aO => exact (by (with_reducible repeat (first | apply Kd.R_alloc | apply Kd.R_drewN | apply Kd.R_drew)); exact HO274.out)); (case aS => exact (below_size (by repeat (first | (with_reducible first | exact HB.out | apply below_alloc | apply pw_below_drewN | apply below_drew1) | exact HB.out)))); (case aL => have := LMc14.out; omega); intro v276 w28 ho hb hg hat; rw [← Ny275.out] at ho; have n0_ := Aside0.mk (hb); have n1_ := Aside0.mk (ho); clear HB; clear HO274; have HB := n0_; have HO277 := n1_; clear n0_ n1_; clear ho hb hg hat; obtain ⟨Ao29, co29, eo29⟩ := Kd.R_slice HO277.out; subst eo29) | ((with_reducible refine gate_callee (f := 8) rfl ?_); refine goesL_ (some 48) rfl rfl Try.func8 (by kernel_rfl) rfl #[.int .u8 a1, .slice A2 l2.length c2, .slice A3 l3.length c3, .slice Ao29 y275.length co29] rfl (by (try simp only [List.map_toArray, List.map_cons, List.map_nil]); first | done | rfl | (simp only [List.length_drop, List.length_take]; rfl)) ?_; (with_reducible refine (offer_Make.calls kj7 a1 _ _ l2 _ _ l3 _ _ y275 t278 t279 _ ?side1 ?side2 ?side3 ?side4 ?side5 ?side6 A15.out).mono ?_); (case side1 => repeat (first | exact (Kd.C_below HR2.out HB.out) | (with_reducible refine Kd.C_alloc ?_ _) | (with_reducible refine Kd.C_drewN ?_ _) | (with_reducible refine Kd.C_drew ?_))); (case side2 => exact HC2.out); (case side3 => repeat (first | exact (Kd.C_below HR3.out HB.out) | (with_reducible refine Kd.C_alloc ?_ _) | (with_reducible refine Kd.C_drewN ?_ _) | (with_reducible refine Kd.C_drew ?_))); (case side4 => exact HC3.out); (case side5 => repeat (first | exact (Kd.R_reads' HO277.out).2.2 | (with_reducible refine Kd.C_alloc ?_ _) | (with_reducible refine Kd.C_drewN ?_ _) | (with_reducible refine Kd.C_drew ?_))); (case side6 => exact (Kd.R_reads' HO277.out).2.1); rintro e w30 ⟨v280, rfl, ho0, hb⟩; refine ⟨_, rfl, ?_⟩; have n0_ := Aside0.mk (Kd.R_below (by (with_reducible repeat (first | apply Kd.R_alloc | apply Kd.R_drewN | apply Kd.R_drew)); exact HO277.out) hb); have n1_ := Aside0.mk (Kd.R_lower ho0 (below_size (by repeat (first | (with_reducible first | exact HB.out | apply below_alloc | apply pw_below_drewN | apply below_drew1) | exact HB.out)))); have n2_ := Aside0.mk (below_step (by repeat (first | (with_reducible first | exact HB.out | apply below_alloc | apply pw_below_drewN | apply below_drew1) | exact HB.out)) hb); clear HO277; clear HB; have HO277 := n0_; have HO281 := n1_; have HB := n2_; clear n0_ n1_ n2_; (try clear hb); (try clear hb2); (try clear hk); (try clear hi); (try clear ho0)) | ((with_reducible refine gate_callee (f := 9) rfl ?_); refine goesL_ (some 56) rfl rfl Try.func9 (by kernel_rfl) rfl #[.int .u8 a1, .slice A2 l2.length c2, .slice A3 l3.length c3, .slice A4 l4.length c4] rfl (by (try simp only [List.map_toArray, List.map_cons, List.map_nil]); first | done | rfl | (simp only [List.length_drop, List.length_take]; rfl)) ?_; (with_reducible refine (crosswayref13_Make.calls kj7 a1 _ _ l2 _ _ l3 _ _ l4 t282 t283 _ ?side1 ?side2 ?side3 ?side4 ?side5 ?side6 A16.out).mono ?_); (case side1 => repeat (first | exact (Kd.C_below HR2.out HB.out) | (with_reducible refine Kd.C_alloc ?_ _) | (with_reducible refine Kd.C_drewN ?_ _) | (with_reducible refine Kd.C_drew ?_))); (case side2 => exact HC2.out); (case side3 => repeat (first | exact (Kd.C_below HR3.out HB.out) | (with_reducible refine Kd.C_alloc ?_ _) | (with_reducible refine Kd.C_drewN ?_ _) | (with_reducible refine Kd.C_drew ?_))); (case side4 => exact HC3.out); (case side5 => repeat (first | exact (Kd.C_below HR4.out HB.out) | (with_reducible refine Kd.C_alloc ?_ _) | (with_reducible refine Kd.C_drewN ?_ _) | (with_reducible refine Kd.C_drew ?_))); (case side6 => exact HC4.out); rintro e w31 ⟨v284, rfl, ho0, hb⟩; refine ⟨_, rfl, ?_⟩; have n0_ := Aside0.mk (Kd.R_below (by (with_reducible repeat (first | apply Kd.R_alloc | apply Kd.R_drewN | apply Kd.R_drew)); exact HO277.out) hb); have n1_ := Aside0.mk (Kd.R_elder' (by (with_reducible repeat (first | apply Kd.R_alloc | apply Kd.R_drewN | apply Kd.R_drew)); exact HO281.out) (Kd.R_base ho0) hb); have n2_ := Aside0.mk (Kd.R_lower (Kd.R_new' ho0 (Kd.R_lt (by (with_reducible repeat (first | apply Kd.R_alloc | apply Kd.R_drewN | apply Kd.R_drew)); exact HO281.out))) (below_size (by repeat (first | (with_reducible first | exact HB.out | apply below_alloc | apply pw_below_drewN | apply below_drew1) | exact HB.out)))); have n3_ := Aside0.mk (below_step (by repeat (first | (with_reducible first | exact HB.out | apply below_alloc | apply pw_below_drewN | apply below_drew1) | exact HB.out)) hb); clear HO277; clear HO281; clear HB; have HO277 := n0_; have HO281 := n1_; have HO285 := n2_; have HB := n3_; clear n0_ n1_ n2_ n3_; (try clear hb); (try clear hb2); (try clear hk); (try clear hi); (try clear ho0)) | ((with_reducible refine gate_callee (f := 10) rfl ?_); refine goesL_ (some 63) rfl rfl Try.func10 (by kernel_rfl) rfl #[.slice A0 l0.length c0, .int .u8 a1, .slice Ao29 y275.length co29] rfl (by (try simp only [List.map_toArray, List.map_cons, List.map_nil]); first | done | rfl | (simp only [List.length_drop, List.length_take]; rfl)) ?_; (with_reducible refine (offer_Answer.calls kj7 _ _ l0 a1 _ _ y275 t286 t287 _ ?side1 ?side2 ?side3 ?side4 A17.out).mono ?_); (case side1 => repeat (first | exact (Kd.C_below HR0.out HB.out) | (with_reducible refine Kd.C_alloc ?_ _) | (with_reducible refine Kd.C_drewN ?_ _) | (with_reducible refine Kd.C_drew ?_))); (case side2 => exact HC0.out); (case side3 => repeat (first | exact (Kd.R_reads' HO277.out).2.2 | (with_reducible refine Kd.C_alloc ?_ _) | (with_reducible refine Kd.C_drewN ?_ _) | (with_reducible refine Kd.C_drew ?_))); (case side4 => exact (Kd.R_reads' HO277.out).2.1); rintro e w32 ⟨v288, rfl, ho0, hb⟩; refine ⟨_, rfl, ?_⟩; have n0_ := Aside0.mk (Kd.R_below (by (with_reducible repeat (first | apply Kd.R_alloc | apply Kd.R_drewN | apply Kd.R_drew)); exact HO277.out) hb); have n1_ := Aside0.mk (Kd.R_elder' (by (with_reducible repeat (first | apply Kd.R_alloc | apply Kd.R_drewN | apply Kd.R_drew)); exact HO281.out) (Kd.R_base ho0) hb); have n2_ := Aside0.mk (Kd.R_elder' (by (with_reducible repeat (first | apply Kd.R_alloc | apply Kd.R_drewN | apply Kd.R_drew)); exact HO285.out) (Kd.R_base ho0) hb); have n3_ := Aside0.mk (Kd.R_lower (Kd.R_new' (Kd.R_new' ho0 (Kd.R_lt (by (with_reducible repeat (first | apply Kd.R_alloc | apply Kd.R_drewN | apply Kd.R_drew)); exact HO281.out))) (Kd.R_lt (by (with_reducible repeat (first | apply Kd.R_alloc | apply Kd.R_drewN | apply Kd.R_drew)); exact HO285.out))) (below_size (by repeat (first | (with_reducible first | exact HB.out | apply below_alloc | apply pw_below_drewN | apply below_drew1) | exact HB.out)))); have n4_ := Aside0.mk (below_step (by repeat (first | (with_reducible first | exact HB.out | apply below_alloc | apply pw_below_drewN | apply below_drew1) | exact HB.out)) hb); clear HO277; clear HO281; clear HO285; clear HB; have HO277 := n0_; have HO281 := n1_; have HO285 := n2_; have HO289 := n3_; have HB := n4_; clear n0_ n1_ n2_ n3_ n4_; (try clear hb); (try clear hb2); (try clear hk); (try clear hi); (try clear ho0)) | ((with_reducible refine gate_callee (f := 11) rfl ?_); refine goesL_ (some 70) rfl rfl Try.func11 (by kernel_rfl) rfl #[.slice A0 l0.length c0, .int .u8 a1, .slice A4 l4.length c4] rfl (by (try simp only [List.map_toArray, List.map_cons, List.map_nil]); first | done | rfl | (simp only [List.length_drop, List.length_take]; rfl)) ?_; (with_reducible refine (crosswayref13_Answer.calls kj7 _ _ l0 a1 _ _ l4 t290 t291 _ ?side1 ?side2 ?side3 ?side4 A18.out).mono ?_); (case side1 => repeat (first | exact (Kd.C_below HR0.out HB.out) | (with_reducible refine Kd.C_alloc ?_ _) | (with_reducible refine Kd.C_drewN ?_ _) | (with_reducible refine Kd.C_drew ?_))); (case side2 => exact HC0.out); (case side3 => repeat (first | exact (Kd.C_below HR4.out HB.out) | (with_reducible refine Kd.C_alloc ?_ _) | (with_reducible refine Kd.C_drewN ?_ _) | (with_reducible refine Kd.C_drew ?_))); (case side4 => exact HC4.out); rintro e w33 ⟨v292, rfl, ho0, hb⟩; refine ⟨_, rfl, ?_⟩; have n0_ := Aside0.mk (Kd.R_below (by (with_reducible repeat (first | apply Kd.R_alloc | apply Kd.R_drewN | apply Kd.R_drew)); exact HO277.out) hb); have n1_ := Aside0.mk (Kd.R_elder' (by (with_reducible repeat (first | apply Kd.R_alloc | apply Kd.R_drewN | apply Kd.R_drew)); exact HO281.out) (Kd.R_base ho0) hb); have n2_ := Aside0.mk (Kd.R_elder' (by (with_reducible repeat (first | apply Kd.R_alloc | apply Kd.R_drewN | apply Kd.R_drew)); exact HO285.out) (Kd.R_base ho0) hb); have n3_ := Aside0.mk (Kd.R_elder' (by (with_reducible repeat (first | apply Kd.R_alloc | apply Kd.R_drewN | apply Kd.R_drew)); exact HO289.out) (Kd.R_base ho0) hb); have n4_ := Aside0.mk (Kd.R_lower (Kd.R_new' (Kd.R_new' (Kd.R_new' ho0 (Kd.R_lt (by (with_reducible repeat (first | apply Kd.R_alloc | apply Kd.R_drewN | apply Kd.R_drew)); exact HO281.out))) (Kd.R_lt (by (with_reducible repeat (first | apply Kd.R_alloc | apply Kd.R_drewN | apply Kd.R_drew)); exact HO285.out))) (Kd.R_lt (by (with_reducible repeat (first | apply Kd.R_alloc | apply Kd.R_drewN | apply Kd.R_drew)); exact HO289.out))) (below_size (by repeat (first | (with_reducible first | exact HB.out | apply below_alloc | apply pw_below_drewN | apply below_drew1) | exact HB.out)))); have n5_ := Aside0.mk (below_step (by repeat (first | (with_reducible first | exact HB.out | apply below_alloc | apply pw_below_drewN | apply below_drew1) | exact HB.out)) hb); clear HO277; clear HO281; clear HO285; clear HO289; clear HB; have HO277 := n0_; have HO281 := n1_; have HO285 := n2_; have HO289 := n3_; have HO293 := n4_; have HB := n5_; clear n0_ n1_ n2_ n3_ n4_ n5_; (try clear hb); (try clear hb2); (try clear hk); (try clear hi); (try clear ho0); obtain ⟨Ao34, co34, eo34⟩ := Kd.R_slice HO281.out; subst eo34; obtain ⟨Ao35, co35, eo35⟩ := Kd.R_slice HO285.out; subst eo35) | (go_at_call 12; (with_reducible refine (crosswayref00_SameBytes.calls kj7 _ _ t278 _ _ t282 true _ ?side1 ?side2 ?side3 ?side4 A20.out).mono ?_); (case side1 => repeat (first | exact (Kd.R_reads' HO281.out).2.2 | (with_reducible refine Kd.C_alloc ?_ _) | (with_reducible refine Kd.C_drewN ?_ _) | (with_reducible refine Kd.C_drew ?_))); (case side2 => exact (Kd.R_reads' HO281.out).2.1); (case side3 => repeat (first | exact (Kd.R_reads' HO285.out).2.2 | (with_reducible refine Kd.C_alloc ?_ _) | (with_reducible refine Kd.C_drewN ?_ _) | (with_reducible refine Kd.C_drew ?_))); (case side4 => exact (Kd.R_reads' HO285.out).2.1); rintro e w' ⟨rfl, ⟨nd, rfl⟩⟩; obtain ⟨Ao36, co36, eo36⟩ := Kd.R_slice HO289.out; subst eo36; obtain ⟨Ao37, co37, eo37⟩ := Kd.R_slice HO293.out; subst eo37) | (go_at_call 12; (with_reducible refine (crosswayref00_SameBytes.calls kj7 _ _ t286 _ _ t290 true _ ?side1 ?side2 ?side3 ?side4 A23.out).mono ?_); (case side1 => repeat (first | exact (Kd.R_reads' HO289.out).2.2 | (with_reducible refine Kd.C_alloc ?_ _) | (with_reducible refine Kd.C_drewN ?_ _) | (with_reducible refine Kd.C_drew ?_))); (case side2 => exact (Kd.R_reads' HO289.out).2.1); (case side3 => repeat (first | exact (Kd.R_reads' HO293.out).2.2 | (with_reducible refine Kd.C_alloc ?_ _) | (with_reducible refine Kd.C_drewN ?_ _) | (with_reducible refine Kd.C_drew ?_))); (case side4 => exact (Kd.R_reads' HO293.out).2.1); rintro e w' ⟨rfl, ⟨nd, rfl⟩⟩) | (go_at_call 13; (with_reducible refine (crosswaylaw13_same.calls kj7 _ _ y275 _ _ l4 t296 _ ?side1 ?side2 ?side3 ?side4 A25.out).mono ?_); (case side1 => repeat (first | exact (Kd.R_reads' HO277.out).2.2 | (with_reducible refine Kd.C_alloc ?_ _) | (with_reducible refine Kd.C_drewN ?_ _) | (with_reducible refine Kd.C_drew ?_))); (case side2 => exact (Kd.R_reads' HO277.out).2.1); (case side3 => repeat (first | exact (Kd.C_below HR4.out (by repeat (first | (with_reducible first | exact HB.out | apply below_alloc | apply pw_below_drewN | apply below_drew1) | exact HB.out))) | (with_reducible refine Kd.C_alloc ?_ _) | (with_reducible refine Kd.C_drewN ?_ _) | (with_reducible refine Kd.C_drew ?_))); (case side4 => exact HC4.out); rintro e w' ⟨rfl, ⟨nd, rfl⟩⟩))
                    go_ret
                    exact ⟨by first | rfl | (simp [errW_none, errW_some] <;> rfl) | (simp [*, errW_none, errW_some] <;> rfl), by repeat (first | (with_reducible first | exact HB.out | apply below_alloc | apply pw_below_drewN | apply below_drew1) | exact HB.out)⟩
                  · replace c24 := Bool.eq_false_iff.mpr c24
                    subst c24
                    have H1 : (none) = some r := by rw [if_neg (show ¬ (false = true) by decide)] at H; exact H
                    clear H
                    have H := H1
                    clear H1
                    exact absurd H (by simp)
                · rw [if_neg c22] at H
                  exact absurd H (by simp)
              · replace c21 := Bool.eq_false_iff.mpr c21
                subst c21
                have H1 : (none) = some r := by rw [if_neg (show ¬ (false = true) by decide)] at H; exact H
                clear H
                have H := H1
                clear H1
                exact absurd H (by simp)
            · rw [if_neg c19] at H
              exact absurd H (by simp)
          · rw [if_neg c14] at H
            exact absurd H (by simp)
  · replace c7 := Bool.eq_false_iff.mpr c7
    subst c7
    have H1 : (none) = some r := by rw [if_neg (show ¬ (false = true) by decide)] at H; exact H
    clear H
    have H := H1
    clear H1
    exact absurd H (by simp)

/-- The one pure statement of crosswaylaw13_OfferMakes. -/
def crosswaylaw13_OfferMakes.Pure : Prop := ∀ (l0 : List Int) (a1 : Int) (l2 : List Int) (l3 : List Int) (l4 : List Int), l0.length ≤ maxLen → (∀ x ∈ l0, (Lit.int .u8 x).wf = true) → (Lit.int .u8 a1).wf = true → l2.length ≤ maxLen → (∀ x ∈ l2, (Lit.int .u8 x).wf = true) → l3.length ≤ maxLen → (∀ x ∈ l3, (Lit.int .u8 x).wf = true) → l4.length ≤ maxLen → (∀ x ∈ l4, (Lit.int .u32 x).wf = true) → ∃ k, crosswaylaw13_OfferMakes.f k l0 a1 l2 l3 l4 = some true

end Go.Proofs.Ytnmhnihhlakinac.M
