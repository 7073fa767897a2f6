/- Contracts of the Go functions that the laws reach, each as a plain Lean function: written by xprint.py, a program of this repo. -/
import Derived.Test.YtnmhnihhlakinacM0
import Derived.Test.YtnmhnihhlakinacM4
import Derived.Test.YtnmhnihhlakinacM5
import Derived.Test.YtnmhnihhlakinacM6
import Derived.Test.YtnmhnihhlakinacM7
import Derived.Test.YtnmhnihhlakinacM8
import Derived.Test.YtnmhnihhlakinacM11
namespace Go.Proofs.Ytnmhnihhlakinac.M
open Go.RowKit Go.Proofs.YtnmhnihhlakinacW.PrintWords Go.Proofs.YtnmhnihhlakinacW.PrintLast Go.Proofs.YtnmhnihhlakinacW.PrintMore Go.Proofs.Ytnmhnihhlakinac.X
attribute [local go_sem] max2_int min2_int max_two min_two max_three min_three max_four min_four   -- for this text's walks alone
set_option linter.unusedVariables false
set_option linter.unusedSimpArgs false

/-! ### crosswaylaw13_OfferBack: function 5 -/
mutual
def crosswaylaw13_OfferBack.j0 : Nat → Int → List Int → List Int → List Int → Bool → Option (Bool)
  | 0, _, _, _, _, _ => none
  | k + 1, x0, x1, x2, x3, x38 => if x38 = true then (some true) else ((offer_Make.f k x0 x1 x2 x3).bind fun bt392 => ((offer_Parse.f k bt392.1).bind fun bt396 => (if bt392.2 = 0 then (if bt396.2.2.2.2.2 = 0 then ((crosswayref00_SameBytes.f k bt396.2.2.1 x1).bind fun t409 => (if t409 = true then ((crosswayref00_SameBytes.f k bt396.2.2.2.1 x2).bind fun t410 => (if t410 = true then ((crosswaylaw13_same.f k bt396.2.2.2.2.1 x3).bind fun t411 => (if t411 = true then (if (Go.bits .and .u8 bt396.1 127) = (Go.bits .and .u8 x0 127) then ((head_Long.f bt392.1).bind fun t412 => (if t412 = true then (crosswaylaw13_OfferBack.l0 k x0 x3 bt392.1 0) else (none))) else (none)) else (none))) else (none))) else (none))) else (none)) else (none))))
def crosswaylaw13_OfferBack.l0 : Nat → Int → List Int → List Int → Int → Option (Bool)
  | 0, _, _, _, _ => none
  | k + 1, x0, x3, x9, x14 => if x14 < (x3.length : Int) then (if 0 ≤ x14 then ((offer_Has.f k x9 (rd x3 x14)).bind fun t414 => (if t414 = true then (crosswaylaw13_OfferBack.l0 k x0 x3 x9 (wrap64 (x14 + 1))) else (none))) else (none)) else ((offer_Answer.f k x9 x0 x3).bind fun bt415 => ((offer_Answer.f k bt415.1 x0 x3).bind fun bt419 => (if bt415.2 = 0 then (if bt419.2 = 0 then ((crosswayref00_SameBytes.f k bt419.1 x9).bind fun t423 => (if t423 = true then (some ((bt415.1.length : Int) == (x9.length : Int))) else (none))) else (none)) else (none))))
end
def crosswaylaw13_OfferBack.f (k : Nat) (a0 : Int) (l1 : List Int) (l2 : List Int) (l3 : List Int) : Option (Bool) := (crosswaylaw13_alive.f k).bind fun t391 => (if t391 = true then (if (l1.length : Int) > 255 then (crosswaylaw13_OfferBack.j0 k a0 l1 l2 l3 true) else (if (l2.length : Int) > 255 then (crosswaylaw13_OfferBack.j0 k a0 l1 l2 l3 true) else (if (l3.length : Int) < 1 then (crosswaylaw13_OfferBack.j0 k a0 l1 l2 l3 true) else (crosswaylaw13_OfferBack.j0 k a0 l1 l2 l3 (decide ((l3.length : Int) > 64)))))) else (none))
theorem crosswaylaw13_OfferBack.mono_l : ∀ k, (∀ y0 y1 y2 y3 y4, LeO (crosswaylaw13_OfferBack.j0 k y0 y1 y2 y3 y4) (crosswaylaw13_OfferBack.j0 (k + 1) y0 y1 y2 y3 y4)) ∧ (∀ y0 y1 y2 y3, LeO (crosswaylaw13_OfferBack.l0 k y0 y1 y2 y3) (crosswaylaw13_OfferBack.l0 (k + 1) y0 y1 y2 y3))
  | 0 => ⟨fun _ _ _ _ _ r h => by simp [crosswaylaw13_OfferBack.j0] at h, fun _ _ _ _ r h => by simp [crosswaylaw13_OfferBack.l0] at h⟩
  | k + 1 => by
    obtain ⟨ih0, ih1⟩ := crosswaylaw13_OfferBack.mono_l k
    refine ⟨?_, ?_⟩
    · intro y0 y1 y2 y3 y4
      unfold crosswaylaw13_OfferBack.j0
      repeat' first
      | (with_reducible exact ih0 _ _ _ _ _)
      | (with_reducible exact ih1 _ _ _ _)
      | (with_reducible exact crosswaylaw13_alive.mono _)
      | (with_reducible exact crosswaylaw13_same.mono _ _ _)
      | (with_reducible exact crosswayref00_SameBytes.mono _ _ _)
      | (with_reducible exact offer_Answer.mono _ _ _ _)
      | (with_reducible exact offer_Has.mono _ _ _)
      | (with_reducible exact offer_Make.mono _ _ _ _ _)
      | (with_reducible exact offer_Parse.mono _ _)
      | (with_reducible exact LeO.refl _)
      | (with_reducible exact LeO.none _)
      | (with_reducible refine LeO.ite ?_ ?_)
      | (with_reducible refine LeO.bind ?_ (fun _ => ?_))
      | exact ih0 _ _ _ _ _
      | exact ih1 _ _ _ _
      | exact crosswaylaw13_alive.mono _
      | exact crosswaylaw13_same.mono _ _ _
      | exact crosswayref00_SameBytes.mono _ _ _
      | exact offer_Answer.mono _ _ _ _
      | exact offer_Has.mono _ _ _
      | exact offer_Make.mono _ _ _ _ _
      | exact offer_Parse.mono _ _
      | exact LeO.none _
      | refine LeO.ite ?_ ?_
      | refine LeO.bind ?_ (fun _ => ?_)
    · intro y0 y1 y2 y3
      unfold crosswaylaw13_OfferBack.l0
      repeat' first
      | (with_reducible exact ih0 _ _ _ _ _)
      | (with_reducible exact ih1 _ _ _ _)
      | (with_reducible exact crosswaylaw13_alive.mono _)
      | (with_reducible exact crosswaylaw13_same.mono _ _ _)
      | (with_reducible exact crosswayref00_SameBytes.mono _ _ _)
      | (with_reducible exact offer_Answer.mono _ _ _ _)
      | (with_reducible exact offer_Has.mono _ _ _)
      | (with_reducible exact offer_Make.mono _ _ _ _ _)
      | (with_reducible exact offer_Parse.mono _ _)
      | (with_reducible exact LeO.refl _)
      | (with_reducible exact LeO.none _)
      | (with_reducible refine LeO.ite ?_ ?_)
      | (with_reducible refine LeO.bind ?_ (fun _ => ?_))
      | exact ih0 _ _ _ _ _
      | exact ih1 _ _ _ _
      | exact crosswaylaw13_alive.mono _
      | exact crosswaylaw13_same.mono _ _ _
      | exact crosswayref00_SameBytes.mono _ _ _
      | exact offer_Answer.mono _ _ _ _
      | exact offer_Has.mono _ _ _
      | exact offer_Make.mono _ _ _ _ _
      | exact offer_Parse.mono _ _
      | exact LeO.none _
      | refine LeO.ite ?_ ?_
      | refine LeO.bind ?_ (fun _ => ?_)
theorem crosswaylaw13_OfferBack.mono : ∀ a0 a1 a2 a3 k, LeO (crosswaylaw13_OfferBack.f k a0 a1 a2 a3) (crosswaylaw13_OfferBack.f (k + 1) a0 a1 a2 a3) := by
  intro a0 a1 a2 a3 k
  obtain ⟨ih0, ih1⟩ := crosswaylaw13_OfferBack.mono_l k
  unfold crosswaylaw13_OfferBack.f
  repeat' first
      | (with_reducible exact ih0 _ _ _ _ _)
      | (with_reducible exact ih1 _ _ _ _)
      | (with_reducible exact crosswaylaw13_alive.mono _)
      | (with_reducible exact crosswaylaw13_same.mono _ _ _)
      | (with_reducible exact crosswayref00_SameBytes.mono _ _ _)
      | (with_reducible exact offer_Answer.mono _ _ _ _)
      | (with_reducible exact offer_Has.mono _ _ _)
      | (with_reducible exact offer_Make.mono _ _ _ _ _)
      | (with_reducible exact offer_Parse.mono _ _)
      | (with_reducible exact LeO.refl _)
      | (with_reducible exact LeO.none _)
      | (with_reducible refine LeO.ite ?_ ?_)
      | (with_reducible refine LeO.bind ?_ (fun _ => ?_))
      | exact ih0 _ _ _ _ _
      | exact ih1 _ _ _ _
      | exact crosswaylaw13_alive.mono _
      | exact crosswaylaw13_same.mono _ _ _
      | exact crosswayref00_SameBytes.mono _ _ _
      | exact offer_Answer.mono _ _ _ _
      | exact offer_Has.mono _ _ _
      | exact offer_Make.mono _ _ _ _ _
      | exact offer_Parse.mono _ _
      | exact LeO.none _
      | refine LeO.ite ?_ ?_
      | refine LeO.bind ?_ (fun _ => ?_)
set_option maxHeartbeats 8000000 in
set_option maxRecDepth 100000 in
theorem crosswaylaw13_OfferBack.calls (k : Nat) (a0 : Int) (A1 : Option Addr) (c1 : Nat) (l1 : List Int) (A2 : Option Addr) (c2 : Nat) (l2 : List Int) (A3 : Option Addr) (c3 : Nat) (l3 : List Int) (r : Bool) (w : World) (hr1 : Kd.C (Kd.int .u8) w A1 l1.length l1) (hc1 : l1.length ≤ c1) (hr2 : Kd.C (Kd.int .u8) w A2 l2.length l2) (hc2 : l2.length ≤ c2) (hr3 : Kd.C (Kd.int .u32) w A3 l3.length l3) (hc3 : l3.length ≤ c3) (h : crosswaylaw13_OfferBack.f k a0 l1 l2 l3 = some r) :
    Calls Try.prog 5 #[.int .u8 a0, .slice A1 l1.length c1, .slice A2 l2.length c2, .slice A3 l3.length c3] w fun e w' => e = .returned (.bool r) ∧ Below w.heap.size w w' := by
  have hu37 := Try.underlying37
  have HR1 := Aside0.mk hr1
  have HC1 := Aside0.mk hc1
  clear hr1 hc1
  have HR2 := Aside0.mk hr2
  have HC2 := Aside0.mk hc2
  clear hr2 hc2
  have HR3 := Aside0.mk hr3
  have HC3 := Aside0.mk hc3
  clear hr3 hc3
  have HB := Aside0.mk (Below.refl w.heap.size w)
  have H : ((crosswaylaw13_alive.f k).bind fun t391 => (if t391 = true then (if (l1.length : Int) > 255 then (crosswaylaw13_OfferBack.j0 k a0 l1 l2 l3 true) else (if (l2.length : Int) > 255 then (crosswaylaw13_OfferBack.j0 k a0 l1 l2 l3 true) else (if (l3.length : Int) < 1 then (crosswaylaw13_OfferBack.j0 k a0 l1 l2 l3 true) else (crosswaylaw13_OfferBack.j0 k a0 l1 l2 l3 (decide ((l3.length : Int) > 64)))))) else (none))) = some r := h
  clear h
  replace H := Option.bind_eq_some_iff.mp H
  obtain ⟨t391, A50, H⟩ := H
  replace H : (if t391 = true then (if (l1.length : Int) > 255 then (crosswaylaw13_OfferBack.j0 k a0 l1 l2 l3 true) else (if (l2.length : Int) > 255 then (crosswaylaw13_OfferBack.j0 k a0 l1 l2 l3 true) else (if (l3.length : Int) < 1 then (crosswaylaw13_OfferBack.j0 k a0 l1 l2 l3 true) else (crosswaylaw13_OfferBack.j0 k a0 l1 l2 l3 (decide ((l3.length : Int) > 64)))))) else (none)) = some r := H
  have A5 := Aside0.mk A50
  clear A50
  by_cases c6 : t391 = true
  · subst c6
    have H1 : (if (l1.length : Int) > 255 then (crosswaylaw13_OfferBack.j0 k a0 l1 l2 l3 true) else (if (l2.length : Int) > 255 then (crosswaylaw13_OfferBack.j0 k a0 l1 l2 l3 true) else (if (l3.length : Int) < 1 then (crosswaylaw13_OfferBack.j0 k a0 l1 l2 l3 true) else (crosswaylaw13_OfferBack.j0 k a0 l1 l2 l3 (decide ((l3.length : Int) > 64)))))) = some r := by rw [if_pos rfl] at H; exact H
    clear H
    have H := H1
    clear H1
    have HC7 := Aside0.mk H
    clear H
    go_enter Try.func5, Try.ntmps5
    go_upto_region 3 with (first | ((with_reducible refine gate_callee (f := 7) rfl ?_); refine goesL_ (some 19) rfl rfl Try.func7 (by kernel_rfl) rfl #[] rfl (by (try simp only [List.map_toArray, List.map_cons, List.map_nil]); first | done | rfl | (simp only [List.length_drop, List.length_take]; rfl)) ?_; (with_reducible refine (crosswaylaw13_alive.calls k  true _ A5.out).mono ?_); rintro e w8 ⟨rfl, hb⟩; refine ⟨_, rfl, ?_⟩; have n0_ := Aside0.mk (below_step (by repeat (first | (with_reducible first | exact HB.out | apply below_alloc | apply pw_below_drewN | apply below_drew1) | exact HB.out)) hb); clear HB; have HB := n0_; clear n0_; (try clear hb); (try clear hb2); (try clear hk); (try clear hi)))
    (try simp only [Act.put, List.setIfInBounds_toArray, List.set_cons_zero, List.set_cons_succ])
    go_cut [38] (fun v38 wc => ∃ (kq : Nat) (x38_6 : Bool), v38 = .bool x38_6 ∧ Aside0 (crosswaylaw13_OfferBack.j0 kq a0 l1 l2 l3 x38_6 = some r) ∧ Aside0 (kq ≤ k) ∧ Aside0 (Below w.heap.size w wc))
    case first =>
      have H := HC7.out
      clear HC7
      by_cases c9 : (l1.length : Int) > 255
      · rw [if_pos c9] at H
        have c9b0 : decide (255 < (l1.length : Int)) = true := decide_eq_true c9
        have c9b1 : decide (255 < l1.length) = true := decide_eq_true (by omega)
        clear c9
        (first | rw [c9b0] | (simp only [i64_w, i32_w]; rw [c9b0]) | skip)
        have H' := Aside0.mk H
        clear H
        go_wp2
        go_meet
        case rel => exact ⟨_, (true), (by first | rfl | (simp; done) | (simp [*]; done) | (simp only [i64_w]; done) | (simp [i64_w]; done)), H', ⟨by first | omega | exact Nat.le_refl _⟩, ⟨by repeat (first | (with_reducible first | exact HB.out | apply below_alloc | apply pw_below_drewN | apply below_drew1) | exact HB.out)⟩⟩
      · rw [if_neg c9] at H
        have c9b0 : decide (255 < (l1.length : Int)) = false := decide_eq_false c9
        have c9b1 : decide (255 < l1.length) = false := decide_eq_false (by omega)
        clear c9
        (first | rw [c9b0] | (simp only [i64_w, i32_w]; rw [c9b0]) | skip)
        by_cases c10 : (l2.length : Int) > 255
        · rw [if_pos c10] at H
          have c10b0 : decide (255 < (l2.length : Int)) = true := decide_eq_true c10
          have c10b1 : decide (255 < l2.length) = true := decide_eq_true (by omega)
          clear c10
          have H' := Aside0.mk H
          clear H
          go_wp2
          go_meet
          case rel => exact ⟨_, (true), (by first | rfl | (simp; done) | (simp [*]; done) | (simp only [i64_w]; done) | (simp [i64_w]; done)), H', ⟨by first | omega | exact Nat.le_refl _⟩, ⟨by repeat (first | (with_reducible first | exact HB.out | apply below_alloc | apply pw_below_drewN | apply below_drew1) | exact HB.out)⟩⟩
        · rw [if_neg c10] at H
          have c10b0 : decide (255 < (l2.length : Int)) = false := decide_eq_false c10
          have c10b1 : decide (255 < l2.length) = false := decide_eq_false (by omega)
          clear c10
          by_cases c11 : (l3.length : Int) < 1
          · rw [if_pos c11] at H
            have c11b0 : decide ((l3.length : Int) < 1) = true := decide_eq_true c11
            have c11b1 : decide (l3.length < 1) = true := decide_eq_true (by omega)
            clear c11
            have H' := Aside0.mk H
            clear H
            go_wp2
            go_meet
            case rel => exact ⟨_, (true), (by first | rfl | (simp; done) | (simp [*]; done) | (simp only [i64_w]; done) | (simp [i64_w]; done)), H', ⟨by first | omega | exact Nat.le_refl _⟩, ⟨by repeat (first | (with_reducible first | exact HB.out | apply below_alloc | apply pw_below_drewN | apply below_drew1) | exact HB.out)⟩⟩
          · rw [if_neg c11] at H
            have c11b0 : decide ((l3.length : Int) < 1) = false := decide_eq_false c11
            have c11b1 : decide (l3.length < 1) = false := decide_eq_false (by omega)
            clear c11
            have H' := Aside0.mk H
            clear H
            go_wp2
            go_meet
            case rel => exact ⟨_, (decide ((l3.length : Int) > 64)), (by first | rfl | (simp; done) | (simp [*]; done) | (simp only [i64_w]; done) | (simp [i64_w]; done)), H', ⟨by first | omega | exact Nat.le_refl _⟩, ⟨by repeat (first | (with_reducible first | exact HB.out | apply below_alloc | apply pw_below_drewN | apply below_drew1) | exact HB.out)⟩⟩
    case rest =>
      clear HC7
      try clear c1
      try clear c2
      try clear p2
      try clear c3
      try clear c5
      try clear c6
      try clear c7
      try clear c9
      try clear c9b0
      try clear c9b1
      try clear c10
      try clear c10b0
      try clear c10b1
      try clear c11
      try clear c11b0
      try clear c11b1
      obtain ⟨kq, x38_6, rfl, HA, HJ6, HB⟩ := hcut
      cases kq with
      | zero => exact absurd HA.out (by simp [crosswaylaw13_OfferBack.j0])
      | succ kj6 =>
        have H := HA.out
        clear HA
        simp only [crosswaylaw13_OfferBack.j0] at H
        by_cases c12 : x38_6 = true
        · subst c12
          have H1 : (some true) = some r := by rw [if_pos rfl] at H; exact H
          clear H
          have H := H1
          clear H1
          obtain rfl := Option.some.inj H
          go_wp2
          go_ret
          exact ⟨by first | rfl | (simp [errW_none, errW_some] <;> rfl) | (simp [*, errW_none, errW_some] <;> rfl), by repeat (first | (with_reducible first | exact HB.out | apply below_alloc | apply pw_below_drewN | apply below_drew1) | exact HB.out)⟩
        · replace c12 := Bool.eq_false_iff.mpr c12
          subst c12
          have H1 : ((offer_Make.f kj6 a0 l1 l2 l3).bind fun bt392 => ((offer_Parse.f kj6 bt392.1).bind fun bt396 => (if bt392.2 = 0 then (if bt396.2.2.2.2.2 = 0 then ((crosswayref00_SameBytes.f kj6 bt396.2.2.1 l1).bind fun t409 => (if t409 = true then ((crosswayref00_SameBytes.f kj6 bt396.2.2.2.1 l2).bind fun t410 => (if t410 = true then ((crosswaylaw13_same.f kj6 bt396.2.2.2.2.1 l3).bind fun t411 => (if t411 = true then (if (Go.bits .and .u8 bt396.1 127) = (Go.bits .and .u8 a0 127) then ((head_Long.f bt392.1).bind fun t412 => (if t412 = true then (crosswaylaw13_OfferBack.l0 kj6 a0 l3 bt392.1 0) else (none))) else (none)) else (none))) else (none))) else (none))) else (none)) else (none)))) = some r := by rw [if_neg (show ¬ (false = true) by decide)] at H; exact H
          clear H
          have H := H1
          clear H1
          replace H := Option.bind_eq_some_iff.mp H
          obtain ⟨⟨t392, t393⟩, A130, H⟩ := H
          replace H : ((offer_Parse.f kj6 t392).bind fun bt396 => (if t393 = 0 then (if bt396.2.2.2.2.2 = 0 then ((crosswayref00_SameBytes.f kj6 bt396.2.2.1 l1).bind fun t409 => (if t409 = true then ((crosswayref00_SameBytes.f kj6 bt396.2.2.2.1 l2).bind fun t410 => (if t410 = true then ((crosswaylaw13_same.f kj6 bt396.2.2.2.2.1 l3).bind fun t411 => (if t411 = true then (if (Go.bits .and .u8 bt396.1 127) = (Go.bits .and .u8 a0 127) then ((head_Long.f t392).bind fun t412 => (if t412 = true then (crosswaylaw13_OfferBack.l0 kj6 a0 l3 t392 0) else (none))) else (none)) else (none))) else (none))) else (none))) else (none)) else (none))) = some r := H
          have A13 := Aside0.mk A130
          clear A130
          replace H := Option.bind_eq_some_iff.mp H
          obtain ⟨⟨t396, t397, t398, t401, t404, t407⟩, A140, H⟩ := H
          replace H : (if t393 = 0 then (if t407 = 0 then ((crosswayref00_SameBytes.f kj6 t398 l1).bind fun t409 => (if t409 = true then ((crosswayref00_SameBytes.f kj6 t401 l2).bind fun t410 => (if t410 = true then ((crosswaylaw13_same.f kj6 t404 l3).bind fun t411 => (if t411 = true then (if (Go.bits .and .u8 t396 127) = (Go.bits .and .u8 a0 127) then ((head_Long.f t392).bind fun t412 => (if t412 = true then (crosswaylaw13_OfferBack.l0 kj6 a0 l3 t392 0) else (none))) else (none)) else (none))) else (none))) else (none))) else (none)) else (none)) = some r := H
          have A14 := Aside0.mk A140
          clear A140
          by_cases c15 : t393 = 0
          · rw [if_pos c15] at H
            have c15b0 : (t393 == 0) = true := beq_iff_eq.mpr c15
            have c15b1 : (t393 != 0) = false := bne_eq_false_iff_eq.mpr c15
            clear c15
            by_cases c16 : t407 = 0
            · rw [if_pos c16] at H
              have c16b0 : (t407 == 0) = true := beq_iff_eq.mpr c16
              have c16b1 : (t407 != 0) = false := bne_eq_false_iff_eq.mpr c16
              clear c16
              replace H := Option.bind_eq_some_iff.mp H
              obtain ⟨t409, A170, H⟩ := H
              replace H : (if t409 = true then ((crosswayref00_SameBytes.f kj6 t401 l2).bind fun t410 => (if t410 = true then ((crosswaylaw13_same.f kj6 t404 l3).bind fun t411 => (if t411 = true then (if (Go.bits .and .u8 t396 127) = (Go.bits .and .u8 a0 127) then ((head_Long.f t392).bind fun t412 => (if t412 = true then (crosswaylaw13_OfferBack.l0 kj6 a0 l3 t392 0) else (none))) else (none)) else (none))) else (none))) else (none)) = some r := H
              have A17 := Aside0.mk A170
              clear A170
              by_cases c18 : t409 = true
              · subst c18
                have H1 : ((crosswayref00_SameBytes.f kj6 t401 l2).bind fun t410 => (if t410 = true then ((crosswaylaw13_same.f kj6 t404 l3).bind fun t411 => (if t411 = true then (if (Go.bits .and .u8 t396 127) = (Go.bits .and .u8 a0 127) then ((head_Long.f t392).bind fun t412 => (if t412 = true then (crosswaylaw13_OfferBack.l0 kj6 a0 l3 t392 0) else (none))) else (none)) else (none))) else (none))) = some r := by rw [if_pos rfl] at H; exact H
                clear H
                have H := H1
                clear H1
                replace H := Option.bind_eq_some_iff.mp H
                obtain ⟨t410, A190, H⟩ := H
                replace H : (if t410 = true then ((crosswaylaw13_same.f kj6 t404 l3).bind fun t411 => (if t411 = true then (if (Go.bits .and .u8 t396 127) = (Go.bits .and .u8 a0 127) then ((head_Long.f t392).bind fun t412 => (if t412 = true then (crosswaylaw13_OfferBack.l0 kj6 a0 l3 t392 0) else (none))) else (none)) else (none))) else (none)) = some r := H
                have A19 := Aside0.mk A190
                clear A190
                by_cases c20 : t410 = true
                · subst c20
                  have H1 : ((crosswaylaw13_same.f kj6 t404 l3).bind fun t411 => (if t411 = true then (if (Go.bits .and .u8 t396 127) = (Go.bits .and .u8 a0 127) then ((head_Long.f t392).bind fun t412 => (if t412 = true then (crosswaylaw13_OfferBack.l0 kj6 a0 l3 t392 0) else (none))) else (none)) else (none))) = some r := by rw [if_pos rfl] at H; exact H
                  clear H
                  have H := H1
                  clear H1
                  replace H := Option.bind_eq_some_iff.mp H
                  obtain ⟨t411, A210, H⟩ := H
                  replace H : (if t411 = true then (if (Go.bits .and .u8 t396 127) = (Go.bits .and .u8 a0 127) then ((head_Long.f t392).bind fun t412 => (if t412 = true then (crosswaylaw13_OfferBack.l0 kj6 a0 l3 t392 0) else (none))) else (none)) else (none)) = some r := H
                  have A21 := Aside0.mk A210
                  clear A210
                  by_cases c22 : t411 = true
                  · subst c22
                    have H1 : (if (Go.bits .and .u8 t396 127) = (Go.bits .and .u8 a0 127) then ((head_Long.f t392).bind fun t412 => (if t412 = true then (crosswaylaw13_OfferBack.l0 kj6 a0 l3 t392 0) else (none))) else (none)) = some r := by rw [if_pos rfl] at H; exact H
                    clear H
                    have H := H1
                    clear H1
                    by_cases c23 : (Go.bits .and .u8 t396 127) = (Go.bits .and .u8 a0 127)
                    · rw [if_pos c23] at H
                      have c23b0 : ((Go.bits .and .u8 t396 127) == (Go.bits .and .u8 a0 127)) = true := beq_iff_eq.mpr c23
                      have c23b1 : ((Go.bits .and .u8 t396 127) != (Go.bits .and .u8 a0 127)) = false := bne_eq_false_iff_eq.mpr c23
                      clear c23
                      replace H := Option.bind_eq_some_iff.mp H
                      obtain ⟨t412, A240, H⟩ := H
                      replace H : (if t412 = true then (crosswaylaw13_OfferBack.l0 kj6 a0 l3 t392 0) else (none)) = some r := H
                      have A24 := Aside0.mk A240
                      clear A240
                      by_cases c25 : t412 = true
                      · subst c25
                        have H1 : (crosswaylaw13_OfferBack.l0 kj6 a0 l3 t392 0) = some r := by rw [if_pos rfl] at H; exact H
                        clear H
                        have H := H1
                        clear H1
                        have H' := Aside0.mk H
                        clear H
                        go_wp2_with (first | ((with_reducible refine gate_callee (f := 8) rfl ?_); refine goesL_ (some 44) rfl rfl Try.func8 (by kernel_rfl) rfl #[.int .u8 a0, .slice A1 l1.length c1, .slice A2 l2.length c2, .slice A3 l3.length c3] rfl (by (try simp only [List.map_toArray, List.map_cons, List.map_nil]); first | done | rfl | (simp only [List.length_drop, List.length_take]; rfl)) ?_; (with_reducible refine (offer_Make.calls kj6 a0 _ _ l1 _ _ l2 _ _ l3 t392 t393 _ ?side1 ?side2 ?side3 ?side4 ?side5 ?side6 A13.out).mono ?_); (case side1 => repeat (first | exact (Kd.C_below HR1.out HB.out) | (with_reducible refine Kd.C_alloc ?_ _) | (with_reducible refine Kd.C_drewN ?_ _) | (with_reducible refine Kd.C_drew ?_))); (case side2 => exact HC1.out); (case side3 => repeat (first | exact (Kd.C_below HR2.out HB.out) | (with_reducible refine Kd.C_alloc ?_ _) | (with_reducible refine Kd.C_drewN ?_ _) | (with_reducible refine Kd.C_drew ?_))); (case side4 => exact HC2.out); (case side5 => repeat (first | exact (Kd.C_below HR3.out HB.out) | (with_reducible refine Kd.C_alloc ?_ _) | (with_reducible refine Kd.C_drewN ?_ _) | (with_reducible refine Kd.C_drew ?_))); (case side6 => exact HC3.out); rintro e w26 ⟨v394, rfl, ho0, hb⟩; refine ⟨_, rfl, ?_⟩; have n0_ := Aside0.mk (Kd.R_lower ho0 (below_size (by repeat (first | (with_reducible first | exact HB.out | apply below_alloc | apply pw_below_drewN | apply below_drew1) | exact HB.out)))); have n1_ := Aside0.mk (below_step (by repeat (first | (with_reducible first | exact HB.out | apply below_alloc | apply pw_below_drewN | apply below_drew1) | exact HB.out)) hb); clear HB; have HO395 := n0_; have HB := n1_; clear n0_ n1_; (try clear hb); (try clear hb2); (try clear hk); (try clear hi); (try clear ho0); obtain ⟨Ao27, co27, eo27⟩ := Kd.R_slice HO395.out; subst eo27) | ((with_reducible refine gate_callee (f := 15) rfl ?_); refine goesL_ (some 49) rfl rfl Try.func15 (by kernel_rfl) rfl #[.slice Ao27 t392.length co27] rfl (by (try simp only [List.map_toArray, List.map_cons, List.map_nil]); first | done | rfl | (simp only [List.length_drop, List.length_take]; rfl)) ?_; (with_reducible refine (offer_Parse.calls kj6 _ _ t392 t396 t397 t398 t401 t404 t407 _ ?side1 ?side2 A14.out).mono ?_); (case side1 => repeat (first | exact (Kd.R_reads' HO395.out).2.2 | (with_reducible refine Kd.C_alloc ?_ _) | (with_reducible refine Kd.C_drewN ?_ _) | (with_reducible refine Kd.C_drew ?_))); (case side2 => exact (Kd.R_reads' HO395.out).2.1); rintro e w28 ⟨v399, v402, v405, rfl, ho0, ho1, ho2, hb⟩; refine ⟨_, rfl, ?_⟩; have n0_ := Aside0.mk (Kd.R_mono (Kd.R_told (Kd.R_told (Kd.R_old (by (with_reducible repeat (first | apply Kd.R_alloc | apply Kd.R_drewN | apply Kd.R_drew)); exact HO395.out) hb) (Kd.R_base ho0)) (Kd.R_base ho1)) (fun _ h_ => h_.1)); have n1_ := Aside0.mk (Kd.R_lower (Kd.R_new' ho0 (Kd.R_lt (by (with_reducible repeat (first | apply Kd.R_alloc | apply Kd.R_drewN | apply Kd.R_drew)); exact HO395.out))) (below_size (by repeat (first | (with_reducible first | exact HB.out | apply below_alloc | apply pw_below_drewN | apply below_drew1) | exact HB.out)))); have n2_ := Aside0.mk (Kd.R_lower (Kd.R_new' ho1 (Kd.R_lt (by (with_reducible repeat (first | apply Kd.R_alloc | apply Kd.R_drewN | apply Kd.R_drew)); exact HO395.out))) (below_size (by repeat (first | (with_reducible first | exact HB.out | apply below_alloc | apply pw_below_drewN | apply below_drew1) | exact HB.out)))); have n3_ := Aside0.mk (Kd.R_lower ho2 (below_size (by repeat (first | (with_reducible first | exact HB.out | apply below_alloc | apply pw_below_drewN | apply below_drew1) | exact HB.out)))); have n4_ := Aside0.mk (below_step (by repeat (first | (with_reducible first | exact HB.out | apply below_alloc | apply pw_below_drewN | apply below_drew1) | exact HB.out)) hb); clear HO395; clear HB; have HO395 := n0_; have HO400 := n1_; have HO403 := n2_; have HO406 := n3_; have HB := n4_; clear n0_ n1_ n2_ n3_ n4_; (try clear hb); (try clear hb2); (try clear hk); (try clear hi); (try clear ho0); (try clear ho1); (try clear ho2)) | ((with_reducible refine gate_dst (N := 11) rfl ?_); (try (refine gate_guard (by rfl) ?_; dsimp only)); refine box_event ?hg (N := 11) ?hd (cs := #[.int .u8 0, .int .u32 0, .slice none 0 0, .slice none 0 0]) (t := 37) ?hr ?_; (case hd => rfl); (case hg => rfl); (case hr => first | (go_simp; done) | (go_simp; rfl)); intro gb408 hg w29 hbox hb; have n0_ := Aside0.mk (Kd.R_below (by (with_reducible repeat (first | apply Kd.R_alloc | apply Kd.R_drewN | apply Kd.R_drew)); exact HO395.out) hb); have n1_ := Aside0.mk (Kd.R_below (by (with_reducible repeat (first | apply Kd.R_alloc | apply Kd.R_drewN | apply Kd.R_drew)); exact HO400.out) hb); have n2_ := Aside0.mk (Kd.R_below (by (with_reducible repeat (first | apply Kd.R_alloc | apply Kd.R_drewN | apply Kd.R_drew)); exact HO403.out) hb); have n3_ := Aside0.mk (Kd.R_below (by (with_reducible repeat (first | apply Kd.R_alloc | apply Kd.R_drewN | apply Kd.R_drew)); exact HO406.out) hb); have n4_ := Aside0.mk (below_step (by repeat (first | (with_reducible first | exact HB.out | apply below_alloc | apply pw_below_drewN | apply below_drew1) | exact HB.out)) hb); have n5_ := Aside0.mk (hbox); have n6_ := Aside0.mk trivial; have n7_ := Aside0.mk ((by rw [hg]; exact (below_size (by repeat (first | (with_reducible first | exact HB.out | apply below_alloc | apply pw_below_drewN | apply below_drew1) | exact HB.out))) : w.heap.size ≤ gb408)); clear HO395; clear HO400; clear HO403; clear HO406; clear HB; have HO395 := n0_; have HO400 := n1_; have HO403 := n2_; have HO406 := n3_; have HB := n4_; have BK408 := n5_; have GW408 := n6_; have GE408 := n7_; clear n0_ n1_ n2_ n3_ n4_ n5_ n6_ n7_; clear hb hbox hg; have hcz30_0 : w29.cell? ⟨gb408, 0, none⟩ = some (.int .u8 0) := (blk_cell BK408.out 0).trans rfl; have hcz30_1 : w29.cell? ⟨gb408, 1, none⟩ = some (.int .u32 0) := (blk_cell BK408.out 1).trans rfl; have hcz30_2 : w29.cell? ⟨gb408, 2, none⟩ = some (.slice none 0 0) := (blk_cell BK408.out 2).trans rfl; have hcz30_3 : w29.cell? ⟨gb408, 3, none⟩ = some (.slice none 0 0) := (blk_cell BK408.out 3).trans rfl; have hfz30_0 := blk_frozen BK408.out 0; have hfz30_1 := blk_frozen BK408.out 1; have hfz30_2 := blk_frozen BK408.out 2; have hfz30_3 := blk_frozen BK408.out 3; obtain ⟨Ao31, co31, eo31⟩ := Kd.R_slice HO400.out; subst eo31; obtain ⟨Ao32, co32, eo32⟩ := Kd.R_slice HO403.out; subst eo32) | (go_at_call 12; (with_reducible refine (crosswayref00_SameBytes.calls kj6 _ _ t398 _ _ l1 true _ ?side1 ?side2 ?side3 ?side4 A17.out).mono ?_); (case side1 => refine (Kd.R_reads' (e := 5) (base := w.heap.size) (ok := fun k_ => (some k_ ≠ (.slice Ao32 t401.length co32 : Value).ownBlock ∧ some k_ ≠ (.slice Ao27 t392.length co27 : Value).ownBlock)) (n := t398.length) (c := co31) ?_).2.2; exact (by (with_reducible repeat (first | apply Kd.R_alloc | apply Kd.R_drewN | apply Kd.R_drew)); exact (Kd.R_mono (Kd.R_far (p := ⟨gb408, 3, none⟩) (Kd.R_far (p := ⟨gb408, 2, none⟩) (Kd.R_far (p := ⟨gb408, 1, none⟩) (Kd.R_far (p := ⟨gb408, 0, none⟩) (Kd.R_types HO400.out BK408.out (by decide)) (fun _ hk => hk.2) (.int .u8 t396)) (fun _ hk => hk.2) (.int .u32 t397)) (fun _ hk => hk.2) (.slice Ao31 t398.length co31)) (fun _ hk => hk.2) (.slice Ao32 t401.length co32)) (fun _ h_ => h_.1)))); (case side2 => exact (Kd.R_reads' HO400.out).2.1); (case side3 => exact Kd.C_below HR1.out (by repeat (first | (with_reducible first | exact HB.out | apply below_alloc | apply pw_below_drewN | apply below_drew1 | refine below_set ?_ GE408.out) | exact HB.out))); (case side4 => exact HC1.out); rintro e w' ⟨rfl, ⟨nd, rfl⟩⟩) | (go_at_call 12; (with_reducible refine (crosswayref00_SameBytes.calls kj6 _ _ t401 _ _ l2 true _ ?side1 ?side2 ?side3 ?side4 A19.out).mono ?_); (case side1 => refine (Kd.R_reads' (e := 5) (base := w.heap.size) (ok := fun k_ => (some k_ ≠ (.slice Ao31 t398.length co31 : Value).ownBlock ∧ some k_ ≠ (.slice Ao27 t392.length co27 : Value).ownBlock)) (n := t401.length) (c := co32) ?_).2.2; exact (by (with_reducible repeat (first | apply Kd.R_alloc | apply Kd.R_drewN | apply Kd.R_drew)); exact (Kd.R_mono (Kd.R_far (p := ⟨gb408, 3, none⟩) (Kd.R_far (p := ⟨gb408, 2, none⟩) (Kd.R_far (p := ⟨gb408, 1, none⟩) (Kd.R_far (p := ⟨gb408, 0, none⟩) (Kd.R_types HO403.out BK408.out (by decide)) (fun _ hk => hk.2) (.int .u8 t396)) (fun _ hk => hk.2) (.int .u32 t397)) (fun _ hk => hk.2) (.slice Ao31 t398.length co31)) (fun _ hk => hk.2) (.slice Ao32 t401.length co32)) (fun _ h_ => h_.1)))); (case side2 => exact (Kd.R_reads' HO403.out).2.1); (case side3 => exact Kd.C_below HR2.out (by repeat (first | (with_reducible first | exact HB.out | apply below_alloc | apply pw_below_drewN | apply below_drew1 | refine below_set ?_ GE408.out) | exact HB.out))); (case side4 => exact HC2.out); rintro e w' ⟨rfl, ⟨nd, rfl⟩⟩; obtain ⟨Ao33, co33, eo33⟩ := Kd.R_slice HO406.out; subst eo33) | (go_at_call 13; (with_reducible refine (crosswaylaw13_same.calls kj6 _ _ t404 _ _ l3 true _ ?side1 ?side2 ?side3 ?side4 A21.out).mono ?_); (case side1 => refine (Kd.R_reads' (e := 34) (base := w.heap.size) (ok := fun k_ => True) (n := t404.length) (c := co33) ?_).2.2; exact (by (with_reducible repeat (first | apply Kd.R_alloc | apply Kd.R_drewN | apply Kd.R_drew)); exact (Kd.R_mono (Kd.R_far (p := ⟨gb408, 3, none⟩) (Kd.R_far (p := ⟨gb408, 2, none⟩) (Kd.R_far (p := ⟨gb408, 1, none⟩) (Kd.R_far (p := ⟨gb408, 0, none⟩) (Kd.R_types HO406.out BK408.out (by decide)) (fun _ hk => hk.2) (.int .u8 t396)) (fun _ hk => hk.2) (.int .u32 t397)) (fun _ hk => hk.2) (.slice Ao31 t398.length co31)) (fun _ hk => hk.2) (.slice Ao32 t401.length co32)) (fun _ h_ => h_.1)))); (case side2 => exact (Kd.R_reads' HO406.out).2.1); (case side3 => exact Kd.C_below HR3.out (by repeat (first | (with_reducible first | exact HB.out | apply below_alloc | apply pw_below_drewN | apply below_drew1 | refine below_set ?_ GE408.out) | exact HB.out))); (case side4 => exact HC3.out); rintro e w' ⟨rfl, ⟨nd, rfl⟩⟩) | (go_at_call 21; (with_reducible refine (head_Long.calls _ _ t392 true _ ?side1 ?side2 A24.out).mono ?_); (case side1 => refine (Kd.R_reads' (e := 5) (base := w.heap.size) (ok := fun k_ => ((True ∧ some k_ ≠ (.slice Ao31 t398.length co31 : Value).ownBlock) ∧ some k_ ≠ (.slice Ao32 t401.length co32 : Value).ownBlock)) (n := t392.length) (c := co27) ?_).2.2; exact (by (with_reducible repeat (first | apply Kd.R_alloc | apply Kd.R_drewN | apply Kd.R_drew)); exact (Kd.R_mono (Kd.R_far (p := ⟨gb408, 3, none⟩) (Kd.R_far (p := ⟨gb408, 2, none⟩) (Kd.R_far (p := ⟨gb408, 1, none⟩) (Kd.R_far (p := ⟨gb408, 0, none⟩) (Kd.R_types HO395.out BK408.out (by decide)) (fun _ hk => hk.2) (.int .u8 t396)) (fun _ hk => hk.2) (.int .u32 t397)) (fun _ hk => hk.2) (.slice Ao31 t398.length co31)) (fun _ hk => hk.2) (.slice Ao32 t401.length co32)) (fun _ h_ => h_.1)))); (case side2 => exact (Kd.R_reads' HO395.out).2.1); rintro e w' ⟨rfl, ⟨nd, rfl⟩⟩))
                        go_loopg [14] kj6 (fun kq v14 w' => ∃ (x14_2 : Int), v14 = .int .i64 x14_2 ∧ Aside0 (crosswaylaw13_OfferBack.l0 kq a0 l3 t392 x14_2 = some r) ∧ Aside0 (kq ≤ kj6) ∧ Aside0 (Kd.R (Kd.int .u8) 5 w' w.heap.size (fun k_ => some k_ ≠ ((.slice Ao31 t398.length co31) : Value).ownBlock ∧ some k_ ≠ ((.slice Ao32 t401.length co32) : Value).ownBlock) (.slice Ao27 t392.length co27) t392) ∧ Aside0 (Kd.R (Kd.int .u8) 5 w' w.heap.size (fun k_ => some k_ ≠ ((.slice Ao27 t392.length co27) : Value).ownBlock ∧ some k_ ≠ ((.slice Ao32 t401.length co32) : Value).ownBlock) (.slice Ao31 t398.length co31) t398) ∧ Aside0 (Kd.R (Kd.int .u8) 5 w' w.heap.size (fun k_ => some k_ ≠ ((.slice Ao27 t392.length co27) : Value).ownBlock ∧ some k_ ≠ ((.slice Ao31 t398.length co31) : Value).ownBlock) (.slice Ao32 t401.length co32) t401) ∧ Aside0 (w'.heap[gb408]? = some (.cells #[.int .u8 t396, .int .u32 t397, (.slice Ao31 t398.length co31), (.slice Ao32 t401.length co32)] 37 (0, 0))) ∧ Aside0 (Below w.heap.size w w'))
                        case atStart => exact ⟨(0), (by first | rfl | (simp; done) | (simp [*]; done) | (simp only [i64_w]; done) | (simp [i64_w]; done)), H', ⟨Nat.le_refl _⟩, ⟨by (with_reducible repeat (first | apply Kd.R_alloc | apply Kd.R_drewN | apply Kd.R_drew)); exact Kd.R_mono (Kd.R_far (p := ⟨gb408, 3, none⟩) (Kd.R_far (p := ⟨gb408, 2, none⟩) (Kd.R_far (p := ⟨gb408, 1, none⟩) (Kd.R_far (p := ⟨gb408, 0, none⟩) (Kd.R_types HO395.out BK408.out (by decide)) (fun _ hk => hk.2) (.int .u8 t396)) (fun _ hk => hk.2) (.int .u32 t397)) (fun _ hk => hk.2) (.slice Ao31 t398.length co31)) (fun _ hk => hk.2) (.slice Ao32 t401.length co32)) (fun _ hk => ⟨hk.1.1.2, hk.1.2⟩)⟩, ⟨by (with_reducible repeat (first | apply Kd.R_alloc | apply Kd.R_drewN | apply Kd.R_drew)); exact Kd.R_mono (Kd.R_far (p := ⟨gb408, 3, none⟩) (Kd.R_far (p := ⟨gb408, 2, none⟩) (Kd.R_far (p := ⟨gb408, 1, none⟩) (Kd.R_far (p := ⟨gb408, 0, none⟩) (Kd.R_types HO400.out BK408.out (by decide)) (fun _ hk => hk.2) (.int .u8 t396)) (fun _ hk => hk.2) (.int .u32 t397)) (fun _ hk => hk.2) (.slice Ao31 t398.length co31)) (fun _ hk => hk.2) (.slice Ao32 t401.length co32)) (fun _ hk => ⟨hk.1.2, hk.1.1⟩)⟩, ⟨by (with_reducible repeat (first | apply Kd.R_alloc | apply Kd.R_drewN | apply Kd.R_drew)); exact Kd.R_mono (Kd.R_far (p := ⟨gb408, 3, none⟩) (Kd.R_far (p := ⟨gb408, 2, none⟩) (Kd.R_far (p := ⟨gb408, 1, none⟩) (Kd.R_far (p := ⟨gb408, 0, none⟩) (Kd.R_types HO403.out BK408.out (by decide)) (fun _ hk => hk.2) (.int .u8 t396)) (fun _ hk => hk.2) (.int .u32 t397)) (fun _ hk => hk.2) (.slice Ao31 t398.length co31)) (fun _ hk => hk.2) (.slice Ao32 t401.length co32)) (fun _ hk => ⟨hk.1.2, hk.1.1⟩)⟩, ⟨by (with_reducible repeat (first | refine blk_drewN ?_ _ | refine blk_drew ?_ | refine blk_alloc ?_ _)); refine blk_put (cs := #[.int .u8 t396, .int .u32 t397, .slice Ao31 t398.length co31, .slice none 0 0]) ?_ 3 _ rfl; (with_reducible repeat (first | refine blk_drewN ?_ _ | refine blk_drew ?_ | refine blk_alloc ?_ _)); refine blk_put (cs := #[.int .u8 t396, .int .u32 t397, .slice none 0 0, .slice none 0 0]) ?_ 2 _ rfl; (with_reducible repeat (first | refine blk_drewN ?_ _ | refine blk_drew ?_ | refine blk_alloc ?_ _)); refine blk_put (cs := #[.int .u8 t396, .int .u32 0, .slice none 0 0, .slice none 0 0]) ?_ 1 _ rfl; (with_reducible repeat (first | refine blk_drewN ?_ _ | refine blk_drew ?_ | refine blk_alloc ?_ _)); refine blk_put (cs := #[.int .u8 0, .int .u32 0, .slice none 0 0, .slice none 0 0]) ?_ 0 _ rfl; (with_reducible repeat (first | refine blk_drewN ?_ _ | refine blk_drew ?_ | refine blk_alloc ?_ _)); exact BK408.out⟩, ⟨by repeat (first | (with_reducible first | exact HB.out | apply below_alloc | apply pw_below_drewN | apply below_drew1 | refine below_set ?_ GE408.out) | exact HB.out)⟩⟩
                        case round =>
                          clear H'
                          try clear c1
                          try clear c2
                          try clear p2
                          try clear c3
                          try clear c5
                          try clear c6
                          try clear c7
                          try clear c8
                          try clear c9
                          try clear c9b0
                          try clear c9b1
                          try clear c10
                          try clear c10b0
                          try clear c10b1
                          try clear c11
                          try clear c11b0
                          try clear c11b1
                          try clear c12
                          try clear c15
                          try clear c15b0
                          try clear c15b1
                          try clear c16
                          try clear c16b0
                          try clear c16b1
                          try clear c18
                          try clear c20
                          try clear c22
                          try clear c23
                          try clear c23b0
                          try clear c23b1
                          try clear c25
                          try clear hcz30_0
                          try clear hcz30_1
                          try clear hcz30_2
                          try clear hcz30_3
                          try clear hfz30_0
                          try clear hfz30_1
                          try clear hfz30_2
                          try clear hfz30_3
                          try clear p2
                          obtain ⟨x14_2, rfl, HA, HK2, HO_9, HO_409002, HO_409003, BK408, HB⟩ := hrel
                          cases gk with
                          | zero => exact absurd HA.out (by simp [crosswaylaw13_OfferBack.l0])
                          | succ k2 =>
                            have H := HA.out
                            clear HA
                            simp only [crosswaylaw13_OfferBack.l0] at H
                            by_cases c34 : x14_2 < (l3.length : Int)
                            · rw [if_pos c34] at H
                              have c34b0 : decide (x14_2 < (l3.length : Int)) = true := decide_eq_true c34
                              clear c34
                              by_cases c35 : 0 ≤ x14_2
                              · rw [if_pos c35] at H
                                have c35b0 : decide (0 ≤ x14_2) = true := decide_eq_true c35
                                clear c35
                                replace H := Option.bind_eq_some_iff.mp H
                                obtain ⟨t414, A360, H⟩ := H
                                replace H : (if t414 = true then (crosswaylaw13_OfferBack.l0 k2 a0 l3 t392 (wrap64 (x14_2 + 1))) else (none)) = some r := H
                                have A36 := Aside0.mk A360
                                clear A360
                                by_cases c37 : t414 = true
                                · subst c37
                                  have H1 : (crosswaylaw13_OfferBack.l0 k2 a0 l3 t392 (wrap64 (x14_2 + 1))) = some r := by rw [if_pos rfl] at H; exact H
                                  clear H
                                  have H := H1
                                  clear H1
                                  have H' := Aside0.mk H
                                  clear H
                                  have p413 : 0 ≤ (x14_2 : Int) := of_decide_eq_true (by first | (with_reducible assumption) | assumption)
                                  have q413 : x14_2 < (l3.length : Int) := of_decide_eq_true (by first | (with_reducible assumption) | assumption)
                                  obtain ⟨ad413, e413, hx413_0⟩ := Kd.at_int HR3.out x14_2 p413 q413
                                  cases e413
                                  replace hx413_0 := (HB.out.cell (World.block_lt_of_cell? w _ hx413_0)).trans hx413_0
                                  replace p413 := eq_true p413
                                  replace q413 := eq_true q413
                                  go_wp2_with (first | ((with_reducible refine gate_callee (f := 19) rfl ?_); refine goesL_ (some 103) rfl rfl Try.func19 (by kernel_rfl) rfl #[.slice Ao27 t392.length co27, .int .u32 (rd l3 x14_2)] rfl (by (try simp only [List.map_toArray, List.map_cons, List.map_nil]); first | done | rfl | (simp only [List.length_drop, List.length_take]; rfl)) ?_; (with_reducible refine (offer_Has.calls k2 _ _ t392 (rd l3 x14_2) true _ ?side1 ?side2 A36.out).mono ?_); (case side1 => repeat (first | exact (Kd.R_reads' HO_9.out).2.2 | (with_reducible refine Kd.C_alloc ?_ _) | (with_reducible refine Kd.C_drewN ?_ _) | (with_reducible refine Kd.C_drew ?_))); (case side2 => exact (Kd.R_reads' HO_9.out).2.1); rintro e w38 ⟨rfl, hb⟩; refine ⟨_, rfl, ?_⟩; have n0_ := Aside0.mk (Kd.R_below (by (with_reducible repeat (first | apply Kd.R_alloc | apply Kd.R_drewN | apply Kd.R_drew)); exact HO_9.out) hb); have n1_ := Aside0.mk (Kd.R_below (by (with_reducible repeat (first | apply Kd.R_alloc | apply Kd.R_drewN | apply Kd.R_drew)); exact HO_409002.out) hb); have n2_ := Aside0.mk (Kd.R_below (by (with_reducible repeat (first | apply Kd.R_alloc | apply Kd.R_drewN | apply Kd.R_drew)); exact HO_409003.out) hb); have n3_ := Aside0.mk (blk_below (g := gb408) (o := .cells #[.int .u8 t396, .int .u32 t397, .slice Ao31 t398.length co31, .slice Ao32 t401.length co32] 37 (0, 0)) (by (with_reducible repeat (first | refine blk_drewN ?_ _ | refine blk_drew ?_ | refine blk_alloc ?_ _)); exact BK408.out) hb); have n4_ := Aside0.mk (below_step (by repeat (first | (with_reducible first | exact HB.out | apply below_alloc | apply pw_below_drewN | apply below_drew1 | refine below_set ?_ GE408.out) | exact HB.out)) hb); clear HO_9; clear HO_409002; clear HO_409003; clear BK408; clear HB; have HO_9 := n0_; have HO_409002 := n1_; have HO_409003 := n2_; have BK408 := n3_; have HB := n4_; clear n0_ n1_ n2_ n3_ n4_; (try clear hb); (try clear hb2); (try clear hk); (try clear hi)))
                                  go_roundg k2
                                  case measure => have := HJ6.out; have := HK2.out; omega
                                  case rel => exact ⟨(wrap64 (x14_2 + 1)), (by first | rfl | (simp; done) | (simp [*]; done) | (simp only [i64_w]; done) | (simp [i64_w]; done)), H', ⟨by have := HJ6.out; have := HK2.out; omega⟩, ⟨by (with_reducible repeat (first | apply Kd.R_alloc | apply Kd.R_drewN | apply Kd.R_drew)); exact HO_9.out⟩, ⟨by (with_reducible repeat (first | apply Kd.R_alloc | apply Kd.R_drewN | apply Kd.R_drew)); exact HO_409002.out⟩, ⟨by (with_reducible repeat (first | apply Kd.R_alloc | apply Kd.R_drewN | apply Kd.R_drew)); exact HO_409003.out⟩, ⟨by (with_reducible repeat (first | refine blk_drewN ?_ _ | refine blk_drew ?_ | refine blk_alloc ?_ _)); exact BK408.out⟩, ⟨by repeat (first | (with_reducible first | exact HB.out | apply below_alloc | apply pw_below_drewN | apply below_drew1 | refine below_set ?_ GE408.out) | exact HB.out)⟩⟩
                                · replace c37 := Bool.eq_false_iff.mpr c37
                                  subst c37
                                  have H1 : (none) = some r := by rw [if_neg (show ¬ (false = true) by decide)] at H; exact H
                                  clear H
                                  have H := H1
                                  clear H1
                                  exact absurd H (by simp)
                              · rw [if_neg c35] at H
                                exact absurd H (by simp)
                            · rw [if_neg c34] at H
                              have c34b0 : decide (x14_2 < (l3.length : Int)) = false := decide_eq_false c34
                              clear c34
                              replace H := Option.bind_eq_some_iff.mp H
                              obtain ⟨⟨t415, t416⟩, A390, H⟩ := H
                              replace H : ((offer_Answer.f k2 t415 a0 l3).bind fun bt419 => (if t416 = 0 then (if bt419.2 = 0 then ((crosswayref00_SameBytes.f k2 bt419.1 t392).bind fun t423 => (if t423 = true then (some ((t415.length : Int) == (t392.length : Int))) else (none))) else (none)) else (none))) = some r := H
                              have A39 := Aside0.mk A390
                              clear A390
                              replace H := Option.bind_eq_some_iff.mp H
                              obtain ⟨⟨t419, t420⟩, A400, H⟩ := H
                              replace H : (if t416 = 0 then (if t420 = 0 then ((crosswayref00_SameBytes.f k2 t419 t392).bind fun t423 => (if t423 = true then (some ((t415.length : Int) == (t392.length : Int))) else (none))) else (none)) else (none)) = some r := H
                              have A40 := Aside0.mk A400
                              clear A400
                              by_cases c41 : t416 = 0
                              · rw [if_pos c41] at H
                                have c41b0 : (t416 == 0) = true := beq_iff_eq.mpr c41
                                have c41b1 : (t416 != 0) = false := bne_eq_false_iff_eq.mpr c41
                                clear c41
                                by_cases c42 : t420 = 0
                                · rw [if_pos c42] at H
                                  have c42b0 : (t420 == 0) = true := beq_iff_eq.mpr c42
                                  have c42b1 : (t420 != 0) = false := bne_eq_false_iff_eq.mpr c42
                                  clear c42
                                  replace H := Option.bind_eq_some_iff.mp H
                                  obtain ⟨t423, A430, H⟩ := H
                                  replace H : (if t423 = true then (some ((t415.length : Int) == (t392.length : Int))) else (none)) = some r := H
                                  have A43 := Aside0.mk A430
                                  clear A430
                                  by_cases c44 : t423 = true
                                  · subst c44
                                    have H1 : (some ((t415.length : Int) == (t392.length : Int))) = some r := by rw [if_pos rfl] at H; exact H
                                    clear H
                                    have H := H1
                                    clear H1
                                    obtain rfl := Option.some.inj H
                                    go_wp2_with (first | ((with_reducible refine gate_callee (f := 10) rfl ?_); refine goesL_ (some 109) rfl rfl Try.func10 (by kernel_rfl) rfl #[.slice Ao27 t392.length co27, .int .u8 a0, .slice A3 l3.length c3] rfl (by (try simp only [List.map_toArray, List.map_cons, List.map_nil]); first | done | rfl | (simp only [List.length_drop, List.length_take]; rfl)) ?_; (with_reducible refine (offer_Answer.calls k2 _ _ t392 a0 _ _ l3 t415 t416 _ ?side1 ?side2 ?side3 ?side4 A39.out).mono ?_); (case side1 => repeat (first | exact (Kd.R_reads' HO_9.out).2.2 | (with_reducible refine Kd.C_alloc ?_ _) | (with_reducible refine Kd.C_drewN ?_ _) | (with_reducible refine Kd.C_drew ?_))); (case side2 => exact (Kd.R_reads' HO_9.out).2.1); (case side3 => repeat (first | exact (Kd.C_below HR3.out HB.out) | (with_reducible refine Kd.C_alloc ?_ _) | (with_reducible refine Kd.C_drewN ?_ _) | (with_reducible refine Kd.C_drew ?_))); (case side4 => exact HC3.out); rintro e w45 ⟨v417, rfl, ho0, hb⟩; refine ⟨_, rfl, ?_⟩; have n0_ := Aside0.mk (Kd.R_elder' (by (with_reducible repeat (first | apply Kd.R_alloc | apply Kd.R_drewN | apply Kd.R_drew)); exact HO_9.out) (Kd.R_base ho0) hb); have n1_ := Aside0.mk (Kd.R_elder' (by (with_reducible repeat (first | apply Kd.R_alloc | apply Kd.R_drewN | apply Kd.R_drew)); exact HO_409002.out) (Kd.R_base ho0) hb); have n2_ := Aside0.mk (Kd.R_elder' (by (with_reducible repeat (first | apply Kd.R_alloc | apply Kd.R_drewN | apply Kd.R_drew)); exact HO_409003.out) (Kd.R_base ho0) hb); have n3_ := Aside0.mk (Kd.R_lower (Kd.R_new' (Kd.R_new' (Kd.R_new' ho0 (Kd.R_lt (by (with_reducible repeat (first | apply Kd.R_alloc | apply Kd.R_drewN | apply Kd.R_drew)); exact HO_9.out))) (Kd.R_lt (by (with_reducible repeat (first | apply Kd.R_alloc | apply Kd.R_drewN | apply Kd.R_drew)); exact HO_409002.out))) (Kd.R_lt (by (with_reducible repeat (first | apply Kd.R_alloc | apply Kd.R_drewN | apply Kd.R_drew)); exact HO_409003.out))) (below_size (by repeat (first | (with_reducible first | exact HB.out | apply below_alloc | apply pw_below_drewN | apply below_drew1 | refine below_set ?_ GE408.out) | exact HB.out)))); have n5_ := Aside0.mk (below_step (by repeat (first | (with_reducible first | exact HB.out | apply below_alloc | apply pw_below_drewN | apply below_drew1 | refine below_set ?_ GE408.out) | exact HB.out)) hb); clear HO_9; clear HO_409002; clear HO_409003; clear HB; have HO_9 := n0_; have HO_409002 := n1_; have HO_409003 := n2_; have HO418 := n3_; have HB := n5_; clear n0_ n1_ n2_ n3_ n5_; (try clear hb); (try clear hb2); (try clear hk); (try clear hi); (try clear ho0); obtain ⟨Ao46, co46, eo46⟩ := Kd.R_slice HO418.out; subst eo46) | ((with_reducible refine gate_callee (f := 10) rfl ?_); refine goesL_ (some 116) rfl rfl Try.func10 (by kernel_rfl) rfl #[.slice Ao46 t415.length co46, .int .u8 a0, .slice A3 l3.length c3] rfl (by (try simp only [List.map_toArray, List.map_cons, List.map_nil]); first | done | rfl | (simp only [List.length_drop, List.length_take]; rfl)) ?_; (with_reducible refine (offer_Answer.calls k2 _ _ t415 a0 _ _ l3 t419 t420 _ ?side1 ?side2 ?side3 ?side4 A40.out).mono ?_); (case side1 => repeat (first | exact (Kd.R_reads' HO418.out).2.2 | (with_reducible refine Kd.C_alloc ?_ _) | (with_reducible refine Kd.C_drewN ?_ _) | (with_reducible refine Kd.C_drew ?_))); (case side2 => exact (Kd.R_reads' HO418.out).2.1); (case side3 => repeat (first | exact (Kd.C_below HR3.out HB.out) | (with_reducible refine Kd.C_alloc ?_ _) | (with_reducible refine Kd.C_drewN ?_ _) | (with_reducible refine Kd.C_drew ?_))); (case side4 => exact HC3.out); rintro e w47 ⟨v421, rfl, ho0, hb⟩; refine ⟨_, rfl, ?_⟩; have n0_ := Aside0.mk (Kd.R_elder' (by (with_reducible repeat (first | apply Kd.R_alloc | apply Kd.R_drewN | apply Kd.R_drew)); exact HO_9.out) (Kd.R_base ho0) hb); have n4_ := Aside0.mk (Kd.R_lower (Kd.R_new' (Kd.R_new' (Kd.R_new' (Kd.R_new' ho0 (Kd.R_lt (by (with_reducible repeat (first | apply Kd.R_alloc | apply Kd.R_drewN | apply Kd.R_drew)); exact HO_9.out))) (Kd.R_lt (by (with_reducible repeat (first | apply Kd.R_alloc | apply Kd.R_drewN | apply Kd.R_drew)); exact HO_409002.out))) (Kd.R_lt (by (with_reducible repeat (first | apply Kd.R_alloc | apply Kd.R_drewN | apply Kd.R_drew)); exact HO_409003.out))) (Kd.R_lt (by (with_reducible repeat (first | apply Kd.R_alloc | apply Kd.R_drewN | apply Kd.R_drew)); exact HO418.out))) (below_size (by repeat (first | (with_reducible first | exact HB.out | apply below_alloc | apply pw_below_drewN | apply below_drew1 | refine below_set ?_ GE408.out) | exact HB.out)))); have n6_ := Aside0.mk (below_step (by repeat (first | (with_reducible first | exact HB.out | apply below_alloc | apply pw_below_drewN | apply below_drew1 | refine below_set ?_ GE408.out) | exact HB.out)) hb); clear HO_9; clear HB; have HO_9 := n0_; have HO422 := n4_; have HB := n6_; clear n0_ n4_ n6_; (try clear hb); (try clear hb2); (try clear hk); (try clear hi); (try clear ho0); obtain ⟨Ao48, co48, eo48⟩ := Kd.R_slice HO422.out; subst eo48) | (go_at_call 12; (with_reducible refine (crosswayref00_SameBytes.calls k2 _ _ t419 _ _ t392 true _ ?side1 ?side2 ?side3 ?side4 A43.out).mono ?_); (case side1 => repeat (first | exact (Kd.R_reads' HO422.out).2.2 | (with_reducible refine Kd.C_alloc ?_ _) | (with_reducible refine Kd.C_drewN ?_ _) | (with_reducible refine Kd.C_drew ?_))); (case side2 => exact (Kd.R_reads' HO422.out).2.1); (case side3 => repeat (first | exact (Kd.R_reads' HO_9.out).2.2 | (with_reducible refine Kd.C_alloc ?_ _) | (with_reducible refine Kd.C_drewN ?_ _) | (with_reducible refine Kd.C_drew ?_))); (case side4 => exact (Kd.R_reads' HO_9.out).2.1); rintro e w' ⟨rfl, ⟨nd, rfl⟩⟩))
                                    go_ret
                                    exact ⟨by first | rfl | (simp [errW_none, errW_some] <;> rfl) | (simp [*, errW_none, errW_some] <;> rfl), by repeat (first | (with_reducible first | exact HB.out | apply below_alloc | apply pw_below_drewN | apply below_drew1 | refine below_set ?_ GE408.out) | exact HB.out)⟩
                                  · replace c44 := Bool.eq_false_iff.mpr c44
                                    subst c44
                                    have H1 : (none) = some r := by rw [if_neg (show ¬ (false = true) by decide)] at H; exact H
                                    clear H
                                    have H := H1
                                    clear H1
                                    exact absurd H (by simp)
                                · rw [if_neg c42] at H
                                  exact absurd H (by simp)
                              · rw [if_neg c41] at H
                                exact absurd H (by simp)
                      · replace c25 := Bool.eq_false_iff.mpr c25
                        subst c25
                        have H1 : (none) = some r := by rw [if_neg (show ¬ (false = true) by decide)] at H; exact H
                        clear H
                        have H := H1
                        clear H1
                        exact absurd H (by simp)
                    · rw [if_neg c23] at H
                      exact absurd H (by simp)
                  · replace c22 := Bool.eq_false_iff.mpr c22
                    subst c22
                    have H1 : (none) = some r := by rw [if_neg (show ¬ (false = true) by decide)] at H; exact H
                    clear H
                    have H := H1
                    clear H1
                    exact absurd H (by simp)
                · replace c20 := Bool.eq_false_iff.mpr c20
                  subst c20
                  have H1 : (none) = some r := by rw [if_neg (show ¬ (false = true) by decide)] at H; exact H
                  clear H
                  have H := H1
                  clear H1
                  exact absurd H (by simp)
              · replace c18 := Bool.eq_false_iff.mpr c18
                subst c18
                have H1 : (none) = some r := by rw [if_neg (show ¬ (false = true) by decide)] at H; exact H
                clear H
                have H := H1
                clear H1
                exact absurd H (by simp)
            · rw [if_neg c16] at H
              exact absurd H (by simp)
          · rw [if_neg c15] at H
            exact absurd H (by simp)
  · replace c6 := Bool.eq_false_iff.mpr c6
    subst c6
    have H1 : (none) = some r := by rw [if_neg (show ¬ (false = true) by decide)] at H; exact H
    clear H
    have H := H1
    clear H1
    exact absurd H (by simp)

/-- The one pure statement of crosswaylaw13_OfferBack. -/
def crosswaylaw13_OfferBack.Pure : Prop := ∀ (a0 : Int) (l1 : List Int) (l2 : List Int) (l3 : List Int), (Lit.int .u8 a0).wf = true → l1.length ≤ maxLen → (∀ x ∈ l1, (Lit.int .u8 x).wf = true) → l2.length ≤ maxLen → (∀ x ∈ l2, (Lit.int .u8 x).wf = true) → l3.length ≤ maxLen → (∀ x ∈ l3, (Lit.int .u32 x).wf = true) → ∃ k, crosswaylaw13_OfferBack.f k a0 l1 l2 l3 = some true

end Go.Proofs.Ytnmhnihhlakinac.M
