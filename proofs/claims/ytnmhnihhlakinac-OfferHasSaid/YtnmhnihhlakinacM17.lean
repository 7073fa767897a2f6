/- Contracts of the Go functions that the laws reach, each as a plain Lean function: written by xprint.py, a program of this repo. -/
import Derived.Test.YtnmhnihhlakinacM0
import Derived.Test.YtnmhnihhlakinacM4
import Derived.Test.YtnmhnihhlakinacM7
import Derived.Test.YtnmhnihhlakinacM8
namespace Go.Proofs.Ytnmhnihhlakinac.M
open Go.RowKit Go.Proofs.YtnmhnihhlakinacW.PrintWords Go.Proofs.YtnmhnihhlakinacW.PrintLast Go.Proofs.YtnmhnihhlakinacW.PrintMore Go.Proofs.Ytnmhnihhlakinac.X
attribute [local go_sem] max2_int min2_int max_two min_two max_three min_three max_four min_four   -- for this text's walks alone
set_option linter.unusedVariables false
set_option linter.unusedSimpArgs false

/-! ### crosswaylaw13_OfferHas: function 6 -/
mutual
def crosswaylaw13_OfferHas.j0 : Nat → Int → List Int → List Int → List Int → Int → Bool → Option (Bool)
  | 0, _, _, _, _, _, _ => none
  | k + 1, x0, x1, x2, x3, x4, x37 => if x37 = true then (some true) else ((offer_Make.f k x0 x1 x2 x3).bind fun bt425 => (if bt425.2 = 0 then (if (bt425.1.length : Int) = (wrap64 ((wrap64 ((wrap64 (7 + (x1.length : Int))) + (x2.length : Int))) + (wrap64 (4 * (x3.length : Int))))) then (crosswaylaw13_OfferHas.l0 k x3 x4 bt425.1 false 0) else (none)) else (none)))
def crosswaylaw13_OfferHas.l0 : Nat → List Int → Int → List Int → Bool → Int → Option (Bool)
  | 0, _, _, _, _, _ => none
  | k + 1, x3, x4, x11, x13, x14 => if x14 < (x3.length : Int) then (if x13 = true then (crosswaylaw13_OfferHas.l0 k x3 x4 x11 true (wrap64 (x14 + 1))) else (if 0 ≤ x14 then (crosswaylaw13_OfferHas.l0 k x3 x4 x11 ((rd x3 x14) == x4) (wrap64 (x14 + 1))) else (none))) else (if 0 ≤ (wrap64 ((x11.length : Int) - 1)) then (if (wrap64 ((x11.length : Int) - 1)) ≤ (x11.length : Int) then ((offer_Parse.f k (x11.take ((wrap64 ((x11.length : Int) - 1)) : Int).toNat)).bind fun bt434 => ((offer_Has.f k x11 x4).bind fun t447 => (if (t447 == x13) = true then (if bt434.2.2.2.2.2 = 10 then ((offer_Has.f k (x11.take ((wrap64 ((x11.length : Int) - 1)) : Int).toNat) x4).bind fun t452 => (some (!t452))) else (none)) else (none)))) else (none)) else (none))
end
def crosswaylaw13_OfferHas.f (k : Nat) (a0 : Int) (l1 : List Int) (l2 : List Int) (l3 : List Int) (a4 : Int) : Option (Bool) := (crosswaylaw13_alive.f k).bind fun t424 => (if t424 = true then (if (l1.length : Int) > 255 then (crosswaylaw13_OfferHas.j0 k a0 l1 l2 l3 a4 true) else (if (l2.length : Int) > 255 then (crosswaylaw13_OfferHas.j0 k a0 l1 l2 l3 a4 true) else (if (l3.length : Int) < 1 then (crosswaylaw13_OfferHas.j0 k a0 l1 l2 l3 a4 true) else (crosswaylaw13_OfferHas.j0 k a0 l1 l2 l3 a4 (decide ((l3.length : Int) > 64)))))) else (none))
theorem crosswaylaw13_OfferHas.mono_l : ∀ k, (∀ y0 y1 y2 y3 y4 y5, LeO (crosswaylaw13_OfferHas.j0 k y0 y1 y2 y3 y4 y5) (crosswaylaw13_OfferHas.j0 (k + 1) y0 y1 y2 y3 y4 y5)) ∧ (∀ y0 y1 y2 y3 y4, LeO (crosswaylaw13_OfferHas.l0 k y0 y1 y2 y3 y4) (crosswaylaw13_OfferHas.l0 (k + 1) y0 y1 y2 y3 y4))
  | 0 => ⟨fun _ _ _ _ _ _ r h => by simp [crosswaylaw13_OfferHas.j0] at h, fun _ _ _ _ _ r h => by simp [crosswaylaw13_OfferHas.l0] at h⟩
  | k + 1 => by
    obtain ⟨ih0, ih1⟩ := crosswaylaw13_OfferHas.mono_l k
    refine ⟨?_, ?_⟩
    · intro y0 y1 y2 y3 y4 y5
      unfold crosswaylaw13_OfferHas.j0
      repeat' first
      | (with_reducible exact ih0 _ _ _ _ _ _)
      | (with_reducible exact ih1 _ _ _ _ _)
      | (with_reducible exact crosswaylaw13_alive.mono _)
      | (with_reducible exact offer_Has.mono _ _ _)
      | (with_reducible exact offer_Make.mono _ _ _ _ _)
      | (with_reducible exact offer_Parse.mono _ _)
      | (with_reducible exact LeO.refl _)
      | (with_reducible exact LeO.none _)
      | (with_reducible refine LeO.ite ?_ ?_)
      | (with_reducible refine LeO.bind ?_ (fun _ => ?_))
      | exact ih0 _ _ _ _ _ _
      | exact ih1 _ _ _ _ _
      | exact crosswaylaw13_alive.mono _
      | exact offer_Has.mono _ _ _
      | exact offer_Make.mono _ _ _ _ _
      | exact offer_Parse.mono _ _
      | exact LeO.none _
      | refine LeO.ite ?_ ?_
      | refine LeO.bind ?_ (fun _ => ?_)
    · intro y0 y1 y2 y3 y4
      unfold crosswaylaw13_OfferHas.l0
      repeat' first
      | (with_reducible exact ih0 _ _ _ _ _ _)
      | (with_reducible exact ih1 _ _ _ _ _)
      | (with_reducible exact crosswaylaw13_alive.mono _)
      | (with_reducible exact offer_Has.mono _ _ _)
      | (with_reducible exact offer_Make.mono _ _ _ _ _)
      | (with_reducible exact offer_Parse.mono _ _)
      | (with_reducible exact LeO.refl _)
      | (with_reducible exact LeO.none _)
      | (with_reducible refine LeO.ite ?_ ?_)
      | (with_reducible refine LeO.bind ?_ (fun _ => ?_))
      | exact ih0 _ _ _ _ _ _
      | exact ih1 _ _ _ _ _
      | exact crosswaylaw13_alive.mono _
      | exact offer_Has.mono _ _ _
      | exact offer_Make.mono _ _ _ _ _
      | exact offer_Parse.mono _ _
      | exact LeO.none _
      | refine LeO.ite ?_ ?_
      | refine LeO.bind ?_ (fun _ => ?_)
theorem crosswaylaw13_OfferHas.mono : ∀ a0 a1 a2 a3 a4 k, LeO (crosswaylaw13_OfferHas.f k a0 a1 a2 a3 a4) (crosswaylaw13_OfferHas.f (k + 1) a0 a1 a2 a3 a4) := by
  intro a0 a1 a2 a3 a4 k
  obtain ⟨ih0, ih1⟩ := crosswaylaw13_OfferHas.mono_l k
  unfold crosswaylaw13_OfferHas.f
  repeat' first
      | (with_reducible exact ih0 _ _ _ _ _ _)
      | (with_reducible exact ih1 _ _ _ _ _)
      | (with_reducible exact crosswaylaw13_alive.mono _)
      | (with_reducible exact offer_Has.mono _ _ _)
      | (with_reducible exact offer_Make.mono _ _ _ _ _)
      | (with_reducible exact offer_Parse.mono _ _)
      | (with_reducible exact LeO.refl _)
      | (with_reducible exact LeO.none _)
      | (with_reducible refine LeO.ite ?_ ?_)
      | (with_reducible refine LeO.bind ?_ (fun _ => ?_))
      | exact ih0 _ _ _ _ _ _
      | exact ih1 _ _ _ _ _
      | exact crosswaylaw13_alive.mono _
      | exact offer_Has.mono _ _ _
      | exact offer_Make.mono _ _ _ _ _
      | exact offer_Parse.mono _ _
      | exact LeO.none _
      | refine LeO.ite ?_ ?_
      | refine LeO.bind ?_ (fun _ => ?_)
set_option maxHeartbeats 8000000 in
set_option maxRecDepth 100000 in
theorem crosswaylaw13_OfferHas.calls (k : Nat) (a0 : Int) (A1 : Option Addr) (c1 : Nat) (l1 : List Int) (A2 : Option Addr) (c2 : Nat) (l2 : List Int) (A3 : Option Addr) (c3 : Nat) (l3 : List Int) (a4 : Int) (r : Bool) (w : World) (hr1 : Kd.C (Kd.int .u8) w A1 l1.length l1) (hc1 : l1.length ≤ c1) (hr2 : Kd.C (Kd.int .u8) w A2 l2.length l2) (hc2 : l2.length ≤ c2) (hr3 : Kd.C (Kd.int .u32) w A3 l3.length l3) (hc3 : l3.length ≤ c3) (h : crosswaylaw13_OfferHas.f k a0 l1 l2 l3 a4 = some r) :
    Calls Try.prog 6 #[.int .u8 a0, .slice A1 l1.length c1, .slice A2 l2.length c2, .slice A3 l3.length c3, .int .u32 a4] w fun e w' => e = .returned (.bool r) ∧ Below w.heap.size w w' := by
  have hu37 := Try.underlying37
  have HR1 := Aside0.mk hr1
  have HC1 := Aside0.mk hc1
  clear hr1 hc1
  have HR2 := Aside0.mk hr2
  have HC2 := Aside0.mk hc2
  clear hr2 hc2
  have HR3 := Aside0.mk hr3
  have HC3 := Aside0.mk hc3
  clear hr3 hc3
  have HB := Aside0.mk (Below.refl w.heap.size w)
  have H : ((crosswaylaw13_alive.f k).bind fun t424 => (if t424 = true then (if (l1.length : Int) > 255 then (crosswaylaw13_OfferHas.j0 k a0 l1 l2 l3 a4 true) else (if (l2.length : Int) > 255 then (crosswaylaw13_OfferHas.j0 k a0 l1 l2 l3 a4 true) else (if (l3.length : Int) < 1 then (crosswaylaw13_OfferHas.j0 k a0 l1 l2 l3 a4 true) else (crosswaylaw13_OfferHas.j0 k a0 l1 l2 l3 a4 (decide ((l3.length : Int) > 64)))))) else (none))) = some r := h
  clear h
  replace H := Option.bind_eq_some_iff.mp H
  obtain ⟨t424, A60, H⟩ := H
  replace H : (if t424 = true then (if (l1.length : Int) > 255 then (crosswaylaw13_OfferHas.j0 k a0 l1 l2 l3 a4 true) else (if (l2.length : Int) > 255 then (crosswaylaw13_OfferHas.j0 k a0 l1 l2 l3 a4 true) else (if (l3.length : Int) < 1 then (crosswaylaw13_OfferHas.j0 k a0 l1 l2 l3 a4 true) else (crosswaylaw13_OfferHas.j0 k a0 l1 l2 l3 a4 (decide ((l3.length : Int) > 64)))))) else (none)) = some r := H
  have A6 := Aside0.mk A60
  clear A60
  by_cases c7 : t424 = true
  · subst c7
    have H1 : (if (l1.length : Int) > 255 then (crosswaylaw13_OfferHas.j0 k a0 l1 l2 l3 a4 true) else (if (l2.length : Int) > 255 then (crosswaylaw13_OfferHas.j0 k a0 l1 l2 l3 a4 true) else (if (l3.length : Int) < 1 then (crosswaylaw13_OfferHas.j0 k a0 l1 l2 l3 a4 true) else (crosswaylaw13_OfferHas.j0 k a0 l1 l2 l3 a4 (decide ((l3.length : Int) > 64)))))) = some r := by rw [if_pos rfl] at H; exact H
    clear H
    have H := H1
    clear H1
    have HC8 := Aside0.mk H
    clear H
    go_enter Try.func6, Try.ntmps6
    go_upto_region 3 with (first | ((with_reducible refine gate_callee (f := 7) rfl ?_); refine goesL_ (some 18) rfl rfl Try.func7 (by kernel_rfl) rfl #[] rfl (by (try simp only [List.map_toArray, List.map_cons, List.map_nil]); first | done | rfl | (simp only [List.length_drop, List.length_take]; rfl)) ?_; (with_reducible refine (crosswaylaw13_alive.calls k  true _ A6.out).mono ?_); rintro e w9 ⟨rfl, hb⟩; refine ⟨_, rfl, ?_⟩; have n0_ := Aside0.mk (below_step (by repeat (first | (with_reducible first | exact HB.out | apply below_alloc | apply pw_below_drewN | apply below_drew1) | exact HB.out)) hb); clear HB; have HB := n0_; clear n0_; (try clear hb); (try clear hb2); (try clear hk); (try clear hi)))
    (try simp only [Act.put, List.setIfInBounds_toArray, List.set_cons_zero, List.set_cons_succ])
    go_cut [37] (fun v37 wc => ∃ (kq : Nat) (x37_7 : Bool), v37 = .bool x37_7 ∧ Aside0 (crosswaylaw13_OfferHas.j0 kq a0 l1 l2 l3 a4 x37_7 = some r) ∧ Aside0 (kq ≤ k) ∧ Aside0 (Below w.heap.size w wc))
    case first =>
      have H := HC8.out
      clear HC8
      by_cases c10 : (l1.length : Int) > 255
      · rw [if_pos c10] at H
        have c10b0 : decide (255 < (l1.length : Int)) = true := decide_eq_true c10
        have c10b1 : decide (255 < l1.length) = true := decide_eq_true (by omega)
        clear c10
        (first | rw [c10b0] | (simp only [i64_w, i32_w]; rw [c10b0]) | skip)
        have H' := Aside0.mk H
        clear H
        go_wp2
        go_meet
        case rel => exact ⟨_, (true), (by first | rfl | (simp; done) | (simp [*]; done) | (simp only [i64_w]; done) | (simp [i64_w]; done)), H', ⟨by first | omega | exact Nat.le_refl _⟩, ⟨by repeat (first | (with_reducible first | exact HB.out | apply below_alloc | apply pw_below_drewN | apply below_drew1) | exact HB.out)⟩⟩
      · rw [if_neg c10] at H
        have c10b0 : decide (255 < (l1.length : Int)) = false := decide_eq_false c10
        have c10b1 : decide (255 < l1.length) = false := decide_eq_false (by omega)
        clear c10
        (first | rw [c10b0] | (simp only [i64_w, i32_w]; rw [c10b0]) | skip)
        by_cases c11 : (l2.length : Int) > 255
        · rw [if_pos c11] at H
          have c11b0 : decide (255 < (l2.length : Int)) = true := decide_eq_true c11
          have c11b1 : decide (255 < l2.length) = true := decide_eq_true (by omega)
          clear c11
          have H' := Aside0.mk H
          clear H
          go_wp2
          go_meet
          case rel => exact ⟨_, (true), (by first | rfl | (simp; done) | (simp [*]; done) | (simp only [i64_w]; done) | (simp [i64_w]; done)), H', ⟨by first | omega | exact Nat.le_refl _⟩, ⟨by repeat (first | (with_reducible first | exact HB.out | apply below_alloc | apply pw_below_drewN | apply below_drew1) | exact HB.out)⟩⟩
        · rw [if_neg c11] at H
          have c11b0 : decide (255 < (l2.length : Int)) = false := decide_eq_false c11
          have c11b1 : decide (255 < l2.length) = false := decide_eq_false (by omega)
          clear c11
          by_cases c12 : (l3.length : Int) < 1
          · rw [if_pos c12] at H
            have c12b0 : decide ((l3.length : Int) < 1) = true := decide_eq_true c12
            have c12b1 : decide (l3.length < 1) = true := decide_eq_true (by omega)
            clear c12
            have H' := Aside0.mk H
            clear H
            go_wp2
            go_meet
            case rel => exact ⟨_, (true), (by first | rfl | (simp; done) | (simp [*]; done) | (simp only [i64_w]; done) | (simp [i64_w]; done)), H', ⟨by first | omega | exact Nat.le_refl _⟩, ⟨by repeat (first | (with_reducible first | exact HB.out | apply below_alloc | apply pw_below_drewN | apply below_drew1) | exact HB.out)⟩⟩
          · rw [if_neg c12] at H
            have c12b0 : decide ((l3.length : Int) < 1) = false := decide_eq_false c12
            have c12b1 : decide (l3.length < 1) = false := decide_eq_false (by omega)
            clear c12
            have H' := Aside0.mk H
            clear H
            go_wp2
            go_meet
            case rel => exact ⟨_, (decide ((l3.length : Int) > 64)), (by first | rfl | (simp; done) | (simp [*]; done) | (simp only [i64_w]; done) | (simp [i64_w]; done)), H', ⟨by first | omega | exact Nat.le_refl _⟩, ⟨by repeat (first | (with_reducible first | exact HB.out | apply below_alloc | apply pw_below_drewN | apply below_drew1) | exact HB.out)⟩⟩
    case rest =>
      clear HC8
      try clear c1
      try clear c2
      try clear p2
      try clear c3
      try clear c6
      try clear c7
      try clear c10
      try clear c10b0
      try clear c10b1
      try clear c11
      try clear c11b0
      try clear c11b1
      try clear c12
      try clear c12b0
      try clear c12b1
      obtain ⟨kq, x37_7, rfl, HA, HJ7, HB⟩ := hcut
      cases kq with
      | zero => exact absurd HA.out (by simp [crosswaylaw13_OfferHas.j0])
      | succ kj7 =>
        have H := HA.out
        clear HA
        simp only [crosswaylaw13_OfferHas.j0] at H
        by_cases c13 : x37_7 = true
        · subst c13
          have H1 : (some true) = some r := by rw [if_pos rfl] at H; exact H
          clear H
          have H := H1
          clear H1
          obtain rfl := Option.some.inj H
          go_wp2
          go_ret
          exact ⟨by first | rfl | (simp [errW_none, errW_some] <;> rfl) | (simp [*, errW_none, errW_some] <;> rfl), by repeat (first | (with_reducible first | exact HB.out | apply below_alloc | apply pw_below_drewN | apply below_drew1) | exact HB.out)⟩
        · replace c13 := Bool.eq_false_iff.mpr c13
          subst c13
          have H1 : ((offer_Make.f kj7 a0 l1 l2 l3).bind fun bt425 => (if bt425.2 = 0 then (if (bt425.1.length : Int) = (wrap64 ((wrap64 ((wrap64 (7 + (l1.length : Int))) + (l2.length : Int))) + (wrap64 (4 * (l3.length : Int))))) then (crosswaylaw13_OfferHas.l0 kj7 l3 a4 bt425.1 false 0) else (none)) else (none))) = some r := by rw [if_neg (show ¬ (false = true) by decide)] at H; exact H
          clear H
          have H := H1
          clear H1
          replace H := Option.bind_eq_some_iff.mp H
          obtain ⟨⟨t425, t426⟩, A140, H⟩ := H
          replace H : (if t426 = 0 then (if (t425.length : Int) = (wrap64 ((wrap64 ((wrap64 (7 + (l1.length : Int))) + (l2.length : Int))) + (wrap64 (4 * (l3.length : Int))))) then (crosswaylaw13_OfferHas.l0 kj7 l3 a4 t425 false 0) else (none)) else (none)) = some r := H
          have A14 := Aside0.mk A140
          clear A140
          by_cases c15 : t426 = 0
          · rw [if_pos c15] at H
            have c15b0 : (t426 == 0) = true := beq_iff_eq.mpr c15
            have c15b1 : (t426 != 0) = false := bne_eq_false_iff_eq.mpr c15
            clear c15
            by_cases c16 : (t425.length : Int) = (wrap64 ((wrap64 ((wrap64 (7 + (l1.length : Int))) + (l2.length : Int))) + (wrap64 (4 * (l3.length : Int)))))
            · rw [if_pos c16] at H
              have c16b0 : ((t425.length : Int) == (wrap64 ((wrap64 ((wrap64 (7 + (l1.length : Int))) + (l2.length : Int))) + (wrap64 (4 * (l3.length : Int)))))) = true := beq_iff_eq.mpr c16
              have c16b1 : ((t425.length : Int) != (wrap64 ((wrap64 ((wrap64 (7 + (l1.length : Int))) + (l2.length : Int))) + (wrap64 (4 * (l3.length : Int)))))) = false := bne_eq_false_iff_eq.mpr c16
              clear c16
              have H' := Aside0.mk H
              clear H
              go_wp2_with (first | ((with_reducible refine gate_callee (f := 8) rfl ?_); refine goesL_ (some 43) rfl rfl Try.func8 (by kernel_rfl) rfl #[.int .u8 a0, .slice A1 l1.length c1, .slice A2 l2.length c2, .slice A3 l3.length c3] rfl (by (try simp only [List.map_toArray, List.map_cons, List.map_nil]); first | done | rfl | (simp only [List.length_drop, List.length_take]; rfl)) ?_; (with_reducible refine (offer_Make.calls kj7 a0 _ _ l1 _ _ l2 _ _ l3 t425 t426 _ ?side1 ?side2 ?side3 ?side4 ?side5 ?side6 A14.out).mono ?_); (case side1 => repeat (first | exact (Kd.C_below HR1.out HB.out) | (with_reducible refine Kd.C_alloc ?_ _) | (with_reducible refine Kd.C_drewN ?_ _) | (with_reducible refine Kd.C_drew ?_))); (case side2 => exact HC1.out); (case side3 => repeat (first | exact (Kd.C_below HR2.out HB.out) | (with_reducible refine Kd.C_alloc ?_ _) | (with_reducible refine Kd.C_drewN ?_ _) | (with_reducible refine Kd.C_drew ?_))); (case side4 => exact HC2.out); (case side5 => repeat (first | exact (Kd.C_below HR3.out HB.out) | (with_reducible refine Kd.C_alloc ?_ _) | (with_reducible refine Kd.C_drewN ?_ _) | (with_reducible refine Kd.C_drew ?_))); (case side6 => exact HC3.out); rintro e w17 ⟨v427, rfl, ho0, hb⟩; refine ⟨_, rfl, ?_⟩; have n0_ := Aside0.mk (Kd.R_lower ho0 (below_size (by repeat (first | (with_reducible first | exact HB.out | apply below_alloc | apply pw_below_drewN | apply below_drew1) | exact HB.out)))); have n1_ := Aside0.mk (below_step (by repeat (first | (with_reducible first | exact HB.out | apply below_alloc | apply pw_below_drewN | apply below_drew1) | exact HB.out)) hb); clear HB; have HO428 := n0_; have HB := n1_; clear n0_ n1_; (try clear hb); (try clear hb2); (try clear hk); (try clear hi); (try clear ho0); obtain ⟨Ao18, co18, eo18⟩ := Kd.R_slice HO428.out; subst eo18))
              go_loopg [13, 14] kj7 (fun kq v13 v14 w' => ∃ (x13_2 : Bool) (x14_2 : Int), v13 = .bool x13_2 ∧ v14 = .int .i64 x14_2 ∧ Aside0 (crosswaylaw13_OfferHas.l0 kq l3 a4 t425 x13_2 x14_2 = some r) ∧ Aside0 (kq ≤ kj7) ∧ Aside0 (Kd.R (Kd.int .u8) 5 w' w.heap.size (fun _ => True) (.slice Ao18 t425.length co18) t425) ∧ Aside0 (Below w.heap.size w w'))
              case atStart => exact ⟨(false), (0), (by first | rfl | (simp; done) | (simp [*]; done) | (simp only [i64_w]; done) | (simp [i64_w]; done)), (by first | rfl | (simp; done) | (simp [*]; done) | (simp only [i64_w]; done) | (simp [i64_w]; done)), H', ⟨Nat.le_refl _⟩, ⟨by (with_reducible repeat (first | apply Kd.R_alloc | apply Kd.R_drewN | apply Kd.R_drew)); exact HO428.out⟩, ⟨by repeat (first | (with_reducible first | exact HB.out | apply below_alloc | apply pw_below_drewN | apply below_drew1) | exact HB.out)⟩⟩
              case round =>
                clear H'
                try clear c1
                try clear c2
                try clear p2
                try clear c3
                try clear c6
                try clear p6
                try clear c7
                try clear c8
                try clear c10
                try clear c10b0
                try clear c10b1
                try clear c11
                try clear c11b0
                try clear c11b1
                try clear c12
                try clear c12b0
                try clear c12b1
                try clear c13
                try clear c15
                try clear c15b0
                try clear c15b1
                try clear c16
                try clear c16b0
                try clear c16b1
                try clear p2
                obtain ⟨x13_2, x14_2, rfl, rfl, HA, HK2, HO_11, HB⟩ := hrel
                cases gk with
                | zero => exact absurd HA.out (by simp [crosswaylaw13_OfferHas.l0])
                | succ k2 =>
                  have H := HA.out
                  clear HA
                  simp only [crosswaylaw13_OfferHas.l0] at H
                  by_cases c19 : x14_2 < (l3.length : Int)
                  · rw [if_pos c19] at H
                    have c19b0 : decide (x14_2 < (l3.length : Int)) = true := decide_eq_true c19
                    clear c19
                    by_cases c20 : x13_2 = true
                    · subst c20
                      have H1 : (crosswaylaw13_OfferHas.l0 k2 l3 a4 t425 true (wrap64 (x14_2 + 1))) = some r := by rw [if_pos rfl] at H; exact H
                      clear H
                      have H := H1
                      clear H1
                      have H' := Aside0.mk H
                      clear H
                      go_wp2
                      go_roundg k2
                      case measure => have := HJ7.out; have := HK2.out; omega
                      case rel => exact ⟨(true), (wrap64 (x14_2 + 1)), (by first | rfl | (simp; done) | (simp [*]; done) | (simp only [i64_w]; done) | (simp [i64_w]; done)), (by first | rfl | (simp; done) | (simp [*]; done) | (simp only [i64_w]; done) | (simp [i64_w]; done)), H', ⟨by have := HJ7.out; have := HK2.out; omega⟩, ⟨by (with_reducible repeat (first | apply Kd.R_alloc | apply Kd.R_drewN | apply Kd.R_drew)); exact HO_11.out⟩, ⟨by repeat (first | (with_reducible first | exact HB.out | apply below_alloc | apply pw_below_drewN | apply below_drew1) | exact HB.out)⟩⟩
                    · replace c20 := Bool.eq_false_iff.mpr c20
                      subst c20
                      have H1 : (if 0 ≤ x14_2 then (crosswaylaw13_OfferHas.l0 k2 l3 a4 t425 ((rd l3 x14_2) == a4) (wrap64 (x14_2 + 1))) else (none)) = some r := by rw [if_neg (show ¬ (false = true) by decide)] at H; exact H
                      clear H
                      have H := H1
                      clear H1
                      by_cases c21 : 0 ≤ x14_2
                      · rw [if_pos c21] at H
                        have c21b0 : decide (0 ≤ x14_2) = true := decide_eq_true c21
                        clear c21
                        have H' := Aside0.mk H
                        clear H
                        have p429 : 0 ≤ (x14_2 : Int) := of_decide_eq_true (by first | (with_reducible assumption) | assumption)
                        have q429 : x14_2 < (l3.length : Int) := of_decide_eq_true (by first | (with_reducible assumption) | assumption)
                        obtain ⟨ad429, e429, hx429_0⟩ := Kd.at_int HR3.out x14_2 p429 q429
                        cases e429
                        replace hx429_0 := (HB.out.cell (World.block_lt_of_cell? w _ hx429_0)).trans hx429_0
                        replace p429 := eq_true p429
                        replace q429 := eq_true q429
                        go_wp2
                        go_roundg k2
                        case measure => have := HJ7.out; have := HK2.out; omega
                        case rel => exact ⟨(((rd l3 x14_2) == a4)), (wrap64 (x14_2 + 1)), (by first | rfl | (simp; done) | (simp [*]; done) | (simp only [i64_w]; done) | (simp [i64_w]; done)), (by first | rfl | (simp; done) | (simp [*]; done) | (simp only [i64_w]; done) | (simp [i64_w]; done)), H', ⟨by have := HJ7.out; have := HK2.out; omega⟩, ⟨by (with_reducible repeat (first | apply Kd.R_alloc | apply Kd.R_drewN | apply Kd.R_drew)); exact HO_11.out⟩, ⟨by repeat (first | (with_reducible first | exact HB.out | apply below_alloc | apply pw_below_drewN | apply below_drew1) | exact HB.out)⟩⟩
                      · rw [if_neg c21] at H
                        exact absurd H (by simp)
                  · rw [if_neg c19] at H
                    have c19b0 : decide (x14_2 < (l3.length : Int)) = false := decide_eq_false c19
                    clear c19
                    obtain ⟨ji22, hji22⟩ : ∃ j_ : Int, (wrap64 ((t425.length : Int) - 1)) = j_ := ⟨_, rfl⟩
                    replace H : (if 0 ≤ (ji22) then (if (ji22) ≤ (t425.length : Int) then ((offer_Parse.f k2 (t425.take ((ji22) : Int).toNat)).bind fun bt434 => ((offer_Has.f k2 t425 a4).bind fun t447 => (if (t447 == x13_2) = true then (if bt434.2.2.2.2.2 = 10 then ((offer_Has.f k2 (t425.take ((ji22) : Int).toNat) a4).bind fun t452 => (some (!t452))) else (none)) else (none)))) else (none)) else (none)) = some r := by first | (rw [hji22] at H; exact H) | (simp only [hji22] at H ⊢; exact H)
                    have hji22w : (IntKind.i64.wrap ((t425.length : Int) - 1)) = ji22 := (i64_w _).trans hji22
                    by_cases c23 : 0 ≤ (ji22)
                    · rw [if_pos c23] at H
                      have c23b0 := eq_true c23
                      have c23b1 : decide (0 ≤ (ji22)) = true := decide_eq_true c23
                      clear c23
                      by_cases c24 : (ji22) ≤ (t425.length : Int)
                      · rw [if_pos c24] at H
                        have c24b0 := eq_true c24
                        have c24b1 : decide ((ji22) ≤ (t425.length : Int)) = true := decide_eq_true c24
                        clear c24
                        obtain ⟨y430, hy430⟩ : ∃ y_ : List Int, y_ = (t425.take ((ji22) : Int).toNat) := ⟨_, rfl⟩
                        have KXy430 := Aside0.mk hy430
                        replace H : ((offer_Parse.f k2 y430).bind fun bt434 => ((offer_Has.f k2 t425 a4).bind fun t447 => (if (t447 == x13_2) = true then (if bt434.2.2.2.2.2 = 10 then ((offer_Has.f k2 (t425.take ((ji22) : Int).toNat) a4).bind fun t452 => (some (!t452))) else (none)) else (none)))) = some r := by first | (rw [hy430]; with_reducible exact H) | (have H2_ := (Option.bind_some _ _).symm.trans H; rw [hy430]; with_reducible exact H2_) | (have H2_ := (Option.bind_some _ _).symm.trans H; with_reducible exact H2_) | with_reducible exact H | (rw [hy430]; exact H) | exact H
                        have Ny430 := Aside0.mk hy430
                        clear hy430
                        replace H := Option.bind_eq_some_iff.mp H
                        obtain ⟨⟨t434, t435, t436, t439, t442, t445⟩, A250, H⟩ := H
                        replace H : ((offer_Has.f k2 t425 a4).bind fun t447 => (if (t447 == x13_2) = true then (if t445 = 10 then ((offer_Has.f k2 (t425.take ((ji22) : Int).toNat) a4).bind fun t452 => (some (!t452))) else (none)) else (none))) = some r := H
                        have A25 := Aside0.mk A250
                        clear A250
                        replace H := Option.bind_eq_some_iff.mp H
                        obtain ⟨t447, A260, H⟩ := H
                        replace H : (if (t447 == x13_2) = true then (if t445 = 10 then ((offer_Has.f k2 (t425.take ((ji22) : Int).toNat) a4).bind fun t452 => (some (!t452))) else (none)) else (none)) = some r := H
                        have A26 := Aside0.mk A260
                        clear A260
                        by_cases c27 : (t447 == x13_2) = true
                        · rw [if_pos c27] at H
                          have c27b0 : (t447 == x13_2) = true := c27
                          (try (have c27b1 : decide (t447 = x13_2) = true := by simpa using c27))
                          (try (have c27b2 : (t447 == x13_2) = true := by simpa using c27))
                          clear c27
                          by_cases c28 : t445 = 10
                          · rw [if_pos c28] at H
                            have c28b0 : (t445 == 10) = true := beq_iff_eq.mpr c28
                            have c28b1 : (t445 != 10) = false := bne_eq_false_iff_eq.mpr c28
                            clear c28
                            have c29b0 := eq_true (of_decide_eq_true (by first | (with_reducible assumption) | assumption) : 0 ≤ (ji22))
                            have c30b0 := eq_true (of_decide_eq_true (by first | (with_reducible assumption) | assumption) : (ji22) ≤ (t425.length : Int))
                            have hy448 : y430 = (t425.take ((ji22) : Int).toNat) := KXy430.out
                            replace H : ((offer_Has.f k2 y430 a4).bind fun t452 => (some (!t452))) = some r := by first | (rw [hy448]; with_reducible exact H) | (have H2_ := (Option.bind_some _ _).symm.trans H; rw [hy448]; with_reducible exact H2_) | (have H2_ := (Option.bind_some _ _).symm.trans H; with_reducible exact H2_) | with_reducible exact H | (rw [hy448]; exact H) | exact H
                            have Ny448 := Aside0.mk hy448
                            clear hy448
                            replace H := Option.bind_eq_some_iff.mp H
                            obtain ⟨t452, A310, H⟩ := H
                            replace H : (some (!t452)) = some r := H
                            have A31 := Aside0.mk A310
                            clear A310
                            obtain rfl := Option.some.inj H
                            have q32 : ((ji22) : Int) ≤ ((t425.length : Int) : Int) := of_decide_eq_true (by first | (with_reducible assumption) | assumption)
                            obtain ⟨i032, hi032, _, hsz32, _⟩ := info_parts info5
                            have hroom32 : t425.length ≤ co18 := (Kd.R_reads' HO_11.out).2.1
                            have hC32 : Kd.C (Kd.int .u8) _ Ao18 t425.length t425 := (Kd.R_reads' HO_11.out).2.2
                            have hcut32 := cut_to (P := Try.prog) 22 5 .i64 Try.underlying22 hi032 Ao18 t425.length co18 (ji22) (of_decide_eq_true (by first | (with_reducible assumption) | assumption)) q32 hroom32
                            have hr32 := Kd.C_take (m := ((ji22) : Int).toNat) hC32 (by omega)
                            have hy32 : y430.length = ((ji22) : Int).toNat := (by rw [Ny430.out, List.length_take]; omega)
                            rw [← Ny430.out] at hr32
                            rw [← hy32] at hcut32
                            have HR433 := Aside0.mk hr32
                            have HC433 := Aside0.mk (show y430.length ≤ co18 from by omega)
                            clear hr32 hC32 hroom32 hi032 hsz32
                            have KY32 := Aside0.mk hy32
                            clear hy32
                            have KL32 := Aside0.mk (show ((ji22) : Int).toNat ≤ t425.length from by omega)
                            replace q32 := eq_true q32
                            go_wp2_with (first | ((with_reducible refine gate_callee (f := 15) rfl ?_); refine goesL_ (some 84) rfl rfl Try.func15 (by kernel_rfl) rfl #[.slice Ao18 y430.length co18] rfl (by (try simp only [List.map_toArray, List.map_cons, List.map_nil]); first | done | rfl | (simp only [List.length_drop, List.length_take]; rfl)) ?_; (with_reducible refine (offer_Parse.calls k2 _ _ y430 t434 t435 t436 t439 t442 t445 _ ?side1 ?side2 A25.out).mono ?_); (case side1 => repeat (first | exact (by repeat (first | (with_reducible exact HR433.out) | (with_reducible refine Kd.C_alloc ?_ _) | (with_reducible refine Kd.C_drewN ?_ _) | (with_reducible refine Kd.C_drew ?_) | exact HR433.out)) | (with_reducible refine Kd.C_alloc ?_ _) | (with_reducible refine Kd.C_drewN ?_ _) | (with_reducible refine Kd.C_drew ?_))); (case side2 => exact HC433.out); rintro e w33 ⟨v437, v440, v443, rfl, ho0, ho1, ho2, hb⟩; refine ⟨_, rfl, ?_⟩; have n0_ := Aside0.mk (Kd.R_mono (Kd.R_told (Kd.R_told (Kd.R_old (by (with_reducible repeat (first | apply Kd.R_alloc | apply Kd.R_drewN | apply Kd.R_drew)); exact HO_11.out) hb) (Kd.R_base ho0)) (Kd.R_base ho1)) (fun _ h_ => h_.1)); have n1_ := Aside0.mk (Kd.R_lower (Kd.R_new' ho0 (Kd.R_lt (by (with_reducible repeat (first | apply Kd.R_alloc | apply Kd.R_drewN | apply Kd.R_drew)); exact HO_11.out))) (below_size (by repeat (first | (with_reducible first | exact HB.out | apply below_alloc | apply pw_below_drewN | apply below_drew1) | exact HB.out)))); have n2_ := Aside0.mk (Kd.R_lower (Kd.R_new' ho1 (Kd.R_lt (by (with_reducible repeat (first | apply Kd.R_alloc | apply Kd.R_drewN | apply Kd.R_drew)); exact HO_11.out))) (below_size (by repeat (first | (with_reducible first | exact HB.out | apply below_alloc | apply pw_below_drewN | apply below_drew1) | exact HB.out)))); have n3_ := Aside0.mk trivial; have n5_ := Aside0.mk (below_step (by repeat (first | (with_reducible first | exact HB.out | apply below_alloc | apply pw_below_drewN | apply below_drew1) | exact HB.out)) hb); clear HO_11; clear HB; have HO_11 := n0_; have HO438 := n1_; have HO441 := n2_; have HO444 := n3_; have HB := n5_; clear n0_ n1_ n2_ n3_ n5_; (try clear hb); (try clear hb2); (try clear hk); (try clear hi); (try clear ho0); (try clear ho1); (try clear ho2)) | ((with_reducible refine gate_dst (N := 15) rfl ?_); (try (refine gate_guard (by rfl) ?_; dsimp only)); refine box_event ?hg (N := 15) ?hd (cs := #[.int .u8 0, .int .u32 0, .slice none 0 0, .slice none 0 0]) (t := 37) ?hr ?_; (case hd => rfl); (case hg => rfl); (case hr => first | (go_simp; done) | (go_simp; rfl)); intro gb446 hg w34 hbox hb; have n0_ := Aside0.mk (Kd.R_below (by (with_reducible repeat (first | apply Kd.R_alloc | apply Kd.R_drewN | apply Kd.R_drew)); exact HO_11.out) hb); have n1_ := Aside0.mk (Kd.R_below (by (with_reducible repeat (first | apply Kd.R_alloc | apply Kd.R_drewN | apply Kd.R_drew)); exact HO438.out) hb); have n2_ := Aside0.mk (Kd.R_below (by (with_reducible repeat (first | apply Kd.R_alloc | apply Kd.R_drewN | apply Kd.R_drew)); exact HO441.out) hb); have n5_ := Aside0.mk (below_step (by repeat (first | (with_reducible first | exact HB.out | apply below_alloc | apply pw_below_drewN | apply below_drew1) | exact HB.out)) hb); have n6_ := Aside0.mk (hbox); have n7_ := Aside0.mk trivial; have n8_ := Aside0.mk ((by rw [hg]; exact (below_size (by repeat (first | (with_reducible first | exact HB.out | apply below_alloc | apply pw_below_drewN | apply below_drew1) | exact HB.out))) : w.heap.size ≤ gb446)); clear HO_11; clear HO438; clear HO441; clear HB; have HO_11 := n0_; have HO438 := n1_; have HO441 := n2_; have HB := n5_; have BK446 := n6_; have GW446 := n7_; have GE446 := n8_; clear n0_ n1_ n2_ n5_ n6_ n7_ n8_; clear hb hbox hg; have hcz35_0 : w34.cell? ⟨gb446, 0, none⟩ = some (.int .u8 0) := (blk_cell BK446.out 0).trans rfl; have hcz35_1 : w34.cell? ⟨gb446, 1, none⟩ = some (.int .u32 0) := (blk_cell BK446.out 1).trans rfl; have hcz35_2 : w34.cell? ⟨gb446, 2, none⟩ = some (.slice none 0 0) := (blk_cell BK446.out 2).trans rfl; have hcz35_3 : w34.cell? ⟨gb446, 3, none⟩ = some (.slice none 0 0) := (blk_cell BK446.out 3).trans rfl; have hfz35_0 := blk_frozen BK446.out 0; have hfz35_1 := blk_frozen BK446.out 1; have hfz35_2 := blk_frozen BK446.out 2; have hfz35_3 := blk_frozen BK446.out 3; obtain ⟨Ao36, co36, eo36⟩ := Kd.R_slice HO438.out; subst eo36; obtain ⟨Ao37, co37, eo37⟩ := Kd.R_slice HO441.out; subst eo37) | ((with_reducible refine gate_callee (f := 19) rfl ?_); refine goesL_ (some 90) rfl rfl Try.func19 (by kernel_rfl) rfl #[.slice Ao18 t425.length co18, .int .u32 a4] rfl (by (try simp only [List.map_toArray, List.map_cons, List.map_nil]); first | done | rfl | (simp only [List.length_drop, List.length_take]; rfl)) ?_; (with_reducible refine (offer_Has.calls k2 _ _ t425 a4 t447 _ ?side1 ?side2 A26.out).mono ?_); (case side1 => refine (Kd.R_reads' (e := 5) (base := w.heap.size) (ok := fun k_ => ((True ∧ some k_ ≠ (.slice Ao36 t436.length co36 : Value).ownBlock) ∧ some k_ ≠ (.slice Ao37 t439.length co37 : Value).ownBlock)) (n := t425.length) (c := co18) ?_).2.2; exact (by (with_reducible repeat (first | apply Kd.R_alloc | apply Kd.R_drewN | apply Kd.R_drew)); exact (Kd.R_mono (Kd.R_far (p := ⟨gb446, 3, none⟩) (Kd.R_far (p := ⟨gb446, 2, none⟩) (Kd.R_far (p := ⟨gb446, 1, none⟩) (Kd.R_far (p := ⟨gb446, 0, none⟩) (Kd.R_types HO_11.out BK446.out (by decide)) (fun _ hk => hk.2) (.int .u8 t434)) (fun _ hk => hk.2) (.int .u32 t435)) (fun _ hk => hk.2) (.slice Ao36 t436.length co36)) (fun _ hk => hk.2) (.slice Ao37 t439.length co37)) (fun _ h_ => h_.1)))); (case side2 => exact (Kd.R_reads' HO_11.out).2.1); rintro e w38 ⟨rfl, hb⟩; refine ⟨_, rfl, ?_⟩; have n0_ := Aside0.mk (Kd.R_below (by (with_reducible repeat (first | apply Kd.R_alloc | apply Kd.R_drewN | apply Kd.R_drew)); exact (Kd.R_mono (Kd.R_far (p := ⟨gb446, 3, none⟩) (Kd.R_far (p := ⟨gb446, 2, none⟩) (Kd.R_far (p := ⟨gb446, 1, none⟩) (Kd.R_far (p := ⟨gb446, 0, none⟩) (Kd.R_types HO_11.out BK446.out (by decide)) (fun _ hk => hk.2) (.int .u8 t434)) (fun _ hk => hk.2) (.int .u32 t435)) (fun _ hk => hk.2) (.slice Ao36 t436.length co36)) (fun _ hk => hk.2) (.slice Ao37 t439.length co37)) (fun _ h_ => h_.1))) hb); have n5_ := Aside0.mk (below_step (by repeat (first | (with_reducible first | exact HB.out | apply below_alloc | apply pw_below_drewN | apply below_drew1 | refine below_set ?_ GE446.out) | exact HB.out)) hb); clear HO_11; clear HB; have HO_11 := n0_; have HB := n5_; clear n0_ n5_; (try clear hb); (try clear hb2); (try clear hk); (try clear hi); have q39 : ((ji22) : Int) ≤ ((t425.length : Int) : Int) := of_decide_eq_true (by first | (with_reducible assumption) | assumption); obtain ⟨i039, hi039, _, hsz39, _⟩ := info_parts info5; have hroom39 : t425.length ≤ co18 := (Kd.R_reads' HO_11.out).2.1; have hC39 : Kd.C (Kd.int .u8) _ Ao18 t425.length t425 := (Kd.R_reads' HO_11.out).2.2; have hcut39 := cut_to (P := Try.prog) 22 5 .i64 Try.underlying22 hi039 Ao18 t425.length co18 (ji22) (of_decide_eq_true (by first | (with_reducible assumption) | assumption)) q39 hroom39; have hr39 := Kd.C_take (m := ((ji22) : Int).toNat) hC39 (by omega); have hy39 : y430.length = ((ji22) : Int).toNat := (by rw [Ny448.out, List.length_take]; omega); rw [← Ny448.out] at hr39; rw [← hy39] at hcut39; have HR451 := Aside0.mk hr39; have HC451 := Aside0.mk (show y430.length ≤ co18 from by omega); clear hr39 hC39 hroom39 hi039 hsz39; have KY39 := Aside0.mk hy39; clear hy39; have KL39 := Aside0.mk (show ((ji22) : Int).toNat ≤ t425.length from by omega); replace q39 := eq_true q39) | (go_at_call 19; (with_reducible refine (offer_Has.calls k2 _ _ y430 a4 t452 _ ?side1 ?side2 A31.out).mono ?_); (case side1 => repeat (first | exact (by repeat (first | (with_reducible exact HR451.out) | (with_reducible refine Kd.C_alloc ?_ _) | (with_reducible refine Kd.C_drewN ?_ _) | (with_reducible refine Kd.C_drew ?_) | exact HR451.out)) | (with_reducible refine Kd.C_alloc ?_ _) | (with_reducible refine Kd.C_drewN ?_ _) | (with_reducible refine Kd.C_drew ?_))); (case side2 => exact HC451.out); rintro e w40 ⟨rfl, hb⟩; have n7_ := Aside0.mk (below_step (by repeat (first | (with_reducible first | exact HB.out | apply below_alloc | apply pw_below_drewN | apply below_drew1 | refine below_set ?_ GE446.out) | exact HB.out)) hb); clear HB; have HB := n7_; clear n7_; (try clear hb); (try clear hb2); (try clear hk); (try clear hi)))
                            go_ret
                            exact ⟨by first | rfl | (simp [errW_none, errW_some] <;> rfl) | (simp only [← hji22]; first | rfl | (simp [errW_none, errW_some] <;> rfl)) | (simp [*, errW_none, errW_some] <;> rfl), by repeat (first | (with_reducible first | exact HB.out | apply below_alloc | apply pw_below_drewN | apply below_drew1 | refine below_set ?_ GE446.out) | exact HB.out)⟩
                          · rw [if_neg c28] at H
                            exact absurd H (by simp)
                        · rw [if_neg c27] at H
                          exact absurd H (by simp)
                      · rw [if_neg c24] at H
                        exact absurd H (by simp)
                    · rw [if_neg c23] at H
                      exact absurd H (by simp)
            · rw [if_neg c16] at H
              exact absurd H (by simp)
          · rw [if_neg c15] at H
            exact absurd H (by simp)
  · replace c7 := Bool.eq_false_iff.mpr c7
    subst c7
    have H1 : (none) = some r := by rw [if_neg (show ¬ (false = true) by decide)] at H; exact H
    clear H
    have H := H1
    clear H1
    exact absurd H (by simp)

/-- The one pure statement of crosswaylaw13_OfferHas. -/
def crosswaylaw13_OfferHas.Pure : Prop := ∀ (a0 : Int) (l1 : List Int) (l2 : List Int) (l3 : List Int) (a4 : Int), (Lit.int .u8 a0).wf = true → l1.length ≤ maxLen → (∀ x ∈ l1, (Lit.int .u8 x).wf = true) → l2.length ≤ maxLen → (∀ x ∈ l2, (Lit.int .u8 x).wf = true) → l3.length ≤ maxLen → (∀ x ∈ l3, (Lit.int .u32 x).wf = true) → (Lit.int .u32 a4).wf = true → ∃ k, crosswaylaw13_OfferHas.f k a0 l1 l2 l3 a4 = some true

end Go.Proofs.Ytnmhnihhlakinac.M
