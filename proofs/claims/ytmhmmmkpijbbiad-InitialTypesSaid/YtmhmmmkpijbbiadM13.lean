/- Contracts of the Go functions that the laws reach, each as a plain Lean function: written by xprint.py, a program of this repo. -/
import Derived.Test.YtmhmmmkpijbbiadM0
import Derived.Test.YtmhmmmkpijbbiadM2
import Derived.Test.YtmhmmmkpijbbiadM4
import Derived.Test.YtmhmmmkpijbbiadM5
import Derived.Test.YtmhmmmkpijbbiadM8
import Derived.Test.YtmhmmmkpijbbiadM9
namespace Go.Proofs.Ytmhmmmkpijbbiad.M
open Go.RowKit Go.Proofs.YtmhmmmkpijbbiadW.PrintWords Go.Proofs.YtmhmmmkpijbbiadW.PrintLast Go.Proofs.YtmhmmmkpijbbiadW.PrintMore Go.Proofs.Ytmhmmmkpijbbiad.X
attribute [local go_sem] max2_int min2_int max_two min_two max_three min_three max_four min_four   -- for this text's walks alone
set_option linter.unusedVariables false
set_option linter.unusedSimpArgs false

/-! ### crosswaylaw11_InitialTypes: function 5 -/
mutual
def crosswaylaw11_InitialTypes.j0 : Nat → List Int → List Int → List Int → List Int → Int → Bool → Option (Bool)
  | 0, _, _, _, _, _, _ => none
  | k + 1, x0, x1, x2, x3, x4, x37 => if x37 = true then (some true) else ((initial_Make.f k x0 x1 x2 x3 0).bind fun bt434 => (if bt434.2 = 0 then (if (bt434.1.length : Int) = 0 then (none) else (crosswaylaw11_InitialTypes.l0 k x0 x2 x3 x4 bt434.1 0)) else (none)))
def crosswaylaw11_InitialTypes.l0 : Nat → List Int → List Int → List Int → Int → List Int → Int → Option (Bool)
  | 0, _, _, _, _, _, _ => none
  | k + 1, x0, x2, x3, x4, x11, x13 => if x13 < 4 then (if 0 < (x11.length : Int) then ((some (x11.set (0 : Int).toNat ((((128 + ((wrap64 (16 * x13)) % 256)) % 256) + (Int.tmod x4 16)) % 256) : List Int)).bind fun y455 => ((initial_Parse.f k y455).bind fun bt456 => ((initial_Type.f (rd y455 0)).bind fun t473 => (if t473 = x13 then (if ((bt456.2.2.2.2.2.2 == 0) != (x13 == 0)) = true then (none) else (if bt456.2.2.2.2.2.2 = 0 then (crosswaylaw11_InitialTypes.j2 k x0 x2 x3 x4 y455 x13 bt456.2.2.2.2.2.2 false bt456.1 bt456.2.1 bt456.2.2.1 bt456.2.2.2.1 bt456.2.2.2.2.1 bt456.2.2.2.2.2.1) else (crosswaylaw11_InitialTypes.j2 k x0 x2 x3 x4 y455 x13 bt456.2.2.2.2.2.2 (bt456.2.2.2.2.2.2 != 14) bt456.1 bt456.2.1 bt456.2.2.1 bt456.2.2.2.1 bt456.2.2.2.2.1 bt456.2.2.2.2.2.1))) else (none))))) else (none)) else (if 0 < (x11.length : Int) then ((initial_Parse.f k (x11.set (0 : Int).toNat (Int.tmod x4 128))).bind fun bt439 => (some (bt439.2.2.2.2.2.2 == 14))) else (none))
def crosswaylaw11_InitialTypes.j2 : Nat → List Int → List Int → List Int → Int → List Int → Int → Int → Bool → Int → Int → List Int → List Int → List Int → List Int → Option (Bool)
  | 0, _, _, _, _, _, _, _, _, _, _, _, _, _, _ => none
  | k + 1, x0, x2, x3, x4, x11, x13, x15, x91, x472000, x472001, x472002, x472003, x472004, x472005 => if x91 = true then (none) else (if x15 = 0 then ((crosswayref00_SameBytes.f k x472002 x0).bind fun t474 => (if t474 = true then ((crosswayref00_SameBytes.f k x472004 x2).bind fun t475 => (if t475 = true then ((crosswayref00_SameBytes.f k x472005 x3).bind fun t476 => (if t476 = true then (if 0 < (x11.length : Int) then (if x472000 = (rd x11 0) then (crosswaylaw11_InitialTypes.l0 k x0 x2 x3 x4 x11 (wrap64 (x13 + 1))) else (none)) else (none)) else (none))) else (none))) else (none))) else (crosswaylaw11_InitialTypes.l0 k x0 x2 x3 x4 x11 (wrap64 (x13 + 1))))
end
def crosswaylaw11_InitialTypes.f (k : Nat) (l0 : List Int) (l1 : List Int) (l2 : List Int) (l3 : List Int) (a4 : Int) : Option (Bool) := (crosswaylaw11_alive.f k).bind fun t433 => (if t433 = true then (if (l0.length : Int) > 20 then (crosswaylaw11_InitialTypes.j0 k l0 l1 l2 l3 a4 true) else (if (l1.length : Int) > 20 then (crosswaylaw11_InitialTypes.j0 k l0 l1 l2 l3 a4 true) else (if (l2.length : Int) > 100 then (crosswaylaw11_InitialTypes.j0 k l0 l1 l2 l3 a4 true) else (crosswaylaw11_InitialTypes.j0 k l0 l1 l2 l3 a4 (decide ((l3.length : Int) > 100)))))) else (none))
theorem crosswaylaw11_InitialTypes.mono_l : ∀ k, (∀ y0 y1 y2 y3 y4 y5, LeO (crosswaylaw11_InitialTypes.j0 k y0 y1 y2 y3 y4 y5) (crosswaylaw11_InitialTypes.j0 (k + 1) y0 y1 y2 y3 y4 y5)) ∧ (∀ y0 y1 y2 y3 y4 y5, LeO (crosswaylaw11_InitialTypes.l0 k y0 y1 y2 y3 y4 y5) (crosswaylaw11_InitialTypes.l0 (k + 1) y0 y1 y2 y3 y4 y5)) ∧ (∀ y0 y1 y2 y3 y4 y5 y6 y7 y8 y9 y10 y11 y12 y13, LeO (crosswaylaw11_InitialTypes.j2 k y0 y1 y2 y3 y4 y5 y6 y7 y8 y9 y10 y11 y12 y13) (crosswaylaw11_InitialTypes.j2 (k + 1) y0 y1 y2 y3 y4 y5 y6 y7 y8 y9 y10 y11 y12 y13))
  | 0 => ⟨fun _ _ _ _ _ _ r h => by simp [crosswaylaw11_InitialTypes.j0] at h, fun _ _ _ _ _ _ r h => by simp [crosswaylaw11_InitialTypes.l0] at h, fun _ _ _ _ _ _ _ _ _ _ _ _ _ _ r h => by simp [crosswaylaw11_InitialTypes.j2] at h⟩
  | k + 1 => by
    obtain ⟨ih0, ih1, ih2⟩ := crosswaylaw11_InitialTypes.mono_l k
    refine ⟨?_, ?_, ?_⟩
    · intro y0 y1 y2 y3 y4 y5
      unfold crosswaylaw11_InitialTypes.j0
      repeat' first
      | (with_reducible exact ih0 _ _ _ _ _ _)
      | (with_reducible exact ih1 _ _ _ _ _ _)
      | (with_reducible exact ih2 _ _ _ _ _ _ _ _ _ _ _ _ _ _)
      | (with_reducible exact crosswaylaw11_alive.mono _)
      | (with_reducible exact crosswayref00_SameBytes.mono _ _ _)
      | (with_reducible exact initial_Make.mono _ _ _ _ _ _)
      | (with_reducible exact initial_Parse.mono _ _)
      | (with_reducible exact LeO.refl _)
      | (with_reducible exact LeO.none _)
      | (with_reducible refine LeO.ite ?_ ?_)
      | (with_reducible refine LeO.bind ?_ (fun _ => ?_))
      | exact ih0 _ _ _ _ _ _
      | exact ih1 _ _ _ _ _ _
      | exact ih2 _ _ _ _ _ _ _ _ _ _ _ _ _ _
      | exact crosswaylaw11_alive.mono _
      | exact crosswayref00_SameBytes.mono _ _ _
      | exact initial_Make.mono _ _ _ _ _ _
      | exact initial_Parse.mono _ _
      | exact LeO.none _
      | refine LeO.ite ?_ ?_
      | refine LeO.bind ?_ (fun _ => ?_)
    · intro y0 y1 y2 y3 y4 y5
      unfold crosswaylaw11_InitialTypes.l0
      repeat' first
      | (with_reducible exact ih0 _ _ _ _ _ _)
      | (with_reducible exact ih1 _ _ _ _ _ _)
      | (with_reducible exact ih2 _ _ _ _ _ _ _ _ _ _ _ _ _ _)
      | (with_reducible exact crosswaylaw11_alive.mono _)
      | (with_reducible exact crosswayref00_SameBytes.mono _ _ _)
      | (with_reducible exact initial_Make.mono _ _ _ _ _ _)
      | (with_reducible exact initial_Parse.mono _ _)
      | (with_reducible exact LeO.refl _)
      | (with_reducible exact LeO.none _)
      | (with_reducible refine LeO.ite ?_ ?_)
      | (with_reducible refine LeO.bind ?_ (fun _ => ?_))
      | exact ih0 _ _ _ _ _ _
      | exact ih1 _ _ _ _ _ _
      | exact ih2 _ _ _ _ _ _ _ _ _ _ _ _ _ _
      | exact crosswaylaw11_alive.mono _
      | exact crosswayref00_SameBytes.mono _ _ _
      | exact initial_Make.mono _ _ _ _ _ _
      | exact initial_Parse.mono _ _
      | exact LeO.none _
      | refine LeO.ite ?_ ?_
      | refine LeO.bind ?_ (fun _ => ?_)
    · intro y0 y1 y2 y3 y4 y5 y6 y7 y8 y9 y10 y11 y12 y13
      unfold crosswaylaw11_InitialTypes.j2
      repeat' first
      | (with_reducible exact ih0 _ _ _ _ _ _)
      | (with_reducible exact ih1 _ _ _ _ _ _)
      | (with_reducible exact ih2 _ _ _ _ _ _ _ _ _ _ _ _ _ _)
      | (with_reducible exact crosswaylaw11_alive.mono _)
      | (with_reducible exact crosswayref00_SameBytes.mono _ _ _)
      | (with_reducible exact initial_Make.mono _ _ _ _ _ _)
      | (with_reducible exact initial_Parse.mono _ _)
      | (with_reducible exact LeO.refl _)
      | (with_reducible exact LeO.none _)
      | (with_reducible refine LeO.ite ?_ ?_)
      | (with_reducible refine LeO.bind ?_ (fun _ => ?_))
      | exact ih0 _ _ _ _ _ _
      | exact ih1 _ _ _ _ _ _
      | exact ih2 _ _ _ _ _ _ _ _ _ _ _ _ _ _
      | exact crosswaylaw11_alive.mono _
      | exact crosswayref00_SameBytes.mono _ _ _
      | exact initial_Make.mono _ _ _ _ _ _
      | exact initial_Parse.mono _ _
      | exact LeO.none _
      | refine LeO.ite ?_ ?_
      | refine LeO.bind ?_ (fun _ => ?_)
theorem crosswaylaw11_InitialTypes.mono : ∀ a0 a1 a2 a3 a4 k, LeO (crosswaylaw11_InitialTypes.f k a0 a1 a2 a3 a4) (crosswaylaw11_InitialTypes.f (k + 1) a0 a1 a2 a3 a4) := by
  intro a0 a1 a2 a3 a4 k
  obtain ⟨ih0, ih1, ih2⟩ := crosswaylaw11_InitialTypes.mono_l k
  unfold crosswaylaw11_InitialTypes.f
  repeat' first
      | (with_reducible exact ih0 _ _ _ _ _ _)
      | (with_reducible exact ih1 _ _ _ _ _ _)
      | (with_reducible exact ih2 _ _ _ _ _ _ _ _ _ _ _ _ _ _)
      | (with_reducible exact crosswaylaw11_alive.mono _)
      | (with_reducible exact crosswayref00_SameBytes.mono _ _ _)
      | (with_reducible exact initial_Make.mono _ _ _ _ _ _)
      | (with_reducible exact initial_Parse.mono _ _)
      | (with_reducible exact LeO.refl _)
      | (with_reducible exact LeO.none _)
      | (with_reducible refine LeO.ite ?_ ?_)
      | (with_reducible refine LeO.bind ?_ (fun _ => ?_))
      | exact ih0 _ _ _ _ _ _
      | exact ih1 _ _ _ _ _ _
      | exact ih2 _ _ _ _ _ _ _ _ _ _ _ _ _ _
      | exact crosswaylaw11_alive.mono _
      | exact crosswayref00_SameBytes.mono _ _ _
      | exact initial_Make.mono _ _ _ _ _ _
      | exact initial_Parse.mono _ _
      | exact LeO.none _
      | refine LeO.ite ?_ ?_
      | refine LeO.bind ?_ (fun _ => ?_)
def crosswaylaw11_InitialTypes.T15 : Bool × List (List Nat × List Nat) := (true, [([], []), ([0], [0]), ([1], [1]), ([2], [2]), ([3, 2], [2, 3]), ([4, 2], [2, 4]), ([2], [2]), ([5, 6, 2, 2], [2, 5, 6]), ([7, 2], [2, 7]), ([8, 7, 2], [2, 8]), ([9], [9]), ([10, 9], [9, 10]), ([9], [9]), ([11, 12, 9, 9], [9, 11, 12]), ([13, 9], [9, 13]), ([9, 14, 2], [2, 9, 14]), ([15, 13, 2], [2, 15]), ([16], [16]), ([17, 16], [16, 17]), ([16], [16]), ([18, 19, 16, 16], [16, 18, 19]), ([20, 16], [16, 20]), ([16, 21, 2], [2, 16, 21]), ([22, 20, 2], [2, 22]), ([23], [23]), ([24, 23], [23, 24]), ([25, 23], [23, 25]), ([23], [23]), ([27, 23], [23, 27]), ([28, 23], [23, 28]), ([26, 29, 23], [23, 26, 29]), ([23, 30, 2], [2, 23, 30]), ([2, 31], [2, 31])])
def crosswaylaw11_InitialTypes.B15 : List Nat := [0, 1, 3, 7, 15, 31, 7, 127, 255, 511, 1023, 2047, 1023, 8191, 16383, 32767, 65535, 131071, 262143, 131071, 1048575, 2097151, 4194303, 8388607, 16777215, 33554431, 67108863, 16777215, 150994943, 419430399, 1073741823, 2147483647, 4294967295]
theorem crosswaylaw11_InitialTypes.tab15 : rtab .any (opsOf Try.f5 15) = crosswaylaw11_InitialTypes.T15 := by kernel_rfl
theorem crosswaylaw11_InitialTypes.bits15 : waitsOk crosswaylaw11_InitialTypes.T15.2 crosswaylaw11_InitialTypes.B15 = true := by kernel_rfl
set_option maxHeartbeats 8000000 in
set_option maxRecDepth 100000 in
theorem crosswaylaw11_InitialTypes.calls (k : Nat) (A0 : Option Addr) (c0 : Nat) (l0 : List Int) (A1 : Option Addr) (c1 : Nat) (l1 : List Int) (A2 : Option Addr) (c2 : Nat) (l2 : List Int) (A3 : Option Addr) (c3 : Nat) (l3 : List Int) (a4 : Int) (r : Bool) (w : World) (hr0 : Kd.C (Kd.int .u8) w A0 l0.length l0) (hc0 : l0.length ≤ c0) (hr1 : Kd.C (Kd.int .u8) w A1 l1.length l1) (hc1 : l1.length ≤ c1) (hr2 : Kd.C (Kd.int .u8) w A2 l2.length l2) (hc2 : l2.length ≤ c2) (hr3 : Kd.C (Kd.int .u8) w A3 l3.length l3) (hc3 : l3.length ≤ c3) (h : crosswaylaw11_InitialTypes.f k l0 l1 l2 l3 a4 = some r) :
    Calls Try.prog 5 #[.slice A0 l0.length c0, .slice A1 l1.length c1, .slice A2 l2.length c2, .slice A3 l3.length c3, .int .u8 a4] w fun e w' => e = .returned (.bool r) ∧ Below w.heap.size w w' := by
  have hu29 := Try.underlying29
  have HR0 := Aside0.mk hr0
  have HC0 := Aside0.mk hc0
  clear hr0 hc0
  have HR1 := Aside0.mk hr1
  have HC1 := Aside0.mk hc1
  clear hr1 hc1
  have HR2 := Aside0.mk hr2
  have HC2 := Aside0.mk hc2
  clear hr2 hc2
  have HR3 := Aside0.mk hr3
  have HC3 := Aside0.mk hc3
  clear hr3 hc3
  have HB := Aside0.mk (Below.refl w.heap.size w)
  have H : ((crosswaylaw11_alive.f k).bind fun t433 => (if t433 = true then (if (l0.length : Int) > 20 then (crosswaylaw11_InitialTypes.j0 k l0 l1 l2 l3 a4 true) else (if (l1.length : Int) > 20 then (crosswaylaw11_InitialTypes.j0 k l0 l1 l2 l3 a4 true) else (if (l2.length : Int) > 100 then (crosswaylaw11_InitialTypes.j0 k l0 l1 l2 l3 a4 true) else (crosswaylaw11_InitialTypes.j0 k l0 l1 l2 l3 a4 (decide ((l3.length : Int) > 100)))))) else (none))) = some r := h
  clear h
  replace H := Option.bind_eq_some_iff.mp H
  obtain ⟨t433, A60, H⟩ := H
  replace H : (if t433 = true then (if (l0.length : Int) > 20 then (crosswaylaw11_InitialTypes.j0 k l0 l1 l2 l3 a4 true) else (if (l1.length : Int) > 20 then (crosswaylaw11_InitialTypes.j0 k l0 l1 l2 l3 a4 true) else (if (l2.length : Int) > 100 then (crosswaylaw11_InitialTypes.j0 k l0 l1 l2 l3 a4 true) else (crosswaylaw11_InitialTypes.j0 k l0 l1 l2 l3 a4 (decide ((l3.length : Int) > 100)))))) else (none)) = some r := H
  have A6 := Aside0.mk A60
  clear A60
  by_cases c7 : t433 = true
  · subst c7
    have H1 : (if (l0.length : Int) > 20 then (crosswaylaw11_InitialTypes.j0 k l0 l1 l2 l3 a4 true) else (if (l1.length : Int) > 20 then (crosswaylaw11_InitialTypes.j0 k l0 l1 l2 l3 a4 true) else (if (l2.length : Int) > 100 then (crosswaylaw11_InitialTypes.j0 k l0 l1 l2 l3 a4 true) else (crosswaylaw11_InitialTypes.j0 k l0 l1 l2 l3 a4 (decide ((l3.length : Int) > 100)))))) = some r := by rw [if_pos rfl] at H; exact H
    clear H
    have H := H1
    clear H1
    have HC8 := Aside0.mk H
    clear H
    go_enter Try.func5, Try.ntmps5
    go_upto_region 3 with (first | ((with_reducible refine gate_callee (f := 6) rfl ?_); refine goesL_ (some 18) rfl rfl Try.func6 (by kernel_rfl) rfl #[] rfl (by (try simp only [List.map_toArray, List.map_cons, List.map_nil]); first | done | rfl | (simp only [List.length_drop, List.length_take]; rfl)) ?_; (with_reducible refine (crosswaylaw11_alive.calls k  true _ A6.out).mono ?_); rintro e w9 ⟨rfl, hb⟩; refine ⟨_, rfl, ?_⟩; have n0_ := Aside0.mk (below_step (by repeat (first | (with_reducible first | exact HB.out | apply below_alloc | apply pw_below_drewN | apply below_drew1) | exact HB.out)) hb); clear HB; have HB := n0_; clear n0_; (try clear hb); (try clear hb2); (try clear hk); (try clear hi)))
    (try simp only [Act.put, List.setIfInBounds_toArray, List.set_cons_zero, List.set_cons_succ])
    go_cut [37] (fun v37 wc => ∃ (kq : Nat) (x37_7 : Bool), v37 = .bool x37_7 ∧ Aside0 (crosswaylaw11_InitialTypes.j0 kq l0 l1 l2 l3 a4 x37_7 = some r) ∧ Aside0 (kq ≤ k) ∧ Aside0 (Below w.heap.size w wc))
    case first =>
      have H := HC8.out
      clear HC8
      by_cases c10 : (l0.length : Int) > 20
      · rw [if_pos c10] at H
        have c10b0 : decide (20 < (l0.length : Int)) = true := decide_eq_true c10
        have c10b1 : decide (20 < l0.length) = true := decide_eq_true (by omega)
        clear c10
        (first | rw [c10b0] | (simp only [i64_w, i32_w]; rw [c10b0]) | skip)
        have H' := Aside0.mk H
        clear H
        go_wp2
        go_meet
        case rel => exact ⟨_, (true), (by first | rfl | (simp; done) | (simp [*]; done) | (simp only [i64_w]; done) | (simp [i64_w]; done)), H', ⟨by first | omega | exact Nat.le_refl _⟩, ⟨by repeat (first | (with_reducible first | exact HB.out | apply below_alloc | apply pw_below_drewN | apply below_drew1) | exact HB.out)⟩⟩
      · rw [if_neg c10] at H
        have c10b0 : decide (20 < (l0.length : Int)) = false := decide_eq_false c10
        have c10b1 : decide (20 < l0.length) = false := decide_eq_false (by omega)
        clear c10
        (first | rw [c10b0] | (simp only [i64_w, i32_w]; rw [c10b0]) | skip)
        by_cases c11 : (l1.length : Int) > 20
        · rw [if_pos c11] at H
          have c11b0 : decide (20 < (l1.length : Int)) = true := decide_eq_true c11
          have c11b1 : decide (20 < l1.length) = true := decide_eq_true (by omega)
          clear c11
          have H' := Aside0.mk H
          clear H
          go_wp2
          go_meet
          case rel => exact ⟨_, (true), (by first | rfl | (simp; done) | (simp [*]; done) | (simp only [i64_w]; done) | (simp [i64_w]; done)), H', ⟨by first | omega | exact Nat.le_refl _⟩, ⟨by repeat (first | (with_reducible first | exact HB.out | apply below_alloc | apply pw_below_drewN | apply below_drew1) | exact HB.out)⟩⟩
        · rw [if_neg c11] at H
          have c11b0 : decide (20 < (l1.length : Int)) = false := decide_eq_false c11
          have c11b1 : decide (20 < l1.length) = false := decide_eq_false (by omega)
          clear c11
          by_cases c12 : (l2.length : Int) > 100
          · rw [if_pos c12] at H
            have c12b0 : decide (100 < (l2.length : Int)) = true := decide_eq_true c12
            have c12b1 : decide (100 < l2.length) = true := decide_eq_true (by omega)
            clear c12
            have H' := Aside0.mk H
            clear H
            go_wp2
            go_meet
            case rel => exact ⟨_, (true), (by first | rfl | (simp; done) | (simp [*]; done) | (simp only [i64_w]; done) | (simp [i64_w]; done)), H', ⟨by first | omega | exact Nat.le_refl _⟩, ⟨by repeat (first | (with_reducible first | exact HB.out | apply below_alloc | apply pw_below_drewN | apply below_drew1) | exact HB.out)⟩⟩
          · rw [if_neg c12] at H
            have c12b0 : decide (100 < (l2.length : Int)) = false := decide_eq_false c12
            have c12b1 : decide (100 < l2.length) = false := decide_eq_false (by omega)
            clear c12
            have H' := Aside0.mk H
            clear H
            go_wp2
            go_meet
            case rel => exact ⟨_, (decide ((l3.length : Int) > 100)), (by first | rfl | (simp; done) | (simp [*]; done) | (simp only [i64_w]; done) | (simp [i64_w]; done)), H', ⟨by first | omega | exact Nat.le_refl _⟩, ⟨by repeat (first | (with_reducible first | exact HB.out | apply below_alloc | apply pw_below_drewN | apply below_drew1) | exact HB.out)⟩⟩
    case rest =>
      clear HC8
      try clear c1
      try clear c2
      try clear p2
      try clear c3
      try clear c5
      try clear c6
      try clear c7
      try clear c10
      try clear c10b0
      try clear c10b1
      try clear c11
      try clear c11b0
      try clear c11b1
      try clear c12
      try clear c12b0
      try clear c12b1
      obtain ⟨kq, x37_7, rfl, HA, HJ7, HB⟩ := hcut
      cases kq with
      | zero => exact absurd HA.out (by simp [crosswaylaw11_InitialTypes.j0])
      | succ kj7 =>
        have H := HA.out
        clear HA
        simp only [crosswaylaw11_InitialTypes.j0] at H
        by_cases c13 : x37_7 = true
        · subst c13
          have H1 : (some true) = some r := by rw [if_pos rfl] at H; exact H
          clear H
          have H := H1
          clear H1
          obtain rfl := Option.some.inj H
          go_wp2
          go_ret
          exact ⟨by first | rfl | (simp [errW_none, errW_some] <;> rfl) | (simp [*, errW_none, errW_some] <;> rfl), by repeat (first | (with_reducible first | exact HB.out | apply below_alloc | apply pw_below_drewN | apply below_drew1) | exact HB.out)⟩
        · replace c13 := Bool.eq_false_iff.mpr c13
          subst c13
          have H1 : ((initial_Make.f kj7 l0 l1 l2 l3 0).bind fun bt434 => (if bt434.2 = 0 then (if (bt434.1.length : Int) = 0 then (none) else (crosswaylaw11_InitialTypes.l0 kj7 l0 l2 l3 a4 bt434.1 0)) else (none))) = some r := by rw [if_neg (show ¬ (false = true) by decide)] at H; exact H
          clear H
          have H := H1
          clear H1
          replace H := Option.bind_eq_some_iff.mp H
          obtain ⟨⟨t434, t435⟩, A140, H⟩ := H
          replace H : (if t435 = 0 then (if (t434.length : Int) = 0 then (none) else (crosswaylaw11_InitialTypes.l0 kj7 l0 l2 l3 a4 t434 0)) else (none)) = some r := H
          have A14 := Aside0.mk A140
          clear A140
          by_cases c15 : t435 = 0
          · rw [if_pos c15] at H
            have c15b0 : (t435 == 0) = true := beq_iff_eq.mpr c15
            have c15b1 : (t435 != 0) = false := bne_eq_false_iff_eq.mpr c15
            clear c15
            by_cases c16 : (t434.length : Int) = 0
            · rw [if_pos c16] at H
              exact absurd H (by simp)
            · rw [if_neg c16] at H
              have c16b0 : ((t434.length : Int) == 0) = false := beq_eq_false_iff_ne.mpr c16
              have c16b1 : ((t434.length : Int) != 0) = true := bne_iff_ne.mpr c16
              have c16b2 : ¬ (t434 = []) := fun h_ => c16 (by rw [h_]; rfl)
              have H' := Aside0.mk H
              clear H
              go_wp2_with (first | ((with_reducible refine gate_callee (f := 15) rfl ?_); refine goesL_ (some 43) rfl rfl Try.func15 (by kernel_rfl) rfl #[.slice A0 l0.length c0, .slice A1 l1.length c1, .slice A2 l2.length c2, .slice A3 l3.length c3, .int .i64 0] rfl (by (try simp only [List.map_toArray, List.map_cons, List.map_nil]); first | done | rfl | (simp only [List.length_drop, List.length_take]; rfl)) ?_; (with_reducible refine (initial_Make.calls kj7 _ _ l0 _ _ l1 _ _ l2 _ _ l3 0 t434 t435 _ ?side1 ?side2 ?side3 ?side4 ?side5 ?side6 ?side7 ?side8 A14.out).mono ?_); (case side1 => repeat (first | exact (Kd.C_below HR0.out HB.out) | (with_reducible refine Kd.C_alloc ?_ _) | (with_reducible refine Kd.C_drewN ?_ _) | (with_reducible refine Kd.C_drew ?_))); (case side2 => exact HC0.out); (case side3 => repeat (first | exact (Kd.C_below HR1.out HB.out) | (with_reducible refine Kd.C_alloc ?_ _) | (with_reducible refine Kd.C_drewN ?_ _) | (with_reducible refine Kd.C_drew ?_))); (case side4 => exact HC1.out); (case side5 => repeat (first | exact (Kd.C_below HR2.out HB.out) | (with_reducible refine Kd.C_alloc ?_ _) | (with_reducible refine Kd.C_drewN ?_ _) | (with_reducible refine Kd.C_drew ?_))); (case side6 => exact HC2.out); (case side7 => repeat (first | exact (Kd.C_below HR3.out HB.out) | (with_reducible refine Kd.C_alloc ?_ _) | (with_reducible refine Kd.C_drewN ?_ _) | (with_reducible refine Kd.C_drew ?_))); (case side8 => exact HC3.out); rintro e w17 ⟨v436, rfl, ho0, hb⟩; refine ⟨_, rfl, ?_⟩; have n0_ := Aside0.mk (Kd.R_lower ho0 (below_size (by repeat (first | (with_reducible first | exact HB.out | apply below_alloc | apply pw_below_drewN | apply below_drew1) | exact HB.out)))); have n1_ := Aside0.mk (below_step (by repeat (first | (with_reducible first | exact HB.out | apply below_alloc | apply pw_below_drewN | apply below_drew1) | exact HB.out)) hb); clear HB; have HO437 := n0_; have HB := n1_; clear n0_ n1_; (try clear hb); (try clear hb2); (try clear hk); (try clear hi); (try clear ho0); obtain ⟨Ao18, co18, eo18⟩ := Kd.R_slice HO437.out; subst eo18))
              go_loopg [13] kj7 (fun kq v13 w' => ∃ (x11_2 : List Int) (x13_2 : Int), v13 = .int .i64 x13_2 ∧ Aside0 (crosswaylaw11_InitialTypes.l0 kq l0 l2 l3 a4 x11_2 x13_2 = some r) ∧ Aside0 (kq ≤ kj7) ∧ Aside0 (Kd.R (Kd.int .u8) 5 w' w.heap.size (fun _ => True) (.slice Ao18 t434.length co18) x11_2) ∧ Aside0 (Below w.heap.size w w'))
              case atStart => exact ⟨(t434), (0), (by first | rfl | (simp; done) | (simp [*]; done) | (simp only [i64_w]; done) | (simp [i64_w]; done)), H', ⟨Nat.le_refl _⟩, ⟨by (with_reducible repeat (first | apply Kd.R_alloc | apply Kd.R_drewN | apply Kd.R_drew)); exact HO437.out⟩, ⟨by repeat (first | (with_reducible first | exact HB.out | apply below_alloc | apply pw_below_drewN | apply below_drew1) | exact HB.out)⟩⟩
              case round =>
                clear H'
                try clear c1
                try clear c2
                try clear p2
                try clear c3
                try clear c5
                try clear c6
                try clear c7
                try clear c10
                try clear c10b0
                try clear c10b1
                try clear c11
                try clear c11b0
                try clear c11b1
                try clear c12
                try clear c12b0
                try clear c12b1
                try clear c13
                try clear c15
                try clear c15b0
                try clear c15b1
                try clear c16
                try clear c16b0
                try clear c16b1
                try clear c16b2
                try clear p2
                obtain ⟨x11_2, x13_2, rfl, HA, HK2, HO_11, HB⟩ := hrel
                have hl11_2 := (Kd.R_reads' HO_11.out).1
                rw [hl11_2] at HO_11
                (try simp only [hl11_2])
                cases gk with
                | zero => exact absurd HA.out (by simp [crosswaylaw11_InitialTypes.l0])
                | succ k2 =>
                  have H := HA.out
                  clear HA
                  simp only [crosswaylaw11_InitialTypes.l0] at H
                  by_cases c19 : x13_2 < 4
                  · rw [if_pos c19] at H
                    have c19b0 : decide (x13_2 < 4) = true := decide_eq_true c19
                    clear c19
                    by_cases c20 : 0 < (x11_2.length : Int)
                    · rw [if_pos c20] at H
                      have c20b0 : decide (0 < (x11_2.length : Int)) = true := decide_eq_true c20
                      have c20b1 : decide (0 < x11_2.length) = true := decide_eq_true (by omega)
                      clear c20
                      obtain ⟨y455, hy455⟩ : ∃ y_ : List Int, y_ = (x11_2.set (0 : Int).toNat ((((128 + ((wrap64 (16 * x13_2)) % 256)) % 256) + (Int.tmod a4 16)) % 256)) := ⟨_, rfl⟩
                      replace H : ((initial_Parse.f k2 y455).bind fun bt456 => ((initial_Type.f (rd y455 0)).bind fun t473 => (if t473 = x13_2 then (if ((bt456.2.2.2.2.2.2 == 0) != (x13_2 == 0)) = true then (none) else (if bt456.2.2.2.2.2.2 = 0 then (crosswaylaw11_InitialTypes.j2 k2 l0 l2 l3 a4 y455 x13_2 bt456.2.2.2.2.2.2 false bt456.1 bt456.2.1 bt456.2.2.1 bt456.2.2.2.1 bt456.2.2.2.2.1 bt456.2.2.2.2.2.1) else (crosswaylaw11_InitialTypes.j2 k2 l0 l2 l3 a4 y455 x13_2 bt456.2.2.2.2.2.2 (bt456.2.2.2.2.2.2 != 14) bt456.1 bt456.2.1 bt456.2.2.1 bt456.2.2.2.1 bt456.2.2.2.2.1 bt456.2.2.2.2.2.1))) else (none)))) = some r := by first | (rw [hy455]; with_reducible exact H) | (have H2_ := (Option.bind_some _ _).symm.trans H; rw [hy455]; with_reducible exact H2_) | (have H2_ := (Option.bind_some _ _).symm.trans H; with_reducible exact H2_) | with_reducible exact H | (rw [hy455]; exact H) | exact H
                      have Ny455 := Aside0.mk hy455
                      clear hy455
                      replace H := Option.bind_eq_some_iff.mp H
                      obtain ⟨⟨t456, t457, t458, t461, t464, t467, t470⟩, A220, H⟩ := H
                      replace H : ((initial_Type.f (rd y455 0)).bind fun t473 => (if t473 = x13_2 then (if ((t470 == 0) != (x13_2 == 0)) = true then (none) else (if t470 = 0 then (crosswaylaw11_InitialTypes.j2 k2 l0 l2 l3 a4 y455 x13_2 t470 false t456 t457 t458 t461 t464 t467) else (crosswaylaw11_InitialTypes.j2 k2 l0 l2 l3 a4 y455 x13_2 t470 (t470 != 14) t456 t457 t458 t461 t464 t467))) else (none))) = some r := H
                      have A22 := Aside0.mk A220
                      clear A220
                      have HC23 := Aside0.mk H
                      clear H
                      have p21 : 0 ≤ (0 : Int) := (by omega)
                      have q21 : (0 : Int) < ((x11_2.length : Int) : Int) := of_decide_eq_true (by first | (with_reducible assumption) | assumption)
                      have qi21 : (0 < x11_2.length) = True := eq_true (by omega)
                      obtain ⟨go21, co21, eo21, gb21, gl21, cl21, HG21⟩ := Kd.R_form HO_11.out (by omega)
                      (first | cases eo21 | (injection eo21 with ea_ en_ ec_; (first | subst ea_ | (injection ea_ with ea_; subst ea_)); subst ec_; clear en_))
                      have GB21 := Aside0.mk gb21
                      have GG21 := Aside0.mk HG21
                      clear gb21 gl21 HG21
                      obtain ⟨hx21_0, hf21_0⟩ := Kd.R_celln 0 HO_11.out (0 : Int) p21 q21
                      (try rw [show ((0 : Int)).toNat = 0 from rfl] at hx21_0)
                      (try simp only [Nat.reduceMul, Nat.zero_mul, Nat.zero_add, Nat.reduceAdd] at hx21_0)
                      (try rw [show ((0 : Int)).toNat = 0 from rfl] at hf21_0)
                      (try simp only [Nat.reduceMul, Nat.zero_mul, Nat.zero_add, Nat.reduceAdd] at hf21_0)
                      replace p21 := eq_true p21
                      replace q21 := eq_true q21
                      have HP24 := Kd.R_putg HO_11.out (0 : Int) ((((128 + ((wrap64 (16 * x13_2)) % 256)) % 256) + (Int.tmod a4 16)) % 256)
                      go_upto_region 13 with (first | ((with_reducible refine gate_store (t := 5) (p := 65) rfl ?_); refine store_event (t := 5) (p := 65) (v := ?vo_w25) (w1 := (wr.setCell ⟨go21, (0 : Int).toNat, none⟩ (.int .u8 ((((128 + ((wrap64 (16 * x13_2)) % 256)) % 256) + (Int.tmod a4 16)) % 256)))) ?hg ?ho ?hn ?hr ?_; (case ho => rfl); (case hg => rfl); (case hn => rfl); (case hr => first | (go_simp; done) | (go_simp; rfl)); intro w25 hw; have hg : wr.grownBy w25 (some go21) := (by rw [hw]; exact HP24.2); have hp_ : Kd.R (Kd.int .u8) 5 w25 w.heap.size (fun _ => True) (.slice (some ⟨go21, 0, none⟩) x11_2.length co18) y455 := (by rw [hw, Ny455.out]; exact HP24.1); clear HP24; have n0_ := Aside0.mk (hp_); have n1_ := Aside0.mk ((by rw [hw]; exact below_set (HB.out) GB21.out : Below w.heap.size w w25)); clear HO_11; clear HB; have HO_11 := n0_; have HB := n1_; clear n0_ n1_; clear hg hw hp_) | ((with_reducible refine gate_callee (f := 8) rfl ?_); refine goesL_ (some 68) rfl rfl Try.func8 (by kernel_rfl) rfl #[.slice (some ⟨go21, 0, none⟩) y455.length co18] rfl (by (try simp only [List.map_toArray, List.map_cons, List.map_nil]); first | done | (rw [show y455.length = x11_2.length from (Kd.R_reads' HO_11.out).1.symm] <;> rfl) | rfl | (simp only [List.length_drop, List.length_take]; rfl)) ?_; (with_reducible refine (initial_Parse.calls k2 _ _ y455 t456 t457 t458 t461 t464 t467 t470 _ ?side1 ?side2 A22.out).mono ?_); (case side1 => repeat (first | exact (Kd.R_reads' HO_11.out).2.2 | (with_reducible refine Kd.C_alloc ?_ _) | (with_reducible refine Kd.C_drewN ?_ _) | (with_reducible refine Kd.C_drew ?_))); (case side2 => rw [show y455.length = x11_2.length from (Kd.R_reads' HO_11.out).1.symm]; exact (Kd.R_reads' HO_11.out).2.1); rintro e w26 ⟨v459, v462, v465, v468, rfl, ho0, ho1, ho2, ho3, hb⟩; refine ⟨_, rfl, ?_⟩; have n0_ := Aside0.mk (Kd.R_mono (Kd.R_told (Kd.R_told (Kd.R_told (Kd.R_told (Kd.R_old (by (with_reducible repeat (first | apply Kd.R_alloc | apply Kd.R_drewN | apply Kd.R_drew)); exact HO_11.out) hb) (Kd.R_base ho0)) (Kd.R_base ho1)) (Kd.R_base ho2)) (Kd.R_base ho3)) (fun _ h_ => h_.1)); have n1_ := Aside0.mk (Kd.R_lower (Kd.R_new' ho0 (Kd.R_lt (by (with_reducible repeat (first | apply Kd.R_alloc | apply Kd.R_drewN | apply Kd.R_drew)); exact HO_11.out))) (below_size (by repeat (first | (with_reducible first | exact HB.out | apply below_alloc | apply pw_below_drewN | apply below_drew1) | exact HB.out)))); have n2_ := Aside0.mk (Kd.R_lower (Kd.R_new' ho1 (Kd.R_lt (by (with_reducible repeat (first | apply Kd.R_alloc | apply Kd.R_drewN | apply Kd.R_drew)); exact HO_11.out))) (below_size (by repeat (first | (with_reducible first | exact HB.out | apply below_alloc | apply pw_below_drewN | apply below_drew1) | exact HB.out)))); have n3_ := Aside0.mk (Kd.R_lower (Kd.R_new' ho2 (Kd.R_lt (by (with_reducible repeat (first | apply Kd.R_alloc | apply Kd.R_drewN | apply Kd.R_drew)); exact HO_11.out))) (below_size (by repeat (first | (with_reducible first | exact HB.out | apply below_alloc | apply pw_below_drewN | apply below_drew1) | exact HB.out)))); have n4_ := Aside0.mk (Kd.R_lower (Kd.R_new' ho3 (Kd.R_lt (by (with_reducible repeat (first | apply Kd.R_alloc | apply Kd.R_drewN | apply Kd.R_drew)); exact HO_11.out))) (below_size (by repeat (first | (with_reducible first | exact HB.out | apply below_alloc | apply pw_below_drewN | apply below_drew1) | exact HB.out)))); have n5_ := Aside0.mk (below_step (by repeat (first | (with_reducible first | exact HB.out | apply below_alloc | apply pw_below_drewN | apply below_drew1) | exact HB.out)) hb); clear HO_11; clear HB; have HO_11 := n0_; have HO460 := n1_; have HO463 := n2_; have HO466 := n3_; have HO469 := n4_; have HB := n5_; clear n0_ n1_ n2_ n3_ n4_ n5_; (try clear hb); (try clear hb2); (try clear hk); (try clear hi); (try clear ho0); (try clear ho1); (try clear ho2); (try clear ho3)) | ((with_reducible refine gate_dst (N := 14) rfl ?_); (try (refine gate_guard (by rfl) ?_; dsimp only)); refine box_event ?hg (N := 14) ?hd (cs := #[.int .u8 0, .int .u32 0, .slice none 0 0, .slice none 0 0, .slice none 0 0, .slice none 0 0]) (t := 29) ?hr ?_; (case hd => rfl); (case hg => rfl); (case hr => first | (go_simp; done) | (go_simp; rfl)); intro gb471 hg w27 hbox hb; have n0_ := Aside0.mk (Kd.R_below (by (with_reducible repeat (first | apply Kd.R_alloc | apply Kd.R_drewN | apply Kd.R_drew)); exact HO_11.out) hb); have n1_ := Aside0.mk (Kd.R_below (by (with_reducible repeat (first | apply Kd.R_alloc | apply Kd.R_drewN | apply Kd.R_drew)); exact HO460.out) hb); have n2_ := Aside0.mk (Kd.R_below (by (with_reducible repeat (first | apply Kd.R_alloc | apply Kd.R_drewN | apply Kd.R_drew)); exact HO463.out) hb); have n3_ := Aside0.mk (Kd.R_below (by (with_reducible repeat (first | apply Kd.R_alloc | apply Kd.R_drewN | apply Kd.R_drew)); exact HO466.out) hb); have n4_ := Aside0.mk (Kd.R_below (by (with_reducible repeat (first | apply Kd.R_alloc | apply Kd.R_drewN | apply Kd.R_drew)); exact HO469.out) hb); have n5_ := Aside0.mk (below_step (by repeat (first | (with_reducible first | exact HB.out | apply below_alloc | apply pw_below_drewN | apply below_drew1) | exact HB.out)) hb); have n6_ := Aside0.mk (hbox); have n7_ := Aside0.mk trivial; have n8_ := Aside0.mk ((by rw [hg]; exact (below_size (by repeat (first | (with_reducible first | exact HB.out | apply below_alloc | apply pw_below_drewN | apply below_drew1) | exact HB.out))) : w.heap.size ≤ gb471)); clear HO_11; clear HO460; clear HO463; clear HO466; clear HO469; clear HB; have HO_11 := n0_; have HO460 := n1_; have HO463 := n2_; have HO466 := n3_; have HO469 := n4_; have HB := n5_; have BK471 := n6_; have GW471 := n7_; have GE471 := n8_; clear n0_ n1_ n2_ n3_ n4_ n5_ n6_ n7_ n8_; clear hb hbox hg; have hcz28_0 : w27.cell? ⟨gb471, 0, none⟩ = some (.int .u8 0) := (blk_cell BK471.out 0).trans rfl; have hcz28_1 : w27.cell? ⟨gb471, 1, none⟩ = some (.int .u32 0) := (blk_cell BK471.out 1).trans rfl; have hcz28_2 : w27.cell? ⟨gb471, 2, none⟩ = some (.slice none 0 0) := (blk_cell BK471.out 2).trans rfl; have hcz28_3 : w27.cell? ⟨gb471, 3, none⟩ = some (.slice none 0 0) := (blk_cell BK471.out 3).trans rfl; have hcz28_4 : w27.cell? ⟨gb471, 4, none⟩ = some (.slice none 0 0) := (blk_cell BK471.out 4).trans rfl; have hcz28_5 : w27.cell? ⟨gb471, 5, none⟩ = some (.slice none 0 0) := (blk_cell BK471.out 5).trans rfl; have hfz28_0 := blk_frozen BK471.out 0; have hfz28_1 := blk_frozen BK471.out 1; have hfz28_2 := blk_frozen BK471.out 2; have hfz28_3 := blk_frozen BK471.out 3; have hfz28_4 := blk_frozen BK471.out 4; have hfz28_5 := blk_frozen BK471.out 5; obtain ⟨Ao29, co29, eo29⟩ := Kd.R_slice HO460.out; subst eo29; obtain ⟨Ao30, co30, eo30⟩ := Kd.R_slice HO463.out; subst eo30; obtain ⟨Ao31, co31, eo31⟩ := Kd.R_slice HO466.out; subst eo31; obtain ⟨Ao32, co32, eo32⟩ := Kd.R_slice HO469.out; subst eo32))
                      (try simp only [Act.put, List.setIfInBounds_toArray, List.set_cons_zero, List.set_cons_succ])
                      go_cut [91] (fun v91 wc => ∃ (kq : Nat) (x91_22 : Bool), v91 = .bool x91_22 ∧ Aside0 (crosswaylaw11_InitialTypes.j2 kq l0 l2 l3 a4 y455 x13_2 t470 x91_22 t456 t457 t458 t461 t464 t467 = some r) ∧ Aside0 (kq ≤ k2) ∧ Aside0 (Kd.R (Kd.int .u8) 5 wc w.heap.size (fun k_ => some k_ ≠ ((.slice Ao29 t458.length co29) : Value).ownBlock ∧ some k_ ≠ ((.slice Ao30 t461.length co30) : Value).ownBlock ∧ some k_ ≠ ((.slice Ao31 t464.length co31) : Value).ownBlock ∧ some k_ ≠ ((.slice Ao32 t467.length co32) : Value).ownBlock) (.slice (some ⟨go21, 0, none⟩) x11_2.length co18) y455) ∧ Aside0 (Kd.R (Kd.int .u8) 5 wc w.heap.size (fun k_ => some k_ ≠ ((.slice (some ⟨go21, 0, none⟩) x11_2.length co18) : Value).ownBlock ∧ some k_ ≠ ((.slice Ao30 t461.length co30) : Value).ownBlock ∧ some k_ ≠ ((.slice Ao31 t464.length co31) : Value).ownBlock ∧ some k_ ≠ ((.slice Ao32 t467.length co32) : Value).ownBlock) (.slice Ao29 t458.length co29) t458) ∧ Aside0 (Kd.R (Kd.int .u8) 5 wc w.heap.size (fun k_ => some k_ ≠ ((.slice (some ⟨go21, 0, none⟩) x11_2.length co18) : Value).ownBlock ∧ some k_ ≠ ((.slice Ao29 t458.length co29) : Value).ownBlock ∧ some k_ ≠ ((.slice Ao31 t464.length co31) : Value).ownBlock ∧ some k_ ≠ ((.slice Ao32 t467.length co32) : Value).ownBlock) (.slice Ao30 t461.length co30) t461) ∧ Aside0 (Kd.R (Kd.int .u8) 5 wc w.heap.size (fun k_ => some k_ ≠ ((.slice (some ⟨go21, 0, none⟩) x11_2.length co18) : Value).ownBlock ∧ some k_ ≠ ((.slice Ao29 t458.length co29) : Value).ownBlock ∧ some k_ ≠ ((.slice Ao30 t461.length co30) : Value).ownBlock ∧ some k_ ≠ ((.slice Ao32 t467.length co32) : Value).ownBlock) (.slice Ao31 t464.length co31) t464) ∧ Aside0 (Kd.R (Kd.int .u8) 5 wc w.heap.size (fun k_ => some k_ ≠ ((.slice (some ⟨go21, 0, none⟩) x11_2.length co18) : Value).ownBlock ∧ some k_ ≠ ((.slice Ao29 t458.length co29) : Value).ownBlock ∧ some k_ ≠ ((.slice Ao30 t461.length co30) : Value).ownBlock ∧ some k_ ≠ ((.slice Ao31 t464.length co31) : Value).ownBlock) (.slice Ao32 t467.length co32) t467) ∧ Aside0 (wc.heap[gb471]? = some (.cells #[.int .u8 t456, .int .u32 t457, (.slice Ao29 t458.length co29), (.slice Ao30 t461.length co30), (.slice Ao31 t464.length co31), (.slice Ao32 t467.length co32)] 29 (0, 0))) ∧ Aside0 (Below w.heap.size w wc))
                      case first =>
                        have H := HC23.out
                        clear HC23
                        replace H := Option.bind_eq_some_iff.mp H
                        obtain ⟨t473, A330, H⟩ := H
                        replace H : (if t473 = x13_2 then (if ((t470 == 0) != (x13_2 == 0)) = true then (none) else (if t470 = 0 then (crosswaylaw11_InitialTypes.j2 k2 l0 l2 l3 a4 y455 x13_2 t470 false t456 t457 t458 t461 t464 t467) else (crosswaylaw11_InitialTypes.j2 k2 l0 l2 l3 a4 y455 x13_2 t470 (t470 != 14) t456 t457 t458 t461 t464 t467))) else (none)) = some r := H
                        have A33 := Aside0.mk A330
                        clear A330
                        by_cases c34 : t473 = x13_2
                        · rw [if_pos c34] at H
                          have c34b0 : (t473 == x13_2) = true := beq_iff_eq.mpr c34
                          have c34b1 : (t473 != x13_2) = false := bne_eq_false_iff_eq.mpr c34
                          clear c34
                          (first | rw [c34b0] | (simp only [i64_w, i32_w]; rw [c34b0]) | skip)
                          by_cases c35 : ((t470 == 0) != (x13_2 == 0)) = true
                          · rw [if_pos c35] at H
                            exact absurd H (by simp)
                          · rw [if_neg c35] at H
                            have c35b0 : ((t470 == 0) != (x13_2 == 0)) = false := by simpa using c35
                            (try (have c35b1 : decide ((t470 == 0) = (x13_2 == 0)) = true := by simpa using c35))
                            (try (have c35b2 : ((t470 == 0) == (x13_2 == 0)) = true := by simpa using c35))
                            clear c35
                            by_cases c36 : t470 = 0
                            · rw [if_pos c36] at H
                              have c36b0 : (t470 == 0) = true := beq_iff_eq.mpr c36
                              (try (have c35b0x : (x13_2 == 0) = true := by simpa [c36b0] using c35b0))
                              have c36b1 : (t470 != 0) = false := bne_eq_false_iff_eq.mpr c36
                              clear c36
                              have H' := Aside0.mk H
                              clear H
                              have p472 : 0 ≤ (0 : Int) := (by omega)
                              have q472 : 0 < (y455.length : Int) := (by have h_ : (0 : Int) < ((x11_2.length : Int) : Int) := of_decide_eq_true (by first | (with_reducible assumption) | assumption); first | (have e_ := (Kd.R_reads' HO_11.out).1; omega) | simpa only [Ny455.out, List.length_set] using h_)
                              have ql472 : ((0 : Int) < ((x11_2.length : Int) : Int)) = True := eq_true (of_decide_eq_true (by first | (with_reducible assumption) | assumption))
                              (try have qn472 : (0 < x11_2.length) = True := eq_true (by have h_ : (0 : Int) < ((x11_2.length : Int) : Int) := of_decide_eq_true (by first | (with_reducible assumption) | assumption); omega))
                              obtain ⟨ad472, e472, hx472_0⟩ := Kd.at_int (Kd.R_reads' HO_11.out).2.2 0 p472 q472
                              obtain rfl : (⟨go21, 0, none⟩ : Addr) = ad472 := (by injection e472)
                              (first | simp only [add_plain] at hx472_0 | simp only [add_at] at hx472_0 | simp only [Addr.add, Nat.zero_add] at hx472_0 | skip)
                              have qi472 : (0 < y455.length) = True := eq_true (by omega)
                              (try rw [show ((0 : Int)).toNat = 0 from rfl] at hx472_0)
                              (try rw [Addr.add_zero'] at hx472_0)
                              have hn472_0 : (⟨go21, 0, none⟩ : Addr).block ≠ gb471 := Kd.own_blk (Kd.R_ne HO_11.out BK471.out (by decide))
                              have hn472_1 : (⟨go21, 0, none⟩ : Addr).block ≠ gb471 := Kd.own_blk (Kd.R_ne HO_11.out BK471.out (by decide))
                              have hn472_2 : (⟨go21, 0, none⟩ : Addr).block ≠ gb471 := Kd.own_blk (Kd.R_ne HO_11.out BK471.out (by decide))
                              have hn472_3 : (⟨go21, 0, none⟩ : Addr).block ≠ gb471 := Kd.own_blk (Kd.R_ne HO_11.out BK471.out (by decide))
                              have hn472_4 : (⟨go21, 0, none⟩ : Addr).block ≠ gb471 := Kd.own_blk (Kd.R_ne HO_11.out BK471.out (by decide))
                              have hn472_5 : (⟨go21, 0, none⟩ : Addr).block ≠ gb471 := Kd.own_blk (Kd.R_ne HO_11.out BK471.out (by decide))
                              replace hx472_0 := (cell_far (p := ⟨gb471, 0, none⟩) (by first | (rw [add_block]; exact hn472_0) | (show (Addr.add _ _).block ≠ _; rw [add_block]; exact hn472_0) | exact hn472_0) (.int .u8 t456)).trans hx472_0
                              replace hx472_0 := (cell_far (p := ⟨gb471, 1, none⟩) (by first | (rw [add_block]; exact hn472_1) | (show (Addr.add _ _).block ≠ _; rw [add_block]; exact hn472_1) | exact hn472_1) (.int .u32 t457)).trans hx472_0
                              replace hx472_0 := (cell_far (p := ⟨gb471, 2, none⟩) (by first | (rw [add_block]; exact hn472_2) | (show (Addr.add _ _).block ≠ _; rw [add_block]; exact hn472_2) | exact hn472_2) (.slice Ao29 t458.length co29)).trans hx472_0
                              replace hx472_0 := (cell_far (p := ⟨gb471, 3, none⟩) (by first | (rw [add_block]; exact hn472_3) | (show (Addr.add _ _).block ≠ _; rw [add_block]; exact hn472_3) | exact hn472_3) (.slice Ao30 t461.length co30)).trans hx472_0
                              replace hx472_0 := (cell_far (p := ⟨gb471, 4, none⟩) (by first | (rw [add_block]; exact hn472_4) | (show (Addr.add _ _).block ≠ _; rw [add_block]; exact hn472_4) | exact hn472_4) (.slice Ao31 t464.length co31)).trans hx472_0
                              replace hx472_0 := (cell_far (p := ⟨gb471, 5, none⟩) (by first | (rw [add_block]; exact hn472_5) | (show (Addr.add _ _).block ≠ _; rw [add_block]; exact hn472_5) | exact hn472_5) (.slice Ao32 t467.length co32)).trans hx472_0
                              clear hn472_0
                              clear hn472_1
                              clear hn472_2
                              clear hn472_3
                              clear hn472_4
                              clear hn472_5
                              replace p472 := eq_true p472
                              replace q472 := eq_true q472
                              go_wp2_with (first | ((with_reducible refine gate_callee (f := 12) rfl ?_); refine goesL_ (some 74) rfl rfl Try.func12 (by kernel_rfl) rfl #[.int .u8 (rd y455 0)] rfl (by (try simp only [List.map_toArray, List.map_cons, List.map_nil]); first | done | rfl | (simp only [List.length_drop, List.length_take]; rfl)) ?_; (with_reducible refine (initial_Type.calls (rd y455 0) t473 _ A33.out).mono ?_); rintro e w' ⟨rfl, ⟨nd, rfl⟩⟩; refine ⟨_, rfl, ?_⟩))
                              go_meet
                              case rel => exact ⟨_, (false), (by first | rfl | (simp; done) | (simp [*]; done) | (simp only [i64_w]; done) | (simp [i64_w]; done)), H', ⟨by have := HJ7.out; have := HK2.out; first | omega | exact Nat.le_refl _⟩, ⟨by (try simp only [hl11_2]); (with_reducible repeat (first | apply Kd.R_alloc | apply Kd.R_drewN | apply Kd.R_drew)); exact Kd.R_mono (Kd.R_far (p := ⟨gb471, 5, none⟩) (Kd.R_far (p := ⟨gb471, 4, none⟩) (Kd.R_far (p := ⟨gb471, 3, none⟩) (Kd.R_far (p := ⟨gb471, 2, none⟩) (Kd.R_far (p := ⟨gb471, 1, none⟩) (Kd.R_far (p := ⟨gb471, 0, none⟩) (Kd.R_types HO_11.out BK471.out (by decide)) (fun _ hk => hk.2) (.int .u8 t456)) (fun _ hk => hk.2) (.int .u32 t457)) (fun _ hk => hk.2) (.slice Ao29 t458.length co29)) (fun _ hk => hk.2) (.slice Ao30 t461.length co30)) (fun _ hk => hk.2) (.slice Ao31 t464.length co31)) (fun _ hk => hk.2) (.slice Ao32 t467.length co32)) (fun _ hk => ⟨hk.1.1.1.1.2, ⟨hk.1.1.1.2, ⟨hk.1.1.2, hk.1.2⟩⟩⟩)⟩, ⟨by (try simp only [hl11_2]); (with_reducible repeat (first | apply Kd.R_alloc | apply Kd.R_drewN | apply Kd.R_drew)); exact Kd.R_mono (Kd.R_far (p := ⟨gb471, 5, none⟩) (Kd.R_far (p := ⟨gb471, 4, none⟩) (Kd.R_far (p := ⟨gb471, 3, none⟩) (Kd.R_far (p := ⟨gb471, 2, none⟩) (Kd.R_far (p := ⟨gb471, 1, none⟩) (Kd.R_far (p := ⟨gb471, 0, none⟩) (Kd.R_types HO460.out BK471.out (by decide)) (fun _ hk => hk.2) (.int .u8 t456)) (fun _ hk => hk.2) (.int .u32 t457)) (fun _ hk => hk.2) (.slice Ao29 t458.length co29)) (fun _ hk => hk.2) (.slice Ao30 t461.length co30)) (fun _ hk => hk.2) (.slice Ao31 t464.length co31)) (fun _ hk => hk.2) (.slice Ao32 t467.length co32)) (fun _ hk => ⟨hk.1.2, ⟨hk.1.1.1, ⟨hk.1.1.2.1, hk.1.1.2.2⟩⟩⟩)⟩, ⟨by (try simp only [hl11_2]); (with_reducible repeat (first | apply Kd.R_alloc | apply Kd.R_drewN | apply Kd.R_drew)); exact Kd.R_mono (Kd.R_far (p := ⟨gb471, 5, none⟩) (Kd.R_far (p := ⟨gb471, 4, none⟩) (Kd.R_far (p := ⟨gb471, 3, none⟩) (Kd.R_far (p := ⟨gb471, 2, none⟩) (Kd.R_far (p := ⟨gb471, 1, none⟩) (Kd.R_far (p := ⟨gb471, 0, none⟩) (Kd.R_types HO463.out BK471.out (by decide)) (fun _ hk => hk.2) (.int .u8 t456)) (fun _ hk => hk.2) (.int .u32 t457)) (fun _ hk => hk.2) (.slice Ao29 t458.length co29)) (fun _ hk => hk.2) (.slice Ao30 t461.length co30)) (fun _ hk => hk.2) (.slice Ao31 t464.length co31)) (fun _ hk => hk.2) (.slice Ao32 t467.length co32)) (fun _ hk => ⟨hk.1.2, ⟨hk.1.1.1, ⟨hk.1.1.2.1, hk.1.1.2.2⟩⟩⟩)⟩, ⟨by (try simp only [hl11_2]); (with_reducible repeat (first | apply Kd.R_alloc | apply Kd.R_drewN | apply Kd.R_drew)); exact Kd.R_mono (Kd.R_far (p := ⟨gb471, 5, none⟩) (Kd.R_far (p := ⟨gb471, 4, none⟩) (Kd.R_far (p := ⟨gb471, 3, none⟩) (Kd.R_far (p := ⟨gb471, 2, none⟩) (Kd.R_far (p := ⟨gb471, 1, none⟩) (Kd.R_far (p := ⟨gb471, 0, none⟩) (Kd.R_types HO466.out BK471.out (by decide)) (fun _ hk => hk.2) (.int .u8 t456)) (fun _ hk => hk.2) (.int .u32 t457)) (fun _ hk => hk.2) (.slice Ao29 t458.length co29)) (fun _ hk => hk.2) (.slice Ao30 t461.length co30)) (fun _ hk => hk.2) (.slice Ao31 t464.length co31)) (fun _ hk => hk.2) (.slice Ao32 t467.length co32)) (fun _ hk => ⟨hk.1.2, ⟨hk.1.1.1, ⟨hk.1.1.2.1, hk.1.1.2.2⟩⟩⟩)⟩, ⟨by (try simp only [hl11_2]); (with_reducible repeat (first | apply Kd.R_alloc | apply Kd.R_drewN | apply Kd.R_drew)); exact Kd.R_mono (Kd.R_far (p := ⟨gb471, 5, none⟩) (Kd.R_far (p := ⟨gb471, 4, none⟩) (Kd.R_far (p := ⟨gb471, 3, none⟩) (Kd.R_far (p := ⟨gb471, 2, none⟩) (Kd.R_far (p := ⟨gb471, 1, none⟩) (Kd.R_far (p := ⟨gb471, 0, none⟩) (Kd.R_types HO469.out BK471.out (by decide)) (fun _ hk => hk.2) (.int .u8 t456)) (fun _ hk => hk.2) (.int .u32 t457)) (fun _ hk => hk.2) (.slice Ao29 t458.length co29)) (fun _ hk => hk.2) (.slice Ao30 t461.length co30)) (fun _ hk => hk.2) (.slice Ao31 t464.length co31)) (fun _ hk => hk.2) (.slice Ao32 t467.length co32)) (fun _ hk => ⟨hk.1.2, ⟨hk.1.1.1, ⟨hk.1.1.2.1, hk.1.1.2.2⟩⟩⟩)⟩, ⟨by (try simp only [hl11_2]); (with_reducible repeat (first | refine blk_drewN ?_ _ | refine blk_drew ?_ | refine blk_alloc ?_ _)); refine blk_put (cs := #[.int .u8 t456, .int .u32 t457, .slice Ao29 t458.length co29, .slice Ao30 t461.length co30, .slice Ao31 t464.length co31, .slice none 0 0]) ?_ 5 _ rfl; (with_reducible repeat (first | refine blk_drewN ?_ _ | refine blk_drew ?_ | refine blk_alloc ?_ _)); refine blk_put (cs := #[.int .u8 t456, .int .u32 t457, .slice Ao29 t458.length co29, .slice Ao30 t461.length co30, .slice none 0 0, .slice none 0 0]) ?_ 4 _ rfl; (with_reducible repeat (first | refine blk_drewN ?_ _ | refine blk_drew ?_ | refine blk_alloc ?_ _)); refine blk_put (cs := #[.int .u8 t456, .int .u32 t457, .slice Ao29 t458.length co29, .slice none 0 0, .slice none 0 0, .slice none 0 0]) ?_ 3 _ rfl; (with_reducible repeat (first | refine blk_drewN ?_ _ | refine blk_drew ?_ | refine blk_alloc ?_ _)); refine blk_put (cs := #[.int .u8 t456, .int .u32 t457, .slice none 0 0, .slice none 0 0, .slice none 0 0, .slice none 0 0]) ?_ 2 _ rfl; (with_reducible repeat (first | refine blk_drewN ?_ _ | refine blk_drew ?_ | refine blk_alloc ?_ _)); refine blk_put (cs := #[.int .u8 t456, .int .u32 0, .slice none 0 0, .slice none 0 0, .slice none 0 0, .slice none 0 0]) ?_ 1 _ rfl; (with_reducible repeat (first | refine blk_drewN ?_ _ | refine blk_drew ?_ | refine blk_alloc ?_ _)); refine blk_put (cs := #[.int .u8 0, .int .u32 0, .slice none 0 0, .slice none 0 0, .slice none 0 0, .slice none 0 0]) ?_ 0 _ rfl; (with_reducible repeat (first | refine blk_drewN ?_ _ | refine blk_drew ?_ | refine blk_alloc ?_ _)); exact BK471.out⟩, ⟨by repeat (first | (with_reducible first | exact HB.out | apply below_alloc | apply pw_below_drewN | apply below_drew1 | refine below_set ?_ GE471.out) | exact HB.out)⟩⟩
                            · rw [if_neg c36] at H
                              have c36b0 : (t470 == 0) = false := beq_eq_false_iff_ne.mpr c36
                              (try (have c35b0x : (x13_2 == 0) = false := by simpa [c36b0] using c35b0))
                              have c36b1 : (t470 != 0) = true := bne_iff_ne.mpr c36
                              have H' := Aside0.mk H
                              clear H
                              have p472 : 0 ≤ (0 : Int) := (by omega)
                              have q472 : 0 < (y455.length : Int) := (by have h_ : (0 : Int) < ((x11_2.length : Int) : Int) := of_decide_eq_true (by first | (with_reducible assumption) | assumption); first | (have e_ := (Kd.R_reads' HO_11.out).1; omega) | simpa only [Ny455.out, List.length_set] using h_)
                              have ql472 : ((0 : Int) < ((x11_2.length : Int) : Int)) = True := eq_true (of_decide_eq_true (by first | (with_reducible assumption) | assumption))
                              (try have qn472 : (0 < x11_2.length) = True := eq_true (by have h_ : (0 : Int) < ((x11_2.length : Int) : Int) := of_decide_eq_true (by first | (with_reducible assumption) | assumption); omega))
                              obtain ⟨ad472, e472, hx472_0⟩ := Kd.at_int (Kd.R_reads' HO_11.out).2.2 0 p472 q472
                              obtain rfl : (⟨go21, 0, none⟩ : Addr) = ad472 := (by injection e472)
                              (first | simp only [add_plain] at hx472_0 | simp only [add_at] at hx472_0 | simp only [Addr.add, Nat.zero_add] at hx472_0 | skip)
                              have qi472 : (0 < y455.length) = True := eq_true (by omega)
                              (try rw [show ((0 : Int)).toNat = 0 from rfl] at hx472_0)
                              (try rw [Addr.add_zero'] at hx472_0)
                              have hn472_0 : (⟨go21, 0, none⟩ : Addr).block ≠ gb471 := Kd.own_blk (Kd.R_ne HO_11.out BK471.out (by decide))
                              have hn472_1 : (⟨go21, 0, none⟩ : Addr).block ≠ gb471 := Kd.own_blk (Kd.R_ne HO_11.out BK471.out (by decide))
                              have hn472_2 : (⟨go21, 0, none⟩ : Addr).block ≠ gb471 := Kd.own_blk (Kd.R_ne HO_11.out BK471.out (by decide))
                              have hn472_3 : (⟨go21, 0, none⟩ : Addr).block ≠ gb471 := Kd.own_blk (Kd.R_ne HO_11.out BK471.out (by decide))
                              have hn472_4 : (⟨go21, 0, none⟩ : Addr).block ≠ gb471 := Kd.own_blk (Kd.R_ne HO_11.out BK471.out (by decide))
                              have hn472_5 : (⟨go21, 0, none⟩ : Addr).block ≠ gb471 := Kd.own_blk (Kd.R_ne HO_11.out BK471.out (by decide))
                              replace hx472_0 := (cell_far (p := ⟨gb471, 0, none⟩) (by first | (rw [add_block]; exact hn472_0) | (show (Addr.add _ _).block ≠ _; rw [add_block]; exact hn472_0) | exact hn472_0) (.int .u8 t456)).trans hx472_0
                              replace hx472_0 := (cell_far (p := ⟨gb471, 1, none⟩) (by first | (rw [add_block]; exact hn472_1) | (show (Addr.add _ _).block ≠ _; rw [add_block]; exact hn472_1) | exact hn472_1) (.int .u32 t457)).trans hx472_0
                              replace hx472_0 := (cell_far (p := ⟨gb471, 2, none⟩) (by first | (rw [add_block]; exact hn472_2) | (show (Addr.add _ _).block ≠ _; rw [add_block]; exact hn472_2) | exact hn472_2) (.slice Ao29 t458.length co29)).trans hx472_0
                              replace hx472_0 := (cell_far (p := ⟨gb471, 3, none⟩) (by first | (rw [add_block]; exact hn472_3) | (show (Addr.add _ _).block ≠ _; rw [add_block]; exact hn472_3) | exact hn472_3) (.slice Ao30 t461.length co30)).trans hx472_0
                              replace hx472_0 := (cell_far (p := ⟨gb471, 4, none⟩) (by first | (rw [add_block]; exact hn472_4) | (show (Addr.add _ _).block ≠ _; rw [add_block]; exact hn472_4) | exact hn472_4) (.slice Ao31 t464.length co31)).trans hx472_0
                              replace hx472_0 := (cell_far (p := ⟨gb471, 5, none⟩) (by first | (rw [add_block]; exact hn472_5) | (show (Addr.add _ _).block ≠ _; rw [add_block]; exact hn472_5) | exact hn472_5) (.slice Ao32 t467.length co32)).trans hx472_0
                              clear hn472_0
                              clear hn472_1
                              clear hn472_2
                              clear hn472_3
                              clear hn472_4
                              clear hn472_5
                              replace p472 := eq_true p472
                              replace q472 := eq_true q472
                              go_wp2_with (first | ((with_reducible refine gate_callee (f := 12) rfl ?_); refine goesL_ (some 74) rfl rfl Try.func12 (by kernel_rfl) rfl #[.int .u8 (rd y455 0)] rfl (by (try simp only [List.map_toArray, List.map_cons, List.map_nil]); first | done | rfl | (simp only [List.length_drop, List.length_take]; rfl)) ?_; (with_reducible refine (initial_Type.calls (rd y455 0) t473 _ A33.out).mono ?_); rintro e w' ⟨rfl, ⟨nd, rfl⟩⟩; refine ⟨_, rfl, ?_⟩))
                              go_meet
                              case rel => exact ⟨_, ((t470 != 14)), (by first | rfl | (simp; done) | (simp [*]; done) | (simp only [i64_w]; done) | (simp [i64_w]; done)), H', ⟨by have := HJ7.out; have := HK2.out; first | omega | exact Nat.le_refl _⟩, ⟨by (try simp only [hl11_2]); (with_reducible repeat (first | apply Kd.R_alloc | apply Kd.R_drewN | apply Kd.R_drew)); exact Kd.R_mono (Kd.R_far (p := ⟨gb471, 5, none⟩) (Kd.R_far (p := ⟨gb471, 4, none⟩) (Kd.R_far (p := ⟨gb471, 3, none⟩) (Kd.R_far (p := ⟨gb471, 2, none⟩) (Kd.R_far (p := ⟨gb471, 1, none⟩) (Kd.R_far (p := ⟨gb471, 0, none⟩) (Kd.R_types HO_11.out BK471.out (by decide)) (fun _ hk => hk.2) (.int .u8 t456)) (fun _ hk => hk.2) (.int .u32 t457)) (fun _ hk => hk.2) (.slice Ao29 t458.length co29)) (fun _ hk => hk.2) (.slice Ao30 t461.length co30)) (fun _ hk => hk.2) (.slice Ao31 t464.length co31)) (fun _ hk => hk.2) (.slice Ao32 t467.length co32)) (fun _ hk => ⟨hk.1.1.1.1.2, ⟨hk.1.1.1.2, ⟨hk.1.1.2, hk.1.2⟩⟩⟩)⟩, ⟨by (try simp only [hl11_2]); (with_reducible repeat (first | apply Kd.R_alloc | apply Kd.R_drewN | apply Kd.R_drew)); exact Kd.R_mono (Kd.R_far (p := ⟨gb471, 5, none⟩) (Kd.R_far (p := ⟨gb471, 4, none⟩) (Kd.R_far (p := ⟨gb471, 3, none⟩) (Kd.R_far (p := ⟨gb471, 2, none⟩) (Kd.R_far (p := ⟨gb471, 1, none⟩) (Kd.R_far (p := ⟨gb471, 0, none⟩) (Kd.R_types HO460.out BK471.out (by decide)) (fun _ hk => hk.2) (.int .u8 t456)) (fun _ hk => hk.2) (.int .u32 t457)) (fun _ hk => hk.2) (.slice Ao29 t458.length co29)) (fun _ hk => hk.2) (.slice Ao30 t461.length co30)) (fun _ hk => hk.2) (.slice Ao31 t464.length co31)) (fun _ hk => hk.2) (.slice Ao32 t467.length co32)) (fun _ hk => ⟨hk.1.2, ⟨hk.1.1.1, ⟨hk.1.1.2.1, hk.1.1.2.2⟩⟩⟩)⟩, ⟨by (try simp only [hl11_2]); (with_reducible repeat (first | apply Kd.R_alloc | apply Kd.R_drewN | apply Kd.R_drew)); exact Kd.R_mono (Kd.R_far (p := ⟨gb471, 5, none⟩) (Kd.R_far (p := ⟨gb471, 4, none⟩) (Kd.R_far (p := ⟨gb471, 3, none⟩) (Kd.R_far (p := ⟨gb471, 2, none⟩) (Kd.R_far (p := ⟨gb471, 1, none⟩) (Kd.R_far (p := ⟨gb471, 0, none⟩) (Kd.R_types HO463.out BK471.out (by decide)) (fun _ hk => hk.2) (.int .u8 t456)) (fun _ hk => hk.2) (.int .u32 t457)) (fun _ hk => hk.2) (.slice Ao29 t458.length co29)) (fun _ hk => hk.2) (.slice Ao30 t461.length co30)) (fun _ hk => hk.2) (.slice Ao31 t464.length co31)) (fun _ hk => hk.2) (.slice Ao32 t467.length co32)) (fun _ hk => ⟨hk.1.2, ⟨hk.1.1.1, ⟨hk.1.1.2.1, hk.1.1.2.2⟩⟩⟩)⟩, ⟨by (try simp only [hl11_2]); (with_reducible repeat (first | apply Kd.R_alloc | apply Kd.R_drewN | apply Kd.R_drew)); exact Kd.R_mono (Kd.R_far (p := ⟨gb471, 5, none⟩) (Kd.R_far (p := ⟨gb471, 4, none⟩) (Kd.R_far (p := ⟨gb471, 3, none⟩) (Kd.R_far (p := ⟨gb471, 2, none⟩) (Kd.R_far (p := ⟨gb471, 1, none⟩) (Kd.R_far (p := ⟨gb471, 0, none⟩) (Kd.R_types HO466.out BK471.out (by decide)) (fun _ hk => hk.2) (.int .u8 t456)) (fun _ hk => hk.2) (.int .u32 t457)) (fun _ hk => hk.2) (.slice Ao29 t458.length co29)) (fun _ hk => hk.2) (.slice Ao30 t461.length co30)) (fun _ hk => hk.2) (.slice Ao31 t464.length co31)) (fun _ hk => hk.2) (.slice Ao32 t467.length co32)) (fun _ hk => ⟨hk.1.2, ⟨hk.1.1.1, ⟨hk.1.1.2.1, hk.1.1.2.2⟩⟩⟩)⟩, ⟨by (try simp only [hl11_2]); (with_reducible repeat (first | apply Kd.R_alloc | apply Kd.R_drewN | apply Kd.R_drew)); exact Kd.R_mono (Kd.R_far (p := ⟨gb471, 5, none⟩) (Kd.R_far (p := ⟨gb471, 4, none⟩) (Kd.R_far (p := ⟨gb471, 3, none⟩) (Kd.R_far (p := ⟨gb471, 2, none⟩) (Kd.R_far (p := ⟨gb471, 1, none⟩) (Kd.R_far (p := ⟨gb471, 0, none⟩) (Kd.R_types HO469.out BK471.out (by decide)) (fun _ hk => hk.2) (.int .u8 t456)) (fun _ hk => hk.2) (.int .u32 t457)) (fun _ hk => hk.2) (.slice Ao29 t458.length co29)) (fun _ hk => hk.2) (.slice Ao30 t461.length co30)) (fun _ hk => hk.2) (.slice Ao31 t464.length co31)) (fun _ hk => hk.2) (.slice Ao32 t467.length co32)) (fun _ hk => ⟨hk.1.2, ⟨hk.1.1.1, ⟨hk.1.1.2.1, hk.1.1.2.2⟩⟩⟩)⟩, ⟨by (try simp only [hl11_2]); (with_reducible repeat (first | refine blk_drewN ?_ _ | refine blk_drew ?_ | refine blk_alloc ?_ _)); refine blk_put (cs := #[.int .u8 t456, .int .u32 t457, .slice Ao29 t458.length co29, .slice Ao30 t461.length co30, .slice Ao31 t464.length co31, .slice none 0 0]) ?_ 5 _ rfl; (with_reducible repeat (first | refine blk_drewN ?_ _ | refine blk_drew ?_ | refine blk_alloc ?_ _)); refine blk_put (cs := #[.int .u8 t456, .int .u32 t457, .slice Ao29 t458.length co29, .slice Ao30 t461.length co30, .slice none 0 0, .slice none 0 0]) ?_ 4 _ rfl; (with_reducible repeat (first | refine blk_drewN ?_ _ | refine blk_drew ?_ | refine blk_alloc ?_ _)); refine blk_put (cs := #[.int .u8 t456, .int .u32 t457, .slice Ao29 t458.length co29, .slice none 0 0, .slice none 0 0, .slice none 0 0]) ?_ 3 _ rfl; (with_reducible repeat (first | refine blk_drewN ?_ _ | refine blk_drew ?_ | refine blk_alloc ?_ _)); refine blk_put (cs := #[.int .u8 t456, .int .u32 t457, .slice none 0 0, .slice none 0 0, .slice none 0 0, .slice none 0 0]) ?_ 2 _ rfl; (with_reducible repeat (first | refine blk_drewN ?_ _ | refine blk_drew ?_ | refine blk_alloc ?_ _)); refine blk_put (cs := #[.int .u8 t456, .int .u32 0, .slice none 0 0, .slice none 0 0, .slice none 0 0, .slice none 0 0]) ?_ 1 _ rfl; (with_reducible repeat (first | refine blk_drewN ?_ _ | refine blk_drew ?_ | refine blk_alloc ?_ _)); refine blk_put (cs := #[.int .u8 0, .int .u32 0, .slice none 0 0, .slice none 0 0, .slice none 0 0, .slice none 0 0]) ?_ 0 _ rfl; (with_reducible repeat (first | refine blk_drewN ?_ _ | refine blk_drew ?_ | refine blk_alloc ?_ _)); exact BK471.out⟩, ⟨by repeat (first | (with_reducible first | exact HB.out | apply below_alloc | apply pw_below_drewN | apply below_drew1 | refine below_set ?_ GE471.out) | exact HB.out)⟩⟩
                        · rw [if_neg c34] at H
                          exact absurd H (by simp)
                      case rest =>
                        clear HC23
                        try clear c1
                        try clear c2
                        try clear p2
                        try clear q2
                        try clear hx2
                        try clear qi2
                        try clear c3
                        try clear p4
                        try clear q4
                        try clear hx4
                        try clear qi4
                        try clear c5
                        try clear c6
                        try clear p6
                        try clear c7
                        try clear c8
                        try clear c10
                        try clear c10b0
                        try clear c10b1
                        try clear c11
                        try clear c11b0
                        try clear c11b1
                        try clear c12
                        try clear c12b0
                        try clear c12b1
                        try clear c13
                        try clear c15
                        try clear c15b0
                        try clear c15b1
                        try clear c16
                        try clear c16b0
                        try clear c16b1
                        try clear c16b2
                        try clear c19
                        try clear c19b0
                        try clear c20
                        try clear c20b0
                        try clear c20b1
                        try clear p21
                        try clear q21
                        try clear hx21
                        try clear qi21
                        try clear hf21
                        try clear c34
                        try clear c34b0
                        try clear c34b1
                        try clear c35
                        try clear c35b0
                        try clear c35b1
                        try clear c35b2
                        try clear c36
                        try clear c36b0
                        try clear c36b1
                        try clear hcz28_0
                        try clear hcz28_1
                        try clear hcz28_2
                        try clear hcz28_3
                        try clear hcz28_4
                        try clear hcz28_5
                        try clear hfz28_0
                        try clear hfz28_1
                        try clear hfz28_2
                        try clear hfz28_3
                        try clear hfz28_4
                        try clear hfz28_5
                        try clear hx21_0
                        try clear hx472_0
                        try clear p2
                        try clear p21
                        try clear p472
                        try clear q21
                        try clear q472
                        obtain ⟨kq, x91_22, rfl, HA, HJ22, HO_11, HO_472002, HO_472003, HO_472004, HO_472005, BK471, HB⟩ := hcut
                        have hl11_22 := (Kd.R_reads' HO_11.out).1
                        rw [hl11_22] at HO_11
                        (try simp only [hl11_22])
                        (try simp only [hl11_22] at BK471)
                        (try simp only [hl11_22] at HO_472002)
                        (try simp only [hl11_22] at HO_472003)
                        (try simp only [hl11_22] at HO_472004)
                        (try simp only [hl11_22] at HO_472005)
                        cases kq with
                        | zero => exact absurd HA.out (by simp [crosswaylaw11_InitialTypes.j2])
                        | succ kj22 =>
                          have H := HA.out
                          clear HA
                          simp only [crosswaylaw11_InitialTypes.j2] at H
                          by_cases c37 : x91_22 = true
                          · subst c37
                            have H1 : (none) = some r := by rw [if_pos rfl] at H; exact H
                            clear H
                            have H := H1
                            clear H1
                            exact absurd H (by simp)
                          · replace c37 := Bool.eq_false_iff.mpr c37
                            subst c37
                            have H1 : (if t470 = 0 then ((crosswayref00_SameBytes.f kj22 t458 l0).bind fun t474 => (if t474 = true then ((crosswayref00_SameBytes.f kj22 t464 l2).bind fun t475 => (if t475 = true then ((crosswayref00_SameBytes.f kj22 t467 l3).bind fun t476 => (if t476 = true then (if 0 < (y455.length : Int) then (if t456 = (rd y455 0) then (crosswaylaw11_InitialTypes.l0 kj22 l0 l2 l3 a4 y455 (wrap64 (x13_2 + 1))) else (none)) else (none)) else (none))) else (none))) else (none))) else (crosswaylaw11_InitialTypes.l0 kj22 l0 l2 l3 a4 y455 (wrap64 (x13_2 + 1)))) = some r := by rw [if_neg (show ¬ (false = true) by decide)] at H; exact H
                            clear H
                            have H := H1
                            clear H1
                            by_cases c38 : t470 = 0
                            · rw [if_pos c38] at H
                              have c38b0 : (t470 == 0) = true := beq_iff_eq.mpr c38
                              have c38b1 : (t470 != 0) = false := bne_eq_false_iff_eq.mpr c38
                              clear c38
                              replace H := Option.bind_eq_some_iff.mp H
                              obtain ⟨t474, A390, H⟩ := H
                              replace H : (if t474 = true then ((crosswayref00_SameBytes.f kj22 t464 l2).bind fun t475 => (if t475 = true then ((crosswayref00_SameBytes.f kj22 t467 l3).bind fun t476 => (if t476 = true then (if 0 < (y455.length : Int) then (if t456 = (rd y455 0) then (crosswaylaw11_InitialTypes.l0 kj22 l0 l2 l3 a4 y455 (wrap64 (x13_2 + 1))) else (none)) else (none)) else (none))) else (none))) else (none)) = some r := H
                              have A39 := Aside0.mk A390
                              clear A390
                              by_cases c40 : t474 = true
                              · subst c40
                                have H1 : ((crosswayref00_SameBytes.f kj22 t464 l2).bind fun t475 => (if t475 = true then ((crosswayref00_SameBytes.f kj22 t467 l3).bind fun t476 => (if t476 = true then (if 0 < (y455.length : Int) then (if t456 = (rd y455 0) then (crosswaylaw11_InitialTypes.l0 kj22 l0 l2 l3 a4 y455 (wrap64 (x13_2 + 1))) else (none)) else (none)) else (none))) else (none))) = some r := by rw [if_pos rfl] at H; exact H
                                clear H
                                have H := H1
                                clear H1
                                replace H := Option.bind_eq_some_iff.mp H
                                obtain ⟨t475, A410, H⟩ := H
                                replace H : (if t475 = true then ((crosswayref00_SameBytes.f kj22 t467 l3).bind fun t476 => (if t476 = true then (if 0 < (y455.length : Int) then (if t456 = (rd y455 0) then (crosswaylaw11_InitialTypes.l0 kj22 l0 l2 l3 a4 y455 (wrap64 (x13_2 + 1))) else (none)) else (none)) else (none))) else (none)) = some r := H
                                have A41 := Aside0.mk A410
                                clear A410
                                by_cases c42 : t475 = true
                                · subst c42
                                  have H1 : ((crosswayref00_SameBytes.f kj22 t467 l3).bind fun t476 => (if t476 = true then (if 0 < (y455.length : Int) then (if t456 = (rd y455 0) then (crosswaylaw11_InitialTypes.l0 kj22 l0 l2 l3 a4 y455 (wrap64 (x13_2 + 1))) else (none)) else (none)) else (none))) = some r := by rw [if_pos rfl] at H; exact H
                                  clear H
                                  have H := H1
                                  clear H1
                                  replace H := Option.bind_eq_some_iff.mp H
                                  obtain ⟨t476, A430, H⟩ := H
                                  replace H : (if t476 = true then (if 0 < (y455.length : Int) then (if t456 = (rd y455 0) then (crosswaylaw11_InitialTypes.l0 kj22 l0 l2 l3 a4 y455 (wrap64 (x13_2 + 1))) else (none)) else (none)) else (none)) = some r := H
                                  have A43 := Aside0.mk A430
                                  clear A430
                                  by_cases c44 : t476 = true
                                  · subst c44
                                    have H1 : (if 0 < (y455.length : Int) then (if t456 = (rd y455 0) then (crosswaylaw11_InitialTypes.l0 kj22 l0 l2 l3 a4 y455 (wrap64 (x13_2 + 1))) else (none)) else (none)) = some r := by rw [if_pos rfl] at H; exact H
                                    clear H
                                    have H := H1
                                    clear H1
                                    by_cases c45 : 0 < (y455.length : Int)
                                    · rw [if_pos c45] at H
                                      have c45b0 : decide (0 < (y455.length : Int)) = true := decide_eq_true c45
                                      have c45b0h := c45b0
                                      first | rw [hl11_2] at c45b0h | rw [hl11_22] at c45b0h | skip
                                      have c45b1 : decide (0 < y455.length) = true := decide_eq_true (by omega)
                                      clear c45
                                      by_cases c46 : t456 = (rd y455 0)
                                      · rw [if_pos c46] at H
                                        have c46b0 : (t456 == (rd y455 0)) = true := beq_iff_eq.mpr c46
                                        have c46b1 : (t456 != (rd y455 0)) = false := bne_eq_false_iff_eq.mpr c46
                                        clear c46
                                        have H' := Aside0.mk H
                                        clear H
                                        try go_wp2
                                        have n0_ := Aside0.mk (Kd.R_drew HO_11.out)
                                        have n1_ := Aside0.mk (Kd.R_drew HO_472002.out)
                                        have n2_ := Aside0.mk (Kd.R_drew HO_472003.out)
                                        have n3_ := Aside0.mk (Kd.R_drew HO_472004.out)
                                        have n4_ := Aside0.mk (Kd.R_drew HO_472005.out)
                                        have n5_ := Aside0.mk (blk_drew BK471.out)
                                        have n6_ := Aside0.mk (below_drew1 HB.out)
                                        clear HO_11
                                        clear HO_472002
                                        clear HO_472003
                                        clear HO_472004
                                        clear HO_472005
                                        clear BK471
                                        clear HB
                                        have HO_11 := n0_
                                        have HO_472002 := n1_
                                        have HO_472003 := n2_
                                        have HO_472004 := n3_
                                        have HO_472005 := n4_
                                        have BK471 := n5_
                                        have HB := n6_
                                        clear n0_ n1_ n2_ n3_ n4_ n5_ n6_
                                        have p477 : 0 ≤ (0 : Int) := (by omega)
                                        have q477 : 0 < (y455.length : Int) := of_decide_eq_true (by first | (with_reducible assumption) | assumption)
                                        obtain ⟨ad477, e477, hx477_0⟩ := Kd.at_int (Kd.R_reads' HO_11.out).2.2 0 p477 q477
                                        obtain rfl : (⟨go21, 0, none⟩ : Addr) = ad477 := (by injection e477)
                                        (first | simp only [add_plain] at hx477_0 | simp only [add_at] at hx477_0 | simp only [Addr.add, Nat.zero_add] at hx477_0 | skip)
                                        have qi477 : (0 < y455.length) = True := eq_true (by omega)
                                        (try rw [show ((0 : Int)).toNat = 0 from rfl] at hx477_0)
                                        (try rw [Addr.add_zero'] at hx477_0)
                                        replace p477 := eq_true p477
                                        replace q477 := eq_true q477
                                        refine start_ (n := 33) (S := fun w' => w'.cell? ⟨gb471, 0, none⟩ = some (.int .u8 t456) ∧ w'.cell? ⟨gb471, 1, none⟩ = some (.int .u32 t457) ∧ w'.cell? ⟨gb471, 2, none⟩ = some (.slice Ao29 t458.length co29) ∧ w'.cell? ⟨gb471, 3, none⟩ = some (.slice Ao30 t461.length co30) ∧ w'.cell? ⟨gb471, 4, none⟩ = some (.slice Ao31 t464.length co31) ∧ w'.cell? ⟨gb471, 5, none⟩ = some (.slice Ao32 t467.length co32) ∧ w'.cell? ⟨go21, 0, none⟩ = some (.int .u8 (rd y455 0))) (ds := []) #[false, false, false, false, false, false, false, false, false, false, false, false, false, false, false, false, false, false, false, false, false, false, false, false, false, false, false, false, false, false, false, false, false] (by kernel_rfl) rfl rfl ⟨(blk_cell BK471.out 0).trans rfl, (blk_cell BK471.out 1).trans rfl, (blk_cell BK471.out 2).trans rfl, (blk_cell BK471.out 3).trans rfl, (blk_cell BK471.out 4).trans rfl, (blk_cell BK471.out 5).trans rfl, hx477_0⟩ (fun hHeld => ?_); refine with_tabW crosswaylaw11_InitialTypes.tab15 crosswaylaw11_InitialTypes.bits15 (fun HT_ HW_ => ?_)
                                        generalize wc.drew = w47 at HO_11 HO_472002 HO_472003 HO_472004 HO_472005 BK471 HB hx477_0 hHeld ⊢
                                        refine pure_ (i := 0) (N := some 92) (v := ?_) (a' := ?_) #[true, false, false, false, false, false, false, false, false, false, false, false, false, false, false, false, false, false, false, false, false, false, false, false, false, false, false, false, false, false, false, false, false] rfl rfl (any_of HT_.out (by kernel_rfl)) (fun _ _ _ h => h) (Or.inl ⟨by rfl, ?_⟩) ?_ ?_
                                        rotate_left
                                        · intro w'
                                          go_simp
                                          with_reducible rfl
                                        rotate_left
                                        · simp only [Act.put, List.setIfInBounds_toArray, List.set_cons_zero, List.set_cons_succ, i64_w, i32_w]
                                          rfl
                                        refine pure_ (i := 1) (N := some 93) (v := ?_) (a' := ?_) #[true, true, false, false, false, false, false, false, false, false, false, false, false, false, false, false, false, false, false, false, false, false, false, false, false, false, false, false, false, false, false, false, false] rfl rfl (any_of HT_.out (by kernel_rfl)) (fun _ _ _ h => h) (Or.inl ⟨by rfl, ?_⟩) ?_ ?_
                                        rotate_left
                                        · intro w'
                                          go_simp
                                          with_reducible rfl
                                        rotate_left
                                        · simp only [Act.put, List.setIfInBounds_toArray, List.set_cons_zero, List.set_cons_succ, i64_w, i32_w]
                                          rfl
                                        refine pure_ (i := 2) (N := some 94) (v := ?_) (a' := ?_) #[true, true, true, false, false, false, false, false, false, false, false, false, false, false, false, false, false, false, false, false, false, false, false, false, false, false, false, false, false, false, false, false, false] rfl rfl (any_of HT_.out (by kernel_rfl)) (fun _ _ _ h => h) (Or.inl ⟨by rfl, ?_⟩) ?_ ?_
                                        rotate_left
                                        · intro w'
                                          go_simp
                                          with_reducible rfl
                                        rotate_left
                                        · simp only [Act.put, List.setIfInBounds_toArray, List.set_cons_zero, List.set_cons_succ, i64_w, i32_w]
                                          rfl
                                        refine pure_ (i := 3) (N := some 95) (v := ?_) (a' := ?_) #[true, true, true, true, false, false, false, false, false, false, false, false, false, false, false, false, false, false, false, false, false, false, false, false, false, false, false, false, false, false, false, false, false] rfl rfl (any_of HT_.out (by kernel_rfl)) (fun _ _ _ h => h) (Or.inl ⟨by rfl, ?_⟩) ?_ ?_
                                        rotate_left
                                        · intro w'
                                          go_simp
                                          with_reducible rfl
                                        rotate_left
                                        · simp only [Act.put, List.setIfInBounds_toArray, List.set_cons_zero, List.set_cons_succ, i64_w, i32_w]
                                          rfl
                                        refine pure_ (i := 4) (N := some 96) (v := ?_) (a' := ?_) #[true, true, true, true, true, false, false, false, false, false, false, false, false, false, false, false, false, false, false, false, false, false, false, false, false, false, false, false, false, false, false, false, false] rfl rfl (any_of HT_.out (by kernel_rfl)) (fun _ _ _ h => h) (Or.inl ⟨by rfl, ?_⟩) ?_ ?_
                                        rotate_left
                                        · intro w'
                                          go_simp
                                          with_reducible rfl
                                        rotate_left
                                        · simp only [Act.put, List.setIfInBounds_toArray, List.set_cons_zero, List.set_cons_succ, i64_w, i32_w]
                                          rfl
                                        refine pure_ (i := 6) (N := some 98) (v := ?_) (a' := ?_) #[true, true, true, true, true, false, true, false, false, false, false, false, false, false, false, false, false, false, false, false, false, false, false, false, false, false, false, false, false, false, false, false, false] rfl rfl (any_of HT_.out (by kernel_rfl)) (fun _ _ _ h => h) (Or.inl ⟨by rfl, ?_⟩) ?_ ?_
                                        rotate_left
                                        · intro w'
                                          go_simp
                                          with_reducible rfl
                                        rotate_left
                                        · simp only [Act.put, List.setIfInBounds_toArray, List.set_cons_zero, List.set_cons_succ, i64_w, i32_w]
                                          rfl
                                        refine take_ (i := 5) (N := some 97) (v := ?_) (a' := ?_) #[true, true, true, true, true, true, true, false, false, false, false, false, false, false, false, false, false, false, false, false, false, false, false, false, false, false, false, false, false, false, false, false, false] rfl rfl (take_ofW HT_.out HW_.out (by kernel_rfl)) (fun _ _ _ h => h) (Or.inl ⟨by rfl, ?_⟩) hHeld ?_ ?_
                                        rotate_left
                                        · rintro w' ⟨s0, s1, s2, s3, s4, s5, s6⟩
                                          go_simp
                                          with_reducible rfl
                                        rotate_left
                                        · simp only [Act.put, List.setIfInBounds_toArray, List.set_cons_zero, List.set_cons_succ, i64_w, i32_w]
                                          rfl
                                        refine one_ (i := 7) (N := some 99) #[true, true, true, true, true, true, true, true, false, false, false, false, false, false, false, false, false, false, false, false, false, false, false, false, false, false, false, false, false, false, false, false, false] rfl rfl (one_of HT_.out (by kernel_rfl)) (by decide) (fun K hK => ?_)
                                        refine goes_ Try.func14 (by kernel_rfl) rfl #[.slice Ao29 t458.length co29, .slice A0 l0.length c0] (by rfl) rfl rfl (by (try simp only [List.map_toArray, List.map_cons, List.map_nil]); first | done | rfl | (simp only [List.length_drop, List.length_take]; rfl)) ?_
                                        with_reducible refine (crosswayref00_SameBytes.calls kj22 _ _ t458 _ _ l0 true _ ?side1 ?side2 ?side3 ?side4 A39.out).mono ?_
                                        (case side1 => repeat (first | exact (Kd.R_reads' HO_472002.out).2.2 | (with_reducible refine Kd.C_alloc ?_ _) | (with_reducible refine Kd.C_drewN ?_ _) | (with_reducible refine Kd.C_drew ?_)))
                                        (case side2 => exact (Kd.R_reads' HO_472002.out).2.1)
                                        (case side3 => repeat (first | exact (Kd.C_below HR0.out HB.out) | (with_reducible refine Kd.C_alloc ?_ _) | (with_reducible refine Kd.C_drewN ?_ _) | (with_reducible refine Kd.C_drew ?_)))
                                        (case side4 => exact HC0.out)
                                        rintro e w' ⟨rfl, ⟨nd, rfl⟩⟩
                                        refine ⟨_, rfl, ?_⟩
                                        refine hK.out _ _ ⟨(blk_cell BK471.out 0).trans rfl, (blk_cell BK471.out 1).trans rfl, (blk_cell BK471.out 2).trans rfl, (blk_cell BK471.out 3).trans rfl, (blk_cell BK471.out 4).trans rfl, (blk_cell BK471.out 5).trans rfl, hHeld.2.2.2.2.2.2⟩ (fun hHeld => ?_)
                                        clear hK K
                                        refine norm_ (a' := ?_) ?_ ?_
                                        rotate_left
                                        · show Act.put _ (some 99) _ = _
                                          simp only [Act.put, List.setIfInBounds_toArray, List.set_cons_zero, List.set_cons_succ, i64_w, i32_w]
                                          rfl
                                        refine pure_ (i := 8) (N := some 100) (v := ?_) (a' := ?_) #[true, true, true, true, true, true, true, true, true, false, false, false, false, false, false, false, false, false, false, false, false, false, false, false, false, false, false, false, false, false, false, false, false] rfl rfl (any_of HT_.out (by kernel_rfl)) (fun _ _ _ h => h) (Or.inl ⟨by rfl, ?_⟩) ?_ ?_
                                        rotate_left
                                        · intro w'
                                          go_simp
                                          with_reducible rfl
                                        rotate_left
                                        · simp only [Act.put, List.setIfInBounds_toArray, List.set_cons_zero, List.set_cons_succ, i64_w, i32_w]
                                          rfl
                                        refine pure_ (i := 9) (N := some 101) (v := ?_) (a' := ?_) #[true, true, true, true, true, true, true, true, true, true, false, false, false, false, false, false, false, false, false, false, false, false, false, false, false, false, false, false, false, false, false, false, false] rfl rfl (any_of HT_.out (by kernel_rfl)) (fun _ _ _ h => h) (Or.inl ⟨by rfl, ?_⟩) ?_ ?_
                                        rotate_left
                                        · intro w'
                                          go_simp
                                          with_reducible rfl
                                        rotate_left
                                        · simp only [Act.put, List.setIfInBounds_toArray, List.set_cons_zero, List.set_cons_succ, i64_w, i32_w]
                                          rfl
                                        refine pure_ (i := 10) (N := some 102) (v := ?_) (a' := ?_) #[true, true, true, true, true, true, true, true, true, true, true, false, false, false, false, false, false, false, false, false, false, false, false, false, false, false, false, false, false, false, false, false, false] rfl rfl (any_of HT_.out (by kernel_rfl)) (fun _ _ _ h => h) (Or.inl ⟨by rfl, ?_⟩) ?_ ?_
                                        rotate_left
                                        · intro w'
                                          go_simp
                                          with_reducible rfl
                                        rotate_left
                                        · simp only [Act.put, List.setIfInBounds_toArray, List.set_cons_zero, List.set_cons_succ, i64_w, i32_w]
                                          rfl
                                        refine pure_ (i := 12) (N := some 104) (v := ?_) (a' := ?_) #[true, true, true, true, true, true, true, true, true, true, true, false, true, false, false, false, false, false, false, false, false, false, false, false, false, false, false, false, false, false, false, false, false] rfl rfl (any_of HT_.out (by kernel_rfl)) (fun _ _ _ h => h) (Or.inl ⟨by rfl, ?_⟩) ?_ ?_
                                        rotate_left
                                        · intro w'
                                          go_simp
                                          with_reducible rfl
                                        rotate_left
                                        · simp only [Act.put, List.setIfInBounds_toArray, List.set_cons_zero, List.set_cons_succ, i64_w, i32_w]
                                          rfl
                                        refine take_ (i := 11) (N := some 103) (v := ?_) (a' := ?_) #[true, true, true, true, true, true, true, true, true, true, true, true, true, false, false, false, false, false, false, false, false, false, false, false, false, false, false, false, false, false, false, false, false] rfl rfl (take_ofW HT_.out HW_.out (by kernel_rfl)) (fun _ _ _ h => h) (Or.inl ⟨by rfl, ?_⟩) hHeld ?_ ?_
                                        rotate_left
                                        · rintro w' ⟨s0, s1, s2, s3, s4, s5, s6⟩
                                          go_simp
                                          with_reducible rfl
                                        rotate_left
                                        · simp only [Act.put, List.setIfInBounds_toArray, List.set_cons_zero, List.set_cons_succ, i64_w, i32_w]
                                          rfl
                                        refine one_ (i := 13) (N := some 105) #[true, true, true, true, true, true, true, true, true, true, true, true, true, true, false, false, false, false, false, false, false, false, false, false, false, false, false, false, false, false, false, false, false] rfl rfl (one_of HT_.out (by kernel_rfl)) (by decide) (fun K hK => ?_)
                                        refine goes_ Try.func14 (by kernel_rfl) rfl #[.slice Ao31 t464.length co31, .slice A2 l2.length c2] (by rfl) rfl rfl (by (try simp only [List.map_toArray, List.map_cons, List.map_nil]); first | done | rfl | (simp only [List.length_drop, List.length_take]; rfl)) ?_
                                        with_reducible refine (crosswayref00_SameBytes.calls kj22 _ _ t464 _ _ l2 true _ ?side1 ?side2 ?side3 ?side4 A41.out).mono ?_
                                        (case side1 => repeat (first | exact (Kd.R_reads' HO_472004.out).2.2 | (with_reducible refine Kd.C_alloc ?_ _) | (with_reducible refine Kd.C_drewN ?_ _) | (with_reducible refine Kd.C_drew ?_)))
                                        (case side2 => exact (Kd.R_reads' HO_472004.out).2.1)
                                        (case side3 => repeat (first | exact (Kd.C_below HR2.out (by repeat (first | (with_reducible first | exact HB.out | apply below_alloc | apply pw_below_drewN | apply below_drew1 | refine below_set ?_ GE471.out) | exact HB.out))) | (with_reducible refine Kd.C_alloc ?_ _) | (with_reducible refine Kd.C_drewN ?_ _) | (with_reducible refine Kd.C_drew ?_)))
                                        (case side4 => exact HC2.out)
                                        rintro e w' ⟨rfl, ⟨nd, rfl⟩⟩
                                        refine ⟨_, rfl, ?_⟩
                                        refine hK.out _ _ ⟨(blk_cell BK471.out 0).trans rfl, (blk_cell BK471.out 1).trans rfl, (blk_cell BK471.out 2).trans rfl, (blk_cell BK471.out 3).trans rfl, (blk_cell BK471.out 4).trans rfl, (blk_cell BK471.out 5).trans rfl, hHeld.2.2.2.2.2.2⟩ (fun hHeld => ?_)
                                        clear hK K
                                        refine norm_ (a' := ?_) ?_ ?_
                                        rotate_left
                                        · show Act.put _ (some 105) _ = _
                                          simp only [Act.put, List.setIfInBounds_toArray, List.set_cons_zero, List.set_cons_succ, i64_w, i32_w]
                                          rfl
                                        refine pure_ (i := 14) (N := some 106) (v := ?_) (a' := ?_) #[true, true, true, true, true, true, true, true, true, true, true, true, true, true, true, false, false, false, false, false, false, false, false, false, false, false, false, false, false, false, false, false, false] rfl rfl (any_of HT_.out (by kernel_rfl)) (fun _ _ _ h => h) (Or.inl ⟨by rfl, ?_⟩) ?_ ?_
                                        rotate_left
                                        · intro w'
                                          go_simp
                                          with_reducible rfl
                                        rotate_left
                                        · simp only [Act.put, List.setIfInBounds_toArray, List.set_cons_zero, List.set_cons_succ, i64_w, i32_w]
                                          rfl
                                        refine pure_ (i := 15) (N := some 107) (v := ?_) (a' := ?_) #[true, true, true, true, true, true, true, true, true, true, true, true, true, true, true, true, false, false, false, false, false, false, false, false, false, false, false, false, false, false, false, false, false] rfl rfl (any_of HT_.out (by kernel_rfl)) (fun _ _ _ h => h) (Or.inl ⟨by rfl, ?_⟩) ?_ ?_
                                        rotate_left
                                        · intro w'
                                          go_simp
                                          with_reducible rfl
                                        rotate_left
                                        · simp only [Act.put, List.setIfInBounds_toArray, List.set_cons_zero, List.set_cons_succ, i64_w, i32_w]
                                          rfl
                                        refine pure_ (i := 16) (N := some 108) (v := ?_) (a' := ?_) #[true, true, true, true, true, true, true, true, true, true, true, true, true, true, true, true, true, false, false, false, false, false, false, false, false, false, false, false, false, false, false, false, false] rfl rfl (any_of HT_.out (by kernel_rfl)) (fun _ _ _ h => h) (Or.inl ⟨by rfl, ?_⟩) ?_ ?_
                                        rotate_left
                                        · intro w'
                                          go_simp
                                          with_reducible rfl
                                        rotate_left
                                        · simp only [Act.put, List.setIfInBounds_toArray, List.set_cons_zero, List.set_cons_succ, i64_w, i32_w]
                                          rfl
                                        refine pure_ (i := 17) (N := some 109) (v := ?_) (a' := ?_) #[true, true, true, true, true, true, true, true, true, true, true, true, true, true, true, true, true, true, false, false, false, false, false, false, false, false, false, false, false, false, false, false, false] rfl rfl (any_of HT_.out (by kernel_rfl)) (fun _ _ _ h => h) (Or.inl ⟨by rfl, ?_⟩) ?_ ?_
                                        rotate_left
                                        · intro w'
                                          go_simp
                                          with_reducible rfl
                                        rotate_left
                                        · simp only [Act.put, List.setIfInBounds_toArray, List.set_cons_zero, List.set_cons_succ, i64_w, i32_w]
                                          rfl
                                        refine pure_ (i := 19) (N := some 111) (v := ?_) (a' := ?_) #[true, true, true, true, true, true, true, true, true, true, true, true, true, true, true, true, true, true, false, true, false, false, false, false, false, false, false, false, false, false, false, false, false] rfl rfl (any_of HT_.out (by kernel_rfl)) (fun _ _ _ h => h) (Or.inl ⟨by rfl, ?_⟩) ?_ ?_
                                        rotate_left
                                        · intro w'
                                          go_simp
                                          with_reducible rfl
                                        rotate_left
                                        · simp only [Act.put, List.setIfInBounds_toArray, List.set_cons_zero, List.set_cons_succ, i64_w, i32_w]
                                          rfl
                                        refine take_ (i := 18) (N := some 110) (v := ?_) (a' := ?_) #[true, true, true, true, true, true, true, true, true, true, true, true, true, true, true, true, true, true, true, true, false, false, false, false, false, false, false, false, false, false, false, false, false] rfl rfl (take_ofW HT_.out HW_.out (by kernel_rfl)) (fun _ _ _ h => h) (Or.inl ⟨by rfl, ?_⟩) hHeld ?_ ?_
                                        rotate_left
                                        · rintro w' ⟨s0, s1, s2, s3, s4, s5, s6⟩
                                          go_simp
                                          with_reducible rfl
                                        rotate_left
                                        · simp only [Act.put, List.setIfInBounds_toArray, List.set_cons_zero, List.set_cons_succ, i64_w, i32_w]
                                          rfl
                                        refine one_ (i := 20) (N := some 112) #[true, true, true, true, true, true, true, true, true, true, true, true, true, true, true, true, true, true, true, true, true, false, false, false, false, false, false, false, false, false, false, false, false] rfl rfl (one_of HT_.out (by kernel_rfl)) (by decide) (fun K hK => ?_)
                                        refine goes_ Try.func14 (by kernel_rfl) rfl #[.slice Ao32 t467.length co32, .slice A3 l3.length c3] (by rfl) rfl rfl (by (try simp only [List.map_toArray, List.map_cons, List.map_nil]); first | done | rfl | (simp only [List.length_drop, List.length_take]; rfl)) ?_
                                        with_reducible refine (crosswayref00_SameBytes.calls kj22 _ _ t467 _ _ l3 true _ ?side1 ?side2 ?side3 ?side4 A43.out).mono ?_
                                        (case side1 => repeat (first | exact (Kd.R_reads' HO_472005.out).2.2 | (with_reducible refine Kd.C_alloc ?_ _) | (with_reducible refine Kd.C_drewN ?_ _) | (with_reducible refine Kd.C_drew ?_)))
                                        (case side2 => exact (Kd.R_reads' HO_472005.out).2.1)
                                        (case side3 => repeat (first | exact (Kd.C_below HR3.out (by repeat (first | (with_reducible first | exact HB.out | apply below_alloc | apply pw_below_drewN | apply below_drew1 | refine below_set ?_ GE471.out) | exact HB.out))) | (with_reducible refine Kd.C_alloc ?_ _) | (with_reducible refine Kd.C_drewN ?_ _) | (with_reducible refine Kd.C_drew ?_)))
                                        (case side4 => exact HC3.out)
                                        rintro e w' ⟨rfl, ⟨nd, rfl⟩⟩
                                        refine ⟨_, rfl, ?_⟩
                                        refine hK.out _ _ ⟨(blk_cell BK471.out 0).trans rfl, (blk_cell BK471.out 1).trans rfl, (blk_cell BK471.out 2).trans rfl, (blk_cell BK471.out 3).trans rfl, (blk_cell BK471.out 4).trans rfl, (blk_cell BK471.out 5).trans rfl, hHeld.2.2.2.2.2.2⟩ (fun hHeld => ?_)
                                        clear hK K
                                        refine norm_ (a' := ?_) ?_ ?_
                                        rotate_left
                                        · show Act.put _ (some 112) _ = _
                                          simp only [Act.put, List.setIfInBounds_toArray, List.set_cons_zero, List.set_cons_succ, i64_w, i32_w]
                                          rfl
                                        refine pure_ (i := 21) (N := some 113) (v := ?_) (a' := ?_) #[true, true, true, true, true, true, true, true, true, true, true, true, true, true, true, true, true, true, true, true, true, true, false, false, false, false, false, false, false, false, false, false, false] rfl rfl (any_of HT_.out (by kernel_rfl)) (fun _ _ _ h => h) (Or.inl ⟨by rfl, ?_⟩) ?_ ?_
                                        rotate_left
                                        · intro w'
                                          go_simp
                                          with_reducible rfl
                                        rotate_left
                                        · simp only [Act.put, List.setIfInBounds_toArray, List.set_cons_zero, List.set_cons_succ, i64_w, i32_w]
                                          rfl
                                        refine pure_ (i := 22) (N := some 114) (v := ?_) (a' := ?_) #[true, true, true, true, true, true, true, true, true, true, true, true, true, true, true, true, true, true, true, true, true, true, true, false, false, false, false, false, false, false, false, false, false] rfl rfl (any_of HT_.out (by kernel_rfl)) (fun _ _ _ h => h) (Or.inl ⟨by rfl, ?_⟩) ?_ ?_
                                        rotate_left
                                        · intro w'
                                          go_simp
                                          with_reducible rfl
                                        rotate_left
                                        · simp only [Act.put, List.setIfInBounds_toArray, List.set_cons_zero, List.set_cons_succ, i64_w, i32_w]
                                          rfl
                                        refine pure_ (i := 23) (N := some 115) (v := ?_) (a' := ?_) #[true, true, true, true, true, true, true, true, true, true, true, true, true, true, true, true, true, true, true, true, true, true, true, true, false, false, false, false, false, false, false, false, false] rfl rfl (any_of HT_.out (by kernel_rfl)) (fun _ _ _ h => h) (Or.inl ⟨by rfl, ?_⟩) ?_ ?_
                                        rotate_left
                                        · intro w'
                                          go_simp
                                          with_reducible rfl
                                        rotate_left
                                        · simp only [Act.put, List.setIfInBounds_toArray, List.set_cons_zero, List.set_cons_succ, i64_w, i32_w]
                                          rfl
                                        refine pure_ (i := 24) (N := some 116) (v := ?_) (a' := ?_) #[true, true, true, true, true, true, true, true, true, true, true, true, true, true, true, true, true, true, true, true, true, true, true, true, true, false, false, false, false, false, false, false, false] rfl rfl (any_of HT_.out (by kernel_rfl)) (fun _ _ _ h => h) (Or.inl ⟨by rfl, ?_⟩) ?_ ?_
                                        rotate_left
                                        · intro w'
                                          go_simp
                                          with_reducible rfl
                                        rotate_left
                                        · simp only [Act.put, List.setIfInBounds_toArray, List.set_cons_zero, List.set_cons_succ, i64_w, i32_w]
                                          rfl
                                        refine pure_ (i := 25) (N := some 117) (v := ?_) (a' := ?_) #[true, true, true, true, true, true, true, true, true, true, true, true, true, true, true, true, true, true, true, true, true, true, true, true, true, true, false, false, false, false, false, false, false] rfl rfl (any_of HT_.out (by kernel_rfl)) (fun _ _ _ h => h) (Or.inl ⟨by rfl, ?_⟩) ?_ ?_
                                        rotate_left
                                        · intro w'
                                          go_simp
                                          with_reducible rfl
                                        rotate_left
                                        · simp only [Act.put, List.setIfInBounds_toArray, List.set_cons_zero, List.set_cons_succ, i64_w, i32_w]
                                          rfl
                                        refine pure_ (i := 27) (N := some 119) (v := ?_) (a' := ?_) #[true, true, true, true, true, true, true, true, true, true, true, true, true, true, true, true, true, true, true, true, true, true, true, true, true, true, false, true, false, false, false, false, false] rfl rfl (any_of HT_.out (by kernel_rfl)) (fun _ _ _ h => h) (Or.inl ⟨by rfl, ?_⟩) ?_ ?_
                                        rotate_left
                                        · intro w'
                                          go_simp
                                          with_reducible rfl
                                        rotate_left
                                        · simp only [Act.put, List.setIfInBounds_toArray, List.set_cons_zero, List.set_cons_succ, i64_w, i32_w]
                                          rfl
                                        refine pure_ (i := 28) (N := some 120) (v := ?_) (a' := ?_) #[true, true, true, true, true, true, true, true, true, true, true, true, true, true, true, true, true, true, true, true, true, true, true, true, true, true, false, true, true, false, false, false, false] rfl rfl (any_of HT_.out (by kernel_rfl)) (fun _ _ _ h => h) (Or.inl ⟨by rfl, ?_⟩) ?_ ?_
                                        rotate_left
                                        · intro w'
                                          go_simp
                                          with_reducible rfl
                                        rotate_left
                                        · simp only [Act.put, List.setIfInBounds_toArray, List.set_cons_zero, List.set_cons_succ, i64_w, i32_w]
                                          rfl
                                        refine take_ (i := 26) (N := some 118) (v := ?_) (a' := ?_) #[true, true, true, true, true, true, true, true, true, true, true, true, true, true, true, true, true, true, true, true, true, true, true, true, true, true, true, true, true, false, false, false, false] rfl rfl (take_ofW HT_.out HW_.out (by kernel_rfl)) (fun _ _ _ h => h) (Or.inl ⟨by rfl, ?_⟩) hHeld ?_ ?_
                                        rotate_left
                                        · rintro w' ⟨s0, s1, s2, s3, s4, s5, s6⟩
                                          go_simp
                                          with_reducible rfl
                                        rotate_left
                                        · simp only [Act.put, List.setIfInBounds_toArray, List.set_cons_zero, List.set_cons_succ, i64_w, i32_w]
                                          rfl
                                        refine take_ (i := 29) (N := some 121) (v := ?_) (a' := ?_) #[true, true, true, true, true, true, true, true, true, true, true, true, true, true, true, true, true, true, true, true, true, true, true, true, true, true, true, true, true, true, false, false, false] rfl rfl (take_ofW HT_.out HW_.out (by kernel_rfl)) (fun _ _ _ h => h) (Or.inl ⟨by rfl, ?_⟩) hHeld ?_ ?_
                                        rotate_left
                                        · rintro w' ⟨s0, s1, s2, s3, s4, s5, s6⟩
                                          go_simp
                                          with_reducible rfl
                                        rotate_left
                                        · simp only [Act.put, List.setIfInBounds_toArray, List.set_cons_zero, List.set_cons_succ, i64_w, i32_w]
                                          rfl
                                        refine pure_ (i := 30) (N := some 122) (v := ?_) (a' := ?_) #[true, true, true, true, true, true, true, true, true, true, true, true, true, true, true, true, true, true, true, true, true, true, true, true, true, true, true, true, true, true, true, false, false] rfl rfl (any_of HT_.out (by kernel_rfl)) (fun _ _ _ h => h) (Or.inl ⟨by rfl, ?_⟩) ?_ ?_
                                        rotate_left
                                        · intro w'
                                          go_simp
                                          with_reducible rfl
                                        rotate_left
                                        · simp only [Act.put, List.setIfInBounds_toArray, List.set_cons_zero, List.set_cons_succ, i64_w, i32_w]
                                          rfl
                                        refine pure_ (i := 31) (N := some 123) (v := ?_) (a' := ?_) #[true, true, true, true, true, true, true, true, true, true, true, true, true, true, true, true, true, true, true, true, true, true, true, true, true, true, true, true, true, true, true, true, false] rfl rfl (any_of HT_.out (by kernel_rfl)) (fun _ _ _ h => h) (Or.inl ⟨by rfl, ?_⟩) ?_ ?_
                                        rotate_left
                                        · intro w'
                                          go_simp
                                          with_reducible rfl
                                        rotate_left
                                        · simp only [Act.put, List.setIfInBounds_toArray, List.set_cons_zero, List.set_cons_succ, i64_w, i32_w]
                                          rfl
                                        refine pure_ (i := 32) (N := some 124) (v := ?_) (a' := ?_) #[true, true, true, true, true, true, true, true, true, true, true, true, true, true, true, true, true, true, true, true, true, true, true, true, true, true, true, true, true, true, true, true, true] rfl rfl (any_of HT_.out (by kernel_rfl)) (fun _ _ _ h => h) (Or.inl ⟨by rfl, ?_⟩) ?_ ?_
                                        rotate_left
                                        · intro w'
                                          go_simp
                                          with_reducible rfl
                                        rotate_left
                                        · simp only [Act.put, List.setIfInBounds_toArray, List.set_cons_zero, List.set_cons_succ, i64_w, i32_w]
                                          rfl
                                        refine done_ (done_of HT_.out (by kernel_rfl)) ?_
                                        try go_wp2
                                        (try simp only [← hl11_2, ← hl11_22])
                                        go_roundg kj22
                                        case measure => have := HJ7.out; have := HK2.out; have := HJ22.out; omega
                                        case rel => exact ⟨(y455), (wrap64 (x13_2 + 1)), (by first | rfl | (simp; done) | (simp [*]; done) | (simp only [i64_w]; done) | (simp [i64_w]; done)), H', ⟨by have := HJ7.out; have := HK2.out; have := HJ22.out; omega⟩, ⟨by (try simp only [hl11_2]); (try simp only [hl11_22]); (with_reducible repeat (first | apply Kd.R_alloc | apply Kd.R_drewN | apply Kd.R_drew)); exact Kd.R_mono HO_11.out (fun _ hk => trivial)⟩, ⟨by repeat (first | (with_reducible first | exact HB.out | apply below_alloc | apply pw_below_drewN | apply below_drew1 | refine below_set ?_ GE471.out) | exact HB.out)⟩⟩
                                      · rw [if_neg c46] at H
                                        exact absurd H (by simp)
                                    · rw [if_neg c45] at H
                                      exact absurd H (by simp)
                                  · replace c44 := Bool.eq_false_iff.mpr c44
                                    subst c44
                                    have H1 : (none) = some r := by rw [if_neg (show ¬ (false = true) by decide)] at H; exact H
                                    clear H
                                    have H := H1
                                    clear H1
                                    exact absurd H (by simp)
                                · replace c42 := Bool.eq_false_iff.mpr c42
                                  subst c42
                                  have H1 : (none) = some r := by rw [if_neg (show ¬ (false = true) by decide)] at H; exact H
                                  clear H
                                  have H := H1
                                  clear H1
                                  exact absurd H (by simp)
                              · replace c40 := Bool.eq_false_iff.mpr c40
                                subst c40
                                have H1 : (none) = some r := by rw [if_neg (show ¬ (false = true) by decide)] at H; exact H
                                clear H
                                have H := H1
                                clear H1
                                exact absurd H (by simp)
                            · rw [if_neg c38] at H
                              have c38b0 : (t470 == 0) = false := beq_eq_false_iff_ne.mpr c38
                              have c38b1 : (t470 != 0) = true := bne_iff_ne.mpr c38
                              have H' := Aside0.mk H
                              clear H
                              try go_wp2
                              have n0_ := Aside0.mk (Kd.R_drew HO_11.out)
                              have n1_ := Aside0.mk (Kd.R_drew HO_472002.out)
                              have n2_ := Aside0.mk (Kd.R_drew HO_472003.out)
                              have n3_ := Aside0.mk (Kd.R_drew HO_472004.out)
                              have n4_ := Aside0.mk (Kd.R_drew HO_472005.out)
                              have n5_ := Aside0.mk (blk_drew BK471.out)
                              have n6_ := Aside0.mk (below_drew1 HB.out)
                              clear HO_11
                              clear HO_472002
                              clear HO_472003
                              clear HO_472004
                              clear HO_472005
                              clear BK471
                              clear HB
                              have HO_11 := n0_
                              have HO_472002 := n1_
                              have HO_472003 := n2_
                              have HO_472004 := n3_
                              have HO_472005 := n4_
                              have BK471 := n5_
                              have HB := n6_
                              clear n0_ n1_ n2_ n3_ n4_ n5_ n6_
                              refine start_ (n := 33) (S := fun w' => True) (ds := []) #[false, false, false, false, false, false, false, false, false, false, false, false, false, false, false, false, false, false, false, false, false, false, false, false, false, false, false, false, false, false, false, false, false] (by kernel_rfl) rfl rfl trivial (fun hHeld => ?_); refine with_tabW crosswaylaw11_InitialTypes.tab15 crosswaylaw11_InitialTypes.bits15 (fun HT_ HW_ => ?_)
                              generalize wc.drew = w48 at HO_11 HO_472002 HO_472003 HO_472004 HO_472005 BK471 HB hHeld ⊢
                              refine pure_ (i := 0) (N := some 92) (v := ?_) (a' := ?_) #[true, false, false, false, false, false, false, false, false, false, false, false, false, false, false, false, false, false, false, false, false, false, false, false, false, false, false, false, false, false, false, false, false] rfl rfl (any_of HT_.out (by kernel_rfl)) (fun _ _ _ h => h) (Or.inl ⟨by rfl, ?_⟩) ?_ ?_
                              rotate_left
                              · intro w'
                                go_simp
                                with_reducible rfl
                              rotate_left
                              · simp only [Act.put, List.setIfInBounds_toArray, List.set_cons_zero, List.set_cons_succ, i64_w, i32_w]
                                rfl
                              refine pure_ (i := 1) (N := some 93) (v := ?_) (a' := ?_) #[true, true, false, false, false, false, false, false, false, false, false, false, false, false, false, false, false, false, false, false, false, false, false, false, false, false, false, false, false, false, false, false, false] rfl rfl (any_of HT_.out (by kernel_rfl)) (fun _ _ _ h => h) (Or.inl ⟨by rfl, ?_⟩) ?_ ?_
                              rotate_left
                              · intro w'
                                go_simp
                                with_reducible rfl
                              rotate_left
                              · simp only [Act.put, List.setIfInBounds_toArray, List.set_cons_zero, List.set_cons_succ, i64_w, i32_w]
                                rfl
                              refine pure_ (i := 2) (N := some 94) (v := ?_) (a' := ?_) #[true, true, true, false, false, false, false, false, false, false, false, false, false, false, false, false, false, false, false, false, false, false, false, false, false, false, false, false, false, false, false, false, false] rfl rfl (any_of HT_.out (by kernel_rfl)) (fun _ _ _ h => h) (Or.inl ⟨by rfl, ?_⟩) ?_ ?_
                              rotate_left
                              · intro w'
                                go_simp
                                with_reducible rfl
                              rotate_left
                              · simp only [Act.put, List.setIfInBounds_toArray, List.set_cons_zero, List.set_cons_succ, i64_w, i32_w]
                                rfl
                              refine pure_ (i := 3) (N := some 95) (v := undef) (a' := ?_) #[true, true, true, true, false, false, false, false, false, false, false, false, false, false, false, false, false, false, false, false, false, false, false, false, false, false, false, false, false, false, false, false, false] rfl rfl (any_of HT_.out (by kernel_rfl)) (fun _ _ _ h => h) (Or.inr ⟨by rfl, rfl⟩) ?_ ?_
                              rotate_left
                              · simp only [Act.put, List.setIfInBounds_toArray, List.set_cons_zero, List.set_cons_succ, i64_w, i32_w]
                                rfl
                              refine pure_ (i := 4) (N := some 96) (v := undef) (a' := ?_) #[true, true, true, true, true, false, false, false, false, false, false, false, false, false, false, false, false, false, false, false, false, false, false, false, false, false, false, false, false, false, false, false, false] rfl rfl (any_of HT_.out (by kernel_rfl)) (fun _ _ _ h => h) (Or.inr ⟨by rfl, rfl⟩) ?_ ?_
                              rotate_left
                              · simp only [Act.put, List.setIfInBounds_toArray, List.set_cons_zero, List.set_cons_succ, i64_w, i32_w]
                                rfl
                              refine pure_ (i := 5) (N := some 97) (v := undef) (a' := ?_) #[true, true, true, true, true, true, false, false, false, false, false, false, false, false, false, false, false, false, false, false, false, false, false, false, false, false, false, false, false, false, false, false, false] rfl rfl (any_of HT_.out (by kernel_rfl)) (fun _ _ _ h => h) (Or.inr ⟨by rfl, rfl⟩) ?_ ?_
                              rotate_left
                              · simp only [Act.put, List.setIfInBounds_toArray, List.set_cons_zero, List.set_cons_succ, i64_w, i32_w]
                                rfl
                              refine pure_ (i := 6) (N := some 98) (v := undef) (a' := ?_) #[true, true, true, true, true, true, true, false, false, false, false, false, false, false, false, false, false, false, false, false, false, false, false, false, false, false, false, false, false, false, false, false, false] rfl rfl (any_of HT_.out (by kernel_rfl)) (fun _ _ _ h => h) (Or.inr ⟨by rfl, rfl⟩) ?_ ?_
                              rotate_left
                              · simp only [Act.put, List.setIfInBounds_toArray, List.set_cons_zero, List.set_cons_succ, i64_w, i32_w]
                                rfl
                              refine pure_ (i := 7) (N := some 99) (v := undef) (a' := ?_) #[true, true, true, true, true, true, true, true, false, false, false, false, false, false, false, false, false, false, false, false, false, false, false, false, false, false, false, false, false, false, false, false, false] rfl rfl (any_of HT_.out (by kernel_rfl)) (fun _ _ _ h => h) (Or.inr ⟨by rfl, rfl⟩) ?_ ?_
                              rotate_left
                              · simp only [Act.put, List.setIfInBounds_toArray, List.set_cons_zero, List.set_cons_succ, i64_w, i32_w]
                                rfl
                              refine pure_ (i := 8) (N := some 100) (v := undef) (a' := ?_) #[true, true, true, true, true, true, true, true, true, false, false, false, false, false, false, false, false, false, false, false, false, false, false, false, false, false, false, false, false, false, false, false, false] rfl rfl (any_of HT_.out (by kernel_rfl)) (fun _ _ _ h => h) (Or.inr ⟨by rfl, rfl⟩) ?_ ?_
                              rotate_left
                              · simp only [Act.put, List.setIfInBounds_toArray, List.set_cons_zero, List.set_cons_succ, i64_w, i32_w]
                                rfl
                              refine pure_ (i := 9) (N := some 101) (v := undef) (a' := ?_) #[true, true, true, true, true, true, true, true, true, true, false, false, false, false, false, false, false, false, false, false, false, false, false, false, false, false, false, false, false, false, false, false, false] rfl rfl (any_of HT_.out (by kernel_rfl)) (fun _ _ _ h => h) (Or.inr ⟨by rfl, rfl⟩) ?_ ?_
                              rotate_left
                              · simp only [Act.put, List.setIfInBounds_toArray, List.set_cons_zero, List.set_cons_succ, i64_w, i32_w]
                                rfl
                              refine pure_ (i := 10) (N := some 102) (v := undef) (a' := ?_) #[true, true, true, true, true, true, true, true, true, true, true, false, false, false, false, false, false, false, false, false, false, false, false, false, false, false, false, false, false, false, false, false, false] rfl rfl (any_of HT_.out (by kernel_rfl)) (fun _ _ _ h => h) (Or.inr ⟨by rfl, rfl⟩) ?_ ?_
                              rotate_left
                              · simp only [Act.put, List.setIfInBounds_toArray, List.set_cons_zero, List.set_cons_succ, i64_w, i32_w]
                                rfl
                              refine pure_ (i := 11) (N := some 103) (v := undef) (a' := ?_) #[true, true, true, true, true, true, true, true, true, true, true, true, false, false, false, false, false, false, false, false, false, false, false, false, false, false, false, false, false, false, false, false, false] rfl rfl (any_of HT_.out (by kernel_rfl)) (fun _ _ _ h => h) (Or.inr ⟨by rfl, rfl⟩) ?_ ?_
                              rotate_left
                              · simp only [Act.put, List.setIfInBounds_toArray, List.set_cons_zero, List.set_cons_succ, i64_w, i32_w]
                                rfl
                              refine pure_ (i := 12) (N := some 104) (v := undef) (a' := ?_) #[true, true, true, true, true, true, true, true, true, true, true, true, true, false, false, false, false, false, false, false, false, false, false, false, false, false, false, false, false, false, false, false, false] rfl rfl (any_of HT_.out (by kernel_rfl)) (fun _ _ _ h => h) (Or.inr ⟨by rfl, rfl⟩) ?_ ?_
                              rotate_left
                              · simp only [Act.put, List.setIfInBounds_toArray, List.set_cons_zero, List.set_cons_succ, i64_w, i32_w]
                                rfl
                              refine pure_ (i := 13) (N := some 105) (v := undef) (a' := ?_) #[true, true, true, true, true, true, true, true, true, true, true, true, true, true, false, false, false, false, false, false, false, false, false, false, false, false, false, false, false, false, false, false, false] rfl rfl (any_of HT_.out (by kernel_rfl)) (fun _ _ _ h => h) (Or.inr ⟨by rfl, rfl⟩) ?_ ?_
                              rotate_left
                              · simp only [Act.put, List.setIfInBounds_toArray, List.set_cons_zero, List.set_cons_succ, i64_w, i32_w]
                                rfl
                              refine pure_ (i := 14) (N := some 106) (v := undef) (a' := ?_) #[true, true, true, true, true, true, true, true, true, true, true, true, true, true, true, false, false, false, false, false, false, false, false, false, false, false, false, false, false, false, false, false, false] rfl rfl (any_of HT_.out (by kernel_rfl)) (fun _ _ _ h => h) (Or.inr ⟨by rfl, rfl⟩) ?_ ?_
                              rotate_left
                              · simp only [Act.put, List.setIfInBounds_toArray, List.set_cons_zero, List.set_cons_succ, i64_w, i32_w]
                                rfl
                              refine pure_ (i := 15) (N := some 107) (v := undef) (a' := ?_) #[true, true, true, true, true, true, true, true, true, true, true, true, true, true, true, true, false, false, false, false, false, false, false, false, false, false, false, false, false, false, false, false, false] rfl rfl (any_of HT_.out (by kernel_rfl)) (fun _ _ _ h => h) (Or.inr ⟨by rfl, rfl⟩) ?_ ?_
                              rotate_left
                              · simp only [Act.put, List.setIfInBounds_toArray, List.set_cons_zero, List.set_cons_succ, i64_w, i32_w]
                                rfl
                              refine pure_ (i := 16) (N := some 108) (v := undef) (a' := ?_) #[true, true, true, true, true, true, true, true, true, true, true, true, true, true, true, true, true, false, false, false, false, false, false, false, false, false, false, false, false, false, false, false, false] rfl rfl (any_of HT_.out (by kernel_rfl)) (fun _ _ _ h => h) (Or.inr ⟨by rfl, rfl⟩) ?_ ?_
                              rotate_left
                              · simp only [Act.put, List.setIfInBounds_toArray, List.set_cons_zero, List.set_cons_succ, i64_w, i32_w]
                                rfl
                              refine pure_ (i := 17) (N := some 109) (v := undef) (a' := ?_) #[true, true, true, true, true, true, true, true, true, true, true, true, true, true, true, true, true, true, false, false, false, false, false, false, false, false, false, false, false, false, false, false, false] rfl rfl (any_of HT_.out (by kernel_rfl)) (fun _ _ _ h => h) (Or.inr ⟨by rfl, rfl⟩) ?_ ?_
                              rotate_left
                              · simp only [Act.put, List.setIfInBounds_toArray, List.set_cons_zero, List.set_cons_succ, i64_w, i32_w]
                                rfl
                              refine pure_ (i := 18) (N := some 110) (v := undef) (a' := ?_) #[true, true, true, true, true, true, true, true, true, true, true, true, true, true, true, true, true, true, true, false, false, false, false, false, false, false, false, false, false, false, false, false, false] rfl rfl (any_of HT_.out (by kernel_rfl)) (fun _ _ _ h => h) (Or.inr ⟨by rfl, rfl⟩) ?_ ?_
                              rotate_left
                              · simp only [Act.put, List.setIfInBounds_toArray, List.set_cons_zero, List.set_cons_succ, i64_w, i32_w]
                                rfl
                              refine pure_ (i := 19) (N := some 111) (v := undef) (a' := ?_) #[true, true, true, true, true, true, true, true, true, true, true, true, true, true, true, true, true, true, true, true, false, false, false, false, false, false, false, false, false, false, false, false, false] rfl rfl (any_of HT_.out (by kernel_rfl)) (fun _ _ _ h => h) (Or.inr ⟨by rfl, rfl⟩) ?_ ?_
                              rotate_left
                              · simp only [Act.put, List.setIfInBounds_toArray, List.set_cons_zero, List.set_cons_succ, i64_w, i32_w]
                                rfl
                              refine pure_ (i := 20) (N := some 112) (v := undef) (a' := ?_) #[true, true, true, true, true, true, true, true, true, true, true, true, true, true, true, true, true, true, true, true, true, false, false, false, false, false, false, false, false, false, false, false, false] rfl rfl (any_of HT_.out (by kernel_rfl)) (fun _ _ _ h => h) (Or.inr ⟨by rfl, rfl⟩) ?_ ?_
                              rotate_left
                              · simp only [Act.put, List.setIfInBounds_toArray, List.set_cons_zero, List.set_cons_succ, i64_w, i32_w]
                                rfl
                              refine pure_ (i := 21) (N := some 113) (v := undef) (a' := ?_) #[true, true, true, true, true, true, true, true, true, true, true, true, true, true, true, true, true, true, true, true, true, true, false, false, false, false, false, false, false, false, false, false, false] rfl rfl (any_of HT_.out (by kernel_rfl)) (fun _ _ _ h => h) (Or.inr ⟨by rfl, rfl⟩) ?_ ?_
                              rotate_left
                              · simp only [Act.put, List.setIfInBounds_toArray, List.set_cons_zero, List.set_cons_succ, i64_w, i32_w]
                                rfl
                              refine pure_ (i := 22) (N := some 114) (v := undef) (a' := ?_) #[true, true, true, true, true, true, true, true, true, true, true, true, true, true, true, true, true, true, true, true, true, true, true, false, false, false, false, false, false, false, false, false, false] rfl rfl (any_of HT_.out (by kernel_rfl)) (fun _ _ _ h => h) (Or.inr ⟨by rfl, rfl⟩) ?_ ?_
                              rotate_left
                              · simp only [Act.put, List.setIfInBounds_toArray, List.set_cons_zero, List.set_cons_succ, i64_w, i32_w]
                                rfl
                              refine pure_ (i := 23) (N := some 115) (v := undef) (a' := ?_) #[true, true, true, true, true, true, true, true, true, true, true, true, true, true, true, true, true, true, true, true, true, true, true, true, false, false, false, false, false, false, false, false, false] rfl rfl (any_of HT_.out (by kernel_rfl)) (fun _ _ _ h => h) (Or.inr ⟨by rfl, rfl⟩) ?_ ?_
                              rotate_left
                              · simp only [Act.put, List.setIfInBounds_toArray, List.set_cons_zero, List.set_cons_succ, i64_w, i32_w]
                                rfl
                              refine pure_ (i := 24) (N := some 116) (v := undef) (a' := ?_) #[true, true, true, true, true, true, true, true, true, true, true, true, true, true, true, true, true, true, true, true, true, true, true, true, true, false, false, false, false, false, false, false, false] rfl rfl (any_of HT_.out (by kernel_rfl)) (fun _ _ _ h => h) (Or.inr ⟨by rfl, rfl⟩) ?_ ?_
                              rotate_left
                              · simp only [Act.put, List.setIfInBounds_toArray, List.set_cons_zero, List.set_cons_succ, i64_w, i32_w]
                                rfl
                              refine pure_ (i := 25) (N := some 117) (v := undef) (a' := ?_) #[true, true, true, true, true, true, true, true, true, true, true, true, true, true, true, true, true, true, true, true, true, true, true, true, true, true, false, false, false, false, false, false, false] rfl rfl (any_of HT_.out (by kernel_rfl)) (fun _ _ _ h => h) (Or.inr ⟨by rfl, rfl⟩) ?_ ?_
                              rotate_left
                              · simp only [Act.put, List.setIfInBounds_toArray, List.set_cons_zero, List.set_cons_succ, i64_w, i32_w]
                                rfl
                              refine pure_ (i := 26) (N := some 118) (v := undef) (a' := ?_) #[true, true, true, true, true, true, true, true, true, true, true, true, true, true, true, true, true, true, true, true, true, true, true, true, true, true, true, false, false, false, false, false, false] rfl rfl (any_of HT_.out (by kernel_rfl)) (fun _ _ _ h => h) (Or.inr ⟨by rfl, rfl⟩) ?_ ?_
                              rotate_left
                              · simp only [Act.put, List.setIfInBounds_toArray, List.set_cons_zero, List.set_cons_succ, i64_w, i32_w]
                                rfl
                              refine pure_ (i := 27) (N := some 119) (v := undef) (a' := ?_) #[true, true, true, true, true, true, true, true, true, true, true, true, true, true, true, true, true, true, true, true, true, true, true, true, true, true, true, true, false, false, false, false, false] rfl rfl (any_of HT_.out (by kernel_rfl)) (fun _ _ _ h => h) (Or.inr ⟨by rfl, rfl⟩) ?_ ?_
                              rotate_left
                              · simp only [Act.put, List.setIfInBounds_toArray, List.set_cons_zero, List.set_cons_succ, i64_w, i32_w]
                                rfl
                              refine pure_ (i := 28) (N := some 120) (v := undef) (a' := ?_) #[true, true, true, true, true, true, true, true, true, true, true, true, true, true, true, true, true, true, true, true, true, true, true, true, true, true, true, true, true, false, false, false, false] rfl rfl (any_of HT_.out (by kernel_rfl)) (fun _ _ _ h => h) (Or.inr ⟨by rfl, rfl⟩) ?_ ?_
                              rotate_left
                              · simp only [Act.put, List.setIfInBounds_toArray, List.set_cons_zero, List.set_cons_succ, i64_w, i32_w]
                                rfl
                              refine pure_ (i := 29) (N := some 121) (v := undef) (a' := ?_) #[true, true, true, true, true, true, true, true, true, true, true, true, true, true, true, true, true, true, true, true, true, true, true, true, true, true, true, true, true, true, false, false, false] rfl rfl (any_of HT_.out (by kernel_rfl)) (fun _ _ _ h => h) (Or.inr ⟨by rfl, rfl⟩) ?_ ?_
                              rotate_left
                              · simp only [Act.put, List.setIfInBounds_toArray, List.set_cons_zero, List.set_cons_succ, i64_w, i32_w]
                                rfl
                              refine pure_ (i := 30) (N := some 122) (v := undef) (a' := ?_) #[true, true, true, true, true, true, true, true, true, true, true, true, true, true, true, true, true, true, true, true, true, true, true, true, true, true, true, true, true, true, true, false, false] rfl rfl (any_of HT_.out (by kernel_rfl)) (fun _ _ _ h => h) (Or.inr ⟨by rfl, rfl⟩) ?_ ?_
                              rotate_left
                              · simp only [Act.put, List.setIfInBounds_toArray, List.set_cons_zero, List.set_cons_succ, i64_w, i32_w]
                                rfl
                              refine pure_ (i := 31) (N := some 123) (v := undef) (a' := ?_) #[true, true, true, true, true, true, true, true, true, true, true, true, true, true, true, true, true, true, true, true, true, true, true, true, true, true, true, true, true, true, true, true, false] rfl rfl (any_of HT_.out (by kernel_rfl)) (fun _ _ _ h => h) (Or.inr ⟨by rfl, rfl⟩) ?_ ?_
                              rotate_left
                              · simp only [Act.put, List.setIfInBounds_toArray, List.set_cons_zero, List.set_cons_succ, i64_w, i32_w]
                                rfl
                              refine pure_ (i := 32) (N := some 124) (v := ?_) (a' := ?_) #[true, true, true, true, true, true, true, true, true, true, true, true, true, true, true, true, true, true, true, true, true, true, true, true, true, true, true, true, true, true, true, true, true] rfl rfl (any_of HT_.out (by kernel_rfl)) (fun _ _ _ h => h) (Or.inl ⟨by rfl, ?_⟩) ?_ ?_
                              rotate_left
                              · intro w'
                                go_simp
                                with_reducible rfl
                              rotate_left
                              · simp only [Act.put, List.setIfInBounds_toArray, List.set_cons_zero, List.set_cons_succ, i64_w, i32_w]
                                rfl
                              refine done_ (done_of HT_.out (by kernel_rfl)) ?_
                              try go_wp2
                              (try simp only [← hl11_2, ← hl11_22])
                              go_roundg kj22
                              case measure => have := HJ7.out; have := HK2.out; have := HJ22.out; omega
                              case rel => exact ⟨(y455), (wrap64 (x13_2 + 1)), (by first | rfl | (simp; done) | (simp [*]; done) | (simp only [i64_w]; done) | (simp [i64_w]; done)), H', ⟨by have := HJ7.out; have := HK2.out; have := HJ22.out; omega⟩, ⟨by (try simp only [hl11_2]); (try simp only [hl11_22]); (with_reducible repeat (first | apply Kd.R_alloc | apply Kd.R_drewN | apply Kd.R_drew)); exact Kd.R_mono HO_11.out (fun _ hk => trivial)⟩, ⟨by repeat (first | (with_reducible first | exact HB.out | apply below_alloc | apply pw_below_drewN | apply below_drew1 | refine below_set ?_ GE471.out) | exact HB.out)⟩⟩
                    · rw [if_neg c20] at H
                      exact absurd H (by simp)
                  · rw [if_neg c19] at H
                    have c19b0 : decide (x13_2 < 4) = false := decide_eq_false c19
                    clear c19
                    by_cases c49 : 0 < (x11_2.length : Int)
                    · rw [if_pos c49] at H
                      have c49b0 : decide (0 < (x11_2.length : Int)) = true := decide_eq_true c49
                      have c49b1 : decide (0 < x11_2.length) = true := decide_eq_true (by omega)
                      clear c49
                      obtain ⟨y438, hy438⟩ : ∃ y_ : List Int, y_ = (x11_2.set (0 : Int).toNat (Int.tmod a4 128)) := ⟨_, rfl⟩
                      replace H : ((initial_Parse.f k2 y438).bind fun bt439 => (some (bt439.2.2.2.2.2.2 == 14))) = some r := by first | (rw [hy438]; with_reducible exact H) | (have H2_ := (Option.bind_some _ _).symm.trans H; rw [hy438]; with_reducible exact H2_) | (have H2_ := (Option.bind_some _ _).symm.trans H; with_reducible exact H2_) | with_reducible exact H | (rw [hy438]; exact H) | exact H
                      have Ny438 := Aside0.mk hy438
                      clear hy438
                      replace H := Option.bind_eq_some_iff.mp H
                      obtain ⟨⟨t439, t440, t441, t444, t447, t450, t453⟩, A510, H⟩ := H
                      replace H : (some (t453 == 14)) = some r := H
                      have A51 := Aside0.mk A510
                      clear A510
                      obtain rfl := Option.some.inj H
                      have p50 : 0 ≤ (0 : Int) := (by omega)
                      have q50 : (0 : Int) < ((x11_2.length : Int) : Int) := of_decide_eq_true (by first | (with_reducible assumption) | assumption)
                      have qi50 : (0 < x11_2.length) = True := eq_true (by omega)
                      obtain ⟨go50, co50, eo50, gb50, gl50, cl50, HG50⟩ := Kd.R_form HO_11.out (by omega)
                      (first | cases eo50 | (injection eo50 with ea_ en_ ec_; (first | subst ea_ | (injection ea_ with ea_; subst ea_)); subst ec_; clear en_))
                      have GB50 := Aside0.mk gb50
                      have GG50 := Aside0.mk HG50
                      clear gb50 gl50 HG50
                      obtain ⟨hx50_0, hf50_0⟩ := Kd.R_celln 0 HO_11.out (0 : Int) p50 q50
                      (try rw [show ((0 : Int)).toNat = 0 from rfl] at hx50_0)
                      (try simp only [Nat.reduceMul, Nat.zero_mul, Nat.zero_add, Nat.reduceAdd] at hx50_0)
                      (try rw [show ((0 : Int)).toNat = 0 from rfl] at hf50_0)
                      (try simp only [Nat.reduceMul, Nat.zero_mul, Nat.zero_add, Nat.reduceAdd] at hf50_0)
                      replace p50 := eq_true p50
                      replace q50 := eq_true q50
                      have HP52 := Kd.R_putg HO_11.out (0 : Int) (Int.tmod a4 128)
                      go_wp2_with (first | ((with_reducible refine gate_store (t := 5) (p := 128) rfl ?_); refine store_event (t := 5) (p := 128) (v := ?vo_w53) (w1 := (wr.setCell ⟨go50, (0 : Int).toNat, none⟩ (.int .u8 (Int.tmod a4 128)))) ?hg ?ho ?hn ?hr ?_; (case ho => rfl); (case hg => rfl); (case hn => rfl); (case hr => first | (go_simp; done) | (go_simp; rfl)); intro w53 hw; have hg : wr.grownBy w53 (some go50) := (by rw [hw]; exact HP52.2); have hp_ : Kd.R (Kd.int .u8) 5 w53 w.heap.size (fun _ => True) (.slice (some ⟨go50, 0, none⟩) x11_2.length co18) y438 := (by rw [hw, Ny438.out]; exact HP52.1); clear HP52; have n0_ := Aside0.mk (hp_); have n1_ := Aside0.mk ((by rw [hw]; exact below_set (HB.out) GB50.out : Below w.heap.size w w53)); clear HO_11; clear HB; have HO_11 := n0_; have HB := n1_; clear n0_ n1_; clear hg hw hp_) | ((with_reducible refine gate_callee (f := 8) rfl ?_); refine goesL_ (some 131) rfl rfl Try.func8 (by kernel_rfl) rfl #[.slice (some ⟨go50, 0, none⟩) y438.length co18] rfl (by (try simp only [List.map_toArray, List.map_cons, List.map_nil]); first | done | (rw [show y438.length = x11_2.length from (Kd.R_reads' HO_11.out).1.symm] <;> rfl) | rfl | (simp only [List.length_drop, List.length_take]; rfl)) ?_; (with_reducible refine (initial_Parse.calls k2 _ _ y438 t439 t440 t441 t444 t447 t450 t453 _ ?side1 ?side2 A51.out).mono ?_); (case side1 => repeat (first | exact (Kd.R_reads' HO_11.out).2.2 | (with_reducible refine Kd.C_alloc ?_ _) | (with_reducible refine Kd.C_drewN ?_ _) | (with_reducible refine Kd.C_drew ?_))); (case side2 => rw [show y438.length = x11_2.length from (Kd.R_reads' HO_11.out).1.symm]; exact (Kd.R_reads' HO_11.out).2.1); rintro e w54 ⟨v442, v445, v448, v451, rfl, ho0, ho1, ho2, ho3, hb⟩; refine ⟨_, rfl, ?_⟩; have n1_ := Aside0.mk (Kd.R_lower (Kd.R_new' ho0 (Kd.R_lt (by (with_reducible repeat (first | apply Kd.R_alloc | apply Kd.R_drewN | apply Kd.R_drew)); exact HO_11.out))) (below_size (by repeat (first | (with_reducible first | exact HB.out | apply below_alloc | apply pw_below_drewN | apply below_drew1) | exact HB.out)))); have n2_ := Aside0.mk (Kd.R_lower (Kd.R_new' ho1 (Kd.R_lt (by (with_reducible repeat (first | apply Kd.R_alloc | apply Kd.R_drewN | apply Kd.R_drew)); exact HO_11.out))) (below_size (by repeat (first | (with_reducible first | exact HB.out | apply below_alloc | apply pw_below_drewN | apply below_drew1) | exact HB.out)))); have n3_ := Aside0.mk (Kd.R_lower (Kd.R_new' ho2 (Kd.R_lt (by (with_reducible repeat (first | apply Kd.R_alloc | apply Kd.R_drewN | apply Kd.R_drew)); exact HO_11.out))) (below_size (by repeat (first | (with_reducible first | exact HB.out | apply below_alloc | apply pw_below_drewN | apply below_drew1) | exact HB.out)))); have n4_ := Aside0.mk (Kd.R_lower (Kd.R_new' ho3 (Kd.R_lt (by (with_reducible repeat (first | apply Kd.R_alloc | apply Kd.R_drewN | apply Kd.R_drew)); exact HO_11.out))) (below_size (by repeat (first | (with_reducible first | exact HB.out | apply below_alloc | apply pw_below_drewN | apply below_drew1) | exact HB.out)))); have n5_ := Aside0.mk (below_step (by repeat (first | (with_reducible first | exact HB.out | apply below_alloc | apply pw_below_drewN | apply below_drew1) | exact HB.out)) hb); clear HB; have HO443 := n1_; have HO446 := n2_; have HO449 := n3_; have HO452 := n4_; have HB := n5_; clear n1_ n2_ n3_ n4_ n5_; (try clear hb); (try clear hb2); (try clear hk); (try clear hi); (try clear ho0); (try clear ho1); (try clear ho2); (try clear ho3)) | ((with_reducible refine gate_dst (N := 16) rfl ?_); (try (refine gate_guard (by rfl) ?_; dsimp only)); refine box_event ?hg (N := 16) ?hd (cs := #[.int .u8 0, .int .u32 0, .slice none 0 0, .slice none 0 0, .slice none 0 0, .slice none 0 0]) (t := 29) ?hr ?_; (case hd => rfl); (case hg => rfl); (case hr => first | (go_simp; done) | (go_simp; rfl)); intro gb454 hg w55 hbox hb; have n1_ := Aside0.mk (Kd.R_below (by (with_reducible repeat (first | apply Kd.R_alloc | apply Kd.R_drewN | apply Kd.R_drew)); exact HO443.out) hb); have n2_ := Aside0.mk (Kd.R_below (by (with_reducible repeat (first | apply Kd.R_alloc | apply Kd.R_drewN | apply Kd.R_drew)); exact HO446.out) hb); have n3_ := Aside0.mk (Kd.R_below (by (with_reducible repeat (first | apply Kd.R_alloc | apply Kd.R_drewN | apply Kd.R_drew)); exact HO449.out) hb); have n4_ := Aside0.mk (Kd.R_below (by (with_reducible repeat (first | apply Kd.R_alloc | apply Kd.R_drewN | apply Kd.R_drew)); exact HO452.out) hb); have n5_ := Aside0.mk (below_step (by repeat (first | (with_reducible first | exact HB.out | apply below_alloc | apply pw_below_drewN | apply below_drew1) | exact HB.out)) hb); have n6_ := Aside0.mk (hbox); have n7_ := Aside0.mk trivial; have n8_ := Aside0.mk ((by rw [hg]; exact (below_size (by repeat (first | (with_reducible first | exact HB.out | apply below_alloc | apply pw_below_drewN | apply below_drew1) | exact HB.out))) : w.heap.size ≤ gb454)); clear HO443; clear HO446; clear HO449; clear HO452; clear HB; have HO443 := n1_; have HO446 := n2_; have HO449 := n3_; have HO452 := n4_; have HB := n5_; have BK454 := n6_; have GW454 := n7_; have GE454 := n8_; clear n1_ n2_ n3_ n4_ n5_ n6_ n7_ n8_; clear hb hbox hg; have hcz56_0 : w55.cell? ⟨gb454, 0, none⟩ = some (.int .u8 0) := (blk_cell BK454.out 0).trans rfl; have hcz56_1 : w55.cell? ⟨gb454, 1, none⟩ = some (.int .u32 0) := (blk_cell BK454.out 1).trans rfl; have hcz56_2 : w55.cell? ⟨gb454, 2, none⟩ = some (.slice none 0 0) := (blk_cell BK454.out 2).trans rfl; have hcz56_3 : w55.cell? ⟨gb454, 3, none⟩ = some (.slice none 0 0) := (blk_cell BK454.out 3).trans rfl; have hcz56_4 : w55.cell? ⟨gb454, 4, none⟩ = some (.slice none 0 0) := (blk_cell BK454.out 4).trans rfl; have hcz56_5 : w55.cell? ⟨gb454, 5, none⟩ = some (.slice none 0 0) := (blk_cell BK454.out 5).trans rfl; have hfz56_0 := blk_frozen BK454.out 0; have hfz56_1 := blk_frozen BK454.out 1; have hfz56_2 := blk_frozen BK454.out 2; have hfz56_3 := blk_frozen BK454.out 3; have hfz56_4 := blk_frozen BK454.out 4; have hfz56_5 := blk_frozen BK454.out 5; obtain ⟨Ao57, co57, eo57⟩ := Kd.R_slice HO443.out; subst eo57; obtain ⟨Ao58, co58, eo58⟩ := Kd.R_slice HO446.out; subst eo58; obtain ⟨Ao59, co59, eo59⟩ := Kd.R_slice HO449.out; subst eo59; obtain ⟨Ao60, co60, eo60⟩ := Kd.R_slice HO452.out; subst eo60))
                      go_ret
                      exact ⟨by first | rfl | (simp [errW_none, errW_some] <;> rfl) | (simp [*, errW_none, errW_some] <;> rfl), by repeat (first | (with_reducible first | exact HB.out | apply below_alloc | apply pw_below_drewN | apply below_drew1 | refine below_set ?_ GE454.out) | exact HB.out)⟩
                    · rw [if_neg c49] at H
                      exact absurd H (by simp)
          · rw [if_neg c15] at H
            exact absurd H (by simp)
  · replace c7 := Bool.eq_false_iff.mpr c7
    subst c7
    have H1 : (none) = some r := by rw [if_neg (show ¬ (false = true) by decide)] at H; exact H
    clear H
    have H := H1
    clear H1
    exact absurd H (by simp)

/-- The one pure statement of crosswaylaw11_InitialTypes. -/
def crosswaylaw11_InitialTypes.Pure : Prop := ∀ (l0 : List Int) (l1 : List Int) (l2 : List Int) (l3 : List Int) (a4 : Int), l0.length ≤ maxLen → (∀ x ∈ l0, (Lit.int .u8 x).wf = true) → l1.length ≤ maxLen → (∀ x ∈ l1, (Lit.int .u8 x).wf = true) → l2.length ≤ maxLen → (∀ x ∈ l2, (Lit.int .u8 x).wf = true) → l3.length ≤ maxLen → (∀ x ∈ l3, (Lit.int .u8 x).wf = true) → (Lit.int .u8 a4).wf = true → ∃ k, crosswaylaw11_InitialTypes.f k l0 l1 l2 l3 a4 = some true

end Go.Proofs.Ytmhmmmkpijbbiad.M
