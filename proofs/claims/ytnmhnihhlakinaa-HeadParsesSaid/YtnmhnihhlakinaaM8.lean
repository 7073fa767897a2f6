/- Contracts of the Go functions that the laws reach, each as a plain Lean function: written by xprint.py, a program of this repo. -/
import Derived.Test.YtnmhnihhlakinaaM0
import Derived.Test.YtnmhnihhlakinaaM1
import Derived.Test.YtnmhnihhlakinaaM2
import Derived.Test.YtnmhnihhlakinaaM3
import Derived.Test.YtnmhnihhlakinaaM5
import Derived.Test.YtnmhnihhlakinaaM6
import Derived.Test.YtnmhnihhlakinaaM7
namespace Go.Proofs.Ytnmhnihhlakinaa.M
open Go.RowKit Go.Proofs.YtnmhnihhlakinaaW.PrintWords Go.Proofs.YtnmhnihhlakinaaW.PrintLast Go.Proofs.YtnmhnihhlakinaaW.PrintMore Go.Proofs.Ytnmhnihhlakinaa.X
attribute [local go_sem] max2_int min2_int max_two min_two max_three min_three max_four min_four   -- for this text's walks alone
set_option linter.unusedVariables false
set_option linter.unusedSimpArgs false

open Kd
/-! ### crosswaylaw10_HeadParses: function 3 -/
mutual
def crosswaylaw10_HeadParses.j0 : Nat → List Int → Int → List Int → List Int → Bool → Option (Bool)
 | 0, _, _, _, _, _ => none
 | k + 1, x0, x1, x5, x7, x63 => if x63 = true then (none) else ((head_Id.f k x5 x1).bind fun bt272 => (crosswaylaw10_HeadParses.l0 k x0 x1 x5 x7 bt272.1 bt272.2 0))
def crosswaylaw10_HeadParses.l0 : Nat → List Int → Int → List Int → List Int → List Int → Int → Int → Option (Bool)
 | 0, _, _, _, _, _, _, _ => none
 | k + 1, x0, x1, x5, x7, x12, x13, x14 => if x14 < (x7.length : Int) then (if 0 ≤ x14 then (crosswaylaw10_HeadParses.l0 k x0 x1 x5 (x7.set (x14 : Int).toNat (((rd x7 x14) + 1) % 256)) x12 x13 (wrap64 (x14 + 1))) else (none)) else ((crosswayref00_SameBytes.f k x5 x0).bind fun t278 => (if t278 = true then (if x1 < 0 then (crosswaylaw10_HeadParses.j2 k x0 x1 x12 x13 true) else (crosswaylaw10_HeadParses.j2 k x0 x1 x12 x13 (decide (x1 > 255)))) else (none)))
def crosswaylaw10_HeadParses.j2 : Nat → List Int → Int → List Int → Int → Bool → Option (Bool)
 | 0, _, _, _, _, _ => none
 | k + 1, x0, x1, x12, x13, x91 => if x91 = true then (if x13 = 11 then (some ((x12.length : Int) == 0)) else (none)) else (if (x0.length : Int) ≤ x1 then (if x13 = 12 then (some ((x12.length : Int) == 0)) else (none)) else (if x13 = 0 then (if 1 ≤ (wrap64 (x1 + 1)) then (if (wrap64 (x1 + 1)) ≤ (x0.length : Int) then ((crosswayref00_SameBytes.f k x12 ((x0.take ((wrap64 (x1 + 1)) : Int).toNat).drop 1)).bind fun t280 => (some t280)) else (none)) else (none)) else (none)))
end
def crosswaylaw10_HeadParses.f (k : Nat) (l0 : List Int) (a1 : Int) : Option (Bool) := (crosswaylaw10_alive.f k).bind fun t230 => (if t230 = true then (if (l0.length : Int) > 3000 then (some true) else ((crosswayref00_CopyBytes.f l0).bind fun t231 => ((head_Parse.f k t231).bind fun bt234 => ((crosswayref10_Parse.f l0).bind fun bt247 => (if bt234.2.2.2.2.2 = bt247.2.2.2.2.2 then ((crosswaylaw10_Of.f bt234.1 bt234.2.1 bt234.2.2.1 bt234.2.2.2.1).bind fun bt260 => ((crosswayref10_Same.f bt260.1 bt260.2.1 bt260.2.2.1 bt260.2.2.2 bt247.1 bt247.2.1 bt247.2.2.1 bt247.2.2.2.1).bind fun t268 => (if t268 = true then ((crosswayref00_SameBytes.f k bt234.2.2.2.2.1 bt247.2.2.2.2.1).bind fun t269 => (if t269 = true then ((head_Long.f t231).bind fun t270 => (if (l0.length : Int) > 0 then (if 0 < (l0.length : Int) then (crosswaylaw10_HeadParses.j0 k l0 a1 t231 bt234.2.2.2.2.1 (t270 != (decide ((rd l0 0) ≥ 128)))) else (none)) else (crosswaylaw10_HeadParses.j0 k l0 a1 t231 bt234.2.2.2.2.1 (t270 != false)))) else (crosswaylaw10_HeadParses.j0 k l0 a1 t231 bt234.2.2.2.2.1 true))) else (crosswaylaw10_HeadParses.j0 k l0 a1 t231 bt234.2.2.2.2.1 true)))) else (crosswaylaw10_HeadParses.j0 k l0 a1 t231 bt234.2.2.2.2.1 true)))))) else (none))
theorem crosswaylaw10_HeadParses.mono_l : ∀ k, (∀ y0 y1 y2 y3 y4, LeO (crosswaylaw10_HeadParses.j0 k y0 y1 y2 y3 y4) (crosswaylaw10_HeadParses.j0 (k + 1) y0 y1 y2 y3 y4)) ∧ (∀ y0 y1 y2 y3 y4 y5 y6, LeO (crosswaylaw10_HeadParses.l0 k y0 y1 y2 y3 y4 y5 y6) (crosswaylaw10_HeadParses.l0 (k + 1) y0 y1 y2 y3 y4 y5 y6)) ∧ (∀ y0 y1 y2 y3 y4, LeO (crosswaylaw10_HeadParses.j2 k y0 y1 y2 y3 y4) (crosswaylaw10_HeadParses.j2 (k + 1) y0 y1 y2 y3 y4))
 | 0 => ⟨fun _ _ _ _ _ r h => by simp [crosswaylaw10_HeadParses.j0] at h, fun _ _ _ _ _ _ _ r h => by simp [crosswaylaw10_HeadParses.l0] at h, fun _ _ _ _ _ r h => by simp [crosswaylaw10_HeadParses.j2] at h⟩
 | k + 1 => by
  obtain ⟨ih0, ih1, ih2⟩ := crosswaylaw10_HeadParses.mono_l k
  refine ⟨?_, ?_, ?_⟩
  ·intro y0 y1 y2 y3 y4
   unfold crosswaylaw10_HeadParses.j0
   repeat' first
   | (with_reducible exact ih0 _ _ _ _ _)
   | (with_reducible exact ih1 _ _ _ _ _ _ _)
   | (with_reducible exact ih2 _ _ _ _ _)
   | (with_reducible exact crosswaylaw10_alive.mono _)
   | (with_reducible exact crosswayref00_SameBytes.mono _ _ _)
   | (with_reducible exact head_Id.mono _ _ _)
   | (with_reducible exact head_Parse.mono _ _)
   | (with_reducible exact LeO.refl _)
   | (with_reducible exact LeO.none _)
   | (with_reducible refine LeO.ite ?_ ?_)
   | (with_reducible refine LeO.bind ?_ (fun _ => ?_))
   | exact ih0 _ _ _ _ _
   | exact ih1 _ _ _ _ _ _ _
   | exact ih2 _ _ _ _ _
   | exact crosswaylaw10_alive.mono _
   | exact crosswayref00_SameBytes.mono _ _ _
   | exact head_Id.mono _ _ _
   | exact head_Parse.mono _ _
   | exact LeO.none _
   | refine LeO.ite ?_ ?_
   | refine LeO.bind ?_ (fun _ => ?_)
  ·intro y0 y1 y2 y3 y4 y5 y6
   unfold crosswaylaw10_HeadParses.l0
   repeat' first
   | (with_reducible exact ih0 _ _ _ _ _)
   | (with_reducible exact ih1 _ _ _ _ _ _ _)
   | (with_reducible exact ih2 _ _ _ _ _)
   | (with_reducible exact crosswaylaw10_alive.mono _)
   | (with_reducible exact crosswayref00_SameBytes.mono _ _ _)
   | (with_reducible exact head_Id.mono _ _ _)
   | (with_reducible exact head_Parse.mono _ _)
   | (with_reducible exact LeO.refl _)
   | (with_reducible exact LeO.none _)
   | (with_reducible refine LeO.ite ?_ ?_)
   | (with_reducible refine LeO.bind ?_ (fun _ => ?_))
   | exact ih0 _ _ _ _ _
   | exact ih1 _ _ _ _ _ _ _
   | exact ih2 _ _ _ _ _
   | exact crosswaylaw10_alive.mono _
   | exact crosswayref00_SameBytes.mono _ _ _
   | exact head_Id.mono _ _ _
   | exact head_Parse.mono _ _
   | exact LeO.none _
   | refine LeO.ite ?_ ?_
   | refine LeO.bind ?_ (fun _ => ?_)
  ·intro y0 y1 y2 y3 y4
   unfold crosswaylaw10_HeadParses.j2
   repeat' first
   | (with_reducible exact ih0 _ _ _ _ _)
   | (with_reducible exact ih1 _ _ _ _ _ _ _)
   | (with_reducible exact ih2 _ _ _ _ _)
   | (with_reducible exact crosswaylaw10_alive.mono _)
   | (with_reducible exact crosswayref00_SameBytes.mono _ _ _)
   | (with_reducible exact head_Id.mono _ _ _)
   | (with_reducible exact head_Parse.mono _ _)
   | (with_reducible exact LeO.refl _)
   | (with_reducible exact LeO.none _)
   | (with_reducible refine LeO.ite ?_ ?_)
   | (with_reducible refine LeO.bind ?_ (fun _ => ?_))
   | exact ih0 _ _ _ _ _
   | exact ih1 _ _ _ _ _ _ _
   | exact ih2 _ _ _ _ _
   | exact crosswaylaw10_alive.mono _
   | exact crosswayref00_SameBytes.mono _ _ _
   | exact head_Id.mono _ _ _
   | exact head_Parse.mono _ _
   | exact LeO.none _
   | refine LeO.ite ?_ ?_
   | refine LeO.bind ?_ (fun _ => ?_)
theorem crosswaylaw10_HeadParses.mono : ∀ a0 a1 k, LeO (crosswaylaw10_HeadParses.f k a0 a1) (crosswaylaw10_HeadParses.f (k + 1) a0 a1) := by
 intro a0 a1 k
 obtain ⟨ih0, ih1, ih2⟩ := crosswaylaw10_HeadParses.mono_l k
 unfold crosswaylaw10_HeadParses.f
 repeat' first
   | (with_reducible exact ih0 _ _ _ _ _)
   | (with_reducible exact ih1 _ _ _ _ _ _ _)
   | (with_reducible exact ih2 _ _ _ _ _)
   | (with_reducible exact crosswaylaw10_alive.mono _)
   | (with_reducible exact crosswayref00_SameBytes.mono _ _ _)
   | (with_reducible exact head_Id.mono _ _ _)
   | (with_reducible exact head_Parse.mono _ _)
   | (with_reducible exact LeO.refl _)
   | (with_reducible exact LeO.none _)
   | (with_reducible refine LeO.ite ?_ ?_)
   | (with_reducible refine LeO.bind ?_ (fun _ => ?_))
   | exact ih0 _ _ _ _ _
   | exact ih1 _ _ _ _ _ _ _
   | exact ih2 _ _ _ _ _
   | exact crosswaylaw10_alive.mono _
   | exact crosswayref00_SameBytes.mono _ _ _
   | exact head_Id.mono _ _ _
   | exact head_Parse.mono _ _
   | exact LeO.none _
   | refine LeO.ite ?_ ?_
   | refine LeO.bind ?_ (fun _ => ?_)
def crosswaylaw10_HeadParses.T8 : Bool × List (List Nat × List Nat) := (true, [([], []), ([], []), ([0, 1], [0, 1]), ([2], [2]), ([3], [3]), ([4, 3, 3], [3, 4]), ([3], [3]), ([5, 6, 5, 3], [3, 5, 6]), ([7, 3], [3, 7]), ([3, 8], [3, 8]), ([9, 7], [9]), ([10], [10]), ([10], [10]), ([11, 12, 10, 10], [10, 11, 12]), ([13, 10], [10, 13]), ([10, 14], [10, 14]), ([15, 13], [15]), ([16], [16]), ([17, 16, 16], [16, 17]), ([16], [16]), ([19, 16], [16, 19]), ([20, 16], [16, 20]), ([21, 18, 16], [16, 21]), ([22], [22]), ([23, 22], [22, 23]), ([24, 22], [22, 24]), ([25, 22], [22, 25]), ([22, 26, 16], [16, 22, 26]), ([18, 27, 16], [16, 18, 27]), ([16, 28], [16, 28])])
def crosswaylaw10_HeadParses.B8 : List Nat := [0, 0, 3, 7, 15, 31, 15, 127, 255, 511, 1023, 2047, 2047, 8191, 16383, 32767, 65535, 131071, 262143, 131071, 655359, 1703935, 4194303, 8388607, 16777215, 33554431, 67108863, 134217727, 268435455, 536870911]
theorem crosswaylaw10_HeadParses.tab8 : rtab .any (opsOf Try.f3 8) = crosswaylaw10_HeadParses.T8 := by kernel_rfl
theorem crosswaylaw10_HeadParses.bits8 : waitsOk crosswaylaw10_HeadParses.T8.2 crosswaylaw10_HeadParses.B8 = true := by kernel_rfl
set_option maxHeartbeats 8000000 in
set_option maxRecDepth 100000 in
theorem crosswaylaw10_HeadParses.calls (k : Nat) (A0 : Option Addr) (c0 : Nat) (l0 : List Int) (a1 : Int) (r : Bool) (w : World) (hr0 : Kd.C (Kd.int .u8) w A0 l0.length l0) (hc0 : l0.length ≤ c0) (h : crosswaylaw10_HeadParses.f k l0 a1 = some r) :
  Calls Try.prog 3 #[.slice A0 l0.length c0, .int .i64 a1] w fun e w' => e = .returned (.bool r) ∧ Below w.heap.size w w' := by
 have hu27 := Try.underlying27
 have hu31 := Try.underlying31
 have HR0 := Aside0.mk hr0
 have HC0 := Aside0.mk hc0
 clear hr0 hc0
 have HB := Aside0.mk (Below.refl w.heap.size w)
 have H : ((crosswaylaw10_alive.f k).bind fun t230 => (if t230 = true then (if (l0.length : Int) > 3000 then (some true) else ((crosswayref00_CopyBytes.f l0).bind fun t231 => ((head_Parse.f k t231).bind fun bt234 => ((crosswayref10_Parse.f l0).bind fun bt247 => (if bt234.2.2.2.2.2 = bt247.2.2.2.2.2 then ((crosswaylaw10_Of.f bt234.1 bt234.2.1 bt234.2.2.1 bt234.2.2.2.1).bind fun bt260 => ((crosswayref10_Same.f bt260.1 bt260.2.1 bt260.2.2.1 bt260.2.2.2 bt247.1 bt247.2.1 bt247.2.2.1 bt247.2.2.2.1).bind fun t268 => (if t268 = true then ((crosswayref00_SameBytes.f k bt234.2.2.2.2.1 bt247.2.2.2.2.1).bind fun t269 => (if t269 = true then ((head_Long.f t231).bind fun t270 => (if (l0.length : Int) > 0 then (if 0 < (l0.length : Int) then (crosswaylaw10_HeadParses.j0 k l0 a1 t231 bt234.2.2.2.2.1 (t270 != (decide ((rd l0 0) ≥ 128)))) else (none)) else (crosswaylaw10_HeadParses.j0 k l0 a1 t231 bt234.2.2.2.2.1 (t270 != false)))) else (crosswaylaw10_HeadParses.j0 k l0 a1 t231 bt234.2.2.2.2.1 true))) else (crosswaylaw10_HeadParses.j0 k l0 a1 t231 bt234.2.2.2.2.1 true)))) else (crosswaylaw10_HeadParses.j0 k l0 a1 t231 bt234.2.2.2.2.1 true)))))) else (none))) = some r := h
 clear h
 replace H := Option.bind_eq_some_iff.mp H
 obtain ⟨t230, A30, H⟩ := H
 try dsimp only at H
 have A3 := Aside0.mk A30
 clear A30
 by_cases c4 : t230 = true
 ·subst c4
  have H1 : (if (l0.length : Int) > 3000 then (some true) else ((crosswayref00_CopyBytes.f l0).bind fun t231 => ((head_Parse.f k t231).bind fun bt234 => ((crosswayref10_Parse.f l0).bind fun bt247 => (if bt234.2.2.2.2.2 = bt247.2.2.2.2.2 then ((crosswaylaw10_Of.f bt234.1 bt234.2.1 bt234.2.2.1 bt234.2.2.2.1).bind fun bt260 => ((crosswayref10_Same.f bt260.1 bt260.2.1 bt260.2.2.1 bt260.2.2.2 bt247.1 bt247.2.1 bt247.2.2.1 bt247.2.2.2.1).bind fun t268 => (if t268 = true then ((crosswayref00_SameBytes.f k bt234.2.2.2.2.1 bt247.2.2.2.2.1).bind fun t269 => (if t269 = true then ((head_Long.f t231).bind fun t270 => (if (l0.length : Int) > 0 then (if 0 < (l0.length : Int) then (crosswaylaw10_HeadParses.j0 k l0 a1 t231 bt234.2.2.2.2.1 (t270 != (decide ((rd l0 0) ≥ 128)))) else (none)) else (crosswaylaw10_HeadParses.j0 k l0 a1 t231 bt234.2.2.2.2.1 (t270 != false)))) else (crosswaylaw10_HeadParses.j0 k l0 a1 t231 bt234.2.2.2.2.1 true))) else (crosswaylaw10_HeadParses.j0 k l0 a1 t231 bt234.2.2.2.2.1 true)))) else (crosswaylaw10_HeadParses.j0 k l0 a1 t231 bt234.2.2.2.2.1 true)))))) = some r := by rw [if_pos rfl] at H; exact H
  clear H
  have H := H1
  clear H1
  by_cases c5 : (l0.length : Int) > 3000
  ·rw [if_pos c5] at H
   have c5b0 : decide (3000 < (l0.length : Int)) = true := decide_eq_true c5
   have c5b1 : decide (3000 < l0.length) = true := decide_eq_true (by omega)
   clear c5
   obtain rfl := Option.some.inj H
   go_enter Try.func3, Try.ntmps3
   go_wp2_with (first | ((with_reducible refine gate_callee (f := 7) rfl ?_); refine goesL_ (some 15) rfl rfl Try.func7 (by kernel_rfl) rfl #[] rfl (by (try simp only [List.map_toArray, List.map_cons, List.map_nil]); first | done | rfl | (simp only [List.length_drop, List.length_take]; rfl)) ?_; (with_reducible refine (crosswaylaw10_alive.calls k  true _ A3.out).mono ?_); rintro e w6 ⟨rfl, hb⟩; refine ⟨_, rfl, ?_⟩; have n0_ := Aside0.mk (below_step (by repeat (first | (with_reducible first | exact HB.out | apply below_alloc | apply pw_below_drewN | apply below_drew1) | exact HB.out)) hb); clear HB; have HB := n0_; clear n0_; (try clear hb); (try clear hb2); (try clear hk); (try clear hi)))
   go_ret
   exact ⟨by first | rfl | (simp [errW_none, errW_some] <;> rfl) | (simp [*, errW_none, errW_some] <;> rfl), by repeat (first | (with_reducible first | exact HB.out | apply below_alloc | apply pw_below_drewN | apply below_drew1) | exact HB.out)⟩
  ·rw [if_neg c5] at H
   have c5b0 : decide (3000 < (l0.length : Int)) = false := decide_eq_false c5
   have c5b1 : decide (3000 < l0.length) = false := decide_eq_false (by omega)
   clear c5
   replace H := Option.bind_eq_some_iff.mp H
   obtain ⟨t231, A70, H⟩ := H
   try dsimp only at H
   have A7 := Aside0.mk A70
   clear A70
   replace H := Option.bind_eq_some_iff.mp H
   obtain ⟨⟨t234, t235, t236, t239, t242, t245⟩, A80, H⟩ := H
   try dsimp only at H
   have A8 := Aside0.mk A80
   clear A80
   replace H := Option.bind_eq_some_iff.mp H
   obtain ⟨⟨t247, t248, t249, t252, t255, t258⟩, A90, H⟩ := H
   try dsimp only at H
   have A9 := Aside0.mk A90
   clear A90
   have HC10 := Aside0.mk H
   clear H
   go_enter Try.func3, Try.ntmps3
   go_upto_region 8 with (first | ((with_reducible refine gate_callee (f := 7) rfl ?_); refine goesL_ (some 15) rfl rfl Try.func7 (by kernel_rfl) rfl #[] rfl (by (try simp only [List.map_toArray, List.map_cons, List.map_nil]); first | done | rfl | (simp only [List.length_drop, List.length_take]; rfl)) ?_; (with_reducible refine (crosswaylaw10_alive.calls k  true _ A3.out).mono ?_); rintro e w11 ⟨rfl, hb⟩; refine ⟨_, rfl, ?_⟩; have n0_ := Aside0.mk (below_step (by repeat (first | (with_reducible first | exact HB.out | apply below_alloc | apply pw_below_drewN | apply below_drew1) | exact HB.out)) hb); clear HB; have HB := n0_; clear n0_; (try clear hb); (try clear hb2); (try clear hk); (try clear hi)) | ((with_reducible refine gate_callee (f := 8) rfl ?_); refine goesL_ (some 21) rfl rfl Try.func8 (by kernel_rfl) rfl #[.slice A0 l0.length c0] rfl (by (try simp only [List.map_toArray, List.map_cons, List.map_nil]); first | done | rfl | (simp only [List.length_drop, List.length_take]; rfl)) ?_; (with_reducible refine (crosswayref00_CopyBytes.calls _ _ l0 t231 _ ?side1 ?side2 A7.out).mono ?_); (case side1 => repeat (first | exact (C_below HR0.out HB.out) | (with_reducible refine C_alloc ?_ _) | (with_reducible refine C_drewN ?_ _) | (with_reducible refine C_drew ?_))); (case side2 => exact HC0.out); rintro e w12 ⟨v232, rfl, ho0, hb⟩; refine ⟨_, rfl, ?_⟩; have n0_ := Aside0.mk (R_lower ho0 (below_size (by repeat (first | (with_reducible first | exact HB.out | apply below_alloc | apply pw_below_drewN | apply below_drew1) | exact HB.out)))); have n1_ := Aside0.mk (below_step (by repeat (first | (with_reducible first | exact HB.out | apply below_alloc | apply pw_below_drewN | apply below_drew1) | exact HB.out)) hb); clear HB; have HO233 := n0_; have HB := n1_; clear n0_ n1_; (try clear hb); (try clear hb2); (try clear hk); (try clear hi); (try clear ho0); obtain ⟨Ao13, co13, eo13⟩ := R_slice HO233.out; subst eo13) | ((with_reducible refine gate_callee (f := 9) rfl ?_); refine goesL_ (some 24) rfl rfl Try.func9 (by kernel_rfl) rfl #[.slice Ao13 t231.length co13] rfl (by (try simp only [List.map_toArray, List.map_cons, List.map_nil]); first | done | rfl | (simp only [List.length_drop, List.length_take]; rfl)) ?_; (with_reducible refine (head_Parse.calls k _ _ t231 t234 t235 t236 t239 t242 t245 _ ?side1 ?side2 A8.out).mono ?_); (case side1 => repeat (first | exact (R_reads' HO233.out).2.2 | (with_reducible refine C_alloc ?_ _) | (with_reducible refine C_drewN ?_ _) | (with_reducible refine C_drew ?_))); (case side2 => exact (R_reads' HO233.out).2.1); rintro e w14 ⟨v237, v240, v243, rfl, ho0, ho1, ho2, hb⟩; refine ⟨_, rfl, ?_⟩; have n0_ := Aside0.mk (R_mono (R_told (R_told (R_told (R_old (by (with_reducible repeat (first | apply R_alloc | apply R_drewN | apply R_drew)); exact HO233.out) hb) (R_base ho0)) (R_base ho1)) (R_base ho2)) (fun _ h_ => h_.1)); have n1_ := Aside0.mk (R_lower (R_new' ho0 (R_lt (by (with_reducible repeat (first | apply R_alloc | apply R_drewN | apply R_drew)); exact HO233.out))) (below_size (by repeat (first | (with_reducible first | exact HB.out | apply below_alloc | apply pw_below_drewN | apply below_drew1) | exact HB.out)))); have n2_ := Aside0.mk (R_lower (R_new' ho1 (R_lt (by (with_reducible repeat (first | apply R_alloc | apply R_drewN | apply R_drew)); exact HO233.out))) (below_size (by repeat (first | (with_reducible first | exact HB.out | apply below_alloc | apply pw_below_drewN | apply below_drew1) | exact HB.out)))); have n3_ := Aside0.mk (R_lower (R_new' ho2 (R_lt (by (with_reducible repeat (first | apply R_alloc | apply R_drewN | apply R_drew)); exact HO233.out))) (below_size (by repeat (first | (with_reducible first | exact HB.out | apply below_alloc | apply pw_below_drewN | apply below_drew1) | exact HB.out)))); have n4_ := Aside0.mk (below_step (by repeat (first | (with_reducible first | exact HB.out | apply below_alloc | apply pw_below_drewN | apply below_drew1) | exact HB.out)) hb); clear HO233 HB; have HO233 := n0_; have HO238 := n1_; have HO241 := n2_; have HO244 := n3_; have HB := n4_; clear n0_ n1_ n2_ n3_ n4_; (try clear hb); (try clear hb2); (try clear hk); (try clear hi); (try clear ho0); (try clear ho1); (try clear ho2)) | ((with_reducible refine gate_dst (N := 6) rfl ?_); (try (refine gate_guard (by rfl) ?_; dsimp only)); refine box_event ?hg (N := 6) ?hd (cs := #[.int .u8 0, .int .u32 0, .slice none 0 0, .slice none 0 0]) (t := 27) ?hr ?_; (case hd => rfl); (case hg => rfl); (case hr => first | (go_simp; done) | (go_simp; rfl)); intro gb246 hg w15 hbox hb; have n0_ := Aside0.mk (R_below (by (with_reducible repeat (first | apply R_alloc | apply R_drewN | apply R_drew)); exact HO233.out) hb); have n1_ := Aside0.mk (R_below (by (with_reducible repeat (first | apply R_alloc | apply R_drewN | apply R_drew)); exact HO238.out) hb); have n2_ := Aside0.mk (R_below (by (with_reducible repeat (first | apply R_alloc | apply R_drewN | apply R_drew)); exact HO241.out) hb); have n3_ := Aside0.mk (R_below (by (with_reducible repeat (first | apply R_alloc | apply R_drewN | apply R_drew)); exact HO244.out) hb); have n4_ := Aside0.mk (below_step (by repeat (first | (with_reducible first | exact HB.out | apply below_alloc | apply pw_below_drewN | apply below_drew1) | exact HB.out)) hb); have n5_ := Aside0.mk (hbox); have n6_ := Aside0.mk trivial; have n7_ := Aside0.mk ((by rw [hg]; exact (below_size (by repeat (first | (with_reducible first | exact HB.out | apply below_alloc | apply pw_below_drewN | apply below_drew1) | exact HB.out))) : w.heap.size ≤ gb246)); clear HO233 HO238 HO241 HO244 HB; have HO233 := n0_; have HO238 := n1_; have HO241 := n2_; have HO244 := n3_; have HB := n4_; have BK246 := n5_; have GW246 := n6_; have GE246 := n7_; clear n0_ n1_ n2_ n3_ n4_ n5_ n6_ n7_; clear hb hbox hg; have hcz16_0 : w15.cell? ⟨gb246, 0, none⟩ = some (.int .u8 0) := (blk_cell BK246.out 0).trans rfl; have hcz16_1 : w15.cell? ⟨gb246, 1, none⟩ = some (.int .u32 0) := (blk_cell BK246.out 1).trans rfl; have hcz16_2 : w15.cell? ⟨gb246, 2, none⟩ = some (.slice none 0 0) := (blk_cell BK246.out 2).trans rfl; have hcz16_3 : w15.cell? ⟨gb246, 3, none⟩ = some (.slice none 0 0) := (blk_cell BK246.out 3).trans rfl; have hfz16_0 := blk_frozen BK246.out 0; have hfz16_1 := blk_frozen BK246.out 1; have hfz16_2 := blk_frozen BK246.out 2; have hfz16_3 := blk_frozen BK246.out 3; obtain ⟨Ao17, co17, eo17⟩ := R_slice HO238.out; subst eo17; obtain ⟨Ao18, co18, eo18⟩ := R_slice HO241.out; subst eo18) | ((with_reducible refine gate_callee (f := 10) rfl ?_); refine goesL_ (some 30) rfl rfl Try.func10 (by kernel_rfl) rfl #[.slice A0 l0.length c0] rfl (by (try simp only [List.map_toArray, List.map_cons, List.map_nil]); first | done | rfl | (simp only [List.length_drop, List.length_take]; rfl)) ?_; (with_reducible refine (crosswayref10_Parse.calls _ _ l0 t247 t248 t249 t252 t255 t258 _ ?side1 ?side2 A9.out).mono ?_); (case side1 => exact C_below HR0.out (by repeat (first | (with_reducible first | exact HB.out | apply below_alloc | apply pw_below_drewN | apply below_drew1 | refine below_set ?_ GE246.out) | exact HB.out))); (case side2 => exact HC0.out); rintro e w19 ⟨v250, v253, v256, rfl, ho0, ho1, ho2, hb⟩; refine ⟨_, rfl, ?_⟩; have n0_ := Aside0.mk (R_mono (R_told (R_told (R_told (R_old (by (with_reducible repeat (first | apply R_alloc | apply R_drewN | apply R_drew)); exact (R_mono (R_far (p := ⟨gb246, 3, none⟩) (R_far (p := ⟨gb246, 2, none⟩) (R_far (p := ⟨gb246, 1, none⟩) (R_far (p := ⟨gb246, 0, none⟩) (R_types HO233.out BK246.out (by decide)) (fun _ hk => hk.2) (.int .u8 t234)) (fun _ hk => hk.2) (.int .u32 t235)) (fun _ hk => hk.2) (.slice Ao17 t236.length co17)) (fun _ hk => hk.2) (.slice Ao18 t239.length co18)) (fun _ h_ => h_.1))) hb) (R_base ho0)) (R_base ho1)) (R_base ho2)) (fun _ h_ => h_.1)); have n1_ := Aside0.mk (R_mono (R_told (R_told (R_told (R_old (by (with_reducible repeat (first | apply R_alloc | apply R_drewN | apply R_drew)); exact (R_mono (R_far (p := ⟨gb246, 3, none⟩) (R_far (p := ⟨gb246, 2, none⟩) (R_far (p := ⟨gb246, 1, none⟩) (R_far (p := ⟨gb246, 0, none⟩) (R_types HO238.out BK246.out (by decide)) (fun _ hk => hk.2) (.int .u8 t234)) (fun _ hk => hk.2) (.int .u32 t235)) (fun _ hk => hk.2) (.slice Ao17 t236.length co17)) (fun _ hk => hk.2) (.slice Ao18 t239.length co18)) (fun _ h_ => h_.1))) hb) (R_base ho0)) (R_base ho1)) (R_base ho2)) (fun _ h_ => h_.1)); have n2_ := Aside0.mk (R_mono (R_told (R_told (R_told (R_old (by (with_reducible repeat (first | apply R_alloc | apply R_drewN | apply R_drew)); exact (R_mono (R_far (p := ⟨gb246, 3, none⟩) (R_far (p := ⟨gb246, 2, none⟩) (R_far (p := ⟨gb246, 1, none⟩) (R_far (p := ⟨gb246, 0, none⟩) (R_types HO241.out BK246.out (by decide)) (fun _ hk => hk.2) (.int .u8 t234)) (fun _ hk => hk.2) (.int .u32 t235)) (fun _ hk => hk.2) (.slice Ao17 t236.length co17)) (fun _ hk => hk.2) (.slice Ao18 t239.length co18)) (fun _ h_ => h_.1))) hb) (R_base ho0)) (R_base ho1)) (R_base ho2)) (fun _ h_ => h_.1)); have n3_ := Aside0.mk (R_mono (R_told (R_told (R_told (R_old (by (with_reducible repeat (first | apply R_alloc | apply R_drewN | apply R_drew)); exact (R_mono (R_far (p := ⟨gb246, 3, none⟩) (R_far (p := ⟨gb246, 2, none⟩) (R_far (p := ⟨gb246, 1, none⟩) (R_far (p := ⟨gb246, 0, none⟩) (R_types HO244.out BK246.out (by decide)) (fun _ hk => hk.2) (.int .u8 t234)) (fun _ hk => hk.2) (.int .u32 t235)) (fun _ hk => hk.2) (.slice Ao17 t236.length co17)) (fun _ hk => hk.2) (.slice Ao18 t239.length co18)) (fun _ h_ => h_.1))) hb) (R_base ho0)) (R_base ho1)) (R_base ho2)) (fun _ h_ => h_.1)); have n4_ := Aside0.mk (R_lower (R_new' (R_new' (R_new' (R_new' ho0 (R_lt (by (with_reducible repeat (first | apply R_alloc | apply R_drewN | apply R_drew)); exact (R_mono (R_far (p := ⟨gb246, 3, none⟩) (R_far (p := ⟨gb246, 2, none⟩) (R_far (p := ⟨gb246, 1, none⟩) (R_far (p := ⟨gb246, 0, none⟩) (R_types HO233.out BK246.out (by decide)) (fun _ hk => hk.2) (.int .u8 t234)) (fun _ hk => hk.2) (.int .u32 t235)) (fun _ hk => hk.2) (.slice Ao17 t236.length co17)) (fun _ hk => hk.2) (.slice Ao18 t239.length co18)) (fun _ h_ => h_.1))))) (R_lt (by (with_reducible repeat (first | apply R_alloc | apply R_drewN | apply R_drew)); exact (R_mono (R_far (p := ⟨gb246, 3, none⟩) (R_far (p := ⟨gb246, 2, none⟩) (R_far (p := ⟨gb246, 1, none⟩) (R_far (p := ⟨gb246, 0, none⟩) (R_types HO238.out BK246.out (by decide)) (fun _ hk => hk.2) (.int .u8 t234)) (fun _ hk => hk.2) (.int .u32 t235)) (fun _ hk => hk.2) (.slice Ao17 t236.length co17)) (fun _ hk => hk.2) (.slice Ao18 t239.length co18)) (fun _ h_ => h_.1))))) (R_lt (by (with_reducible repeat (first | apply R_alloc | apply R_drewN | apply R_drew)); exact (R_mono (R_far (p := ⟨gb246, 3, none⟩) (R_far (p := ⟨gb246, 2, none⟩) (R_far (p := ⟨gb246, 1, none⟩) (R_far (p := ⟨gb246, 0, none⟩) (R_types HO241.out BK246.out (by decide)) (fun _ hk => hk.2) (.int .u8 t234)) (fun _ hk => hk.2) (.int .u32 t235)) (fun _ hk => hk.2) (.slice Ao17 t236.length co17)) (fun _ hk => hk.2) (.slice Ao18 t239.length co18)) (fun _ h_ => h_.1))))) (R_lt (by (with_reducible repeat (first | apply R_alloc | apply R_drewN | apply R_drew)); exact (R_mono (R_far (p := ⟨gb246, 3, none⟩) (R_far (p := ⟨gb246, 2, none⟩) (R_far (p := ⟨gb246, 1, none⟩) (R_far (p := ⟨gb246, 0, none⟩) (R_types HO244.out BK246.out (by decide)) (fun _ hk => hk.2) (.int .u8 t234)) (fun _ hk => hk.2) (.int .u32 t235)) (fun _ hk => hk.2) (.slice Ao17 t236.length co17)) (fun _ hk => hk.2) (.slice Ao18 t239.length co18)) (fun _ h_ => h_.1))))) (below_size (by repeat (first | (with_reducible first | exact HB.out | apply below_alloc | apply pw_below_drewN | apply below_drew1 | refine below_set ?_ GE246.out) | exact HB.out)))); have n5_ := Aside0.mk (R_lower (R_new' (R_new' (R_new' (R_new' ho1 (R_lt (by (with_reducible repeat (first | apply R_alloc | apply R_drewN | apply R_drew)); exact (R_mono (R_far (p := ⟨gb246, 3, none⟩) (R_far (p := ⟨gb246, 2, none⟩) (R_far (p := ⟨gb246, 1, none⟩) (R_far (p := ⟨gb246, 0, none⟩) (R_types HO233.out BK246.out (by decide)) (fun _ hk => hk.2) (.int .u8 t234)) (fun _ hk => hk.2) (.int .u32 t235)) (fun _ hk => hk.2) (.slice Ao17 t236.length co17)) (fun _ hk => hk.2) (.slice Ao18 t239.length co18)) (fun _ h_ => h_.1))))) (R_lt (by (with_reducible repeat (first | apply R_alloc | apply R_drewN | apply R_drew)); exact (R_mono (R_far (p := ⟨gb246, 3, none⟩) (R_far (p := ⟨gb246, 2, none⟩) (R_far (p := ⟨gb246, 1, none⟩) (R_far (p := ⟨gb246, 0, none⟩) (R_types HO238.out BK246.out (by decide)) (fun _ hk => hk.2) (.int .u8 t234)) (fun _ hk => hk.2) (.int .u32 t235)) (fun _ hk => hk.2) (.slice Ao17 t236.length co17)) (fun _ hk => hk.2) (.slice Ao18 t239.length co18)) (fun _ h_ => h_.1))))) (R_lt (by (with_reducible repeat (first | apply R_alloc | apply R_drewN | apply R_drew)); exact (R_mono (R_far (p := ⟨gb246, 3, none⟩) (R_far (p := ⟨gb246, 2, none⟩) (R_far (p := ⟨gb246, 1, none⟩) (R_far (p := ⟨gb246, 0, none⟩) (R_types HO241.out BK246.out (by decide)) (fun _ hk => hk.2) (.int .u8 t234)) (fun _ hk => hk.2) (.int .u32 t235)) (fun _ hk => hk.2) (.slice Ao17 t236.length co17)) (fun _ hk => hk.2) (.slice Ao18 t239.length co18)) (fun _ h_ => h_.1))))) (R_lt (by (with_reducible repeat (first | apply R_alloc | apply R_drewN | apply R_drew)); exact (R_mono (R_far (p := ⟨gb246, 3, none⟩) (R_far (p := ⟨gb246, 2, none⟩) (R_far (p := ⟨gb246, 1, none⟩) (R_far (p := ⟨gb246, 0, none⟩) (R_types HO244.out BK246.out (by decide)) (fun _ hk => hk.2) (.int .u8 t234)) (fun _ hk => hk.2) (.int .u32 t235)) (fun _ hk => hk.2) (.slice Ao17 t236.length co17)) (fun _ hk => hk.2) (.slice Ao18 t239.length co18)) (fun _ h_ => h_.1))))) (below_size (by repeat (first | (with_reducible first | exact HB.out | apply below_alloc | apply pw_below_drewN | apply below_drew1 | refine below_set ?_ GE246.out) | exact HB.out)))); have n6_ := Aside0.mk (R_lower (R_new' (R_new' (R_new' (R_new' ho2 (R_lt (by (with_reducible repeat (first | apply R_alloc | apply R_drewN | apply R_drew)); exact (R_mono (R_far (p := ⟨gb246, 3, none⟩) (R_far (p := ⟨gb246, 2, none⟩) (R_far (p := ⟨gb246, 1, none⟩) (R_far (p := ⟨gb246, 0, none⟩) (R_types HO233.out BK246.out (by decide)) (fun _ hk => hk.2) (.int .u8 t234)) (fun _ hk => hk.2) (.int .u32 t235)) (fun _ hk => hk.2) (.slice Ao17 t236.length co17)) (fun _ hk => hk.2) (.slice Ao18 t239.length co18)) (fun _ h_ => h_.1))))) (R_lt (by (with_reducible repeat (first | apply R_alloc | apply R_drewN | apply R_drew)); exact (R_mono (R_far (p := ⟨gb246, 3, none⟩) (R_far (p := ⟨gb246, 2, none⟩) (R_far (p := ⟨gb246, 1, none⟩) (R_far (p := ⟨gb246, 0, none⟩) (R_types HO238.out BK246.out (by decide)) (fun _ hk => hk.2) (.int .u8 t234)) (fun _ hk => hk.2) (.int .u32 t235)) (fun _ hk => hk.2) (.slice Ao17 t236.length co17)) (fun _ hk => hk.2) (.slice Ao18 t239.length co18)) (fun _ h_ => h_.1))))) (R_lt (by (with_reducible repeat (first | apply R_alloc | apply R_drewN | apply R_drew)); exact (R_mono (R_far (p := ⟨gb246, 3, none⟩) (R_far (p := ⟨gb246, 2, none⟩) (R_far (p := ⟨gb246, 1, none⟩) (R_far (p := ⟨gb246, 0, none⟩) (R_types HO241.out BK246.out (by decide)) (fun _ hk => hk.2) (.int .u8 t234)) (fun _ hk => hk.2) (.int .u32 t235)) (fun _ hk => hk.2) (.slice Ao17 t236.length co17)) (fun _ hk => hk.2) (.slice Ao18 t239.length co18)) (fun _ h_ => h_.1))))) (R_lt (by (with_reducible repeat (first | apply R_alloc | apply R_drewN | apply R_drew)); exact (R_mono (R_far (p := ⟨gb246, 3, none⟩) (R_far (p := ⟨gb246, 2, none⟩) (R_far (p := ⟨gb246, 1, none⟩) (R_far (p := ⟨gb246, 0, none⟩) (R_types HO244.out BK246.out (by decide)) (fun _ hk => hk.2) (.int .u8 t234)) (fun _ hk => hk.2) (.int .u32 t235)) (fun _ hk => hk.2) (.slice Ao17 t236.length co17)) (fun _ hk => hk.2) (.slice Ao18 t239.length co18)) (fun _ h_ => h_.1))))) (below_size (by repeat (first | (with_reducible first | exact HB.out | apply below_alloc | apply pw_below_drewN | apply below_drew1 | refine below_set ?_ GE246.out) | exact HB.out)))); have n7_ := Aside0.mk (blk_below (g := gb246) (o := .cells #[.int .u8 t234, .int .u32 t235, .slice Ao17 t236.length co17, .slice Ao18 t239.length co18] 27 (0, 0)) (by (with_reducible repeat (first | refine blk_drewN ?_ _ | refine blk_drew ?_ | refine blk_alloc ?_ _)); refine blk_put (cs := #[.int .u8 t234, .int .u32 t235, .slice Ao17 t236.length co17, .slice none 0 0]) ?_ 3 _ rfl; (with_reducible repeat (first | refine blk_drewN ?_ _ | refine blk_drew ?_ | refine blk_alloc ?_ _)); refine blk_put (cs := #[.int .u8 t234, .int .u32 t235, .slice none 0 0, .slice none 0 0]) ?_ 2 _ rfl; (with_reducible repeat (first | refine blk_drewN ?_ _ | refine blk_drew ?_ | refine blk_alloc ?_ _)); refine blk_put (cs := #[.int .u8 t234, .int .u32 0, .slice none 0 0, .slice none 0 0]) ?_ 1 _ rfl; (with_reducible repeat (first | refine blk_drewN ?_ _ | refine blk_drew ?_ | refine blk_alloc ?_ _)); refine blk_put (cs := #[.int .u8 0, .int .u32 0, .slice none 0 0, .slice none 0 0]) ?_ 0 _ rfl; (with_reducible repeat (first | refine blk_drewN ?_ _ | refine blk_drew ?_ | refine blk_alloc ?_ _)); exact BK246.out) hb); have n8_ := Aside0.mk (below_step (by repeat (first | (with_reducible first | exact HB.out | apply below_alloc | apply pw_below_drewN | apply below_drew1 | refine below_set ?_ GE246.out) | exact HB.out)) hb); clear HO233 HO238 HO241 HO244 BK246 HB; have HO233 := n0_; have HO238 := n1_; have HO241 := n2_; have HO244 := n3_; have HO251 := n4_; have HO254 := n5_; have HO257 := n6_; have BK246 := n7_; have HB := n8_; clear n0_ n1_ n2_ n3_ n4_ n5_ n6_ n7_ n8_; (try clear hb); (try clear hb2); (try clear hk); (try clear hi); (try clear ho0); (try clear ho1); (try clear ho2)) | ((with_reducible refine gate_dst (N := 9) rfl ?_); (try (refine gate_guard (by rfl) ?_; dsimp only)); refine box_event ?hg (N := 9) ?hd (cs := #[.int .u8 0, .int .u32 0, .slice none 0 0, .slice none 0 0]) (t := 31) ?hr ?_; (case hd => rfl); (case hg => rfl); (case hr => first | (go_simp; done) | (go_simp; rfl)); intro gb259 hg w20 hbox hb; have n0_ := Aside0.mk (R_below (by (with_reducible repeat (first | apply R_alloc | apply R_drewN | apply R_drew)); exact HO233.out) hb); have n1_ := Aside0.mk (R_below (by (with_reducible repeat (first | apply R_alloc | apply R_drewN | apply R_drew)); exact HO238.out) hb); have n2_ := Aside0.mk (R_below (by (with_reducible repeat (first | apply R_alloc | apply R_drewN | apply R_drew)); exact HO241.out) hb); have n3_ := Aside0.mk (R_below (by (with_reducible repeat (first | apply R_alloc | apply R_drewN | apply R_drew)); exact HO244.out) hb); have n4_ := Aside0.mk (R_below (by (with_reducible repeat (first | apply R_alloc | apply R_drewN | apply R_drew)); exact HO251.out) hb); have n5_ := Aside0.mk (R_below (by (with_reducible repeat (first | apply R_alloc | apply R_drewN | apply R_drew)); exact HO254.out) hb); have n6_ := Aside0.mk (R_below (by (with_reducible repeat (first | apply R_alloc | apply R_drewN | apply R_drew)); exact HO257.out) hb); have n7_ := Aside0.mk (blk_below (g := gb246) (o := .cells #[.int .u8 t234, .int .u32 t235, .slice Ao17 t236.length co17, .slice Ao18 t239.length co18] 27 (0, 0)) (by (with_reducible repeat (first | refine blk_drewN ?_ _ | refine blk_drew ?_ | refine blk_alloc ?_ _)); exact BK246.out) hb); have n8_ := Aside0.mk (below_step (by repeat (first | (with_reducible first | exact HB.out | apply below_alloc | apply pw_below_drewN | apply below_drew1 | refine below_set ?_ GE246.out) | exact HB.out)) hb); have n9_ := Aside0.mk (hbox); have n10_ := Aside0.mk trivial; have n11_ := Aside0.mk ((by rw [hg]; exact (below_size (by repeat (first | (with_reducible first | exact HB.out | apply below_alloc | apply pw_below_drewN | apply below_drew1 | refine below_set ?_ GE246.out) | exact HB.out))) : w.heap.size ≤ gb259)); have n12_ := Aside0.mk ((by rw [hg]; exact Nat.ne_of_lt (blk_lt (g := gb246) (o := .cells #[.int .u8 t234, .int .u32 t235, .slice Ao17 t236.length co17, .slice Ao18 t239.length co18] 27 (0, 0)) (by (with_reducible repeat (first | refine blk_drewN ?_ _ | refine blk_drew ?_ | refine blk_alloc ?_ _)); exact BK246.out)) : gb246 ≠ gb259)); have n13_ := Aside0.mk ((by rw [hg]; exact Nat.ne_of_gt (blk_lt (g := gb246) (o := .cells #[.int .u8 t234, .int .u32 t235, .slice Ao17 t236.length co17, .slice Ao18 t239.length co18] 27 (0, 0)) (by (with_reducible repeat (first | refine blk_drewN ?_ _ | refine blk_drew ?_ | refine blk_alloc ?_ _)); exact BK246.out)) : gb259 ≠ gb246)); clear HO233 HO238 HO241 HO244 HO251 HO254 HO257 BK246 HB; have HO233 := n0_; have HO238 := n1_; have HO241 := n2_; have HO244 := n3_; have HO251 := n4_; have HO254 := n5_; have HO257 := n6_; have BK246 := n7_; have HB := n8_; have BK259 := n9_; have GW259 := n10_; have GE259 := n11_; have NB246_259 := n12_; have NB259_246 := n13_; clear n0_ n1_ n2_ n3_ n4_ n5_ n6_ n7_ n8_ n9_ n10_ n11_ n12_ n13_; clear hb hbox hg; have hnb21 := NB259_246.out; have hnc21 := NB246_259.out; have hcz22_0 : w20.cell? ⟨gb259, 0, none⟩ = some (.int .u8 0) := (blk_cell BK259.out 0).trans rfl; have hcz22_1 : w20.cell? ⟨gb259, 1, none⟩ = some (.int .u32 0) := (blk_cell BK259.out 1).trans rfl; have hcz22_2 : w20.cell? ⟨gb259, 2, none⟩ = some (.slice none 0 0) := (blk_cell BK259.out 2).trans rfl; have hcz22_3 : w20.cell? ⟨gb259, 3, none⟩ = some (.slice none 0 0) := (blk_cell BK259.out 3).trans rfl; have hfz22_0 := blk_frozen BK259.out 0; have hfz22_1 := blk_frozen BK259.out 1; have hfz22_2 := blk_frozen BK259.out 2; have hfz22_3 := blk_frozen BK259.out 3; obtain ⟨Ao23, co23, eo23⟩ := R_slice HO251.out; subst eo23; obtain ⟨Ao24, co24, eo24⟩ := R_slice HO254.out; subst eo24))
   (try simp only [Act.put, sA, sB, sC])
   go_cut [63] (fun v63 wc => ∃ (kq : Nat) (x63_9 : Bool), v63 = .bool x63_9 ∧ Aside0 (crosswaylaw10_HeadParses.j0 kq l0 a1 t231 t242 x63_9 = some r) ∧ Aside0 (kq ≤ k) ∧ Aside0 (Kd.R (Kd.int .u8) 5 wc w.heap.size (fun k_ => some k_ ≠ (v243 : Value).ownBlock ∧ some k_ ≠ ((.slice Ao17 t236.length co17) : Value).ownBlock ∧ some k_ ≠ ((.slice Ao18 t239.length co18) : Value).ownBlock ∧ some k_ ≠ ((.slice Ao23 t249.length co23) : Value).ownBlock ∧ some k_ ≠ ((.slice Ao24 t252.length co24) : Value).ownBlock) (.slice Ao13 t231.length co13) t231) ∧ Aside0 (Kd.R (Kd.int .u8) 5 wc w.heap.size (fun k_ => some k_ ≠ ((.slice Ao13 t231.length co13) : Value).ownBlock ∧ some k_ ≠ ((.slice Ao17 t236.length co17) : Value).ownBlock ∧ some k_ ≠ ((.slice Ao18 t239.length co18) : Value).ownBlock ∧ some k_ ≠ ((.slice Ao23 t249.length co23) : Value).ownBlock ∧ some k_ ≠ ((.slice Ao24 t252.length co24) : Value).ownBlock) v243 t242) ∧ Aside0 (Kd.R (Kd.int .u8) 5 wc w.heap.size (fun k_ => some k_ ≠ ((.slice Ao13 t231.length co13) : Value).ownBlock ∧ some k_ ≠ (v243 : Value).ownBlock ∧ some k_ ≠ ((.slice Ao18 t239.length co18) : Value).ownBlock ∧ some k_ ≠ ((.slice Ao23 t249.length co23) : Value).ownBlock ∧ some k_ ≠ ((.slice Ao24 t252.length co24) : Value).ownBlock) (.slice Ao17 t236.length co17) t236) ∧ Aside0 (Kd.R (Kd.int .u8) 5 wc w.heap.size (fun k_ => some k_ ≠ ((.slice Ao13 t231.length co13) : Value).ownBlock ∧ some k_ ≠ (v243 : Value).ownBlock ∧ some k_ ≠ ((.slice Ao17 t236.length co17) : Value).ownBlock ∧ some k_ ≠ ((.slice Ao23 t249.length co23) : Value).ownBlock ∧ some k_ ≠ ((.slice Ao24 t252.length co24) : Value).ownBlock) (.slice Ao18 t239.length co18) t239) ∧ Aside0 (Kd.R (Kd.int .u8) 5 wc w.heap.size (fun k_ => some k_ ≠ ((.slice Ao13 t231.length co13) : Value).ownBlock ∧ some k_ ≠ (v243 : Value).ownBlock ∧ some k_ ≠ ((.slice Ao17 t236.length co17) : Value).ownBlock ∧ some k_ ≠ ((.slice Ao18 t239.length co18) : Value).ownBlock ∧ some k_ ≠ ((.slice Ao24 t252.length co24) : Value).ownBlock) (.slice Ao23 t249.length co23) t249) ∧ Aside0 (Kd.R (Kd.int .u8) 5 wc w.heap.size (fun k_ => some k_ ≠ ((.slice Ao13 t231.length co13) : Value).ownBlock ∧ some k_ ≠ (v243 : Value).ownBlock ∧ some k_ ≠ ((.slice Ao17 t236.length co17) : Value).ownBlock ∧ some k_ ≠ ((.slice Ao18 t239.length co18) : Value).ownBlock ∧ some k_ ≠ ((.slice Ao23 t249.length co23) : Value).ownBlock) (.slice Ao24 t252.length co24) t252) ∧ Aside0 (wc.heap[gb246]? = some (.cells #[.int .u8 t234, .int .u32 t235, (.slice Ao17 t236.length co17), (.slice Ao18 t239.length co18)] 27 (0, 0))) ∧ Aside0 (wc.heap[gb259]? = some (.cells #[.int .u8 t247, .int .u32 t248, (.slice Ao23 t249.length co23), (.slice Ao24 t252.length co24)] 31 (0, 0))) ∧ Aside0 (Below w.heap.size w wc))
   case first =>
    have H := HC10.out
    clear HC10
    by_cases c25 : t245 = t258
    ·rw [if_pos c25] at H
     have c25b0 : (t245 == t258) = true := beq_iff_eq.mpr c25
     have c25b1 : (t245 != t258) = false := bne_eq_false_iff_eq.mpr c25
     clear c25
     (first | rw [c25b0] | (simp only [i64_w, i32_w]; rw [c25b0]) | skip)
     replace H := Option.bind_eq_some_iff.mp H
     obtain ⟨⟨t260, t261, t262, t265⟩, A260, H⟩ := H
     try dsimp only at H
     have A26 := Aside0.mk A260
     clear A260
     replace H := Option.bind_eq_some_iff.mp H
     obtain ⟨t268, A270, H⟩ := H
     try dsimp only at H
     have A27 := Aside0.mk A270
     clear A270
     by_cases c28 : t268 = true
     ·subst c28
      have H1 : ((crosswayref00_SameBytes.f k t242 t255).bind fun t269 => (if t269 = true then ((head_Long.f t231).bind fun t270 => (if (l0.length : Int) > 0 then (if 0 < (l0.length : Int) then (crosswaylaw10_HeadParses.j0 k l0 a1 t231 t242 (t270 != (decide ((rd l0 0) ≥ 128)))) else (none)) else (crosswaylaw10_HeadParses.j0 k l0 a1 t231 t242 (t270 != false)))) else (crosswaylaw10_HeadParses.j0 k l0 a1 t231 t242 true))) = some r := by rw [if_pos rfl] at H; exact H
      clear H
      have H := H1
      clear H1
      replace H := Option.bind_eq_some_iff.mp H
      obtain ⟨t269, A290, H⟩ := H
      try dsimp only at H
      have A29 := Aside0.mk A290
      clear A290
      by_cases c30 : t269 = true
      ·subst c30
       have H1 : ((head_Long.f t231).bind fun t270 => (if (l0.length : Int) > 0 then (if 0 < (l0.length : Int) then (crosswaylaw10_HeadParses.j0 k l0 a1 t231 t242 (t270 != (decide ((rd l0 0) ≥ 128)))) else (none)) else (crosswaylaw10_HeadParses.j0 k l0 a1 t231 t242 (t270 != false)))) = some r := by rw [if_pos rfl] at H; exact H
       clear H
       have H := H1
       clear H1
       replace H := Option.bind_eq_some_iff.mp H
       obtain ⟨t270, A310, H⟩ := H
       try dsimp only at H
       have A31 := Aside0.mk A310
       clear A310
       by_cases c32 : (l0.length : Int) > 0
       ·rw [if_pos c32] at H
        have c32b0 : decide (0 < (l0.length : Int)) = true := decide_eq_true c32
        have c32b1 : decide (0 < l0.length) = true := decide_eq_true (by omega)
        clear c32
        by_cases c33 : 0 < (l0.length : Int)
        ·rw [if_pos c33] at H
         have c33b0 : decide (0 < (l0.length : Int)) = true := decide_eq_true c33
         have c33b1 : decide (0 < l0.length) = true := decide_eq_true (by omega)
         clear c33
         have H' := Aside0.mk H
         clear H
         try go_wp2
         have n0_ : Aside0 (Kd.R (Kd.int .u8) 5 ((((w20.setCell ⟨gb259, 0, none⟩ (.int .u8 t247)).setCell ⟨gb259, 1, none⟩ (.int .u32 t248)).setCell ⟨gb259, 2, none⟩ (.slice Ao23 t249.length co23)).setCell ⟨gb259, 3, none⟩ (.slice Ao24 t252.length co24)) w.heap.size (fun k_ => some k_ ≠ (.slice Ao17 t236.length co17 : Value).ownBlock ∧ some k_ ≠ (.slice Ao18 t239.length co18 : Value).ownBlock ∧ some k_ ≠ (v243 : Value).ownBlock ∧ some k_ ≠ (.slice Ao23 t249.length co23 : Value).ownBlock ∧ some k_ ≠ (.slice Ao24 t252.length co24 : Value).ownBlock ∧ some k_ ≠ (v256 : Value).ownBlock) (.slice Ao13 t231.length co13) t231) := ⟨by (with_reducible repeat (first | apply R_alloc | apply R_drewN | apply R_drew)); exact R_mono (R_far (p := ⟨gb259, 3, none⟩) (R_far (p := ⟨gb259, 2, none⟩) (R_far (p := ⟨gb259, 1, none⟩) (R_far (p := ⟨gb259, 0, none⟩) (R_types HO233.out BK259.out (by decide)) (fun _ hk => hk.2) (.int .u8 t247)) (fun _ hk => hk.2) (.int .u32 t248)) (fun _ hk => hk.2) (.slice Ao23 t249.length co23)) (fun _ hk => hk.2) (.slice Ao24 t252.length co24)) (fun _ hk => ⟨hk.1.1.1.1.1.1.2, ⟨hk.1.1.1.1.1.2, ⟨hk.1.1.1.1.2, ⟨hk.1.1.1.2, ⟨hk.1.1.2, hk.1.2⟩⟩⟩⟩⟩)⟩
         have n1_ : Aside0 (Kd.R (Kd.int .u8) 5 ((((w20.setCell ⟨gb259, 0, none⟩ (.int .u8 t247)).setCell ⟨gb259, 1, none⟩ (.int .u32 t248)).setCell ⟨gb259, 2, none⟩ (.slice Ao23 t249.length co23)).setCell ⟨gb259, 3, none⟩ (.slice Ao24 t252.length co24)) w.heap.size (fun k_ => some k_ ≠ (.slice Ao13 t231.length co13 : Value).ownBlock ∧ some k_ ≠ (.slice Ao18 t239.length co18 : Value).ownBlock ∧ some k_ ≠ (v243 : Value).ownBlock ∧ some k_ ≠ (.slice Ao23 t249.length co23 : Value).ownBlock ∧ some k_ ≠ (.slice Ao24 t252.length co24 : Value).ownBlock ∧ some k_ ≠ (v256 : Value).ownBlock) (.slice Ao17 t236.length co17) t236) := ⟨by (with_reducible repeat (first | apply R_alloc | apply R_drewN | apply R_drew)); exact R_mono (R_far (p := ⟨gb259, 3, none⟩) (R_far (p := ⟨gb259, 2, none⟩) (R_far (p := ⟨gb259, 1, none⟩) (R_far (p := ⟨gb259, 0, none⟩) (R_types HO238.out BK259.out (by decide)) (fun _ hk => hk.2) (.int .u8 t247)) (fun _ hk => hk.2) (.int .u32 t248)) (fun _ hk => hk.2) (.slice Ao23 t249.length co23)) (fun _ hk => hk.2) (.slice Ao24 t252.length co24)) (fun _ hk => ⟨hk.1.1.1.1.2, ⟨hk.1.1.1.1.1.1, ⟨hk.1.1.1.1.1.2, ⟨hk.1.1.1.2, ⟨hk.1.1.2, hk.1.2⟩⟩⟩⟩⟩)⟩
         have n2_ : Aside0 (Kd.R (Kd.int .u8) 5 ((((w20.setCell ⟨gb259, 0, none⟩ (.int .u8 t247)).setCell ⟨gb259, 1, none⟩ (.int .u32 t248)).setCell ⟨gb259, 2, none⟩ (.slice Ao23 t249.length co23)).setCell ⟨gb259, 3, none⟩ (.slice Ao24 t252.length co24)) w.heap.size (fun k_ => some k_ ≠ (.slice Ao13 t231.length co13 : Value).ownBlock ∧ some k_ ≠ (.slice Ao17 t236.length co17 : Value).ownBlock ∧ some k_ ≠ (v243 : Value).ownBlock ∧ some k_ ≠ (.slice Ao23 t249.length co23 : Value).ownBlock ∧ some k_ ≠ (.slice Ao24 t252.length co24 : Value).ownBlock ∧ some k_ ≠ (v256 : Value).ownBlock) (.slice Ao18 t239.length co18) t239) := ⟨by (with_reducible repeat (first | apply R_alloc | apply R_drewN | apply R_drew)); exact R_mono (R_far (p := ⟨gb259, 3, none⟩) (R_far (p := ⟨gb259, 2, none⟩) (R_far (p := ⟨gb259, 1, none⟩) (R_far (p := ⟨gb259, 0, none⟩) (R_types HO241.out BK259.out (by decide)) (fun _ hk => hk.2) (.int .u8 t247)) (fun _ hk => hk.2) (.int .u32 t248)) (fun _ hk => hk.2) (.slice Ao23 t249.length co23)) (fun _ hk => hk.2) (.slice Ao24 t252.length co24)) (fun _ hk => ⟨hk.1.1.1.1.2, ⟨hk.1.1.1.1.1.1, ⟨hk.1.1.1.1.1.2, ⟨hk.1.1.1.2, ⟨hk.1.1.2, hk.1.2⟩⟩⟩⟩⟩)⟩
         have n3_ : Aside0 (Kd.R (Kd.int .u8) 5 ((((w20.setCell ⟨gb259, 0, none⟩ (.int .u8 t247)).setCell ⟨gb259, 1, none⟩ (.int .u32 t248)).setCell ⟨gb259, 2, none⟩ (.slice Ao23 t249.length co23)).setCell ⟨gb259, 3, none⟩ (.slice Ao24 t252.length co24)) w.heap.size (fun k_ => some k_ ≠ (.slice Ao13 t231.length co13 : Value).ownBlock ∧ some k_ ≠ (.slice Ao17 t236.length co17 : Value).ownBlock ∧ some k_ ≠ (.slice Ao18 t239.length co18 : Value).ownBlock ∧ some k_ ≠ (.slice Ao23 t249.length co23 : Value).ownBlock ∧ some k_ ≠ (.slice Ao24 t252.length co24 : Value).ownBlock ∧ some k_ ≠ (v256 : Value).ownBlock) v243 t242) := ⟨by (with_reducible repeat (first | apply R_alloc | apply R_drewN | apply R_drew)); exact R_mono (R_far (p := ⟨gb259, 3, none⟩) (R_far (p := ⟨gb259, 2, none⟩) (R_far (p := ⟨gb259, 1, none⟩) (R_far (p := ⟨gb259, 0, none⟩) (R_types HO244.out BK259.out (by decide)) (fun _ hk => hk.2) (.int .u8 t247)) (fun _ hk => hk.2) (.int .u32 t248)) (fun _ hk => hk.2) (.slice Ao23 t249.length co23)) (fun _ hk => hk.2) (.slice Ao24 t252.length co24)) (fun _ hk => ⟨hk.1.1.1.1.2, ⟨hk.1.1.1.1.1.1, ⟨hk.1.1.1.1.1.2, ⟨hk.1.1.1.2, ⟨hk.1.1.2, hk.1.2⟩⟩⟩⟩⟩)⟩
         have n4_ : Aside0 (Kd.R (Kd.int .u8) 5 ((((w20.setCell ⟨gb259, 0, none⟩ (.int .u8 t247)).setCell ⟨gb259, 1, none⟩ (.int .u32 t248)).setCell ⟨gb259, 2, none⟩ (.slice Ao23 t249.length co23)).setCell ⟨gb259, 3, none⟩ (.slice Ao24 t252.length co24)) w.heap.size (fun k_ => some k_ ≠ (.slice Ao13 t231.length co13 : Value).ownBlock ∧ some k_ ≠ (.slice Ao17 t236.length co17 : Value).ownBlock ∧ some k_ ≠ (.slice Ao18 t239.length co18 : Value).ownBlock ∧ some k_ ≠ (v243 : Value).ownBlock ∧ some k_ ≠ (.slice Ao24 t252.length co24 : Value).ownBlock ∧ some k_ ≠ (v256 : Value).ownBlock) (.slice Ao23 t249.length co23) t249) := ⟨by (with_reducible repeat (first | apply R_alloc | apply R_drewN | apply R_drew)); exact R_mono (R_far (p := ⟨gb259, 3, none⟩) (R_far (p := ⟨gb259, 2, none⟩) (R_far (p := ⟨gb259, 1, none⟩) (R_far (p := ⟨gb259, 0, none⟩) (R_types HO251.out BK259.out (by decide)) (fun _ hk => hk.2) (.int .u8 t247)) (fun _ hk => hk.2) (.int .u32 t248)) (fun _ hk => hk.2) (.slice Ao23 t249.length co23)) (fun _ hk => hk.2) (.slice Ao24 t252.length co24)) (fun _ hk => ⟨hk.1.1.1.1.2, ⟨hk.1.1.1.2, ⟨hk.1.1.2, ⟨hk.1.2, ⟨hk.1.1.1.1.1.1, hk.1.1.1.1.1.2⟩⟩⟩⟩⟩)⟩
         have n5_ : Aside0 (Kd.R (Kd.int .u8) 5 ((((w20.setCell ⟨gb259, 0, none⟩ (.int .u8 t247)).setCell ⟨gb259, 1, none⟩ (.int .u32 t248)).setCell ⟨gb259, 2, none⟩ (.slice Ao23 t249.length co23)).setCell ⟨gb259, 3, none⟩ (.slice Ao24 t252.length co24)) w.heap.size (fun k_ => some k_ ≠ (.slice Ao13 t231.length co13 : Value).ownBlock ∧ some k_ ≠ (.slice Ao17 t236.length co17 : Value).ownBlock ∧ some k_ ≠ (.slice Ao18 t239.length co18 : Value).ownBlock ∧ some k_ ≠ (v243 : Value).ownBlock ∧ some k_ ≠ (.slice Ao23 t249.length co23 : Value).ownBlock ∧ some k_ ≠ (v256 : Value).ownBlock) (.slice Ao24 t252.length co24) t252) := ⟨by (with_reducible repeat (first | apply R_alloc | apply R_drewN | apply R_drew)); exact R_mono (R_far (p := ⟨gb259, 3, none⟩) (R_far (p := ⟨gb259, 2, none⟩) (R_far (p := ⟨gb259, 1, none⟩) (R_far (p := ⟨gb259, 0, none⟩) (R_types HO254.out BK259.out (by decide)) (fun _ hk => hk.2) (.int .u8 t247)) (fun _ hk => hk.2) (.int .u32 t248)) (fun _ hk => hk.2) (.slice Ao23 t249.length co23)) (fun _ hk => hk.2) (.slice Ao24 t252.length co24)) (fun _ hk => ⟨hk.1.1.1.1.2, ⟨hk.1.1.1.2, ⟨hk.1.1.2, ⟨hk.1.2, ⟨hk.1.1.1.1.1.1, hk.1.1.1.1.1.2⟩⟩⟩⟩⟩)⟩
         have n6_ : Aside0 (Kd.R (Kd.int .u8) 5 ((((w20.setCell ⟨gb259, 0, none⟩ (.int .u8 t247)).setCell ⟨gb259, 1, none⟩ (.int .u32 t248)).setCell ⟨gb259, 2, none⟩ (.slice Ao23 t249.length co23)).setCell ⟨gb259, 3, none⟩ (.slice Ao24 t252.length co24)) w.heap.size (fun k_ => some k_ ≠ (.slice Ao13 t231.length co13 : Value).ownBlock ∧ some k_ ≠ (.slice Ao17 t236.length co17 : Value).ownBlock ∧ some k_ ≠ (.slice Ao18 t239.length co18 : Value).ownBlock ∧ some k_ ≠ (v243 : Value).ownBlock ∧ some k_ ≠ (.slice Ao23 t249.length co23 : Value).ownBlock ∧ some k_ ≠ (.slice Ao24 t252.length co24 : Value).ownBlock) v256 t255) := ⟨by (with_reducible repeat (first | apply R_alloc | apply R_drewN | apply R_drew)); exact R_mono (R_far (p := ⟨gb259, 3, none⟩) (R_far (p := ⟨gb259, 2, none⟩) (R_far (p := ⟨gb259, 1, none⟩) (R_far (p := ⟨gb259, 0, none⟩) (R_types HO257.out BK259.out (by decide)) (fun _ hk => hk.2) (.int .u8 t247)) (fun _ hk => hk.2) (.int .u32 t248)) (fun _ hk => hk.2) (.slice Ao23 t249.length co23)) (fun _ hk => hk.2) (.slice Ao24 t252.length co24)) (fun _ hk => ⟨hk.1.1.1.1.2, ⟨hk.1.1.1.2, ⟨hk.1.1.2, ⟨hk.1.2, ⟨hk.1.1.1.1.1.1, hk.1.1.1.1.1.2⟩⟩⟩⟩⟩)⟩
         have n7_ : Aside0 (((((w20.setCell ⟨gb259, 0, none⟩ (.int .u8 t247)).setCell ⟨gb259, 1, none⟩ (.int .u32 t248)).setCell ⟨gb259, 2, none⟩ (.slice Ao23 t249.length co23)).setCell ⟨gb259, 3, none⟩ (.slice Ao24 t252.length co24)).heap[gb246]? = some (.cells #[.int .u8 t234, .int .u32 t235, .slice Ao17 t236.length co17, .slice Ao18 t239.length co18] 27 (0, 0))) := ⟨by (with_reducible repeat (first | refine blk_drewN ?_ _ | refine blk_drew ?_ | refine blk_alloc ?_ _)); refine blk_far ?_ NB246_259.out _; (with_reducible repeat (first | refine blk_drewN ?_ _ | refine blk_drew ?_ | refine blk_alloc ?_ _)); refine blk_far ?_ NB246_259.out _; (with_reducible repeat (first | refine blk_drewN ?_ _ | refine blk_drew ?_ | refine blk_alloc ?_ _)); refine blk_far ?_ NB246_259.out _; (with_reducible repeat (first | refine blk_drewN ?_ _ | refine blk_drew ?_ | refine blk_alloc ?_ _)); refine blk_far ?_ NB246_259.out _; (with_reducible repeat (first | refine blk_drewN ?_ _ | refine blk_drew ?_ | refine blk_alloc ?_ _)); exact BK246.out⟩
         have n8_ : Aside0 (((((w20.setCell ⟨gb259, 0, none⟩ (.int .u8 t247)).setCell ⟨gb259, 1, none⟩ (.int .u32 t248)).setCell ⟨gb259, 2, none⟩ (.slice Ao23 t249.length co23)).setCell ⟨gb259, 3, none⟩ (.slice Ao24 t252.length co24)).heap[gb259]? = some (.cells #[.int .u8 t247, .int .u32 t248, .slice Ao23 t249.length co23, .slice Ao24 t252.length co24] 31 (0, 0))) := ⟨by (with_reducible repeat (first | refine blk_drewN ?_ _ | refine blk_drew ?_ | refine blk_alloc ?_ _)); refine blk_put (cs := #[.int .u8 t247, .int .u32 t248, .slice Ao23 t249.length co23, .slice none 0 0]) ?_ 3 _ rfl; (with_reducible repeat (first | refine blk_drewN ?_ _ | refine blk_drew ?_ | refine blk_alloc ?_ _)); refine blk_put (cs := #[.int .u8 t247, .int .u32 t248, .slice none 0 0, .slice none 0 0]) ?_ 2 _ rfl; (with_reducible repeat (first | refine blk_drewN ?_ _ | refine blk_drew ?_ | refine blk_alloc ?_ _)); refine blk_put (cs := #[.int .u8 t247, .int .u32 0, .slice none 0 0, .slice none 0 0]) ?_ 1 _ rfl; (with_reducible repeat (first | refine blk_drewN ?_ _ | refine blk_drew ?_ | refine blk_alloc ?_ _)); refine blk_put (cs := #[.int .u8 0, .int .u32 0, .slice none 0 0, .slice none 0 0]) ?_ 0 _ rfl; (with_reducible repeat (first | refine blk_drewN ?_ _ | refine blk_drew ?_ | refine blk_alloc ?_ _)); exact BK259.out⟩
         have n9_ : Aside0 (Below w.heap.size w ((((w20.setCell ⟨gb259, 0, none⟩ (.int .u8 t247)).setCell ⟨gb259, 1, none⟩ (.int .u32 t248)).setCell ⟨gb259, 2, none⟩ (.slice Ao23 t249.length co23)).setCell ⟨gb259, 3, none⟩ (.slice Ao24 t252.length co24))) := ⟨by repeat (first | (with_reducible first | exact HB.out | apply below_alloc | apply pw_below_drewN | apply below_drew1 | refine below_set ?_ GE246.out | refine below_set ?_ GE259.out) | exact HB.out)⟩
         (try clear HO233)
         (try clear HO238)
         (try clear HO241)
         (try clear HO244)
         (try clear HO251)
         (try clear HO254)
         (try clear HO257)
         (try clear BK246)
         (try clear BK259)
         (try clear HB)
         generalize ((((w20.setCell ⟨gb259, 0, none⟩ (.int .u8 t247)).setCell ⟨gb259, 1, none⟩ (.int .u32 t248)).setCell ⟨gb259, 2, none⟩ (.slice Ao23 t249.length co23)).setCell ⟨gb259, 3, none⟩ (.slice Ao24 t252.length co24)) = w34 at n0_ n1_ n2_ n3_ n4_ n5_ n6_ n7_ n8_ n9_ ⊢
         have HO233 := n0_
         have HO238 := n1_
         have HO241 := n2_
         have HO244 := n3_
         have HO251 := n4_
         have HO254 := n5_
         have HO257 := n6_
         have BK246 := n7_
         have BK259 := n8_
         have HB := n9_
         clear n0_ n1_ n2_ n3_ n4_ n5_ n6_ n7_ n8_ n9_
         have n0_ := Aside0.mk (R_drew HO233.out)
         have n1_ := Aside0.mk (R_drew HO238.out)
         have n2_ := Aside0.mk (R_drew HO241.out)
         have n3_ := Aside0.mk (R_drew HO244.out)
         have n4_ := Aside0.mk (R_drew HO251.out)
         have n5_ := Aside0.mk (R_drew HO254.out)
         have n6_ := Aside0.mk (R_drew HO257.out)
         have n7_ := Aside0.mk (blk_drew BK246.out)
         have n8_ := Aside0.mk (blk_drew BK259.out)
         have n9_ := Aside0.mk (below_drew1 HB.out)
         clear HO233
         clear HO238
         clear HO241
         clear HO244
         clear HO251
         clear HO254
         clear HO257
         clear BK246
         clear BK259
         clear HB
         have HO233 := n0_
         have HO238 := n1_
         have HO241 := n2_
         have HO244 := n3_
         have HO251 := n4_
         have HO254 := n5_
         have HO257 := n6_
         have BK246 := n7_
         have BK259 := n8_
         have HB := n9_
         clear n0_ n1_ n2_ n3_ n4_ n5_ n6_ n7_ n8_ n9_
         have p271 : 0 ≤ (0 : Int) := (by omega)
         have q271 : 0 < (l0.length : Int) := of_decide_eq_true (by first | (with_reducible assumption) | assumption)
         obtain ⟨ad271, e271, hx271_0⟩ := Kd.at_int HR0.out 0 p271 q271
         have hw271_0 := hx271_0
         (try rw [show ((0 : Int)).toNat = 0 from rfl] at hw271_0)
         (try rw [show 0 * 1 = 0 from rfl] at hw271_0)
         (try rw [Addr.add_zero'] at hw271_0)
         cases e271
         have qi271 : (0 < l0.length) = True := eq_true (by omega)
         (try rw [show ((0 : Int)).toNat = 0 from rfl] at hx271_0)
         (try rw [Addr.add_zero'] at hx271_0)
         replace hx271_0 := (HB.out.cell (World.block_lt_of_cell? w _ hx271_0)).trans hx271_0
         replace p271 := eq_true p271
         replace q271 := eq_true q271
         refine start_ (n := 30) (S := fun w' => w'.cell? ⟨gb246, 0, none⟩ = some (.int .u8 t234) ∧ w'.cell? ⟨gb246, 1, none⟩ = some (.int .u32 t235) ∧ w'.cell? ⟨gb246, 2, none⟩ = some (.slice Ao17 t236.length co17) ∧ w'.cell? ⟨gb246, 3, none⟩ = some (.slice Ao18 t239.length co18) ∧ w'.cell? ⟨gb259, 0, none⟩ = some (.int .u8 t247) ∧ w'.cell? ⟨gb259, 1, none⟩ = some (.int .u32 t248) ∧ w'.cell? ⟨gb259, 2, none⟩ = some (.slice Ao23 t249.length co23) ∧ w'.cell? ⟨gb259, 3, none⟩ = some (.slice Ao24 t252.length co24) ∧ w'.cell? ad271 = some (.int .u8 (rd l0 0))) (ds := []) #[false,false,false,false,false,false,false,false,false,false,false,false,false,false,false,false,false,false,false,false,false,false,false,false,false,false,false,false,false,false] (by kernel_rfl) rfl rfl ⟨(blk_cell BK246.out 0).trans rfl, (blk_cell BK246.out 1).trans rfl, (blk_cell BK246.out 2).trans rfl, (blk_cell BK246.out 3).trans rfl, (blk_cell BK259.out 0).trans rfl, (blk_cell BK259.out 1).trans rfl, (blk_cell BK259.out 2).trans rfl, (blk_cell BK259.out 3).trans rfl, ((HB.out.cell (World.block_lt_of_cell? w _ hw271_0)).trans hw271_0)⟩ (fun hHeld => ?_); refine with_tabW crosswaylaw10_HeadParses.tab8 crosswaylaw10_HeadParses.bits8 (fun HT_ HW_ => ?_)
         generalize w34.drew = w35 at HO233 HO238 HO241 HO244 HO251 HO254 HO257 BK246 BK259 HB hx271_0 hHeld ⊢
         refine pure_ (i := 0) (N := some 34) (v := ?_) (a' := ?_) #[true,false,false,false,false,false,false,false,false,false,false,false,false,false,false,false,false,false,false,false,false,false,false,false,false,false,false,false,false,false] rfl rfl (any_of HT_.out (by kernel_rfl)) (fun _ _ _ h => h) (Or.inl ⟨by rfl, ?_⟩) ?_ ?_
         rotate_left
         ·intro w'; go_simp; with_reducible rfl
         rotate_left
         ·simp only [Act.put, sA, sB, sC, i64_w, i32_w]; rfl
         refine pure_ (i := 1) (N := some 35) (v := ?_) (a' := ?_) #[true,true,false,false,false,false,false,false,false,false,false,false,false,false,false,false,false,false,false,false,false,false,false,false,false,false,false,false,false,false] rfl rfl (any_of HT_.out (by kernel_rfl)) (fun _ _ _ h => h) (Or.inl ⟨by rfl, ?_⟩) ?_ ?_
         rotate_left
         ·intro w'; go_simp; with_reducible rfl
         rotate_left
         ·simp only [Act.put, sA, sB, sC, i64_w, i32_w]; rfl
         refine pure_ (i := 2) (N := some 36) (v := ?_) (a' := ?_) #[true,true,true,false,false,false,false,false,false,false,false,false,false,false,false,false,false,false,false,false,false,false,false,false,false,false,false,false,false,false] rfl rfl (any_of HT_.out (by kernel_rfl)) (fun _ _ _ h => h) (Or.inl ⟨by rfl, ?_⟩) ?_ ?_
         rotate_left
         ·intro w'; go_simp; with_reducible rfl
         rotate_left
         ·simp only [Act.put, sA, sB, sC, i64_w, i32_w]; rfl
         refine pure_ (i := 3) (N := some 37) (v := ?_) (a' := ?_) #[true,true,true,true,false,false,false,false,false,false,false,false,false,false,false,false,false,false,false,false,false,false,false,false,false,false,false,false,false,false] rfl rfl (any_of HT_.out (by kernel_rfl)) (fun _ _ _ h => h) (Or.inl ⟨by rfl, ?_⟩) ?_ ?_
         rotate_left
         ·intro w'; go_simp; with_reducible rfl
         rotate_left
         ·simp only [Act.put, sA, sB, sC, i64_w, i32_w]; rfl
         refine take_ (i := 4) (N := some 38) (v := ?_) (a' := ?_) #[true,true,true,true,true,false,false,false,false,false,false,false,false,false,false,false,false,false,false,false,false,false,false,false,false,false,false,false,false,false] rfl rfl (take_ofW HT_.out HW_.out (by kernel_rfl)) (fun _ _ _ h => h) (Or.inl ⟨by rfl, ?_⟩) hHeld ?_ ?_
         rotate_left
         ·rintro w' ⟨s0, s1, s2, s3, s4, s5, s6, s7, s8⟩; go_simp; with_reducible rfl
         rotate_left
         ·simp only [Act.put, sA, sB, sC, i64_w, i32_w]; rfl
         refine take_ (i := 6) (N := some 40) (v := ?_) (a' := ?_) #[true,true,true,true,true,false,true,false,false,false,false,false,false,false,false,false,false,false,false,false,false,false,false,false,false,false,false,false,false,false] rfl rfl (take_ofW HT_.out HW_.out (by kernel_rfl)) (fun _ _ _ h => h) (Or.inl ⟨by rfl, ?_⟩) hHeld ?_ ?_
         rotate_left
         ·rintro w' ⟨s0, s1, s2, s3, s4, s5, s6, s7, s8⟩; go_simp; with_reducible rfl
         rotate_left
         ·simp only [Act.put, sA, sB, sC, i64_w, i32_w]; rfl
         refine one_ (i := 5) (N := some 39) #[true,true,true,true,true,true,true,false,false,false,false,false,false,false,false,false,false,false,false,false,false,false,false,false,false,false,false,false,false,false] rfl rfl (one_of HT_.out (by kernel_rfl)) (by decide) (fun K hK => ?_)
         refine goes_ Try.func12 (by kernel_rfl) rfl #[.agg #[.int .u8 t234, .int .u32 t235, .slice Ao17 t236.length co17, .slice Ao18 t239.length co18]] (by rfl) rfl rfl (by (try simp only [List.map_toArray, List.map_cons, List.map_nil]); first | done | rfl | (simp only [List.length_drop, List.length_take]; rfl)) ?_
         with_reducible refine (crosswaylaw10_Of.calls t234 t235 _ _ t236 _ _ t239 t260 t261 t262 t265 _ ?side1 ?side2 ?side3 ?side4 A26.out).mono ?_
         (case side1 => repeat (first | exact (R_reads' HO238.out).2.2 | (with_reducible refine C_alloc ?_ _) | (with_reducible refine C_drewN ?_ _) | (with_reducible refine C_drew ?_)))
         (case side2 => exact (R_reads' HO238.out).2.1)
         (case side3 => repeat (first | exact (R_reads' HO241.out).2.2 | (with_reducible refine C_alloc ?_ _) | (with_reducible refine C_drewN ?_ _) | (with_reducible refine C_drew ?_)))
         (case side4 => exact (R_reads' HO241.out).2.1)
         rintro e w36 ⟨v263, v266, rfl, ho0, ho1, hb⟩
         refine ⟨_, rfl, ?_⟩
         have n0_ := Aside0.mk (R_mono (R_told (R_told (R_old (by (with_reducible repeat (first | apply R_alloc | apply R_drewN | apply R_drew)); exact HO233.out) hb) (R_base ho0)) (R_base ho1)) (fun _ h_ => h_.1))
         have n1_ := Aside0.mk (R_mono (R_told (R_told (R_old (by (with_reducible repeat (first | apply R_alloc | apply R_drewN | apply R_drew)); exact HO238.out) hb) (R_base ho0)) (R_base ho1)) (fun _ h_ => h_.1))
         have n2_ := Aside0.mk (R_mono (R_told (R_told (R_old (by (with_reducible repeat (first | apply R_alloc | apply R_drewN | apply R_drew)); exact HO241.out) hb) (R_base ho0)) (R_base ho1)) (fun _ h_ => h_.1))
         have n3_ := Aside0.mk (R_mono (R_told (R_told (R_old (by (with_reducible repeat (first | apply R_alloc | apply R_drewN | apply R_drew)); exact HO244.out) hb) (R_base ho0)) (R_base ho1)) (fun _ h_ => h_.1))
         have n4_ := Aside0.mk (R_mono (R_told (R_told (R_old (by (with_reducible repeat (first | apply R_alloc | apply R_drewN | apply R_drew)); exact HO251.out) hb) (R_base ho0)) (R_base ho1)) (fun _ h_ => h_.1))
         have n5_ := Aside0.mk (R_mono (R_told (R_told (R_old (by (with_reducible repeat (first | apply R_alloc | apply R_drewN | apply R_drew)); exact HO254.out) hb) (R_base ho0)) (R_base ho1)) (fun _ h_ => h_.1))
         have n6_ := Aside0.mk (R_mono (R_told (R_told (R_old (by (with_reducible repeat (first | apply R_alloc | apply R_drewN | apply R_drew)); exact HO257.out) hb) (R_base ho0)) (R_base ho1)) (fun _ h_ => h_.1))
         have n7_ := Aside0.mk (R_lower (R_new' (R_new' (R_new' (R_new' (R_new' (R_new' (R_new' ho0 (R_lt (by (with_reducible repeat (first | apply R_alloc | apply R_drewN | apply R_drew)); exact HO233.out))) (R_lt (by (with_reducible repeat (first | apply R_alloc | apply R_drewN | apply R_drew)); exact HO238.out))) (R_lt (by (with_reducible repeat (first | apply R_alloc | apply R_drewN | apply R_drew)); exact HO241.out))) (R_lt (by (with_reducible repeat (first | apply R_alloc | apply R_drewN | apply R_drew)); exact HO244.out))) (R_lt (by (with_reducible repeat (first | apply R_alloc | apply R_drewN | apply R_drew)); exact HO251.out))) (R_lt (by (with_reducible repeat (first | apply R_alloc | apply R_drewN | apply R_drew)); exact HO254.out))) (R_lt (by (with_reducible repeat (first | apply R_alloc | apply R_drewN | apply R_drew)); exact HO257.out))) (below_size (by repeat (first | (with_reducible first | exact HB.out | apply below_alloc | apply pw_below_drewN | apply below_drew1 | refine below_set ?_ GE246.out | refine below_set ?_ GE259.out) | exact HB.out))))
         have n8_ := Aside0.mk (R_lower (R_new' (R_new' (R_new' (R_new' (R_new' (R_new' (R_new' ho1 (R_lt (by (with_reducible repeat (first | apply R_alloc | apply R_drewN | apply R_drew)); exact HO233.out))) (R_lt (by (with_reducible repeat (first | apply R_alloc | apply R_drewN | apply R_drew)); exact HO238.out))) (R_lt (by (with_reducible repeat (first | apply R_alloc | apply R_drewN | apply R_drew)); exact HO241.out))) (R_lt (by (with_reducible repeat (first | apply R_alloc | apply R_drewN | apply R_drew)); exact HO244.out))) (R_lt (by (with_reducible repeat (first | apply R_alloc | apply R_drewN | apply R_drew)); exact HO251.out))) (R_lt (by (with_reducible repeat (first | apply R_alloc | apply R_drewN | apply R_drew)); exact HO254.out))) (R_lt (by (with_reducible repeat (first | apply R_alloc | apply R_drewN | apply R_drew)); exact HO257.out))) (below_size (by repeat (first | (with_reducible first | exact HB.out | apply below_alloc | apply pw_below_drewN | apply below_drew1 | refine below_set ?_ GE246.out | refine below_set ?_ GE259.out) | exact HB.out))))
         have n9_ := Aside0.mk (blk_below (g := gb246) (o := .cells #[.int .u8 t234, .int .u32 t235, .slice Ao17 t236.length co17, .slice Ao18 t239.length co18] 27 (0, 0)) (by (with_reducible repeat (first | refine blk_drewN ?_ _ | refine blk_drew ?_ | refine blk_alloc ?_ _)); exact BK246.out) hb)
         have n10_ := Aside0.mk (blk_below (g := gb259) (o := .cells #[.int .u8 t247, .int .u32 t248, .slice Ao23 t249.length co23, .slice Ao24 t252.length co24] 31 (0, 0)) (by (with_reducible repeat (first | refine blk_drewN ?_ _ | refine blk_drew ?_ | refine blk_alloc ?_ _)); exact BK259.out) hb)
         have n11_ := Aside0.mk (below_step (by repeat (first | (with_reducible first | exact HB.out | apply below_alloc | apply pw_below_drewN | apply below_drew1 | refine below_set ?_ GE246.out | refine below_set ?_ GE259.out) | exact HB.out)) hb)
         clear HO233
         clear HO238
         clear HO241
         clear HO244
         clear HO251
         clear HO254
         clear HO257
         clear BK246
         clear BK259
         clear HB
         have HO233 := n0_
         have HO238 := n1_
         have HO241 := n2_
         have HO244 := n3_
         have HO251 := n4_
         have HO254 := n5_
         have HO257 := n6_
         have HO264 := n7_
         have HO267 := n8_
         have BK246 := n9_
         have BK259 := n10_
         have HB := n11_
         clear n0_ n1_ n2_ n3_ n4_ n5_ n6_ n7_ n8_ n9_ n10_ n11_
         (try clear hb)
         (try clear hb2)
         (try clear hk)
         (try clear hi)
         (try clear ho0)
         (try clear ho1)
         obtain ⟨Ao37, co37, eo37⟩ := R_slice HO264.out
         (first | subst eo37 | (injection eo37 with f1_ f2_ f3_; have f4_ := f1_.symm; have f5_ := f3_.symm; clear f1_ f2_ f3_; subst f4_; subst f5_))
         obtain ⟨Ao38, co38, eo38⟩ := R_slice HO267.out
         (first | subst eo38 | (injection eo38 with f1_ f2_ f3_; have f4_ := f1_.symm; have f5_ := f3_.symm; clear f1_ f2_ f3_; subst f4_; subst f5_))
         refine hK.out _ _ ⟨(blk_cell BK246.out 0).trans rfl, (blk_cell BK246.out 1).trans rfl, (blk_cell BK246.out 2).trans rfl, (blk_cell BK246.out 3).trans rfl, (blk_cell BK259.out 0).trans rfl, (blk_cell BK259.out 1).trans rfl, (blk_cell BK259.out 2).trans rfl, (blk_cell BK259.out 3).trans rfl, ((HB.out.cell (World.block_lt_of_cell? w _ hw271_0)).trans hw271_0)⟩ (fun hHeld => ?_)
         clear hK K
         refine norm_ (a' := ?_) ?_ ?_
         rotate_left
         ·show Act.put _ (some 39) _ = _
          simp only [Act.put, sA, sB, sC, i64_w, i32_w]
          rfl
         refine one_ (i := 7) (N := some 41) #[true,true,true,true,true,true,true,true,false,false,false,false,false,false,false,false,false,false,false,false,false,false,false,false,false,false,false,false,false,false] rfl rfl (one_of HT_.out (by kernel_rfl)) (by decide) (fun K hK => ?_)
         refine goes_ Try.func11 (by kernel_rfl) rfl #[.agg #[.int .u8 t260, .int .u32 t261, .slice Ao37 t262.length co37, .slice Ao38 t265.length co38], .agg #[.int .u8 t247, .int .u32 t248, .slice Ao23 t249.length co23, .slice Ao24 t252.length co24]] (by rfl) rfl rfl (by (try simp only [List.map_toArray, List.map_cons, List.map_nil]); first | done | rfl | (simp only [List.length_drop, List.length_take]; rfl)) ?_
         with_reducible refine (crosswayref10_Same.calls t260 t261 _ _ t262 _ _ t265 t247 t248 _ _ t249 _ _ t252 true _ ?side1 ?side2 ?side3 ?side4 ?side5 ?side6 ?side7 ?side8 A27.out).mono ?_
         (case side1 => repeat (first | exact (R_reads' HO264.out).2.2 | (with_reducible refine C_alloc ?_ _) | (with_reducible refine C_drewN ?_ _) | (with_reducible refine C_drew ?_)))
         (case side2 => exact (R_reads' HO264.out).2.1)
         (case side3 => repeat (first | exact (R_reads' HO267.out).2.2 | (with_reducible refine C_alloc ?_ _) | (with_reducible refine C_drewN ?_ _) | (with_reducible refine C_drew ?_)))
         (case side4 => exact (R_reads' HO267.out).2.1)
         (case side5 => repeat (first | exact (R_reads' HO251.out).2.2 | (with_reducible refine C_alloc ?_ _) | (with_reducible refine C_drewN ?_ _) | (with_reducible refine C_drew ?_)))
         (case side6 => exact (R_reads' HO251.out).2.1)
         (case side7 => repeat (first | exact (R_reads' HO254.out).2.2 | (with_reducible refine C_alloc ?_ _) | (with_reducible refine C_drewN ?_ _) | (with_reducible refine C_drew ?_)))
         (case side8 => exact (R_reads' HO254.out).2.1)
         rintro e w39 ⟨rfl, hb⟩
         refine ⟨_, rfl, ?_⟩
         have n0_ := Aside0.mk (R_below (by (with_reducible repeat (first | apply R_alloc | apply R_drewN | apply R_drew)); exact HO233.out) hb)
         have n1_ := Aside0.mk (R_below (by (with_reducible repeat (first | apply R_alloc | apply R_drewN | apply R_drew)); exact HO238.out) hb)
         have n2_ := Aside0.mk (R_below (by (with_reducible repeat (first | apply R_alloc | apply R_drewN | apply R_drew)); exact HO241.out) hb)
         have n3_ := Aside0.mk (R_below (by (with_reducible repeat (first | apply R_alloc | apply R_drewN | apply R_drew)); exact HO244.out) hb)
         have n4_ := Aside0.mk (R_below (by (with_reducible repeat (first | apply R_alloc | apply R_drewN | apply R_drew)); exact HO251.out) hb)
         have n5_ := Aside0.mk (R_below (by (with_reducible repeat (first | apply R_alloc | apply R_drewN | apply R_drew)); exact HO254.out) hb)
         have n6_ := Aside0.mk (R_below (by (with_reducible repeat (first | apply R_alloc | apply R_drewN | apply R_drew)); exact HO257.out) hb)
         have n9_ := Aside0.mk (blk_below (g := gb246) (o := .cells #[.int .u8 t234, .int .u32 t235, .slice Ao17 t236.length co17, .slice Ao18 t239.length co18] 27 (0, 0)) (by (with_reducible repeat (first | refine blk_drewN ?_ _ | refine blk_drew ?_ | refine blk_alloc ?_ _)); exact BK246.out) hb)
         have n10_ := Aside0.mk (blk_below (g := gb259) (o := .cells #[.int .u8 t247, .int .u32 t248, .slice Ao23 t249.length co23, .slice Ao24 t252.length co24] 31 (0, 0)) (by (with_reducible repeat (first | refine blk_drewN ?_ _ | refine blk_drew ?_ | refine blk_alloc ?_ _)); exact BK259.out) hb)
         have n11_ := Aside0.mk (below_step (by repeat (first | (with_reducible first | exact HB.out | apply below_alloc | apply pw_below_drewN | apply below_drew1 | refine below_set ?_ GE246.out | refine below_set ?_ GE259.out) | exact HB.out)) hb)
         clear HO233
         clear HO238
         clear HO241
         clear HO244
         clear HO251
         clear HO254
         clear HO257
         clear BK246
         clear BK259
         clear HB
         have HO233 := n0_
         have HO238 := n1_
         have HO241 := n2_
         have HO244 := n3_
         have HO251 := n4_
         have HO254 := n5_
         have HO257 := n6_
         have BK246 := n9_
         have BK259 := n10_
         have HB := n11_
         clear n0_ n1_ n2_ n3_ n4_ n5_ n6_ n9_ n10_ n11_
         (try clear hb)
         (try clear hb2)
         (try clear hk)
         (try clear hi)
         obtain ⟨Ao40, co40, eo40⟩ := R_slice HO244.out
         (first | subst eo40 | (injection eo40 with f1_ f2_ f3_; have f4_ := f1_.symm; have f5_ := f3_.symm; clear f1_ f2_ f3_; subst f4_; subst f5_))
         obtain ⟨Ao41, co41, eo41⟩ := R_slice HO257.out
         (first | subst eo41 | (injection eo41 with f1_ f2_ f3_; have f4_ := f1_.symm; have f5_ := f3_.symm; clear f1_ f2_ f3_; subst f4_; subst f5_))
         refine hK.out _ _ ⟨(blk_cell BK246.out 0).trans rfl, (blk_cell BK246.out 1).trans rfl, (blk_cell BK246.out 2).trans rfl, (blk_cell BK246.out 3).trans rfl, (blk_cell BK259.out 0).trans rfl, (blk_cell BK259.out 1).trans rfl, (blk_cell BK259.out 2).trans rfl, (blk_cell BK259.out 3).trans rfl, ((HB.out.cell (World.block_lt_of_cell? w _ hw271_0)).trans hw271_0)⟩ (fun hHeld => ?_)
         clear hK K
         refine norm_ (a' := ?_) ?_ ?_
         rotate_left
         ·show Act.put _ (some 41) _ = _
          simp only [Act.put, sA, sB, sC, i64_w, i32_w]
          rfl
         refine pure_ (i := 8) (N := some 42) (v := ?_) (a' := ?_) #[true,true,true,true,true,true,true,true,true,false,false,false,false,false,false,false,false,false,false,false,false,false,false,false,false,false,false,false,false,false] rfl rfl (any_of HT_.out (by kernel_rfl)) (fun _ _ _ h => h) (Or.inl ⟨by rfl, ?_⟩) ?_ ?_
         rotate_left
         ·intro w'; go_simp; with_reducible rfl
         rotate_left
         ·simp only [Act.put, sA, sB, sC, i64_w, i32_w]; rfl
         refine pure_ (i := 9) (N := some 43) (v := ?_) (a' := ?_) #[true,true,true,true,true,true,true,true,true,true,false,false,false,false,false,false,false,false,false,false,false,false,false,false,false,false,false,false,false,false] rfl rfl (any_of HT_.out (by kernel_rfl)) (fun _ _ _ h => h) (Or.inl ⟨by rfl, ?_⟩) ?_ ?_
         rotate_left
         ·intro w'; go_simp; with_reducible rfl
         rotate_left
         ·simp only [Act.put, sA, sB, sC, i64_w, i32_w]; rfl
         refine pure_ (i := 10) (N := some 44) (v := ?_) (a' := ?_) #[true,true,true,true,true,true,true,true,true,true,true,false,false,false,false,false,false,false,false,false,false,false,false,false,false,false,false,false,false,false] rfl rfl (any_of HT_.out (by kernel_rfl)) (fun _ _ _ h => h) (Or.inl ⟨by rfl, ?_⟩) ?_ ?_
         rotate_left
         ·intro w'; go_simp; with_reducible rfl
         rotate_left
         ·simp only [Act.put, sA, sB, sC, i64_w, i32_w]; rfl
         refine pure_ (i := 11) (N := some 45) (v := ?_) (a' := ?_) #[true,true,true,true,true,true,true,true,true,true,true,true,false,false,false,false,false,false,false,false,false,false,false,false,false,false,false,false,false,false] rfl rfl (any_of HT_.out (by kernel_rfl)) (fun _ _ _ h => h) (Or.inl ⟨by rfl, ?_⟩) ?_ ?_
         rotate_left
         ·intro w'; go_simp; with_reducible rfl
         rotate_left
         ·simp only [Act.put, sA, sB, sC, i64_w, i32_w]; rfl
         refine pure_ (i := 12) (N := some 46) (v := ?_) (a' := ?_) #[true,true,true,true,true,true,true,true,true,true,true,true,true,false,false,false,false,false,false,false,false,false,false,false,false,false,false,false,false,false] rfl rfl (any_of HT_.out (by kernel_rfl)) (fun _ _ _ h => h) (Or.inl ⟨by rfl, ?_⟩) ?_ ?_
         rotate_left
         ·intro w'; go_simp; with_reducible rfl
         rotate_left
         ·simp only [Act.put, sA, sB, sC, i64_w, i32_w]; rfl
         refine one_ (i := 13) (N := some 47) #[true,true,true,true,true,true,true,true,true,true,true,true,true,true,false,false,false,false,false,false,false,false,false,false,false,false,false,false,false,false] rfl rfl (one_of HT_.out (by kernel_rfl)) (by decide) (fun K hK => ?_)
         refine goes_ Try.func13 (by kernel_rfl) rfl #[.slice Ao40 t242.length co40, .slice Ao41 t255.length co41] (by rfl) rfl rfl (by (try simp only [List.map_toArray, List.map_cons, List.map_nil]); first | done | rfl | (simp only [List.length_drop, List.length_take]; rfl)) ?_
         with_reducible refine (crosswayref00_SameBytes.calls k _ _ t242 _ _ t255 true _ ?side1 ?side2 ?side3 ?side4 A29.out).mono ?_
         (case side1 => repeat (first | exact (R_reads' HO244.out).2.2 | (with_reducible refine C_alloc ?_ _) | (with_reducible refine C_drewN ?_ _) | (with_reducible refine C_drew ?_)))
         (case side2 => exact (R_reads' HO244.out).2.1)
         (case side3 => repeat (first | exact (R_reads' HO257.out).2.2 | (with_reducible refine C_alloc ?_ _) | (with_reducible refine C_drewN ?_ _) | (with_reducible refine C_drew ?_)))
         (case side4 => exact (R_reads' HO257.out).2.1)
         rintro e w' ⟨rfl, ⟨nd, rfl⟩⟩
         refine ⟨_, rfl, ?_⟩
         refine hK.out _ _ ⟨(blk_cell BK246.out 0).trans rfl, (blk_cell BK246.out 1).trans rfl, (blk_cell BK246.out 2).trans rfl, (blk_cell BK246.out 3).trans rfl, (blk_cell BK259.out 0).trans rfl, (blk_cell BK259.out 1).trans rfl, (blk_cell BK259.out 2).trans rfl, (blk_cell BK259.out 3).trans rfl, ((HB.out.cell (World.block_lt_of_cell? w _ hw271_0)).trans hw271_0)⟩ (fun hHeld => ?_)
         clear hK K
         refine norm_ (a' := ?_) ?_ ?_
         rotate_left
         ·show Act.put _ (some 47) _ = _
          simp only [Act.put, sA, sB, sC, i64_w, i32_w]
          rfl
         refine pure_ (i := 14) (N := some 48) (v := ?_) (a' := ?_) #[true,true,true,true,true,true,true,true,true,true,true,true,true,true,true,false,false,false,false,false,false,false,false,false,false,false,false,false,false,false] rfl rfl (any_of HT_.out (by kernel_rfl)) (fun _ _ _ h => h) (Or.inl ⟨by rfl, ?_⟩) ?_ ?_
         rotate_left
         ·intro w'; go_simp; with_reducible rfl
         rotate_left
         ·simp only [Act.put, sA, sB, sC, i64_w, i32_w]; rfl
         refine pure_ (i := 15) (N := some 49) (v := ?_) (a' := ?_) #[true,true,true,true,true,true,true,true,true,true,true,true,true,true,true,true,false,false,false,false,false,false,false,false,false,false,false,false,false,false] rfl rfl (any_of HT_.out (by kernel_rfl)) (fun _ _ _ h => h) (Or.inl ⟨by rfl, ?_⟩) ?_ ?_
         rotate_left
         ·intro w'; go_simp; with_reducible rfl
         rotate_left
         ·simp only [Act.put, sA, sB, sC, i64_w, i32_w]; rfl
         refine pure_ (i := 16) (N := some 50) (v := ?_) (a' := ?_) #[true,true,true,true,true,true,true,true,true,true,true,true,true,true,true,true,true,false,false,false,false,false,false,false,false,false,false,false,false,false] rfl rfl (any_of HT_.out (by kernel_rfl)) (fun _ _ _ h => h) (Or.inl ⟨by rfl, ?_⟩) ?_ ?_
         rotate_left
         ·intro w'; go_simp; with_reducible rfl
         rotate_left
         ·simp only [Act.put, sA, sB, sC, i64_w, i32_w]; rfl
         refine pure_ (i := 17) (N := some 51) (v := ?_) (a' := ?_) #[true,true,true,true,true,true,true,true,true,true,true,true,true,true,true,true,true,true,false,false,false,false,false,false,false,false,false,false,false,false] rfl rfl (any_of HT_.out (by kernel_rfl)) (fun _ _ _ h => h) (Or.inl ⟨by rfl, ?_⟩) ?_ ?_
         rotate_left
         ·intro w'; go_simp; with_reducible rfl
         rotate_left
         ·simp only [Act.put, sA, sB, sC, i64_w, i32_w]; rfl
         refine pure_ (i := 19) (N := some 53) (v := ?_) (a' := ?_) #[true,true,true,true,true,true,true,true,true,true,true,true,true,true,true,true,true,true,false,true,false,false,false,false,false,false,false,false,false,false] rfl rfl (any_of HT_.out (by kernel_rfl)) (fun _ _ _ h => h) (Or.inl ⟨by rfl, ?_⟩) ?_ ?_
         rotate_left
         ·intro w'; go_simp; with_reducible rfl
         rotate_left
         ·simp only [Act.put, sA, sB, sC, i64_w, i32_w]; rfl
         refine pure_ (i := 20) (N := some 54) (v := ?_) (a' := ?_) #[true,true,true,true,true,true,true,true,true,true,true,true,true,true,true,true,true,true,false,true,true,false,false,false,false,false,false,false,false,false] rfl rfl (any_of HT_.out (by kernel_rfl)) (fun _ _ _ h => h) (Or.inl ⟨by rfl, ?_⟩) ?_ ?_
         rotate_left
         ·intro w'; go_simp; with_reducible rfl
         rotate_left
         ·simp only [Act.put, sA, sB, sC, i64_w, i32_w]; rfl
         refine pure_ (i := 21) (N := some 55) (v := ?_) (a' := ?_) #[true,true,true,true,true,true,true,true,true,true,true,true,true,true,true,true,true,true,false,true,true,true,false,false,false,false,false,false,false,false] rfl rfl (any_of HT_.out (by kernel_rfl)) (fun _ _ _ h => h) (Or.inl ⟨by rfl, ?_⟩) ?_ ?_
         rotate_left
         ·intro w'; go_simp; with_reducible rfl
         rotate_left
         ·simp only [Act.put, sA, sB, sC, i64_w, i32_w]; rfl
         refine one_ (i := 18) (N := some 52) #[true,true,true,true,true,true,true,true,true,true,true,true,true,true,true,true,true,true,true,true,true,true,false,false,false,false,false,false,false,false] rfl rfl (one_of HT_.out (by kernel_rfl)) (by decide) (fun K hK => ?_)
         refine goes_ Try.func14 (by kernel_rfl) rfl #[.slice Ao13 t231.length co13] (by rfl) rfl rfl (by (try simp only [List.map_toArray, List.map_cons, List.map_nil]); first | done | rfl | (simp only [List.length_drop, List.length_take]; rfl)) ?_
         with_reducible refine (head_Long.calls _ _ t231 t270 _ ?side1 ?side2 A31.out).mono ?_
         (case side1 => repeat (first | exact (R_reads' HO233.out).2.2 | (with_reducible refine C_alloc ?_ _) | (with_reducible refine C_drewN ?_ _) | (with_reducible refine C_drew ?_)))
         (case side2 => exact (R_reads' HO233.out).2.1)
         rintro e w' ⟨rfl, ⟨nd, rfl⟩⟩
         refine ⟨_, rfl, ?_⟩
         refine hK.out _ _ ⟨(blk_cell BK246.out 0).trans rfl, (blk_cell BK246.out 1).trans rfl, (blk_cell BK246.out 2).trans rfl, (blk_cell BK246.out 3).trans rfl, (blk_cell BK259.out 0).trans rfl, (blk_cell BK259.out 1).trans rfl, (blk_cell BK259.out 2).trans rfl, (blk_cell BK259.out 3).trans rfl, ((HB.out.cell (World.block_lt_of_cell? w _ hw271_0)).trans hw271_0)⟩ (fun hHeld => ?_)
         clear hK K
         refine norm_ (a' := ?_) ?_ ?_
         rotate_left
         ·show Act.put _ (some 52) _ = _
          simp only [Act.put, sA, sB, sC, i64_w, i32_w]
          rfl
         refine pure_ (i := 22) (N := some 56) (v := ?_) (a' := ?_) #[true,true,true,true,true,true,true,true,true,true,true,true,true,true,true,true,true,true,true,true,true,true,true,false,false,false,false,false,false,false] rfl rfl (any_of HT_.out (by kernel_rfl)) (fun _ _ _ h => h) (Or.inl ⟨by rfl, ?_⟩) ?_ ?_
         rotate_left
         ·intro w'; go_simp; with_reducible rfl
         rotate_left
         ·simp only [Act.put, sA, sB, sC, i64_w, i32_w]; rfl
         refine pure_ (i := 23) (N := some 57) (v := ?_) (a' := ?_) #[true,true,true,true,true,true,true,true,true,true,true,true,true,true,true,true,true,true,true,true,true,true,true,true,false,false,false,false,false,false] rfl rfl (any_of HT_.out (by kernel_rfl)) (fun _ _ _ h => h) (Or.inl ⟨by rfl, ?_⟩) ?_ ?_
         rotate_left
         ·intro w'; go_simp; with_reducible rfl
         rotate_left
         ·simp only [Act.put, sA, sB, sC, i64_w, i32_w]; rfl
         refine pure_ (i := 24) (N := some 58) (v := ?_) (a' := ?_) #[true,true,true,true,true,true,true,true,true,true,true,true,true,true,true,true,true,true,true,true,true,true,true,true,true,false,false,false,false,false] rfl rfl (any_of HT_.out (by kernel_rfl)) (fun _ _ _ h => h) (Or.inl ⟨by rfl, ?_⟩) ?_ ?_
         rotate_left
         ·intro w'; go_simp; with_reducible rfl
         rotate_left
         ·simp only [Act.put, sA, sB, sC, i64_w, i32_w]; rfl
         refine take_ (i := 25) (N := some 59) (v := ?_) (a' := ?_) #[true,true,true,true,true,true,true,true,true,true,true,true,true,true,true,true,true,true,true,true,true,true,true,true,true,true,false,false,false,false] rfl rfl (take_ofW HT_.out HW_.out (by kernel_rfl)) (fun _ _ _ h => h) (Or.inl ⟨by rfl, ?_⟩) hHeld ?_ ?_
         rotate_left
         ·rintro w' ⟨s0, s1, s2, s3, s4, s5, s6, s7, s8⟩; go_simp; with_reducible rfl
         rotate_left
         ·simp only [Act.put, sA, sB, sC, i64_w, i32_w]; rfl
         refine pure_ (i := 26) (N := some 60) (v := ?_) (a' := ?_) #[true,true,true,true,true,true,true,true,true,true,true,true,true,true,true,true,true,true,true,true,true,true,true,true,true,true,true,false,false,false] rfl rfl (any_of HT_.out (by kernel_rfl)) (fun _ _ _ h => h) (Or.inl ⟨by rfl, ?_⟩) ?_ ?_
         rotate_left
         ·intro w'; go_simp; with_reducible rfl
         rotate_left
         ·simp only [Act.put, sA, sB, sC, i64_w, i32_w]; rfl
         refine pure_ (i := 27) (N := some 61) (v := ?_) (a' := ?_) #[true,true,true,true,true,true,true,true,true,true,true,true,true,true,true,true,true,true,true,true,true,true,true,true,true,true,true,true,false,false] rfl rfl (any_of HT_.out (by kernel_rfl)) (fun _ _ _ h => h) (Or.inl ⟨by rfl, ?_⟩) ?_ ?_
         rotate_left
         ·intro w'; go_simp; with_reducible rfl
         rotate_left
         ·simp only [Act.put, sA, sB, sC, i64_w, i32_w]; rfl
         refine pure_ (i := 28) (N := some 62) (v := ?_) (a' := ?_) #[true,true,true,true,true,true,true,true,true,true,true,true,true,true,true,true,true,true,true,true,true,true,true,true,true,true,true,true,true,false] rfl rfl (any_of HT_.out (by kernel_rfl)) (fun _ _ _ h => h) (Or.inl ⟨by rfl, ?_⟩) ?_ ?_
         rotate_left
         ·intro w'; go_simp; with_reducible rfl
         rotate_left
         ·simp only [Act.put, sA, sB, sC, i64_w, i32_w]; rfl
         refine pure_ (i := 29) (N := some 63) (v := ?_) (a' := ?_) #[true,true,true,true,true,true,true,true,true,true,true,true,true,true,true,true,true,true,true,true,true,true,true,true,true,true,true,true,true,true] rfl rfl (any_of HT_.out (by kernel_rfl)) (fun _ _ _ h => h) (Or.inl ⟨by rfl, ?_⟩) ?_ ?_
         rotate_left
         ·intro w'; go_simp; with_reducible rfl
         rotate_left
         ·simp only [Act.put, sA, sB, sC, i64_w, i32_w]; rfl
         refine done_ (done_of HT_.out (by kernel_rfl)) ?_
         try go_wp2
         go_meet
         case rel => exact ⟨_, ((t270 != (decide ((rd l0 0) ≥ 128)))), (by first | rfl | (simp; done) | (simp [*]; done) | (simp only [i64_w]; done) | (simp [i64_w]; done)), H', ⟨by first | omega | exact Nat.le_refl _⟩, ⟨by (with_reducible repeat (first | apply R_alloc | apply R_drewN | apply R_drew)); exact R_mono HO233.out (fun _ hk => ⟨hk.1.1.2.2.1, ⟨hk.1.1.1, ⟨hk.1.1.2.1, ⟨hk.1.1.2.2.2.1, hk.1.1.2.2.2.2.1⟩⟩⟩⟩)⟩, ⟨by (with_reducible repeat (first | apply R_alloc | apply R_drewN | apply R_drew)); exact R_mono HO244.out (fun _ hk => ⟨hk.1.1.1, ⟨hk.1.1.2.1, ⟨hk.1.1.2.2.1, ⟨hk.1.1.2.2.2.1, hk.1.1.2.2.2.2.1⟩⟩⟩⟩)⟩, ⟨by (with_reducible repeat (first | apply R_alloc | apply R_drewN | apply R_drew)); exact R_mono HO238.out (fun _ hk => ⟨hk.1.1.1, ⟨hk.1.1.2.2.1, ⟨hk.1.1.2.1, ⟨hk.1.1.2.2.2.1, hk.1.1.2.2.2.2.1⟩⟩⟩⟩)⟩, ⟨by (with_reducible repeat (first | apply R_alloc | apply R_drewN | apply R_drew)); exact R_mono HO241.out (fun _ hk => ⟨hk.1.1.1, ⟨hk.1.1.2.2.1, ⟨hk.1.1.2.1, ⟨hk.1.1.2.2.2.1, hk.1.1.2.2.2.2.1⟩⟩⟩⟩)⟩, ⟨by (with_reducible repeat (first | apply R_alloc | apply R_drewN | apply R_drew)); exact R_mono HO251.out (fun _ hk => ⟨hk.1.1.1, ⟨hk.1.1.2.2.2.1, ⟨hk.1.1.2.1, ⟨hk.1.1.2.2.1, hk.1.1.2.2.2.2.1⟩⟩⟩⟩)⟩, ⟨by (with_reducible repeat (first | apply R_alloc | apply R_drewN | apply R_drew)); exact R_mono HO254.out (fun _ hk => ⟨hk.1.1.1, ⟨hk.1.1.2.2.2.1, ⟨hk.1.1.2.1, ⟨hk.1.1.2.2.1, hk.1.1.2.2.2.2.1⟩⟩⟩⟩)⟩, ⟨by (with_reducible repeat (first | refine blk_drewN ?_ _ | refine blk_drew ?_ | refine blk_alloc ?_ _)); exact BK246.out⟩, ⟨by (with_reducible repeat (first | refine blk_drewN ?_ _ | refine blk_drew ?_ | refine blk_alloc ?_ _)); exact BK259.out⟩, ⟨by repeat (first | (with_reducible first | exact HB.out | apply below_alloc | apply pw_below_drewN | apply below_drew1 | refine below_set ?_ GE246.out | refine below_set ?_ GE259.out) | exact HB.out)⟩⟩
        ·rw [if_neg c33] at H
         exact absurd H (by simp)
       ·rw [if_neg c32] at H
        have c32b0 : decide (0 < (l0.length : Int)) = false := decide_eq_false c32
        have c32b1 : decide (0 < l0.length) = false := decide_eq_false (by omega)
        clear c32
        have H' := Aside0.mk H
        clear H
        try go_wp2
        have n0_ : Aside0 (Kd.R (Kd.int .u8) 5 ((((w20.setCell ⟨gb259, 0, none⟩ (.int .u8 t247)).setCell ⟨gb259, 1, none⟩ (.int .u32 t248)).setCell ⟨gb259, 2, none⟩ (.slice Ao23 t249.length co23)).setCell ⟨gb259, 3, none⟩ (.slice Ao24 t252.length co24)) w.heap.size (fun k_ => some k_ ≠ (.slice Ao17 t236.length co17 : Value).ownBlock ∧ some k_ ≠ (.slice Ao18 t239.length co18 : Value).ownBlock ∧ some k_ ≠ (v243 : Value).ownBlock ∧ some k_ ≠ (.slice Ao23 t249.length co23 : Value).ownBlock ∧ some k_ ≠ (.slice Ao24 t252.length co24 : Value).ownBlock ∧ some k_ ≠ (v256 : Value).ownBlock) (.slice Ao13 t231.length co13) t231) := ⟨by (with_reducible repeat (first | apply R_alloc | apply R_drewN | apply R_drew)); exact R_mono (R_far (p := ⟨gb259, 3, none⟩) (R_far (p := ⟨gb259, 2, none⟩) (R_far (p := ⟨gb259, 1, none⟩) (R_far (p := ⟨gb259, 0, none⟩) (R_types HO233.out BK259.out (by decide)) (fun _ hk => hk.2) (.int .u8 t247)) (fun _ hk => hk.2) (.int .u32 t248)) (fun _ hk => hk.2) (.slice Ao23 t249.length co23)) (fun _ hk => hk.2) (.slice Ao24 t252.length co24)) (fun _ hk => ⟨hk.1.1.1.1.1.1.2, ⟨hk.1.1.1.1.1.2, ⟨hk.1.1.1.1.2, ⟨hk.1.1.1.2, ⟨hk.1.1.2, hk.1.2⟩⟩⟩⟩⟩)⟩
        have n1_ : Aside0 (Kd.R (Kd.int .u8) 5 ((((w20.setCell ⟨gb259, 0, none⟩ (.int .u8 t247)).setCell ⟨gb259, 1, none⟩ (.int .u32 t248)).setCell ⟨gb259, 2, none⟩ (.slice Ao23 t249.length co23)).setCell ⟨gb259, 3, none⟩ (.slice Ao24 t252.length co24)) w.heap.size (fun k_ => some k_ ≠ (.slice Ao13 t231.length co13 : Value).ownBlock ∧ some k_ ≠ (.slice Ao18 t239.length co18 : Value).ownBlock ∧ some k_ ≠ (v243 : Value).ownBlock ∧ some k_ ≠ (.slice Ao23 t249.length co23 : Value).ownBlock ∧ some k_ ≠ (.slice Ao24 t252.length co24 : Value).ownBlock ∧ some k_ ≠ (v256 : Value).ownBlock) (.slice Ao17 t236.length co17) t236) := ⟨by (with_reducible repeat (first | apply R_alloc | apply R_drewN | apply R_drew)); exact R_mono (R_far (p := ⟨gb259, 3, none⟩) (R_far (p := ⟨gb259, 2, none⟩) (R_far (p := ⟨gb259, 1, none⟩) (R_far (p := ⟨gb259, 0, none⟩) (R_types HO238.out BK259.out (by decide)) (fun _ hk => hk.2) (.int .u8 t247)) (fun _ hk => hk.2) (.int .u32 t248)) (fun _ hk => hk.2) (.slice Ao23 t249.length co23)) (fun _ hk => hk.2) (.slice Ao24 t252.length co24)) (fun _ hk => ⟨hk.1.1.1.1.2, ⟨hk.1.1.1.1.1.1, ⟨hk.1.1.1.1.1.2, ⟨hk.1.1.1.2, ⟨hk.1.1.2, hk.1.2⟩⟩⟩⟩⟩)⟩
        have n2_ : Aside0 (Kd.R (Kd.int .u8) 5 ((((w20.setCell ⟨gb259, 0, none⟩ (.int .u8 t247)).setCell ⟨gb259, 1, none⟩ (.int .u32 t248)).setCell ⟨gb259, 2, none⟩ (.slice Ao23 t249.length co23)).setCell ⟨gb259, 3, none⟩ (.slice Ao24 t252.length co24)) w.heap.size (fun k_ => some k_ ≠ (.slice Ao13 t231.length co13 : Value).ownBlock ∧ some k_ ≠ (.slice Ao17 t236.length co17 : Value).ownBlock ∧ some k_ ≠ (v243 : Value).ownBlock ∧ some k_ ≠ (.slice Ao23 t249.length co23 : Value).ownBlock ∧ some k_ ≠ (.slice Ao24 t252.length co24 : Value).ownBlock ∧ some k_ ≠ (v256 : Value).ownBlock) (.slice Ao18 t239.length co18) t239) := ⟨by (with_reducible repeat (first | apply R_alloc | apply R_drewN | apply R_drew)); exact R_mono (R_far (p := ⟨gb259, 3, none⟩) (R_far (p := ⟨gb259, 2, none⟩) (R_far (p := ⟨gb259, 1, none⟩) (R_far (p := ⟨gb259, 0, none⟩) (R_types HO241.out BK259.out (by decide)) (fun _ hk => hk.2) (.int .u8 t247)) (fun _ hk => hk.2) (.int .u32 t248)) (fun _ hk => hk.2) (.slice Ao23 t249.length co23)) (fun _ hk => hk.2) (.slice Ao24 t252.length co24)) (fun _ hk => ⟨hk.1.1.1.1.2, ⟨hk.1.1.1.1.1.1, ⟨hk.1.1.1.1.1.2, ⟨hk.1.1.1.2, ⟨hk.1.1.2, hk.1.2⟩⟩⟩⟩⟩)⟩
        have n3_ : Aside0 (Kd.R (Kd.int .u8) 5 ((((w20.setCell ⟨gb259, 0, none⟩ (.int .u8 t247)).setCell ⟨gb259, 1, none⟩ (.int .u32 t248)).setCell ⟨gb259, 2, none⟩ (.slice Ao23 t249.length co23)).setCell ⟨gb259, 3, none⟩ (.slice Ao24 t252.length co24)) w.heap.size (fun k_ => some k_ ≠ (.slice Ao13 t231.length co13 : Value).ownBlock ∧ some k_ ≠ (.slice Ao17 t236.length co17 : Value).ownBlock ∧ some k_ ≠ (.slice Ao18 t239.length co18 : Value).ownBlock ∧ some k_ ≠ (.slice Ao23 t249.length co23 : Value).ownBlock ∧ some k_ ≠ (.slice Ao24 t252.length co24 : Value).ownBlock ∧ some k_ ≠ (v256 : Value).ownBlock) v243 t242) := ⟨by (with_reducible repeat (first | apply R_alloc | apply R_drewN | apply R_drew)); exact R_mono (R_far (p := ⟨gb259, 3, none⟩) (R_far (p := ⟨gb259, 2, none⟩) (R_far (p := ⟨gb259, 1, none⟩) (R_far (p := ⟨gb259, 0, none⟩) (R_types HO244.out BK259.out (by decide)) (fun _ hk => hk.2) (.int .u8 t247)) (fun _ hk => hk.2) (.int .u32 t248)) (fun _ hk => hk.2) (.slice Ao23 t249.length co23)) (fun _ hk => hk.2) (.slice Ao24 t252.length co24)) (fun _ hk => ⟨hk.1.1.1.1.2, ⟨hk.1.1.1.1.1.1, ⟨hk.1.1.1.1.1.2, ⟨hk.1.1.1.2, ⟨hk.1.1.2, hk.1.2⟩⟩⟩⟩⟩)⟩
        have n4_ : Aside0 (Kd.R (Kd.int .u8) 5 ((((w20.setCell ⟨gb259, 0, none⟩ (.int .u8 t247)).setCell ⟨gb259, 1, none⟩ (.int .u32 t248)).setCell ⟨gb259, 2, none⟩ (.slice Ao23 t249.length co23)).setCell ⟨gb259, 3, none⟩ (.slice Ao24 t252.length co24)) w.heap.size (fun k_ => some k_ ≠ (.slice Ao13 t231.length co13 : Value).ownBlock ∧ some k_ ≠ (.slice Ao17 t236.length co17 : Value).ownBlock ∧ some k_ ≠ (.slice Ao18 t239.length co18 : Value).ownBlock ∧ some k_ ≠ (v243 : Value).ownBlock ∧ some k_ ≠ (.slice Ao24 t252.length co24 : Value).ownBlock ∧ some k_ ≠ (v256 : Value).ownBlock) (.slice Ao23 t249.length co23) t249) := ⟨by (with_reducible repeat (first | apply R_alloc | apply R_drewN | apply R_drew)); exact R_mono (R_far (p := ⟨gb259, 3, none⟩) (R_far (p := ⟨gb259, 2, none⟩) (R_far (p := ⟨gb259, 1, none⟩) (R_far (p := ⟨gb259, 0, none⟩) (R_types HO251.out BK259.out (by decide)) (fun _ hk => hk.2) (.int .u8 t247)) (fun _ hk => hk.2) (.int .u32 t248)) (fun _ hk => hk.2) (.slice Ao23 t249.length co23)) (fun _ hk => hk.2) (.slice Ao24 t252.length co24)) (fun _ hk => ⟨hk.1.1.1.1.2, ⟨hk.1.1.1.2, ⟨hk.1.1.2, ⟨hk.1.2, ⟨hk.1.1.1.1.1.1, hk.1.1.1.1.1.2⟩⟩⟩⟩⟩)⟩
        have n5_ : Aside0 (Kd.R (Kd.int .u8) 5 ((((w20.setCell ⟨gb259, 0, none⟩ (.int .u8 t247)).setCell ⟨gb259, 1, none⟩ (.int .u32 t248)).setCell ⟨gb259, 2, none⟩ (.slice Ao23 t249.length co23)).setCell ⟨gb259, 3, none⟩ (.slice Ao24 t252.length co24)) w.heap.size (fun k_ => some k_ ≠ (.slice Ao13 t231.length co13 : Value).ownBlock ∧ some k_ ≠ (.slice Ao17 t236.length co17 : Value).ownBlock ∧ some k_ ≠ (.slice Ao18 t239.length co18 : Value).ownBlock ∧ some k_ ≠ (v243 : Value).ownBlock ∧ some k_ ≠ (.slice Ao23 t249.length co23 : Value).ownBlock ∧ some k_ ≠ (v256 : Value).ownBlock) (.slice Ao24 t252.length co24) t252) := ⟨by (with_reducible repeat (first | apply R_alloc | apply R_drewN | apply R_drew)); exact R_mono (R_far (p := ⟨gb259, 3, none⟩) (R_far (p := ⟨gb259, 2, none⟩) (R_far (p := ⟨gb259, 1, none⟩) (R_far (p := ⟨gb259, 0, none⟩) (R_types HO254.out BK259.out (by decide)) (fun _ hk => hk.2) (.int .u8 t247)) (fun _ hk => hk.2) (.int .u32 t248)) (fun _ hk => hk.2) (.slice Ao23 t249.length co23)) (fun _ hk => hk.2) (.slice Ao24 t252.length co24)) (fun _ hk => ⟨hk.1.1.1.1.2, ⟨hk.1.1.1.2, ⟨hk.1.1.2, ⟨hk.1.2, ⟨hk.1.1.1.1.1.1, hk.1.1.1.1.1.2⟩⟩⟩⟩⟩)⟩
        have n6_ : Aside0 (Kd.R (Kd.int .u8) 5 ((((w20.setCell ⟨gb259, 0, none⟩ (.int .u8 t247)).setCell ⟨gb259, 1, none⟩ (.int .u32 t248)).setCell ⟨gb259, 2, none⟩ (.slice Ao23 t249.length co23)).setCell ⟨gb259, 3, none⟩ (.slice Ao24 t252.length co24)) w.heap.size (fun k_ => some k_ ≠ (.slice Ao13 t231.length co13 : Value).ownBlock ∧ some k_ ≠ (.slice Ao17 t236.length co17 : Value).ownBlock ∧ some k_ ≠ (.slice Ao18 t239.length co18 : Value).ownBlock ∧ some k_ ≠ (v243 : Value).ownBlock ∧ some k_ ≠ (.slice Ao23 t249.length co23 : Value).ownBlock ∧ some k_ ≠ (.slice Ao24 t252.length co24 : Value).ownBlock) v256 t255) := ⟨by (with_reducible repeat (first | apply R_alloc | apply R_drewN | apply R_drew)); exact R_mono (R_far (p := ⟨gb259, 3, none⟩) (R_far (p := ⟨gb259, 2, none⟩) (R_far (p := ⟨gb259, 1, none⟩) (R_far (p := ⟨gb259, 0, none⟩) (R_types HO257.out BK259.out (by decide)) (fun _ hk => hk.2) (.int .u8 t247)) (fun _ hk => hk.2) (.int .u32 t248)) (fun _ hk => hk.2) (.slice Ao23 t249.length co23)) (fun _ hk => hk.2) (.slice Ao24 t252.length co24)) (fun _ hk => ⟨hk.1.1.1.1.2, ⟨hk.1.1.1.2, ⟨hk.1.1.2, ⟨hk.1.2, ⟨hk.1.1.1.1.1.1, hk.1.1.1.1.1.2⟩⟩⟩⟩⟩)⟩
        have n7_ : Aside0 (((((w20.setCell ⟨gb259, 0, none⟩ (.int .u8 t247)).setCell ⟨gb259, 1, none⟩ (.int .u32 t248)).setCell ⟨gb259, 2, none⟩ (.slice Ao23 t249.length co23)).setCell ⟨gb259, 3, none⟩ (.slice Ao24 t252.length co24)).heap[gb246]? = some (.cells #[.int .u8 t234, .int .u32 t235, .slice Ao17 t236.length co17, .slice Ao18 t239.length co18] 27 (0, 0))) := ⟨by (with_reducible repeat (first | refine blk_drewN ?_ _ | refine blk_drew ?_ | refine blk_alloc ?_ _)); refine blk_far ?_ NB246_259.out _; (with_reducible repeat (first | refine blk_drewN ?_ _ | refine blk_drew ?_ | refine blk_alloc ?_ _)); refine blk_far ?_ NB246_259.out _; (with_reducible repeat (first | refine blk_drewN ?_ _ | refine blk_drew ?_ | refine blk_alloc ?_ _)); refine blk_far ?_ NB246_259.out _; (with_reducible repeat (first | refine blk_drewN ?_ _ | refine blk_drew ?_ | refine blk_alloc ?_ _)); refine blk_far ?_ NB246_259.out _; (with_reducible repeat (first | refine blk_drewN ?_ _ | refine blk_drew ?_ | refine blk_alloc ?_ _)); exact BK246.out⟩
        have n8_ : Aside0 (((((w20.setCell ⟨gb259, 0, none⟩ (.int .u8 t247)).setCell ⟨gb259, 1, none⟩ (.int .u32 t248)).setCell ⟨gb259, 2, none⟩ (.slice Ao23 t249.length co23)).setCell ⟨gb259, 3, none⟩ (.slice Ao24 t252.length co24)).heap[gb259]? = some (.cells #[.int .u8 t247, .int .u32 t248, .slice Ao23 t249.length co23, .slice Ao24 t252.length co24] 31 (0, 0))) := ⟨by (with_reducible repeat (first | refine blk_drewN ?_ _ | refine blk_drew ?_ | refine blk_alloc ?_ _)); refine blk_put (cs := #[.int .u8 t247, .int .u32 t248, .slice Ao23 t249.length co23, .slice none 0 0]) ?_ 3 _ rfl; (with_reducible repeat (first | refine blk_drewN ?_ _ | refine blk_drew ?_ | refine blk_alloc ?_ _)); refine blk_put (cs := #[.int .u8 t247, .int .u32 t248, .slice none 0 0, .slice none 0 0]) ?_ 2 _ rfl; (with_reducible repeat (first | refine blk_drewN ?_ _ | refine blk_drew ?_ | refine blk_alloc ?_ _)); refine blk_put (cs := #[.int .u8 t247, .int .u32 0, .slice none 0 0, .slice none 0 0]) ?_ 1 _ rfl; (with_reducible repeat (first | refine blk_drewN ?_ _ | refine blk_drew ?_ | refine blk_alloc ?_ _)); refine blk_put (cs := #[.int .u8 0, .int .u32 0, .slice none 0 0, .slice none 0 0]) ?_ 0 _ rfl; (with_reducible repeat (first | refine blk_drewN ?_ _ | refine blk_drew ?_ | refine blk_alloc ?_ _)); exact BK259.out⟩
        have n9_ : Aside0 (Below w.heap.size w ((((w20.setCell ⟨gb259, 0, none⟩ (.int .u8 t247)).setCell ⟨gb259, 1, none⟩ (.int .u32 t248)).setCell ⟨gb259, 2, none⟩ (.slice Ao23 t249.length co23)).setCell ⟨gb259, 3, none⟩ (.slice Ao24 t252.length co24))) := ⟨by repeat (first | (with_reducible first | exact HB.out | apply below_alloc | apply pw_below_drewN | apply below_drew1 | refine below_set ?_ GE246.out | refine below_set ?_ GE259.out) | exact HB.out)⟩
        (try clear HO233)
        (try clear HO238)
        (try clear HO241)
        (try clear HO244)
        (try clear HO251)
        (try clear HO254)
        (try clear HO257)
        (try clear BK246)
        (try clear BK259)
        (try clear HB)
        generalize ((((w20.setCell ⟨gb259, 0, none⟩ (.int .u8 t247)).setCell ⟨gb259, 1, none⟩ (.int .u32 t248)).setCell ⟨gb259, 2, none⟩ (.slice Ao23 t249.length co23)).setCell ⟨gb259, 3, none⟩ (.slice Ao24 t252.length co24)) = w42 at n0_ n1_ n2_ n3_ n4_ n5_ n6_ n7_ n8_ n9_ ⊢
        have HO233 := n0_
        have HO238 := n1_
        have HO241 := n2_
        have HO244 := n3_
        have HO251 := n4_
        have HO254 := n5_
        have HO257 := n6_
        have BK246 := n7_
        have BK259 := n8_
        have HB := n9_
        clear n0_ n1_ n2_ n3_ n4_ n5_ n6_ n7_ n8_ n9_
        have n0_ := Aside0.mk (R_drew HO233.out)
        have n1_ := Aside0.mk (R_drew HO238.out)
        have n2_ := Aside0.mk (R_drew HO241.out)
        have n3_ := Aside0.mk (R_drew HO244.out)
        have n4_ := Aside0.mk (R_drew HO251.out)
        have n5_ := Aside0.mk (R_drew HO254.out)
        have n6_ := Aside0.mk (R_drew HO257.out)
        have n7_ := Aside0.mk (blk_drew BK246.out)
        have n8_ := Aside0.mk (blk_drew BK259.out)
        have n9_ := Aside0.mk (below_drew1 HB.out)
        clear HO233
        clear HO238
        clear HO241
        clear HO244
        clear HO251
        clear HO254
        clear HO257
        clear BK246
        clear BK259
        clear HB
        have HO233 := n0_
        have HO238 := n1_
        have HO241 := n2_
        have HO244 := n3_
        have HO251 := n4_
        have HO254 := n5_
        have HO257 := n6_
        have BK246 := n7_
        have BK259 := n8_
        have HB := n9_
        clear n0_ n1_ n2_ n3_ n4_ n5_ n6_ n7_ n8_ n9_
        refine start_ (n := 30) (S := fun w' => w'.cell? ⟨gb246, 0, none⟩ = some (.int .u8 t234) ∧ w'.cell? ⟨gb246, 1, none⟩ = some (.int .u32 t235) ∧ w'.cell? ⟨gb246, 2, none⟩ = some (.slice Ao17 t236.length co17) ∧ w'.cell? ⟨gb246, 3, none⟩ = some (.slice Ao18 t239.length co18) ∧ w'.cell? ⟨gb259, 0, none⟩ = some (.int .u8 t247) ∧ w'.cell? ⟨gb259, 1, none⟩ = some (.int .u32 t248) ∧ w'.cell? ⟨gb259, 2, none⟩ = some (.slice Ao23 t249.length co23) ∧ w'.cell? ⟨gb259, 3, none⟩ = some (.slice Ao24 t252.length co24)) (ds := []) #[false,false,false,false,false,false,false,false,false,false,false,false,false,false,false,false,false,false,false,false,false,false,false,false,false,false,false,false,false,false] (by kernel_rfl) rfl rfl ⟨(blk_cell BK246.out 0).trans rfl, (blk_cell BK246.out 1).trans rfl, (blk_cell BK246.out 2).trans rfl, (blk_cell BK246.out 3).trans rfl, (blk_cell BK259.out 0).trans rfl, (blk_cell BK259.out 1).trans rfl, (blk_cell BK259.out 2).trans rfl, (blk_cell BK259.out 3).trans rfl⟩ (fun hHeld => ?_); refine with_tabW crosswaylaw10_HeadParses.tab8 crosswaylaw10_HeadParses.bits8 (fun HT_ HW_ => ?_)
        generalize w42.drew = w43 at HO233 HO238 HO241 HO244 HO251 HO254 HO257 BK246 BK259 HB hHeld ⊢
        refine pure_ (i := 0) (N := some 34) (v := ?_) (a' := ?_) #[true,false,false,false,false,false,false,false,false,false,false,false,false,false,false,false,false,false,false,false,false,false,false,false,false,false,false,false,false,false] rfl rfl (any_of HT_.out (by kernel_rfl)) (fun _ _ _ h => h) (Or.inl ⟨by rfl, ?_⟩) ?_ ?_
        rotate_left
        ·intro w'; go_simp; with_reducible rfl
        rotate_left
        ·simp only [Act.put, sA, sB, sC, i64_w, i32_w]; rfl
        refine pure_ (i := 1) (N := some 35) (v := ?_) (a' := ?_) #[true,true,false,false,false,false,false,false,false,false,false,false,false,false,false,false,false,false,false,false,false,false,false,false,false,false,false,false,false,false] rfl rfl (any_of HT_.out (by kernel_rfl)) (fun _ _ _ h => h) (Or.inl ⟨by rfl, ?_⟩) ?_ ?_
        rotate_left
        ·intro w'; go_simp; with_reducible rfl
        rotate_left
        ·simp only [Act.put, sA, sB, sC, i64_w, i32_w]; rfl
        refine pure_ (i := 2) (N := some 36) (v := ?_) (a' := ?_) #[true,true,true,false,false,false,false,false,false,false,false,false,false,false,false,false,false,false,false,false,false,false,false,false,false,false,false,false,false,false] rfl rfl (any_of HT_.out (by kernel_rfl)) (fun _ _ _ h => h) (Or.inl ⟨by rfl, ?_⟩) ?_ ?_
        rotate_left
        ·intro w'; go_simp; with_reducible rfl
        rotate_left
        ·simp only [Act.put, sA, sB, sC, i64_w, i32_w]; rfl
        refine pure_ (i := 3) (N := some 37) (v := ?_) (a' := ?_) #[true,true,true,true,false,false,false,false,false,false,false,false,false,false,false,false,false,false,false,false,false,false,false,false,false,false,false,false,false,false] rfl rfl (any_of HT_.out (by kernel_rfl)) (fun _ _ _ h => h) (Or.inl ⟨by rfl, ?_⟩) ?_ ?_
        rotate_left
        ·intro w'; go_simp; with_reducible rfl
        rotate_left
        ·simp only [Act.put, sA, sB, sC, i64_w, i32_w]; rfl
        refine take_ (i := 4) (N := some 38) (v := ?_) (a' := ?_) #[true,true,true,true,true,false,false,false,false,false,false,false,false,false,false,false,false,false,false,false,false,false,false,false,false,false,false,false,false,false] rfl rfl (take_ofW HT_.out HW_.out (by kernel_rfl)) (fun _ _ _ h => h) (Or.inl ⟨by rfl, ?_⟩) hHeld ?_ ?_
        rotate_left
        ·rintro w' ⟨s0, s1, s2, s3, s4, s5, s6, s7⟩; go_simp; with_reducible rfl
        rotate_left
        ·simp only [Act.put, sA, sB, sC, i64_w, i32_w]; rfl
        refine take_ (i := 6) (N := some 40) (v := ?_) (a' := ?_) #[true,true,true,true,true,false,true,false,false,false,false,false,false,false,false,false,false,false,false,false,false,false,false,false,false,false,false,false,false,false] rfl rfl (take_ofW HT_.out HW_.out (by kernel_rfl)) (fun _ _ _ h => h) (Or.inl ⟨by rfl, ?_⟩) hHeld ?_ ?_
        rotate_left
        ·rintro w' ⟨s0, s1, s2, s3, s4, s5, s6, s7⟩; go_simp; with_reducible rfl
        rotate_left
        ·simp only [Act.put, sA, sB, sC, i64_w, i32_w]; rfl
        refine one_ (i := 5) (N := some 39) #[true,true,true,true,true,true,true,false,false,false,false,false,false,false,false,false,false,false,false,false,false,false,false,false,false,false,false,false,false,false] rfl rfl (one_of HT_.out (by kernel_rfl)) (by decide) (fun K hK => ?_)
        refine goes_ Try.func12 (by kernel_rfl) rfl #[.agg #[.int .u8 t234, .int .u32 t235, .slice Ao17 t236.length co17, .slice Ao18 t239.length co18]] (by rfl) rfl rfl (by (try simp only [List.map_toArray, List.map_cons, List.map_nil]); first | done | rfl | (simp only [List.length_drop, List.length_take]; rfl)) ?_
        with_reducible refine (crosswaylaw10_Of.calls t234 t235 _ _ t236 _ _ t239 t260 t261 t262 t265 _ ?side1 ?side2 ?side3 ?side4 A26.out).mono ?_
        (case side1 => repeat (first | exact (R_reads' HO238.out).2.2 | (with_reducible refine C_alloc ?_ _) | (with_reducible refine C_drewN ?_ _) | (with_reducible refine C_drew ?_)))
        (case side2 => exact (R_reads' HO238.out).2.1)
        (case side3 => repeat (first | exact (R_reads' HO241.out).2.2 | (with_reducible refine C_alloc ?_ _) | (with_reducible refine C_drewN ?_ _) | (with_reducible refine C_drew ?_)))
        (case side4 => exact (R_reads' HO241.out).2.1)
        rintro e w44 ⟨v263, v266, rfl, ho0, ho1, hb⟩
        refine ⟨_, rfl, ?_⟩
        have n0_ := Aside0.mk (R_mono (R_told (R_told (R_old (by (with_reducible repeat (first | apply R_alloc | apply R_drewN | apply R_drew)); exact HO233.out) hb) (R_base ho0)) (R_base ho1)) (fun _ h_ => h_.1))
        have n1_ := Aside0.mk (R_mono (R_told (R_told (R_old (by (with_reducible repeat (first | apply R_alloc | apply R_drewN | apply R_drew)); exact HO238.out) hb) (R_base ho0)) (R_base ho1)) (fun _ h_ => h_.1))
        have n2_ := Aside0.mk (R_mono (R_told (R_told (R_old (by (with_reducible repeat (first | apply R_alloc | apply R_drewN | apply R_drew)); exact HO241.out) hb) (R_base ho0)) (R_base ho1)) (fun _ h_ => h_.1))
        have n3_ := Aside0.mk (R_mono (R_told (R_told (R_old (by (with_reducible repeat (first | apply R_alloc | apply R_drewN | apply R_drew)); exact HO244.out) hb) (R_base ho0)) (R_base ho1)) (fun _ h_ => h_.1))
        have n4_ := Aside0.mk (R_mono (R_told (R_told (R_old (by (with_reducible repeat (first | apply R_alloc | apply R_drewN | apply R_drew)); exact HO251.out) hb) (R_base ho0)) (R_base ho1)) (fun _ h_ => h_.1))
        have n5_ := Aside0.mk (R_mono (R_told (R_told (R_old (by (with_reducible repeat (first | apply R_alloc | apply R_drewN | apply R_drew)); exact HO254.out) hb) (R_base ho0)) (R_base ho1)) (fun _ h_ => h_.1))
        have n6_ := Aside0.mk (R_mono (R_told (R_told (R_old (by (with_reducible repeat (first | apply R_alloc | apply R_drewN | apply R_drew)); exact HO257.out) hb) (R_base ho0)) (R_base ho1)) (fun _ h_ => h_.1))
        have n7_ := Aside0.mk (R_lower (R_new' (R_new' (R_new' (R_new' (R_new' (R_new' (R_new' ho0 (R_lt (by (with_reducible repeat (first | apply R_alloc | apply R_drewN | apply R_drew)); exact HO233.out))) (R_lt (by (with_reducible repeat (first | apply R_alloc | apply R_drewN | apply R_drew)); exact HO238.out))) (R_lt (by (with_reducible repeat (first | apply R_alloc | apply R_drewN | apply R_drew)); exact HO241.out))) (R_lt (by (with_reducible repeat (first | apply R_alloc | apply R_drewN | apply R_drew)); exact HO244.out))) (R_lt (by (with_reducible repeat (first | apply R_alloc | apply R_drewN | apply R_drew)); exact HO251.out))) (R_lt (by (with_reducible repeat (first | apply R_alloc | apply R_drewN | apply R_drew)); exact HO254.out))) (R_lt (by (with_reducible repeat (first | apply R_alloc | apply R_drewN | apply R_drew)); exact HO257.out))) (below_size (by repeat (first | (with_reducible first | exact HB.out | apply below_alloc | apply pw_below_drewN | apply below_drew1 | refine below_set ?_ GE246.out | refine below_set ?_ GE259.out) | exact HB.out))))
        have n8_ := Aside0.mk (R_lower (R_new' (R_new' (R_new' (R_new' (R_new' (R_new' (R_new' ho1 (R_lt (by (with_reducible repeat (first | apply R_alloc | apply R_drewN | apply R_drew)); exact HO233.out))) (R_lt (by (with_reducible repeat (first | apply R_alloc | apply R_drewN | apply R_drew)); exact HO238.out))) (R_lt (by (with_reducible repeat (first | apply R_alloc | apply R_drewN | apply R_drew)); exact HO241.out))) (R_lt (by (with_reducible repeat (first | apply R_alloc | apply R_drewN | apply R_drew)); exact HO244.out))) (R_lt (by (with_reducible repeat (first | apply R_alloc | apply R_drewN | apply R_drew)); exact HO251.out))) (R_lt (by (with_reducible repeat (first | apply R_alloc | apply R_drewN | apply R_drew)); exact HO254.out))) (R_lt (by (with_reducible repeat (first | apply R_alloc | apply R_drewN | apply R_drew)); exact HO257.out))) (below_size (by repeat (first | (with_reducible first | exact HB.out | apply below_alloc | apply pw_below_drewN | apply below_drew1 | refine below_set ?_ GE246.out | refine below_set ?_ GE259.out) | exact HB.out))))
        have n9_ := Aside0.mk (blk_below (g := gb246) (o := .cells #[.int .u8 t234, .int .u32 t235, .slice Ao17 t236.length co17, .slice Ao18 t239.length co18] 27 (0, 0)) (by (with_reducible repeat (first | refine blk_drewN ?_ _ | refine blk_drew ?_ | refine blk_alloc ?_ _)); exact BK246.out) hb)
        have n10_ := Aside0.mk (blk_below (g := gb259) (o := .cells #[.int .u8 t247, .int .u32 t248, .slice Ao23 t249.length co23, .slice Ao24 t252.length co24] 31 (0, 0)) (by (with_reducible repeat (first | refine blk_drewN ?_ _ | refine blk_drew ?_ | refine blk_alloc ?_ _)); exact BK259.out) hb)
        have n11_ := Aside0.mk (below_step (by repeat (first | (with_reducible first | exact HB.out | apply below_alloc | apply pw_below_drewN | apply below_drew1 | refine below_set ?_ GE246.out | refine below_set ?_ GE259.out) | exact HB.out)) hb)
        clear HO233
        clear HO238
        clear HO241
        clear HO244
        clear HO251
        clear HO254
        clear HO257
        clear BK246
        clear BK259
        clear HB
        have HO233 := n0_
        have HO238 := n1_
        have HO241 := n2_
        have HO244 := n3_
        have HO251 := n4_
        have HO254 := n5_
        have HO257 := n6_
        have HO264 := n7_
        have HO267 := n8_
        have BK246 := n9_
        have BK259 := n10_
        have HB := n11_
        clear n0_ n1_ n2_ n3_ n4_ n5_ n6_ n7_ n8_ n9_ n10_ n11_
        (try clear hb)
        (try clear hb2)
        (try clear hk)
        (try clear hi)
        (try clear ho0)
        (try clear ho1)
        obtain ⟨Ao45, co45, eo45⟩ := R_slice HO264.out
        (first | subst eo45 | (injection eo45 with f1_ f2_ f3_; have f4_ := f1_.symm; have f5_ := f3_.symm; clear f1_ f2_ f3_; subst f4_; subst f5_))
        obtain ⟨Ao46, co46, eo46⟩ := R_slice HO267.out
        (first | subst eo46 | (injection eo46 with f1_ f2_ f3_; have f4_ := f1_.symm; have f5_ := f3_.symm; clear f1_ f2_ f3_; subst f4_; subst f5_))
        refine hK.out _ _ ⟨(blk_cell BK246.out 0).trans rfl, (blk_cell BK246.out 1).trans rfl, (blk_cell BK246.out 2).trans rfl, (blk_cell BK246.out 3).trans rfl, (blk_cell BK259.out 0).trans rfl, (blk_cell BK259.out 1).trans rfl, (blk_cell BK259.out 2).trans rfl, (blk_cell BK259.out 3).trans rfl⟩ (fun hHeld => ?_)
        clear hK K
        refine norm_ (a' := ?_) ?_ ?_
        rotate_left
        ·show Act.put _ (some 39) _ = _
         simp only [Act.put, sA, sB, sC, i64_w, i32_w]
         rfl
        refine one_ (i := 7) (N := some 41) #[true,true,true,true,true,true,true,true,false,false,false,false,false,false,false,false,false,false,false,false,false,false,false,false,false,false,false,false,false,false] rfl rfl (one_of HT_.out (by kernel_rfl)) (by decide) (fun K hK => ?_)
        refine goes_ Try.func11 (by kernel_rfl) rfl #[.agg #[.int .u8 t260, .int .u32 t261, .slice Ao45 t262.length co45, .slice Ao46 t265.length co46], .agg #[.int .u8 t247, .int .u32 t248, .slice Ao23 t249.length co23, .slice Ao24 t252.length co24]] (by rfl) rfl rfl (by (try simp only [List.map_toArray, List.map_cons, List.map_nil]); first | done | rfl | (simp only [List.length_drop, List.length_take]; rfl)) ?_
        with_reducible refine (crosswayref10_Same.calls t260 t261 _ _ t262 _ _ t265 t247 t248 _ _ t249 _ _ t252 true _ ?side1 ?side2 ?side3 ?side4 ?side5 ?side6 ?side7 ?side8 A27.out).mono ?_
        (case side1 => repeat (first | exact (R_reads' HO264.out).2.2 | (with_reducible refine C_alloc ?_ _) | (with_reducible refine C_drewN ?_ _) | (with_reducible refine C_drew ?_)))
        (case side2 => exact (R_reads' HO264.out).2.1)
        (case side3 => repeat (first | exact (R_reads' HO267.out).2.2 | (with_reducible refine C_alloc ?_ _) | (with_reducible refine C_drewN ?_ _) | (with_reducible refine C_drew ?_)))
        (case side4 => exact (R_reads' HO267.out).2.1)
        (case side5 => repeat (first | exact (R_reads' HO251.out).2.2 | (with_reducible refine C_alloc ?_ _) | (with_reducible refine C_drewN ?_ _) | (with_reducible refine C_drew ?_)))
        (case side6 => exact (R_reads' HO251.out).2.1)
        (case side7 => repeat (first | exact (R_reads' HO254.out).2.2 | (with_reducible refine C_alloc ?_ _) | (with_reducible refine C_drewN ?_ _) | (with_reducible refine C_drew ?_)))
        (case side8 => exact (R_reads' HO254.out).2.1)
        rintro e w47 ⟨rfl, hb⟩
        refine ⟨_, rfl, ?_⟩
        have n0_ := Aside0.mk (R_below (by (with_reducible repeat (first | apply R_alloc | apply R_drewN | apply R_drew)); exact HO233.out) hb)
        have n1_ := Aside0.mk (R_below (by (with_reducible repeat (first | apply R_alloc | apply R_drewN | apply R_drew)); exact HO238.out) hb)
        have n2_ := Aside0.mk (R_below (by (with_reducible repeat (first | apply R_alloc | apply R_drewN | apply R_drew)); exact HO241.out) hb)
        have n3_ := Aside0.mk (R_below (by (with_reducible repeat (first | apply R_alloc | apply R_drewN | apply R_drew)); exact HO244.out) hb)
        have n4_ := Aside0.mk (R_below (by (with_reducible repeat (first | apply R_alloc | apply R_drewN | apply R_drew)); exact HO251.out) hb)
        have n5_ := Aside0.mk (R_below (by (with_reducible repeat (first | apply R_alloc | apply R_drewN | apply R_drew)); exact HO254.out) hb)
        have n6_ := Aside0.mk (R_below (by (with_reducible repeat (first | apply R_alloc | apply R_drewN | apply R_drew)); exact HO257.out) hb)
        have n9_ := Aside0.mk (blk_below (g := gb246) (o := .cells #[.int .u8 t234, .int .u32 t235, .slice Ao17 t236.length co17, .slice Ao18 t239.length co18] 27 (0, 0)) (by (with_reducible repeat (first | refine blk_drewN ?_ _ | refine blk_drew ?_ | refine blk_alloc ?_ _)); exact BK246.out) hb)
        have n10_ := Aside0.mk (blk_below (g := gb259) (o := .cells #[.int .u8 t247, .int .u32 t248, .slice Ao23 t249.length co23, .slice Ao24 t252.length co24] 31 (0, 0)) (by (with_reducible repeat (first | refine blk_drewN ?_ _ | refine blk_drew ?_ | refine blk_alloc ?_ _)); exact BK259.out) hb)
        have n11_ := Aside0.mk (below_step (by repeat (first | (with_reducible first | exact HB.out | apply below_alloc | apply pw_below_drewN | apply below_drew1 | refine below_set ?_ GE246.out | refine below_set ?_ GE259.out) | exact HB.out)) hb)
        clear HO233
        clear HO238
        clear HO241
        clear HO244
        clear HO251
        clear HO254
        clear HO257
        clear BK246
        clear BK259
        clear HB
        have HO233 := n0_
        have HO238 := n1_
        have HO241 := n2_
        have HO244 := n3_
        have HO251 := n4_
        have HO254 := n5_
        have HO257 := n6_
        have BK246 := n9_
        have BK259 := n10_
        have HB := n11_
        clear n0_ n1_ n2_ n3_ n4_ n5_ n6_ n9_ n10_ n11_
        (try clear hb)
        (try clear hb2)
        (try clear hk)
        (try clear hi)
        obtain ⟨Ao48, co48, eo48⟩ := R_slice HO244.out
        (first | subst eo48 | (injection eo48 with f1_ f2_ f3_; have f4_ := f1_.symm; have f5_ := f3_.symm; clear f1_ f2_ f3_; subst f4_; subst f5_))
        obtain ⟨Ao49, co49, eo49⟩ := R_slice HO257.out
        (first | subst eo49 | (injection eo49 with f1_ f2_ f3_; have f4_ := f1_.symm; have f5_ := f3_.symm; clear f1_ f2_ f3_; subst f4_; subst f5_))
        refine hK.out _ _ ⟨(blk_cell BK246.out 0).trans rfl, (blk_cell BK246.out 1).trans rfl, (blk_cell BK246.out 2).trans rfl, (blk_cell BK246.out 3).trans rfl, (blk_cell BK259.out 0).trans rfl, (blk_cell BK259.out 1).trans rfl, (blk_cell BK259.out 2).trans rfl, (blk_cell BK259.out 3).trans rfl⟩ (fun hHeld => ?_)
        clear hK K
        refine norm_ (a' := ?_) ?_ ?_
        rotate_left
        ·show Act.put _ (some 41) _ = _
         simp only [Act.put, sA, sB, sC, i64_w, i32_w]
         rfl
        refine pure_ (i := 8) (N := some 42) (v := ?_) (a' := ?_) #[true,true,true,true,true,true,true,true,true,false,false,false,false,false,false,false,false,false,false,false,false,false,false,false,false,false,false,false,false,false] rfl rfl (any_of HT_.out (by kernel_rfl)) (fun _ _ _ h => h) (Or.inl ⟨by rfl, ?_⟩) ?_ ?_
        rotate_left
        ·intro w'; go_simp; with_reducible rfl
        rotate_left
        ·simp only [Act.put, sA, sB, sC, i64_w, i32_w]; rfl
        refine pure_ (i := 9) (N := some 43) (v := ?_) (a' := ?_) #[true,true,true,true,true,true,true,true,true,true,false,false,false,false,false,false,false,false,false,false,false,false,false,false,false,false,false,false,false,false] rfl rfl (any_of HT_.out (by kernel_rfl)) (fun _ _ _ h => h) (Or.inl ⟨by rfl, ?_⟩) ?_ ?_
        rotate_left
        ·intro w'; go_simp; with_reducible rfl
        rotate_left
        ·simp only [Act.put, sA, sB, sC, i64_w, i32_w]; rfl
        refine pure_ (i := 10) (N := some 44) (v := ?_) (a' := ?_) #[true,true,true,true,true,true,true,true,true,true,true,false,false,false,false,false,false,false,false,false,false,false,false,false,false,false,false,false,false,false] rfl rfl (any_of HT_.out (by kernel_rfl)) (fun _ _ _ h => h) (Or.inl ⟨by rfl, ?_⟩) ?_ ?_
        rotate_left
        ·intro w'; go_simp; with_reducible rfl
        rotate_left
        ·simp only [Act.put, sA, sB, sC, i64_w, i32_w]; rfl
        refine pure_ (i := 11) (N := some 45) (v := ?_) (a' := ?_) #[true,true,true,true,true,true,true,true,true,true,true,true,false,false,false,false,false,false,false,false,false,false,false,false,false,false,false,false,false,false] rfl rfl (any_of HT_.out (by kernel_rfl)) (fun _ _ _ h => h) (Or.inl ⟨by rfl, ?_⟩) ?_ ?_
        rotate_left
        ·intro w'; go_simp; with_reducible rfl
        rotate_left
        ·simp only [Act.put, sA, sB, sC, i64_w, i32_w]; rfl
        refine pure_ (i := 12) (N := some 46) (v := ?_) (a' := ?_) #[true,true,true,true,true,true,true,true,true,true,true,true,true,false,false,false,false,false,false,false,false,false,false,false,false,false,false,false,false,false] rfl rfl (any_of HT_.out (by kernel_rfl)) (fun _ _ _ h => h) (Or.inl ⟨by rfl, ?_⟩) ?_ ?_
        rotate_left
        ·intro w'; go_simp; with_reducible rfl
        rotate_left
        ·simp only [Act.put, sA, sB, sC, i64_w, i32_w]; rfl
        refine one_ (i := 13) (N := some 47) #[true,true,true,true,true,true,true,true,true,true,true,true,true,true,false,false,false,false,false,false,false,false,false,false,false,false,false,false,false,false] rfl rfl (one_of HT_.out (by kernel_rfl)) (by decide) (fun K hK => ?_)
        refine goes_ Try.func13 (by kernel_rfl) rfl #[.slice Ao48 t242.length co48, .slice Ao49 t255.length co49] (by rfl) rfl rfl (by (try simp only [List.map_toArray, List.map_cons, List.map_nil]); first | done | rfl | (simp only [List.length_drop, List.length_take]; rfl)) ?_
        with_reducible refine (crosswayref00_SameBytes.calls k _ _ t242 _ _ t255 true _ ?side1 ?side2 ?side3 ?side4 A29.out).mono ?_
        (case side1 => repeat (first | exact (R_reads' HO244.out).2.2 | (with_reducible refine C_alloc ?_ _) | (with_reducible refine C_drewN ?_ _) | (with_reducible refine C_drew ?_)))
        (case side2 => exact (R_reads' HO244.out).2.1)
        (case side3 => repeat (first | exact (R_reads' HO257.out).2.2 | (with_reducible refine C_alloc ?_ _) | (with_reducible refine C_drewN ?_ _) | (with_reducible refine C_drew ?_)))
        (case side4 => exact (R_reads' HO257.out).2.1)
        rintro e w' ⟨rfl, ⟨nd, rfl⟩⟩
        refine ⟨_, rfl, ?_⟩
        refine hK.out _ _ ⟨(blk_cell BK246.out 0).trans rfl, (blk_cell BK246.out 1).trans rfl, (blk_cell BK246.out 2).trans rfl, (blk_cell BK246.out 3).trans rfl, (blk_cell BK259.out 0).trans rfl, (blk_cell BK259.out 1).trans rfl, (blk_cell BK259.out 2).trans rfl, (blk_cell BK259.out 3).trans rfl⟩ (fun hHeld => ?_)
        clear hK K
        refine norm_ (a' := ?_) ?_ ?_
        rotate_left
        ·show Act.put _ (some 47) _ = _
         simp only [Act.put, sA, sB, sC, i64_w, i32_w]
         rfl
        refine pure_ (i := 14) (N := some 48) (v := ?_) (a' := ?_) #[true,true,true,true,true,true,true,true,true,true,true,true,true,true,true,false,false,false,false,false,false,false,false,false,false,false,false,false,false,false] rfl rfl (any_of HT_.out (by kernel_rfl)) (fun _ _ _ h => h) (Or.inl ⟨by rfl, ?_⟩) ?_ ?_
        rotate_left
        ·intro w'; go_simp; with_reducible rfl
        rotate_left
        ·simp only [Act.put, sA, sB, sC, i64_w, i32_w]; rfl
        refine pure_ (i := 15) (N := some 49) (v := ?_) (a' := ?_) #[true,true,true,true,true,true,true,true,true,true,true,true,true,true,true,true,false,false,false,false,false,false,false,false,false,false,false,false,false,false] rfl rfl (any_of HT_.out (by kernel_rfl)) (fun _ _ _ h => h) (Or.inl ⟨by rfl, ?_⟩) ?_ ?_
        rotate_left
        ·intro w'; go_simp; with_reducible rfl
        rotate_left
        ·simp only [Act.put, sA, sB, sC, i64_w, i32_w]; rfl
        refine pure_ (i := 16) (N := some 50) (v := ?_) (a' := ?_) #[true,true,true,true,true,true,true,true,true,true,true,true,true,true,true,true,true,false,false,false,false,false,false,false,false,false,false,false,false,false] rfl rfl (any_of HT_.out (by kernel_rfl)) (fun _ _ _ h => h) (Or.inl ⟨by rfl, ?_⟩) ?_ ?_
        rotate_left
        ·intro w'; go_simp; with_reducible rfl
        rotate_left
        ·simp only [Act.put, sA, sB, sC, i64_w, i32_w]; rfl
        refine pure_ (i := 17) (N := some 51) (v := ?_) (a' := ?_) #[true,true,true,true,true,true,true,true,true,true,true,true,true,true,true,true,true,true,false,false,false,false,false,false,false,false,false,false,false,false] rfl rfl (any_of HT_.out (by kernel_rfl)) (fun _ _ _ h => h) (Or.inl ⟨by rfl, ?_⟩) ?_ ?_
        rotate_left
        ·intro w'; go_simp; with_reducible rfl
        rotate_left
        ·simp only [Act.put, sA, sB, sC, i64_w, i32_w]; rfl
        refine pure_ (i := 19) (N := some 53) (v := ?_) (a' := ?_) #[true,true,true,true,true,true,true,true,true,true,true,true,true,true,true,true,true,true,false,true,false,false,false,false,false,false,false,false,false,false] rfl rfl (any_of HT_.out (by kernel_rfl)) (fun _ _ _ h => h) (Or.inl ⟨by rfl, ?_⟩) ?_ ?_
        rotate_left
        ·intro w'; go_simp; with_reducible rfl
        rotate_left
        ·simp only [Act.put, sA, sB, sC, i64_w, i32_w]; rfl
        refine pure_ (i := 20) (N := some 54) (v := ?_) (a' := ?_) #[true,true,true,true,true,true,true,true,true,true,true,true,true,true,true,true,true,true,false,true,true,false,false,false,false,false,false,false,false,false] rfl rfl (any_of HT_.out (by kernel_rfl)) (fun _ _ _ h => h) (Or.inl ⟨by rfl, ?_⟩) ?_ ?_
        rotate_left
        ·intro w'; go_simp; with_reducible rfl
        rotate_left
        ·simp only [Act.put, sA, sB, sC, i64_w, i32_w]; rfl
        refine pure_ (i := 21) (N := some 55) (v := ?_) (a' := ?_) #[true,true,true,true,true,true,true,true,true,true,true,true,true,true,true,true,true,true,false,true,true,true,false,false,false,false,false,false,false,false] rfl rfl (any_of HT_.out (by kernel_rfl)) (fun _ _ _ h => h) (Or.inl ⟨by rfl, ?_⟩) ?_ ?_
        rotate_left
        ·intro w'; go_simp; with_reducible rfl
        rotate_left
        ·simp only [Act.put, sA, sB, sC, i64_w, i32_w]; rfl
        refine one_ (i := 18) (N := some 52) #[true,true,true,true,true,true,true,true,true,true,true,true,true,true,true,true,true,true,true,true,true,true,false,false,false,false,false,false,false,false] rfl rfl (one_of HT_.out (by kernel_rfl)) (by decide) (fun K hK => ?_)
        refine goes_ Try.func14 (by kernel_rfl) rfl #[.slice Ao13 t231.length co13] (by rfl) rfl rfl (by (try simp only [List.map_toArray, List.map_cons, List.map_nil]); first | done | rfl | (simp only [List.length_drop, List.length_take]; rfl)) ?_
        with_reducible refine (head_Long.calls _ _ t231 t270 _ ?side1 ?side2 A31.out).mono ?_
        (case side1 => repeat (first | exact (R_reads' HO233.out).2.2 | (with_reducible refine C_alloc ?_ _) | (with_reducible refine C_drewN ?_ _) | (with_reducible refine C_drew ?_)))
        (case side2 => exact (R_reads' HO233.out).2.1)
        rintro e w' ⟨rfl, ⟨nd, rfl⟩⟩
        refine ⟨_, rfl, ?_⟩
        refine hK.out _ _ ⟨(blk_cell BK246.out 0).trans rfl, (blk_cell BK246.out 1).trans rfl, (blk_cell BK246.out 2).trans rfl, (blk_cell BK246.out 3).trans rfl, (blk_cell BK259.out 0).trans rfl, (blk_cell BK259.out 1).trans rfl, (blk_cell BK259.out 2).trans rfl, (blk_cell BK259.out 3).trans rfl⟩ (fun hHeld => ?_)
        clear hK K
        refine norm_ (a' := ?_) ?_ ?_
        rotate_left
        ·show Act.put _ (some 52) _ = _
         simp only [Act.put, sA, sB, sC, i64_w, i32_w]
         rfl
        refine pure_ (i := 22) (N := some 56) (v := ?_) (a' := ?_) #[true,true,true,true,true,true,true,true,true,true,true,true,true,true,true,true,true,true,true,true,true,true,true,false,false,false,false,false,false,false] rfl rfl (any_of HT_.out (by kernel_rfl)) (fun _ _ _ h => h) (Or.inl ⟨by rfl, ?_⟩) ?_ ?_
        rotate_left
        ·intro w'; go_simp; with_reducible rfl
        rotate_left
        ·simp only [Act.put, sA, sB, sC, i64_w, i32_w]; rfl
        refine pure_ (i := 23) (N := some 57) (v := undef) (a' := ?_) #[true,true,true,true,true,true,true,true,true,true,true,true,true,true,true,true,true,true,true,true,true,true,true,true,false,false,false,false,false,false] rfl rfl (any_of HT_.out (by kernel_rfl)) (fun _ _ _ h => h) (Or.inr ⟨by rfl, rfl⟩) ?_ ?_
        rotate_left
        ·simp only [Act.put, sA, sB, sC, i64_w, i32_w]; rfl
        refine pure_ (i := 24) (N := some 58) (v := undef) (a' := ?_) #[true,true,true,true,true,true,true,true,true,true,true,true,true,true,true,true,true,true,true,true,true,true,true,true,true,false,false,false,false,false] rfl rfl (any_of HT_.out (by kernel_rfl)) (fun _ _ _ h => h) (Or.inr ⟨by rfl, rfl⟩) ?_ ?_
        rotate_left
        ·simp only [Act.put, sA, sB, sC, i64_w, i32_w]; rfl
        refine pure_ (i := 25) (N := some 59) (v := undef) (a' := ?_) #[true,true,true,true,true,true,true,true,true,true,true,true,true,true,true,true,true,true,true,true,true,true,true,true,true,true,false,false,false,false] rfl rfl (any_of HT_.out (by kernel_rfl)) (fun _ _ _ h => h) (Or.inr ⟨by rfl, rfl⟩) ?_ ?_
        rotate_left
        ·simp only [Act.put, sA, sB, sC, i64_w, i32_w]; rfl
        refine pure_ (i := 26) (N := some 60) (v := undef) (a' := ?_) #[true,true,true,true,true,true,true,true,true,true,true,true,true,true,true,true,true,true,true,true,true,true,true,true,true,true,true,false,false,false] rfl rfl (any_of HT_.out (by kernel_rfl)) (fun _ _ _ h => h) (Or.inr ⟨by rfl, rfl⟩) ?_ ?_
        rotate_left
        ·simp only [Act.put, sA, sB, sC, i64_w, i32_w]; rfl
        refine pure_ (i := 27) (N := some 61) (v := ?_) (a' := ?_) #[true,true,true,true,true,true,true,true,true,true,true,true,true,true,true,true,true,true,true,true,true,true,true,true,true,true,true,true,false,false] rfl rfl (any_of HT_.out (by kernel_rfl)) (fun _ _ _ h => h) (Or.inl ⟨by rfl, ?_⟩) ?_ ?_
        rotate_left
        ·intro w'; go_simp; with_reducible rfl
        rotate_left
        ·simp only [Act.put, sA, sB, sC, i64_w, i32_w]; rfl
        refine pure_ (i := 28) (N := some 62) (v := ?_) (a' := ?_) #[true,true,true,true,true,true,true,true,true,true,true,true,true,true,true,true,true,true,true,true,true,true,true,true,true,true,true,true,true,false] rfl rfl (any_of HT_.out (by kernel_rfl)) (fun _ _ _ h => h) (Or.inl ⟨by rfl, ?_⟩) ?_ ?_
        rotate_left
        ·intro w'; go_simp; with_reducible rfl
        rotate_left
        ·simp only [Act.put, sA, sB, sC, i64_w, i32_w]; rfl
        refine pure_ (i := 29) (N := some 63) (v := ?_) (a' := ?_) #[true,true,true,true,true,true,true,true,true,true,true,true,true,true,true,true,true,true,true,true,true,true,true,true,true,true,true,true,true,true] rfl rfl (any_of HT_.out (by kernel_rfl)) (fun _ _ _ h => h) (Or.inl ⟨by rfl, ?_⟩) ?_ ?_
        rotate_left
        ·intro w'; go_simp; with_reducible rfl
        rotate_left
        ·simp only [Act.put, sA, sB, sC, i64_w, i32_w]; rfl
        refine done_ (done_of HT_.out (by kernel_rfl)) ?_
        try go_wp2
        go_meet
        case rel => exact ⟨_, ((t270 != false)), (by first | rfl | (simp; done) | (simp [*]; done) | (simp only [i64_w]; done) | (simp [i64_w]; done)), H', ⟨by first | omega | exact Nat.le_refl _⟩, ⟨by (with_reducible repeat (first | apply R_alloc | apply R_drewN | apply R_drew)); exact R_mono HO233.out (fun _ hk => ⟨hk.1.1.2.2.1, ⟨hk.1.1.1, ⟨hk.1.1.2.1, ⟨hk.1.1.2.2.2.1, hk.1.1.2.2.2.2.1⟩⟩⟩⟩)⟩, ⟨by (with_reducible repeat (first | apply R_alloc | apply R_drewN | apply R_drew)); exact R_mono HO244.out (fun _ hk => ⟨hk.1.1.1, ⟨hk.1.1.2.1, ⟨hk.1.1.2.2.1, ⟨hk.1.1.2.2.2.1, hk.1.1.2.2.2.2.1⟩⟩⟩⟩)⟩, ⟨by (with_reducible repeat (first | apply R_alloc | apply R_drewN | apply R_drew)); exact R_mono HO238.out (fun _ hk => ⟨hk.1.1.1, ⟨hk.1.1.2.2.1, ⟨hk.1.1.2.1, ⟨hk.1.1.2.2.2.1, hk.1.1.2.2.2.2.1⟩⟩⟩⟩)⟩, ⟨by (with_reducible repeat (first | apply R_alloc | apply R_drewN | apply R_drew)); exact R_mono HO241.out (fun _ hk => ⟨hk.1.1.1, ⟨hk.1.1.2.2.1, ⟨hk.1.1.2.1, ⟨hk.1.1.2.2.2.1, hk.1.1.2.2.2.2.1⟩⟩⟩⟩)⟩, ⟨by (with_reducible repeat (first | apply R_alloc | apply R_drewN | apply R_drew)); exact R_mono HO251.out (fun _ hk => ⟨hk.1.1.1, ⟨hk.1.1.2.2.2.1, ⟨hk.1.1.2.1, ⟨hk.1.1.2.2.1, hk.1.1.2.2.2.2.1⟩⟩⟩⟩)⟩, ⟨by (with_reducible repeat (first | apply R_alloc | apply R_drewN | apply R_drew)); exact R_mono HO254.out (fun _ hk => ⟨hk.1.1.1, ⟨hk.1.1.2.2.2.1, ⟨hk.1.1.2.1, ⟨hk.1.1.2.2.1, hk.1.1.2.2.2.2.1⟩⟩⟩⟩)⟩, ⟨by (with_reducible repeat (first | refine blk_drewN ?_ _ | refine blk_drew ?_ | refine blk_alloc ?_ _)); exact BK246.out⟩, ⟨by (with_reducible repeat (first | refine blk_drewN ?_ _ | refine blk_drew ?_ | refine blk_alloc ?_ _)); exact BK259.out⟩, ⟨by repeat (first | (with_reducible first | exact HB.out | apply below_alloc | apply pw_below_drewN | apply below_drew1 | refine below_set ?_ GE246.out | refine below_set ?_ GE259.out) | exact HB.out)⟩⟩
      ·replace c30 := Bool.eq_false_iff.mpr c30
       subst c30
       have H1 : (crosswaylaw10_HeadParses.j0 k l0 a1 t231 t242 true) = some r := by rw [if_neg (show ¬ (false = true) by decide)] at H; exact H
       clear H
       have H := H1
       clear H1
       have H' := Aside0.mk H
       clear H
       try go_wp2
       have n0_ : Aside0 (Kd.R (Kd.int .u8) 5 ((((w20.setCell ⟨gb259, 0, none⟩ (.int .u8 t247)).setCell ⟨gb259, 1, none⟩ (.int .u32 t248)).setCell ⟨gb259, 2, none⟩ (.slice Ao23 t249.length co23)).setCell ⟨gb259, 3, none⟩ (.slice Ao24 t252.length co24)) w.heap.size (fun k_ => some k_ ≠ (.slice Ao17 t236.length co17 : Value).ownBlock ∧ some k_ ≠ (.slice Ao18 t239.length co18 : Value).ownBlock ∧ some k_ ≠ (v243 : Value).ownBlock ∧ some k_ ≠ (.slice Ao23 t249.length co23 : Value).ownBlock ∧ some k_ ≠ (.slice Ao24 t252.length co24 : Value).ownBlock ∧ some k_ ≠ (v256 : Value).ownBlock) (.slice Ao13 t231.length co13) t231) := ⟨by (with_reducible repeat (first | apply R_alloc | apply R_drewN | apply R_drew)); exact R_mono (R_far (p := ⟨gb259, 3, none⟩) (R_far (p := ⟨gb259, 2, none⟩) (R_far (p := ⟨gb259, 1, none⟩) (R_far (p := ⟨gb259, 0, none⟩) (R_types HO233.out BK259.out (by decide)) (fun _ hk => hk.2) (.int .u8 t247)) (fun _ hk => hk.2) (.int .u32 t248)) (fun _ hk => hk.2) (.slice Ao23 t249.length co23)) (fun _ hk => hk.2) (.slice Ao24 t252.length co24)) (fun _ hk => ⟨hk.1.1.1.1.1.1.2, ⟨hk.1.1.1.1.1.2, ⟨hk.1.1.1.1.2, ⟨hk.1.1.1.2, ⟨hk.1.1.2, hk.1.2⟩⟩⟩⟩⟩)⟩
       have n1_ : Aside0 (Kd.R (Kd.int .u8) 5 ((((w20.setCell ⟨gb259, 0, none⟩ (.int .u8 t247)).setCell ⟨gb259, 1, none⟩ (.int .u32 t248)).setCell ⟨gb259, 2, none⟩ (.slice Ao23 t249.length co23)).setCell ⟨gb259, 3, none⟩ (.slice Ao24 t252.length co24)) w.heap.size (fun k_ => some k_ ≠ (.slice Ao13 t231.length co13 : Value).ownBlock ∧ some k_ ≠ (.slice Ao18 t239.length co18 : Value).ownBlock ∧ some k_ ≠ (v243 : Value).ownBlock ∧ some k_ ≠ (.slice Ao23 t249.length co23 : Value).ownBlock ∧ some k_ ≠ (.slice Ao24 t252.length co24 : Value).ownBlock ∧ some k_ ≠ (v256 : Value).ownBlock) (.slice Ao17 t236.length co17) t236) := ⟨by (with_reducible repeat (first | apply R_alloc | apply R_drewN | apply R_drew)); exact R_mono (R_far (p := ⟨gb259, 3, none⟩) (R_far (p := ⟨gb259, 2, none⟩) (R_far (p := ⟨gb259, 1, none⟩) (R_far (p := ⟨gb259, 0, none⟩) (R_types HO238.out BK259.out (by decide)) (fun _ hk => hk.2) (.int .u8 t247)) (fun _ hk => hk.2) (.int .u32 t248)) (fun _ hk => hk.2) (.slice Ao23 t249.length co23)) (fun _ hk => hk.2) (.slice Ao24 t252.length co24)) (fun _ hk => ⟨hk.1.1.1.1.2, ⟨hk.1.1.1.1.1.1, ⟨hk.1.1.1.1.1.2, ⟨hk.1.1.1.2, ⟨hk.1.1.2, hk.1.2⟩⟩⟩⟩⟩)⟩
       have n2_ : Aside0 (Kd.R (Kd.int .u8) 5 ((((w20.setCell ⟨gb259, 0, none⟩ (.int .u8 t247)).setCell ⟨gb259, 1, none⟩ (.int .u32 t248)).setCell ⟨gb259, 2, none⟩ (.slice Ao23 t249.length co23)).setCell ⟨gb259, 3, none⟩ (.slice Ao24 t252.length co24)) w.heap.size (fun k_ => some k_ ≠ (.slice Ao13 t231.length co13 : Value).ownBlock ∧ some k_ ≠ (.slice Ao17 t236.length co17 : Value).ownBlock ∧ some k_ ≠ (v243 : Value).ownBlock ∧ some k_ ≠ (.slice Ao23 t249.length co23 : Value).ownBlock ∧ some k_ ≠ (.slice Ao24 t252.length co24 : Value).ownBlock ∧ some k_ ≠ (v256 : Value).ownBlock) (.slice Ao18 t239.length co18) t239) := ⟨by (with_reducible repeat (first | apply R_alloc | apply R_drewN | apply R_drew)); exact R_mono (R_far (p := ⟨gb259, 3, none⟩) (R_far (p := ⟨gb259, 2, none⟩) (R_far (p := ⟨gb259, 1, none⟩) (R_far (p := ⟨gb259, 0, none⟩) (R_types HO241.out BK259.out (by decide)) (fun _ hk => hk.2) (.int .u8 t247)) (fun _ hk => hk.2) (.int .u32 t248)) (fun _ hk => hk.2) (.slice Ao23 t249.length co23)) (fun _ hk => hk.2) (.slice Ao24 t252.length co24)) (fun _ hk => ⟨hk.1.1.1.1.2, ⟨hk.1.1.1.1.1.1, ⟨hk.1.1.1.1.1.2, ⟨hk.1.1.1.2, ⟨hk.1.1.2, hk.1.2⟩⟩⟩⟩⟩)⟩
       have n3_ : Aside0 (Kd.R (Kd.int .u8) 5 ((((w20.setCell ⟨gb259, 0, none⟩ (.int .u8 t247)).setCell ⟨gb259, 1, none⟩ (.int .u32 t248)).setCell ⟨gb259, 2, none⟩ (.slice Ao23 t249.length co23)).setCell ⟨gb259, 3, none⟩ (.slice Ao24 t252.length co24)) w.heap.size (fun k_ => some k_ ≠ (.slice Ao13 t231.length co13 : Value).ownBlock ∧ some k_ ≠ (.slice Ao17 t236.length co17 : Value).ownBlock ∧ some k_ ≠ (.slice Ao18 t239.length co18 : Value).ownBlock ∧ some k_ ≠ (.slice Ao23 t249.length co23 : Value).ownBlock ∧ some k_ ≠ (.slice Ao24 t252.length co24 : Value).ownBlock ∧ some k_ ≠ (v256 : Value).ownBlock) v243 t242) := ⟨by (with_reducible repeat (first | apply R_alloc | apply R_drewN | apply R_drew)); exact R_mono (R_far (p := ⟨gb259, 3, none⟩) (R_far (p := ⟨gb259, 2, none⟩) (R_far (p := ⟨gb259, 1, none⟩) (R_far (p := ⟨gb259, 0, none⟩) (R_types HO244.out BK259.out (by decide)) (fun _ hk => hk.2) (.int .u8 t247)) (fun _ hk => hk.2) (.int .u32 t248)) (fun _ hk => hk.2) (.slice Ao23 t249.length co23)) (fun _ hk => hk.2) (.slice Ao24 t252.length co24)) (fun _ hk => ⟨hk.1.1.1.1.2, ⟨hk.1.1.1.1.1.1, ⟨hk.1.1.1.1.1.2, ⟨hk.1.1.1.2, ⟨hk.1.1.2, hk.1.2⟩⟩⟩⟩⟩)⟩
       have n4_ : Aside0 (Kd.R (Kd.int .u8) 5 ((((w20.setCell ⟨gb259, 0, none⟩ (.int .u8 t247)).setCell ⟨gb259, 1, none⟩ (.int .u32 t248)).setCell ⟨gb259, 2, none⟩ (.slice Ao23 t249.length co23)).setCell ⟨gb259, 3, none⟩ (.slice Ao24 t252.length co24)) w.heap.size (fun k_ => some k_ ≠ (.slice Ao13 t231.length co13 : Value).ownBlock ∧ some k_ ≠ (.slice Ao17 t236.length co17 : Value).ownBlock ∧ some k_ ≠ (.slice Ao18 t239.length co18 : Value).ownBlock ∧ some k_ ≠ (v243 : Value).ownBlock ∧ some k_ ≠ (.slice Ao24 t252.length co24 : Value).ownBlock ∧ some k_ ≠ (v256 : Value).ownBlock) (.slice Ao23 t249.length co23) t249) := ⟨by (with_reducible repeat (first | apply R_alloc | apply R_drewN | apply R_drew)); exact R_mono (R_far (p := ⟨gb259, 3, none⟩) (R_far (p := ⟨gb259, 2, none⟩) (R_far (p := ⟨gb259, 1, none⟩) (R_far (p := ⟨gb259, 0, none⟩) (R_types HO251.out BK259.out (by decide)) (fun _ hk => hk.2) (.int .u8 t247)) (fun _ hk => hk.2) (.int .u32 t248)) (fun _ hk => hk.2) (.slice Ao23 t249.length co23)) (fun _ hk => hk.2) (.slice Ao24 t252.length co24)) (fun _ hk => ⟨hk.1.1.1.1.2, ⟨hk.1.1.1.2, ⟨hk.1.1.2, ⟨hk.1.2, ⟨hk.1.1.1.1.1.1, hk.1.1.1.1.1.2⟩⟩⟩⟩⟩)⟩
       have n5_ : Aside0 (Kd.R (Kd.int .u8) 5 ((((w20.setCell ⟨gb259, 0, none⟩ (.int .u8 t247)).setCell ⟨gb259, 1, none⟩ (.int .u32 t248)).setCell ⟨gb259, 2, none⟩ (.slice Ao23 t249.length co23)).setCell ⟨gb259, 3, none⟩ (.slice Ao24 t252.length co24)) w.heap.size (fun k_ => some k_ ≠ (.slice Ao13 t231.length co13 : Value).ownBlock ∧ some k_ ≠ (.slice Ao17 t236.length co17 : Value).ownBlock ∧ some k_ ≠ (.slice Ao18 t239.length co18 : Value).ownBlock ∧ some k_ ≠ (v243 : Value).ownBlock ∧ some k_ ≠ (.slice Ao23 t249.length co23 : Value).ownBlock ∧ some k_ ≠ (v256 : Value).ownBlock) (.slice Ao24 t252.length co24) t252) := ⟨by (with_reducible repeat (first | apply R_alloc | apply R_drewN | apply R_drew)); exact R_mono (R_far (p := ⟨gb259, 3, none⟩) (R_far (p := ⟨gb259, 2, none⟩) (R_far (p := ⟨gb259, 1, none⟩) (R_far (p := ⟨gb259, 0, none⟩) (R_types HO254.out BK259.out (by decide)) (fun _ hk => hk.2) (.int .u8 t247)) (fun _ hk => hk.2) (.int .u32 t248)) (fun _ hk => hk.2) (.slice Ao23 t249.length co23)) (fun _ hk => hk.2) (.slice Ao24 t252.length co24)) (fun _ hk => ⟨hk.1.1.1.1.2, ⟨hk.1.1.1.2, ⟨hk.1.1.2, ⟨hk.1.2, ⟨hk.1.1.1.1.1.1, hk.1.1.1.1.1.2⟩⟩⟩⟩⟩)⟩
       have n6_ : Aside0 (Kd.R (Kd.int .u8) 5 ((((w20.setCell ⟨gb259, 0, none⟩ (.int .u8 t247)).setCell ⟨gb259, 1, none⟩ (.int .u32 t248)).setCell ⟨gb259, 2, none⟩ (.slice Ao23 t249.length co23)).setCell ⟨gb259, 3, none⟩ (.slice Ao24 t252.length co24)) w.heap.size (fun k_ => some k_ ≠ (.slice Ao13 t231.length co13 : Value).ownBlock ∧ some k_ ≠ (.slice Ao17 t236.length co17 : Value).ownBlock ∧ some k_ ≠ (.slice Ao18 t239.length co18 : Value).ownBlock ∧ some k_ ≠ (v243 : Value).ownBlock ∧ some k_ ≠ (.slice Ao23 t249.length co23 : Value).ownBlock ∧ some k_ ≠ (.slice Ao24 t252.length co24 : Value).ownBlock) v256 t255) := ⟨by (with_reducible repeat (first | apply R_alloc | apply R_drewN | apply R_drew)); exact R_mono (R_far (p := ⟨gb259, 3, none⟩) (R_far (p := ⟨gb259, 2, none⟩) (R_far (p := ⟨gb259, 1, none⟩) (R_far (p := ⟨gb259, 0, none⟩) (R_types HO257.out BK259.out (by decide)) (fun _ hk => hk.2) (.int .u8 t247)) (fun _ hk => hk.2) (.int .u32 t248)) (fun _ hk => hk.2) (.slice Ao23 t249.length co23)) (fun _ hk => hk.2) (.slice Ao24 t252.length co24)) (fun _ hk => ⟨hk.1.1.1.1.2, ⟨hk.1.1.1.2, ⟨hk.1.1.2, ⟨hk.1.2, ⟨hk.1.1.1.1.1.1, hk.1.1.1.1.1.2⟩⟩⟩⟩⟩)⟩
       have n7_ : Aside0 (((((w20.setCell ⟨gb259, 0, none⟩ (.int .u8 t247)).setCell ⟨gb259, 1, none⟩ (.int .u32 t248)).setCell ⟨gb259, 2, none⟩ (.slice Ao23 t249.length co23)).setCell ⟨gb259, 3, none⟩ (.slice Ao24 t252.length co24)).heap[gb246]? = some (.cells #[.int .u8 t234, .int .u32 t235, .slice Ao17 t236.length co17, .slice Ao18 t239.length co18] 27 (0, 0))) := ⟨by (with_reducible repeat (first | refine blk_drewN ?_ _ | refine blk_drew ?_ | refine blk_alloc ?_ _)); refine blk_far ?_ NB246_259.out _; (with_reducible repeat (first | refine blk_drewN ?_ _ | refine blk_drew ?_ | refine blk_alloc ?_ _)); refine blk_far ?_ NB246_259.out _; (with_reducible repeat (first | refine blk_drewN ?_ _ | refine blk_drew ?_ | refine blk_alloc ?_ _)); refine blk_far ?_ NB246_259.out _; (with_reducible repeat (first | refine blk_drewN ?_ _ | refine blk_drew ?_ | refine blk_alloc ?_ _)); refine blk_far ?_ NB246_259.out _; (with_reducible repeat (first | refine blk_drewN ?_ _ | refine blk_drew ?_ | refine blk_alloc ?_ _)); exact BK246.out⟩
       have n8_ : Aside0 (((((w20.setCell ⟨gb259, 0, none⟩ (.int .u8 t247)).setCell ⟨gb259, 1, none⟩ (.int .u32 t248)).setCell ⟨gb259, 2, none⟩ (.slice Ao23 t249.length co23)).setCell ⟨gb259, 3, none⟩ (.slice Ao24 t252.length co24)).heap[gb259]? = some (.cells #[.int .u8 t247, .int .u32 t248, .slice Ao23 t249.length co23, .slice Ao24 t252.length co24] 31 (0, 0))) := ⟨by (with_reducible repeat (first | refine blk_drewN ?_ _ | refine blk_drew ?_ | refine blk_alloc ?_ _)); refine blk_put (cs := #[.int .u8 t247, .int .u32 t248, .slice Ao23 t249.length co23, .slice none 0 0]) ?_ 3 _ rfl; (with_reducible repeat (first | refine blk_drewN ?_ _ | refine blk_drew ?_ | refine blk_alloc ?_ _)); refine blk_put (cs := #[.int .u8 t247, .int .u32 t248, .slice none 0 0, .slice none 0 0]) ?_ 2 _ rfl; (with_reducible repeat (first | refine blk_drewN ?_ _ | refine blk_drew ?_ | refine blk_alloc ?_ _)); refine blk_put (cs := #[.int .u8 t247, .int .u32 0, .slice none 0 0, .slice none 0 0]) ?_ 1 _ rfl; (with_reducible repeat (first | refine blk_drewN ?_ _ | refine blk_drew ?_ | refine blk_alloc ?_ _)); refine blk_put (cs := #[.int .u8 0, .int .u32 0, .slice none 0 0, .slice none 0 0]) ?_ 0 _ rfl; (with_reducible repeat (first | refine blk_drewN ?_ _ | refine blk_drew ?_ | refine blk_alloc ?_ _)); exact BK259.out⟩
       have n9_ : Aside0 (Below w.heap.size w ((((w20.setCell ⟨gb259, 0, none⟩ (.int .u8 t247)).setCell ⟨gb259, 1, none⟩ (.int .u32 t248)).setCell ⟨gb259, 2, none⟩ (.slice Ao23 t249.length co23)).setCell ⟨gb259, 3, none⟩ (.slice Ao24 t252.length co24))) := ⟨by repeat (first | (with_reducible first | exact HB.out | apply below_alloc | apply pw_below_drewN | apply below_drew1 | refine below_set ?_ GE246.out | refine below_set ?_ GE259.out) | exact HB.out)⟩
       (try clear HO233)
       (try clear HO238)
       (try clear HO241)
       (try clear HO244)
       (try clear HO251)
       (try clear HO254)
       (try clear HO257)
       (try clear BK246)
       (try clear BK259)
       (try clear HB)
       generalize ((((w20.setCell ⟨gb259, 0, none⟩ (.int .u8 t247)).setCell ⟨gb259, 1, none⟩ (.int .u32 t248)).setCell ⟨gb259, 2, none⟩ (.slice Ao23 t249.length co23)).setCell ⟨gb259, 3, none⟩ (.slice Ao24 t252.length co24)) = w50 at n0_ n1_ n2_ n3_ n4_ n5_ n6_ n7_ n8_ n9_ ⊢
       have HO233 := n0_
       have HO238 := n1_
       have HO241 := n2_
       have HO244 := n3_
       have HO251 := n4_
       have HO254 := n5_
       have HO257 := n6_
       have BK246 := n7_
       have BK259 := n8_
       have HB := n9_
       clear n0_ n1_ n2_ n3_ n4_ n5_ n6_ n7_ n8_ n9_
       have n0_ := Aside0.mk (R_drew HO233.out)
       have n1_ := Aside0.mk (R_drew HO238.out)
       have n2_ := Aside0.mk (R_drew HO241.out)
       have n3_ := Aside0.mk (R_drew HO244.out)
       have n4_ := Aside0.mk (R_drew HO251.out)
       have n5_ := Aside0.mk (R_drew HO254.out)
       have n6_ := Aside0.mk (R_drew HO257.out)
       have n7_ := Aside0.mk (blk_drew BK246.out)
       have n8_ := Aside0.mk (blk_drew BK259.out)
       have n9_ := Aside0.mk (below_drew1 HB.out)
       clear HO233
       clear HO238
       clear HO241
       clear HO244
       clear HO251
       clear HO254
       clear HO257
       clear BK246
       clear BK259
       clear HB
       have HO233 := n0_
       have HO238 := n1_
       have HO241 := n2_
       have HO244 := n3_
       have HO251 := n4_
       have HO254 := n5_
       have HO257 := n6_
       have BK246 := n7_
       have BK259 := n8_
       have HB := n9_
       clear n0_ n1_ n2_ n3_ n4_ n5_ n6_ n7_ n8_ n9_
       refine start_ (n := 30) (S := fun w' => w'.cell? ⟨gb246, 0, none⟩ = some (.int .u8 t234) ∧ w'.cell? ⟨gb246, 1, none⟩ = some (.int .u32 t235) ∧ w'.cell? ⟨gb246, 2, none⟩ = some (.slice Ao17 t236.length co17) ∧ w'.cell? ⟨gb246, 3, none⟩ = some (.slice Ao18 t239.length co18) ∧ w'.cell? ⟨gb259, 0, none⟩ = some (.int .u8 t247) ∧ w'.cell? ⟨gb259, 1, none⟩ = some (.int .u32 t248) ∧ w'.cell? ⟨gb259, 2, none⟩ = some (.slice Ao23 t249.length co23) ∧ w'.cell? ⟨gb259, 3, none⟩ = some (.slice Ao24 t252.length co24)) (ds := []) #[false,false,false,false,false,false,false,false,false,false,false,false,false,false,false,false,false,false,false,false,false,false,false,false,false,false,false,false,false,false] (by kernel_rfl) rfl rfl ⟨(blk_cell BK246.out 0).trans rfl, (blk_cell BK246.out 1).trans rfl, (blk_cell BK246.out 2).trans rfl, (blk_cell BK246.out 3).trans rfl, (blk_cell BK259.out 0).trans rfl, (blk_cell BK259.out 1).trans rfl, (blk_cell BK259.out 2).trans rfl, (blk_cell BK259.out 3).trans rfl⟩ (fun hHeld => ?_); refine with_tabW crosswaylaw10_HeadParses.tab8 crosswaylaw10_HeadParses.bits8 (fun HT_ HW_ => ?_)
       generalize w50.drew = w51 at HO233 HO238 HO241 HO244 HO251 HO254 HO257 BK246 BK259 HB hHeld ⊢
       refine pure_ (i := 0) (N := some 34) (v := ?_) (a' := ?_) #[true,false,false,false,false,false,false,false,false,false,false,false,false,false,false,false,false,false,false,false,false,false,false,false,false,false,false,false,false,false] rfl rfl (any_of HT_.out (by kernel_rfl)) (fun _ _ _ h => h) (Or.inl ⟨by rfl, ?_⟩) ?_ ?_
       rotate_left
       ·intro w'; go_simp; with_reducible rfl
       rotate_left
       ·simp only [Act.put, sA, sB, sC, i64_w, i32_w]; rfl
       refine pure_ (i := 1) (N := some 35) (v := ?_) (a' := ?_) #[true,true,false,false,false,false,false,false,false,false,false,false,false,false,false,false,false,false,false,false,false,false,false,false,false,false,false,false,false,false] rfl rfl (any_of HT_.out (by kernel_rfl)) (fun _ _ _ h => h) (Or.inl ⟨by rfl, ?_⟩) ?_ ?_
       rotate_left
       ·intro w'; go_simp; with_reducible rfl
       rotate_left
       ·simp only [Act.put, sA, sB, sC, i64_w, i32_w]; rfl
       refine pure_ (i := 2) (N := some 36) (v := ?_) (a' := ?_) #[true,true,true,false,false,false,false,false,false,false,false,false,false,false,false,false,false,false,false,false,false,false,false,false,false,false,false,false,false,false] rfl rfl (any_of HT_.out (by kernel_rfl)) (fun _ _ _ h => h) (Or.inl ⟨by rfl, ?_⟩) ?_ ?_
       rotate_left
       ·intro w'; go_simp; with_reducible rfl
       rotate_left
       ·simp only [Act.put, sA, sB, sC, i64_w, i32_w]; rfl
       refine pure_ (i := 3) (N := some 37) (v := ?_) (a' := ?_) #[true,true,true,true,false,false,false,false,false,false,false,false,false,false,false,false,false,false,false,false,false,false,false,false,false,false,false,false,false,false] rfl rfl (any_of HT_.out (by kernel_rfl)) (fun _ _ _ h => h) (Or.inl ⟨by rfl, ?_⟩) ?_ ?_
       rotate_left
       ·intro w'; go_simp; with_reducible rfl
       rotate_left
       ·simp only [Act.put, sA, sB, sC, i64_w, i32_w]; rfl
       refine take_ (i := 4) (N := some 38) (v := ?_) (a' := ?_) #[true,true,true,true,true,false,false,false,false,false,false,false,false,false,false,false,false,false,false,false,false,false,false,false,false,false,false,false,false,false] rfl rfl (take_ofW HT_.out HW_.out (by kernel_rfl)) (fun _ _ _ h => h) (Or.inl ⟨by rfl, ?_⟩) hHeld ?_ ?_
       rotate_left
       ·rintro w' ⟨s0, s1, s2, s3, s4, s5, s6, s7⟩; go_simp; with_reducible rfl
       rotate_left
       ·simp only [Act.put, sA, sB, sC, i64_w, i32_w]; rfl
       refine take_ (i := 6) (N := some 40) (v := ?_) (a' := ?_) #[true,true,true,true,true,false,true,false,false,false,false,false,false,false,false,false,false,false,false,false,false,false,false,false,false,false,false,false,false,false] rfl rfl (take_ofW HT_.out HW_.out (by kernel_rfl)) (fun _ _ _ h => h) (Or.inl ⟨by rfl, ?_⟩) hHeld ?_ ?_
       rotate_left
       ·rintro w' ⟨s0, s1, s2, s3, s4, s5, s6, s7⟩; go_simp; with_reducible rfl
       rotate_left
       ·simp only [Act.put, sA, sB, sC, i64_w, i32_w]; rfl
       refine one_ (i := 5) (N := some 39) #[true,true,true,true,true,true,true,false,false,false,false,false,false,false,false,false,false,false,false,false,false,false,false,false,false,false,false,false,false,false] rfl rfl (one_of HT_.out (by kernel_rfl)) (by decide) (fun K hK => ?_)
       refine goes_ Try.func12 (by kernel_rfl) rfl #[.agg #[.int .u8 t234, .int .u32 t235, .slice Ao17 t236.length co17, .slice Ao18 t239.length co18]] (by rfl) rfl rfl (by (try simp only [List.map_toArray, List.map_cons, List.map_nil]); first | done | rfl | (simp only [List.length_drop, List.length_take]; rfl)) ?_
       with_reducible refine (crosswaylaw10_Of.calls t234 t235 _ _ t236 _ _ t239 t260 t261 t262 t265 _ ?side1 ?side2 ?side3 ?side4 A26.out).mono ?_
       (case side1 => repeat (first | exact (R_reads' HO238.out).2.2 | (with_reducible refine C_alloc ?_ _) | (with_reducible refine C_drewN ?_ _) | (with_reducible refine C_drew ?_)))
       (case side2 => exact (R_reads' HO238.out).2.1)
       (case side3 => repeat (first | exact (R_reads' HO241.out).2.2 | (with_reducible refine C_alloc ?_ _) | (with_reducible refine C_drewN ?_ _) | (with_reducible refine C_drew ?_)))
       (case side4 => exact (R_reads' HO241.out).2.1)
       rintro e w52 ⟨v263, v266, rfl, ho0, ho1, hb⟩
       refine ⟨_, rfl, ?_⟩
       have n0_ := Aside0.mk (R_mono (R_told (R_told (R_old (by (with_reducible repeat (first | apply R_alloc | apply R_drewN | apply R_drew)); exact HO233.out) hb) (R_base ho0)) (R_base ho1)) (fun _ h_ => h_.1))
       have n1_ := Aside0.mk (R_mono (R_told (R_told (R_old (by (with_reducible repeat (first | apply R_alloc | apply R_drewN | apply R_drew)); exact HO238.out) hb) (R_base ho0)) (R_base ho1)) (fun _ h_ => h_.1))
       have n2_ := Aside0.mk (R_mono (R_told (R_told (R_old (by (with_reducible repeat (first | apply R_alloc | apply R_drewN | apply R_drew)); exact HO241.out) hb) (R_base ho0)) (R_base ho1)) (fun _ h_ => h_.1))
       have n3_ := Aside0.mk (R_mono (R_told (R_told (R_old (by (with_reducible repeat (first | apply R_alloc | apply R_drewN | apply R_drew)); exact HO244.out) hb) (R_base ho0)) (R_base ho1)) (fun _ h_ => h_.1))
       have n4_ := Aside0.mk (R_mono (R_told (R_told (R_old (by (with_reducible repeat (first | apply R_alloc | apply R_drewN | apply R_drew)); exact HO251.out) hb) (R_base ho0)) (R_base ho1)) (fun _ h_ => h_.1))
       have n5_ := Aside0.mk (R_mono (R_told (R_told (R_old (by (with_reducible repeat (first | apply R_alloc | apply R_drewN | apply R_drew)); exact HO254.out) hb) (R_base ho0)) (R_base ho1)) (fun _ h_ => h_.1))
       have n6_ := Aside0.mk (R_mono (R_told (R_told (R_old (by (with_reducible repeat (first | apply R_alloc | apply R_drewN | apply R_drew)); exact HO257.out) hb) (R_base ho0)) (R_base ho1)) (fun _ h_ => h_.1))
       have n7_ := Aside0.mk (R_lower (R_new' (R_new' (R_new' (R_new' (R_new' (R_new' (R_new' ho0 (R_lt (by (with_reducible repeat (first | apply R_alloc | apply R_drewN | apply R_drew)); exact HO233.out))) (R_lt (by (with_reducible repeat (first | apply R_alloc | apply R_drewN | apply R_drew)); exact HO238.out))) (R_lt (by (with_reducible repeat (first | apply R_alloc | apply R_drewN | apply R_drew)); exact HO241.out))) (R_lt (by (with_reducible repeat (first | apply R_alloc | apply R_drewN | apply R_drew)); exact HO244.out))) (R_lt (by (with_reducible repeat (first | apply R_alloc | apply R_drewN | apply R_drew)); exact HO251.out))) (R_lt (by (with_reducible repeat (first | apply R_alloc | apply R_drewN | apply R_drew)); exact HO254.out))) (R_lt (by (with_reducible repeat (first | apply R_alloc | apply R_drewN | apply R_drew)); exact HO257.out))) (below_size (by repeat (first | (with_reducible first | exact HB.out | apply below_alloc | apply pw_below_drewN | apply below_drew1 | refine below_set ?_ GE246.out | refine below_set ?_ GE259.out) | exact HB.out))))
       have n8_ := Aside0.mk (R_lower (R_new' (R_new' (R_new' (R_new' (R_new' (R_new' (R_new' ho1 (R_lt (by (with_reducible repeat (first | apply R_alloc | apply R_drewN | apply R_drew)); exact HO233.out))) (R_lt (by (with_reducible repeat (first | apply R_alloc | apply R_drewN | apply R_drew)); exact HO238.out))) (R_lt (by (with_reducible repeat (first | apply R_alloc | apply R_drewN | apply R_drew)); exact HO241.out))) (R_lt (by (with_reducible repeat (first | apply R_alloc | apply R_drewN | apply R_drew)); exact HO244.out))) (R_lt (by (with_reducible repeat (first | apply R_alloc | apply R_drewN | apply R_drew)); exact HO251.out))) (R_lt (by (with_reducible repeat (first | apply R_alloc | apply R_drewN | apply R_drew)); exact HO254.out))) (R_lt (by (with_reducible repeat (first | apply R_alloc | apply R_drewN | apply R_drew)); exact HO257.out))) (below_size (by repeat (first | (with_reducible first | exact HB.out | apply below_alloc | apply pw_below_drewN | apply below_drew1 | refine below_set ?_ GE246.out | refine below_set ?_ GE259.out) | exact HB.out))))
       have n9_ := Aside0.mk (blk_below (g := gb246) (o := .cells #[.int .u8 t234, .int .u32 t235, .slice Ao17 t236.length co17, .slice Ao18 t239.length co18] 27 (0, 0)) (by (with_reducible repeat (first | refine blk_drewN ?_ _ | refine blk_drew ?_ | refine blk_alloc ?_ _)); exact BK246.out) hb)
       have n10_ := Aside0.mk (blk_below (g := gb259) (o := .cells #[.int .u8 t247, .int .u32 t248, .slice Ao23 t249.length co23, .slice Ao24 t252.length co24] 31 (0, 0)) (by (with_reducible repeat (first | refine blk_drewN ?_ _ | refine blk_drew ?_ | refine blk_alloc ?_ _)); exact BK259.out) hb)
       have n11_ := Aside0.mk (below_step (by repeat (first | (with_reducible first | exact HB.out | apply below_alloc | apply pw_below_drewN | apply below_drew1 | refine below_set ?_ GE246.out | refine below_set ?_ GE259.out) | exact HB.out)) hb)
       clear HO233
       clear HO238
       clear HO241
       clear HO244
       clear HO251
       clear HO254
       clear HO257
       clear BK246
       clear BK259
       clear HB
       have HO233 := n0_
       have HO238 := n1_
       have HO241 := n2_
       have HO244 := n3_
       have HO251 := n4_
       have HO254 := n5_
       have HO257 := n6_
       have HO264 := n7_
       have HO267 := n8_
       have BK246 := n9_
       have BK259 := n10_
       have HB := n11_
       clear n0_ n1_ n2_ n3_ n4_ n5_ n6_ n7_ n8_ n9_ n10_ n11_
       (try clear hb)
       (try clear hb2)
       (try clear hk)
       (try clear hi)
       (try clear ho0)
       (try clear ho1)
       obtain ⟨Ao53, co53, eo53⟩ := R_slice HO264.out
       (first | subst eo53 | (injection eo53 with f1_ f2_ f3_; have f4_ := f1_.symm; have f5_ := f3_.symm; clear f1_ f2_ f3_; subst f4_; subst f5_))
       obtain ⟨Ao54, co54, eo54⟩ := R_slice HO267.out
       (first | subst eo54 | (injection eo54 with f1_ f2_ f3_; have f4_ := f1_.symm; have f5_ := f3_.symm; clear f1_ f2_ f3_; subst f4_; subst f5_))
       refine hK.out _ _ ⟨(blk_cell BK246.out 0).trans rfl, (blk_cell BK246.out 1).trans rfl, (blk_cell BK246.out 2).trans rfl, (blk_cell BK246.out 3).trans rfl, (blk_cell BK259.out 0).trans rfl, (blk_cell BK259.out 1).trans rfl, (blk_cell BK259.out 2).trans rfl, (blk_cell BK259.out 3).trans rfl⟩ (fun hHeld => ?_)
       clear hK K
       refine norm_ (a' := ?_) ?_ ?_
       rotate_left
       ·show Act.put _ (some 39) _ = _
        simp only [Act.put, sA, sB, sC, i64_w, i32_w]
        rfl
       refine one_ (i := 7) (N := some 41) #[true,true,true,true,true,true,true,true,false,false,false,false,false,false,false,false,false,false,false,false,false,false,false,false,false,false,false,false,false,false] rfl rfl (one_of HT_.out (by kernel_rfl)) (by decide) (fun K hK => ?_)
       refine goes_ Try.func11 (by kernel_rfl) rfl #[.agg #[.int .u8 t260, .int .u32 t261, .slice Ao53 t262.length co53, .slice Ao54 t265.length co54], .agg #[.int .u8 t247, .int .u32 t248, .slice Ao23 t249.length co23, .slice Ao24 t252.length co24]] (by rfl) rfl rfl (by (try simp only [List.map_toArray, List.map_cons, List.map_nil]); first | done | rfl | (simp only [List.length_drop, List.length_take]; rfl)) ?_
       with_reducible refine (crosswayref10_Same.calls t260 t261 _ _ t262 _ _ t265 t247 t248 _ _ t249 _ _ t252 true _ ?side1 ?side2 ?side3 ?side4 ?side5 ?side6 ?side7 ?side8 A27.out).mono ?_
       (case side1 => repeat (first | exact (R_reads' HO264.out).2.2 | (with_reducible refine C_alloc ?_ _) | (with_reducible refine C_drewN ?_ _) | (with_reducible refine C_drew ?_)))
       (case side2 => exact (R_reads' HO264.out).2.1)
       (case side3 => repeat (first | exact (R_reads' HO267.out).2.2 | (with_reducible refine C_alloc ?_ _) | (with_reducible refine C_drewN ?_ _) | (with_reducible refine C_drew ?_)))
       (case side4 => exact (R_reads' HO267.out).2.1)
       (case side5 => repeat (first | exact (R_reads' HO251.out).2.2 | (with_reducible refine C_alloc ?_ _) | (with_reducible refine C_drewN ?_ _) | (with_reducible refine C_drew ?_)))
       (case side6 => exact (R_reads' HO251.out).2.1)
       (case side7 => repeat (first | exact (R_reads' HO254.out).2.2 | (with_reducible refine C_alloc ?_ _) | (with_reducible refine C_drewN ?_ _) | (with_reducible refine C_drew ?_)))
       (case side8 => exact (R_reads' HO254.out).2.1)
       rintro e w55 ⟨rfl, hb⟩
       refine ⟨_, rfl, ?_⟩
       have n0_ := Aside0.mk (R_below (by (with_reducible repeat (first | apply R_alloc | apply R_drewN | apply R_drew)); exact HO233.out) hb)
       have n1_ := Aside0.mk (R_below (by (with_reducible repeat (first | apply R_alloc | apply R_drewN | apply R_drew)); exact HO238.out) hb)
       have n2_ := Aside0.mk (R_below (by (with_reducible repeat (first | apply R_alloc | apply R_drewN | apply R_drew)); exact HO241.out) hb)
       have n3_ := Aside0.mk (R_below (by (with_reducible repeat (first | apply R_alloc | apply R_drewN | apply R_drew)); exact HO244.out) hb)
       have n4_ := Aside0.mk (R_below (by (with_reducible repeat (first | apply R_alloc | apply R_drewN | apply R_drew)); exact HO251.out) hb)
       have n5_ := Aside0.mk (R_below (by (with_reducible repeat (first | apply R_alloc | apply R_drewN | apply R_drew)); exact HO254.out) hb)
       have n6_ := Aside0.mk (R_below (by (with_reducible repeat (first | apply R_alloc | apply R_drewN | apply R_drew)); exact HO257.out) hb)
       have n9_ := Aside0.mk (blk_below (g := gb246) (o := .cells #[.int .u8 t234, .int .u32 t235, .slice Ao17 t236.length co17, .slice Ao18 t239.length co18] 27 (0, 0)) (by (with_reducible repeat (first | refine blk_drewN ?_ _ | refine blk_drew ?_ | refine blk_alloc ?_ _)); exact BK246.out) hb)
       have n10_ := Aside0.mk (blk_below (g := gb259) (o := .cells #[.int .u8 t247, .int .u32 t248, .slice Ao23 t249.length co23, .slice Ao24 t252.length co24] 31 (0, 0)) (by (with_reducible repeat (first | refine blk_drewN ?_ _ | refine blk_drew ?_ | refine blk_alloc ?_ _)); exact BK259.out) hb)
       have n11_ := Aside0.mk (below_step (by repeat (first | (with_reducible first | exact HB.out | apply below_alloc | apply pw_below_drewN | apply below_drew1 | refine below_set ?_ GE246.out | refine below_set ?_ GE259.out) | exact HB.out)) hb)
       clear HO233
       clear HO238
       clear HO241
       clear HO244
       clear HO251
       clear HO254
       clear HO257
       clear BK246
       clear BK259
       clear HB
       have HO233 := n0_
       have HO238 := n1_
       have HO241 := n2_
       have HO244 := n3_
       have HO251 := n4_
       have HO254 := n5_
       have HO257 := n6_
       have BK246 := n9_
       have BK259 := n10_
       have HB := n11_
       clear n0_ n1_ n2_ n3_ n4_ n5_ n6_ n9_ n10_ n11_
       (try clear hb)
       (try clear hb2)
       (try clear hk)
       (try clear hi)
       obtain ⟨Ao56, co56, eo56⟩ := R_slice HO244.out
       (first | subst eo56 | (injection eo56 with f1_ f2_ f3_; have f4_ := f1_.symm; have f5_ := f3_.symm; clear f1_ f2_ f3_; subst f4_; subst f5_))
       obtain ⟨Ao57, co57, eo57⟩ := R_slice HO257.out
       (first | subst eo57 | (injection eo57 with f1_ f2_ f3_; have f4_ := f1_.symm; have f5_ := f3_.symm; clear f1_ f2_ f3_; subst f4_; subst f5_))
       refine hK.out _ _ ⟨(blk_cell BK246.out 0).trans rfl, (blk_cell BK246.out 1).trans rfl, (blk_cell BK246.out 2).trans rfl, (blk_cell BK246.out 3).trans rfl, (blk_cell BK259.out 0).trans rfl, (blk_cell BK259.out 1).trans rfl, (blk_cell BK259.out 2).trans rfl, (blk_cell BK259.out 3).trans rfl⟩ (fun hHeld => ?_)
       clear hK K
       refine norm_ (a' := ?_) ?_ ?_
       rotate_left
       ·show Act.put _ (some 41) _ = _
        simp only [Act.put, sA, sB, sC, i64_w, i32_w]
        rfl
       refine pure_ (i := 8) (N := some 42) (v := ?_) (a' := ?_) #[true,true,true,true,true,true,true,true,true,false,false,false,false,false,false,false,false,false,false,false,false,false,false,false,false,false,false,false,false,false] rfl rfl (any_of HT_.out (by kernel_rfl)) (fun _ _ _ h => h) (Or.inl ⟨by rfl, ?_⟩) ?_ ?_
       rotate_left
       ·intro w'; go_simp; with_reducible rfl
       rotate_left
       ·simp only [Act.put, sA, sB, sC, i64_w, i32_w]; rfl
       refine pure_ (i := 9) (N := some 43) (v := ?_) (a' := ?_) #[true,true,true,true,true,true,true,true,true,true,false,false,false,false,false,false,false,false,false,false,false,false,false,false,false,false,false,false,false,false] rfl rfl (any_of HT_.out (by kernel_rfl)) (fun _ _ _ h => h) (Or.inl ⟨by rfl, ?_⟩) ?_ ?_
       rotate_left
       ·intro w'; go_simp; with_reducible rfl
       rotate_left
       ·simp only [Act.put, sA, sB, sC, i64_w, i32_w]; rfl
       refine pure_ (i := 10) (N := some 44) (v := ?_) (a' := ?_) #[true,true,true,true,true,true,true,true,true,true,true,false,false,false,false,false,false,false,false,false,false,false,false,false,false,false,false,false,false,false] rfl rfl (any_of HT_.out (by kernel_rfl)) (fun _ _ _ h => h) (Or.inl ⟨by rfl, ?_⟩) ?_ ?_
       rotate_left
       ·intro w'; go_simp; with_reducible rfl
       rotate_left
       ·simp only [Act.put, sA, sB, sC, i64_w, i32_w]; rfl
       refine pure_ (i := 11) (N := some 45) (v := ?_) (a' := ?_) #[true,true,true,true,true,true,true,true,true,true,true,true,false,false,false,false,false,false,false,false,false,false,false,false,false,false,false,false,false,false] rfl rfl (any_of HT_.out (by kernel_rfl)) (fun _ _ _ h => h) (Or.inl ⟨by rfl, ?_⟩) ?_ ?_
       rotate_left
       ·intro w'; go_simp; with_reducible rfl
       rotate_left
       ·simp only [Act.put, sA, sB, sC, i64_w, i32_w]; rfl
       refine pure_ (i := 12) (N := some 46) (v := ?_) (a' := ?_) #[true,true,true,true,true,true,true,true,true,true,true,true,true,false,false,false,false,false,false,false,false,false,false,false,false,false,false,false,false,false] rfl rfl (any_of HT_.out (by kernel_rfl)) (fun _ _ _ h => h) (Or.inl ⟨by rfl, ?_⟩) ?_ ?_
       rotate_left
       ·intro w'; go_simp; with_reducible rfl
       rotate_left
       ·simp only [Act.put, sA, sB, sC, i64_w, i32_w]; rfl
       refine one_ (i := 13) (N := some 47) #[true,true,true,true,true,true,true,true,true,true,true,true,true,true,false,false,false,false,false,false,false,false,false,false,false,false,false,false,false,false] rfl rfl (one_of HT_.out (by kernel_rfl)) (by decide) (fun K hK => ?_)
       refine goes_ Try.func13 (by kernel_rfl) rfl #[.slice Ao56 t242.length co56, .slice Ao57 t255.length co57] (by rfl) rfl rfl (by (try simp only [List.map_toArray, List.map_cons, List.map_nil]); first | done | rfl | (simp only [List.length_drop, List.length_take]; rfl)) ?_
       with_reducible refine (crosswayref00_SameBytes.calls k _ _ t242 _ _ t255 false _ ?side1 ?side2 ?side3 ?side4 A29.out).mono ?_
       (case side1 => repeat (first | exact (R_reads' HO244.out).2.2 | (with_reducible refine C_alloc ?_ _) | (with_reducible refine C_drewN ?_ _) | (with_reducible refine C_drew ?_)))
       (case side2 => exact (R_reads' HO244.out).2.1)
       (case side3 => repeat (first | exact (R_reads' HO257.out).2.2 | (with_reducible refine C_alloc ?_ _) | (with_reducible refine C_drewN ?_ _) | (with_reducible refine C_drew ?_)))
       (case side4 => exact (R_reads' HO257.out).2.1)
       rintro e w' ⟨rfl, ⟨nd, rfl⟩⟩
       refine ⟨_, rfl, ?_⟩
       refine hK.out _ _ ⟨(blk_cell BK246.out 0).trans rfl, (blk_cell BK246.out 1).trans rfl, (blk_cell BK246.out 2).trans rfl, (blk_cell BK246.out 3).trans rfl, (blk_cell BK259.out 0).trans rfl, (blk_cell BK259.out 1).trans rfl, (blk_cell BK259.out 2).trans rfl, (blk_cell BK259.out 3).trans rfl⟩ (fun hHeld => ?_)
       clear hK K
       refine norm_ (a' := ?_) ?_ ?_
       rotate_left
       ·show Act.put _ (some 47) _ = _
        simp only [Act.put, sA, sB, sC, i64_w, i32_w]
        rfl
       refine pure_ (i := 14) (N := some 48) (v := ?_) (a' := ?_) #[true,true,true,true,true,true,true,true,true,true,true,true,true,true,true,false,false,false,false,false,false,false,false,false,false,false,false,false,false,false] rfl rfl (any_of HT_.out (by kernel_rfl)) (fun _ _ _ h => h) (Or.inl ⟨by rfl, ?_⟩) ?_ ?_
       rotate_left
       ·intro w'; go_simp; with_reducible rfl
       rotate_left
       ·simp only [Act.put, sA, sB, sC, i64_w, i32_w]; rfl
       refine pure_ (i := 15) (N := some 49) (v := ?_) (a' := ?_) #[true,true,true,true,true,true,true,true,true,true,true,true,true,true,true,true,false,false,false,false,false,false,false,false,false,false,false,false,false,false] rfl rfl (any_of HT_.out (by kernel_rfl)) (fun _ _ _ h => h) (Or.inl ⟨by rfl, ?_⟩) ?_ ?_
       rotate_left
       ·intro w'; go_simp; with_reducible rfl
       rotate_left
       ·simp only [Act.put, sA, sB, sC, i64_w, i32_w]; rfl
       refine pure_ (i := 16) (N := some 50) (v := ?_) (a' := ?_) #[true,true,true,true,true,true,true,true,true,true,true,true,true,true,true,true,true,false,false,false,false,false,false,false,false,false,false,false,false,false] rfl rfl (any_of HT_.out (by kernel_rfl)) (fun _ _ _ h => h) (Or.inl ⟨by rfl, ?_⟩) ?_ ?_
       rotate_left
       ·intro w'; go_simp; with_reducible rfl
       rotate_left
       ·simp only [Act.put, sA, sB, sC, i64_w, i32_w]; rfl
       refine pure_ (i := 17) (N := some 51) (v := undef) (a' := ?_) #[true,true,true,true,true,true,true,true,true,true,true,true,true,true,true,true,true,true,false,false,false,false,false,false,false,false,false,false,false,false] rfl rfl (any_of HT_.out (by kernel_rfl)) (fun _ _ _ h => h) (Or.inr ⟨by rfl, rfl⟩) ?_ ?_
       rotate_left
       ·simp only [Act.put, sA, sB, sC, i64_w, i32_w]; rfl
       refine pure_ (i := 18) (N := some 52) (v := undef) (a' := ?_) #[true,true,true,true,true,true,true,true,true,true,true,true,true,true,true,true,true,true,true,false,false,false,false,false,false,false,false,false,false,false] rfl rfl (any_of HT_.out (by kernel_rfl)) (fun _ _ _ h => h) (Or.inr ⟨by rfl, rfl⟩) ?_ ?_
       rotate_left
       ·simp only [Act.put, sA, sB, sC, i64_w, i32_w]; rfl
       refine pure_ (i := 19) (N := some 53) (v := undef) (a' := ?_) #[true,true,true,true,true,true,true,true,true,true,true,true,true,true,true,true,true,true,true,true,false,false,false,false,false,false,false,false,false,false] rfl rfl (any_of HT_.out (by kernel_rfl)) (fun _ _ _ h => h) (Or.inr ⟨by rfl, rfl⟩) ?_ ?_
       rotate_left
       ·simp only [Act.put, sA, sB, sC, i64_w, i32_w]; rfl
       refine pure_ (i := 20) (N := some 54) (v := undef) (a' := ?_) #[true,true,true,true,true,true,true,true,true,true,true,true,true,true,true,true,true,true,true,true,true,false,false,false,false,false,false,false,false,false] rfl rfl (any_of HT_.out (by kernel_rfl)) (fun _ _ _ h => h) (Or.inr ⟨by rfl, rfl⟩) ?_ ?_
       rotate_left
       ·simp only [Act.put, sA, sB, sC, i64_w, i32_w]; rfl
       refine pure_ (i := 21) (N := some 55) (v := undef) (a' := ?_) #[true,true,true,true,true,true,true,true,true,true,true,true,true,true,true,true,true,true,true,true,true,true,false,false,false,false,false,false,false,false] rfl rfl (any_of HT_.out (by kernel_rfl)) (fun _ _ _ h => h) (Or.inr ⟨by rfl, rfl⟩) ?_ ?_
       rotate_left
       ·simp only [Act.put, sA, sB, sC, i64_w, i32_w]; rfl
       refine pure_ (i := 22) (N := some 56) (v := undef) (a' := ?_) #[true,true,true,true,true,true,true,true,true,true,true,true,true,true,true,true,true,true,true,true,true,true,true,false,false,false,false,false,false,false] rfl rfl (any_of HT_.out (by kernel_rfl)) (fun _ _ _ h => h) (Or.inr ⟨by rfl, rfl⟩) ?_ ?_
       rotate_left
       ·simp only [Act.put, sA, sB, sC, i64_w, i32_w]; rfl
       refine pure_ (i := 23) (N := some 57) (v := undef) (a' := ?_) #[true,true,true,true,true,true,true,true,true,true,true,true,true,true,true,true,true,true,true,true,true,true,true,true,false,false,false,false,false,false] rfl rfl (any_of HT_.out (by kernel_rfl)) (fun _ _ _ h => h) (Or.inr ⟨by rfl, rfl⟩) ?_ ?_
       rotate_left
       ·simp only [Act.put, sA, sB, sC, i64_w, i32_w]; rfl
       refine pure_ (i := 24) (N := some 58) (v := undef) (a' := ?_) #[true,true,true,true,true,true,true,true,true,true,true,true,true,true,true,true,true,true,true,true,true,true,true,true,true,false,false,false,false,false] rfl rfl (any_of HT_.out (by kernel_rfl)) (fun _ _ _ h => h) (Or.inr ⟨by rfl, rfl⟩) ?_ ?_
       rotate_left
       ·simp only [Act.put, sA, sB, sC, i64_w, i32_w]; rfl
       refine pure_ (i := 25) (N := some 59) (v := undef) (a' := ?_) #[true,true,true,true,true,true,true,true,true,true,true,true,true,true,true,true,true,true,true,true,true,true,true,true,true,true,false,false,false,false] rfl rfl (any_of HT_.out (by kernel_rfl)) (fun _ _ _ h => h) (Or.inr ⟨by rfl, rfl⟩) ?_ ?_
       rotate_left
       ·simp only [Act.put, sA, sB, sC, i64_w, i32_w]; rfl
       refine pure_ (i := 26) (N := some 60) (v := undef) (a' := ?_) #[true,true,true,true,true,true,true,true,true,true,true,true,true,true,true,true,true,true,true,true,true,true,true,true,true,true,true,false,false,false] rfl rfl (any_of HT_.out (by kernel_rfl)) (fun _ _ _ h => h) (Or.inr ⟨by rfl, rfl⟩) ?_ ?_
       rotate_left
       ·simp only [Act.put, sA, sB, sC, i64_w, i32_w]; rfl
       refine pure_ (i := 27) (N := some 61) (v := undef) (a' := ?_) #[true,true,true,true,true,true,true,true,true,true,true,true,true,true,true,true,true,true,true,true,true,true,true,true,true,true,true,true,false,false] rfl rfl (any_of HT_.out (by kernel_rfl)) (fun _ _ _ h => h) (Or.inr ⟨by rfl, rfl⟩) ?_ ?_
       rotate_left
       ·simp only [Act.put, sA, sB, sC, i64_w, i32_w]; rfl
       refine pure_ (i := 28) (N := some 62) (v := undef) (a' := ?_) #[true,true,true,true,true,true,true,true,true,true,true,true,true,true,true,true,true,true,true,true,true,true,true,true,true,true,true,true,true,false] rfl rfl (any_of HT_.out (by kernel_rfl)) (fun _ _ _ h => h) (Or.inr ⟨by rfl, rfl⟩) ?_ ?_
       rotate_left
       ·simp only [Act.put, sA, sB, sC, i64_w, i32_w]; rfl
       refine pure_ (i := 29) (N := some 63) (v := ?_) (a' := ?_) #[true,true,true,true,true,true,true,true,true,true,true,true,true,true,true,true,true,true,true,true,true,true,true,true,true,true,true,true,true,true] rfl rfl (any_of HT_.out (by kernel_rfl)) (fun _ _ _ h => h) (Or.inl ⟨by rfl, ?_⟩) ?_ ?_
       rotate_left
       ·intro w'; go_simp; with_reducible rfl
       rotate_left
       ·simp only [Act.put, sA, sB, sC, i64_w, i32_w]; rfl
       refine done_ (done_of HT_.out (by kernel_rfl)) ?_
       try go_wp2
       go_meet
       case rel => exact ⟨_, (true), (by first | rfl | (simp; done) | (simp [*]; done) | (simp only [i64_w]; done) | (simp [i64_w]; done)), H', ⟨by first | omega | exact Nat.le_refl _⟩, ⟨by (with_reducible repeat (first | apply R_alloc | apply R_drewN | apply R_drew)); exact R_mono HO233.out (fun _ hk => ⟨hk.1.1.2.2.1, ⟨hk.1.1.1, ⟨hk.1.1.2.1, ⟨hk.1.1.2.2.2.1, hk.1.1.2.2.2.2.1⟩⟩⟩⟩)⟩, ⟨by (with_reducible repeat (first | apply R_alloc | apply R_drewN | apply R_drew)); exact R_mono HO244.out (fun _ hk => ⟨hk.1.1.1, ⟨hk.1.1.2.1, ⟨hk.1.1.2.2.1, ⟨hk.1.1.2.2.2.1, hk.1.1.2.2.2.2.1⟩⟩⟩⟩)⟩, ⟨by (with_reducible repeat (first | apply R_alloc | apply R_drewN | apply R_drew)); exact R_mono HO238.out (fun _ hk => ⟨hk.1.1.1, ⟨hk.1.1.2.2.1, ⟨hk.1.1.2.1, ⟨hk.1.1.2.2.2.1, hk.1.1.2.2.2.2.1⟩⟩⟩⟩)⟩, ⟨by (with_reducible repeat (first | apply R_alloc | apply R_drewN | apply R_drew)); exact R_mono HO241.out (fun _ hk => ⟨hk.1.1.1, ⟨hk.1.1.2.2.1, ⟨hk.1.1.2.1, ⟨hk.1.1.2.2.2.1, hk.1.1.2.2.2.2.1⟩⟩⟩⟩)⟩, ⟨by (with_reducible repeat (first | apply R_alloc | apply R_drewN | apply R_drew)); exact R_mono HO251.out (fun _ hk => ⟨hk.1.1.1, ⟨hk.1.1.2.2.2.1, ⟨hk.1.1.2.1, ⟨hk.1.1.2.2.1, hk.1.1.2.2.2.2.1⟩⟩⟩⟩)⟩, ⟨by (with_reducible repeat (first | apply R_alloc | apply R_drewN | apply R_drew)); exact R_mono HO254.out (fun _ hk => ⟨hk.1.1.1, ⟨hk.1.1.2.2.2.1, ⟨hk.1.1.2.1, ⟨hk.1.1.2.2.1, hk.1.1.2.2.2.2.1⟩⟩⟩⟩)⟩, ⟨by (with_reducible repeat (first | refine blk_drewN ?_ _ | refine blk_drew ?_ | refine blk_alloc ?_ _)); exact BK246.out⟩, ⟨by (with_reducible repeat (first | refine blk_drewN ?_ _ | refine blk_drew ?_ | refine blk_alloc ?_ _)); exact BK259.out⟩, ⟨by repeat (first | (with_reducible first | exact HB.out | apply below_alloc | apply pw_below_drewN | apply below_drew1 | refine below_set ?_ GE246.out | refine below_set ?_ GE259.out) | exact HB.out)⟩⟩
     ·replace c28 := Bool.eq_false_iff.mpr c28
      subst c28
      have H1 : (crosswaylaw10_HeadParses.j0 k l0 a1 t231 t242 true) = some r := by rw [if_neg (show ¬ (false = true) by decide)] at H; exact H
      clear H
      have H := H1
      clear H1
      have H' := Aside0.mk H
      clear H
      try go_wp2
      have n0_ : Aside0 (Kd.R (Kd.int .u8) 5 ((((w20.setCell ⟨gb259, 0, none⟩ (.int .u8 t247)).setCell ⟨gb259, 1, none⟩ (.int .u32 t248)).setCell ⟨gb259, 2, none⟩ (.slice Ao23 t249.length co23)).setCell ⟨gb259, 3, none⟩ (.slice Ao24 t252.length co24)) w.heap.size (fun k_ => some k_ ≠ (.slice Ao17 t236.length co17 : Value).ownBlock ∧ some k_ ≠ (.slice Ao18 t239.length co18 : Value).ownBlock ∧ some k_ ≠ (v243 : Value).ownBlock ∧ some k_ ≠ (.slice Ao23 t249.length co23 : Value).ownBlock ∧ some k_ ≠ (.slice Ao24 t252.length co24 : Value).ownBlock ∧ some k_ ≠ (v256 : Value).ownBlock) (.slice Ao13 t231.length co13) t231) := ⟨by (with_reducible repeat (first | apply R_alloc | apply R_drewN | apply R_drew)); exact R_mono (R_far (p := ⟨gb259, 3, none⟩) (R_far (p := ⟨gb259, 2, none⟩) (R_far (p := ⟨gb259, 1, none⟩) (R_far (p := ⟨gb259, 0, none⟩) (R_types HO233.out BK259.out (by decide)) (fun _ hk => hk.2) (.int .u8 t247)) (fun _ hk => hk.2) (.int .u32 t248)) (fun _ hk => hk.2) (.slice Ao23 t249.length co23)) (fun _ hk => hk.2) (.slice Ao24 t252.length co24)) (fun _ hk => ⟨hk.1.1.1.1.1.1.2, ⟨hk.1.1.1.1.1.2, ⟨hk.1.1.1.1.2, ⟨hk.1.1.1.2, ⟨hk.1.1.2, hk.1.2⟩⟩⟩⟩⟩)⟩
      have n1_ : Aside0 (Kd.R (Kd.int .u8) 5 ((((w20.setCell ⟨gb259, 0, none⟩ (.int .u8 t247)).setCell ⟨gb259, 1, none⟩ (.int .u32 t248)).setCell ⟨gb259, 2, none⟩ (.slice Ao23 t249.length co23)).setCell ⟨gb259, 3, none⟩ (.slice Ao24 t252.length co24)) w.heap.size (fun k_ => some k_ ≠ (.slice Ao13 t231.length co13 : Value).ownBlock ∧ some k_ ≠ (.slice Ao18 t239.length co18 : Value).ownBlock ∧ some k_ ≠ (v243 : Value).ownBlock ∧ some k_ ≠ (.slice Ao23 t249.length co23 : Value).ownBlock ∧ some k_ ≠ (.slice Ao24 t252.length co24 : Value).ownBlock ∧ some k_ ≠ (v256 : Value).ownBlock) (.slice Ao17 t236.length co17) t236) := ⟨by (with_reducible repeat (first | apply R_alloc | apply R_drewN | apply R_drew)); exact R_mono (R_far (p := ⟨gb259, 3, none⟩) (R_far (p := ⟨gb259, 2, none⟩) (R_far (p := ⟨gb259, 1, none⟩) (R_far (p := ⟨gb259, 0, none⟩) (R_types HO238.out BK259.out (by decide)) (fun _ hk => hk.2) (.int .u8 t247)) (fun _ hk => hk.2) (.int .u32 t248)) (fun _ hk => hk.2) (.slice Ao23 t249.length co23)) (fun _ hk => hk.2) (.slice Ao24 t252.length co24)) (fun _ hk => ⟨hk.1.1.1.1.2, ⟨hk.1.1.1.1.1.1, ⟨hk.1.1.1.1.1.2, ⟨hk.1.1.1.2, ⟨hk.1.1.2, hk.1.2⟩⟩⟩⟩⟩)⟩
      have n2_ : Aside0 (Kd.R (Kd.int .u8) 5 ((((w20.setCell ⟨gb259, 0, none⟩ (.int .u8 t247)).setCell ⟨gb259, 1, none⟩ (.int .u32 t248)).setCell ⟨gb259, 2, none⟩ (.slice Ao23 t249.length co23)).setCell ⟨gb259, 3, none⟩ (.slice Ao24 t252.length co24)) w.heap.size (fun k_ => some k_ ≠ (.slice Ao13 t231.length co13 : Value).ownBlock ∧ some k_ ≠ (.slice Ao17 t236.length co17 : Value).ownBlock ∧ some k_ ≠ (v243 : Value).ownBlock ∧ some k_ ≠ (.slice Ao23 t249.length co23 : Value).ownBlock ∧ some k_ ≠ (.slice Ao24 t252.length co24 : Value).ownBlock ∧ some k_ ≠ (v256 : Value).ownBlock) (.slice Ao18 t239.length co18) t239) := ⟨by (with_reducible repeat (first | apply R_alloc | apply R_drewN | apply R_drew)); exact R_mono (R_far (p := ⟨gb259, 3, none⟩) (R_far (p := ⟨gb259, 2, none⟩) (R_far (p := ⟨gb259, 1, none⟩) (R_far (p := ⟨gb259, 0, none⟩) (R_types HO241.out BK259.out (by decide)) (fun _ hk => hk.2) (.int .u8 t247)) (fun _ hk => hk.2) (.int .u32 t248)) (fun _ hk => hk.2) (.slice Ao23 t249.length co23)) (fun _ hk => hk.2) (.slice Ao24 t252.length co24)) (fun _ hk => ⟨hk.1.1.1.1.2, ⟨hk.1.1.1.1.1.1, ⟨hk.1.1.1.1.1.2, ⟨hk.1.1.1.2, ⟨hk.1.1.2, hk.1.2⟩⟩⟩⟩⟩)⟩
      have n3_ : Aside0 (Kd.R (Kd.int .u8) 5 ((((w20.setCell ⟨gb259, 0, none⟩ (.int .u8 t247)).setCell ⟨gb259, 1, none⟩ (.int .u32 t248)).setCell ⟨gb259, 2, none⟩ (.slice Ao23 t249.length co23)).setCell ⟨gb259, 3, none⟩ (.slice Ao24 t252.length co24)) w.heap.size (fun k_ => some k_ ≠ (.slice Ao13 t231.length co13 : Value).ownBlock ∧ some k_ ≠ (.slice Ao17 t236.length co17 : Value).ownBlock ∧ some k_ ≠ (.slice Ao18 t239.length co18 : Value).ownBlock ∧ some k_ ≠ (.slice Ao23 t249.length co23 : Value).ownBlock ∧ some k_ ≠ (.slice Ao24 t252.length co24 : Value).ownBlock ∧ some k_ ≠ (v256 : Value).ownBlock) v243 t242) := ⟨by (with_reducible repeat (first | apply R_alloc | apply R_drewN | apply R_drew)); exact R_mono (R_far (p := ⟨gb259, 3, none⟩) (R_far (p := ⟨gb259, 2, none⟩) (R_far (p := ⟨gb259, 1, none⟩) (R_far (p := ⟨gb259, 0, none⟩) (R_types HO244.out BK259.out (by decide)) (fun _ hk => hk.2) (.int .u8 t247)) (fun _ hk => hk.2) (.int .u32 t248)) (fun _ hk => hk.2) (.slice Ao23 t249.length co23)) (fun _ hk => hk.2) (.slice Ao24 t252.length co24)) (fun _ hk => ⟨hk.1.1.1.1.2, ⟨hk.1.1.1.1.1.1, ⟨hk.1.1.1.1.1.2, ⟨hk.1.1.1.2, ⟨hk.1.1.2, hk.1.2⟩⟩⟩⟩⟩)⟩
      have n4_ : Aside0 (Kd.R (Kd.int .u8) 5 ((((w20.setCell ⟨gb259, 0, none⟩ (.int .u8 t247)).setCell ⟨gb259, 1, none⟩ (.int .u32 t248)).setCell ⟨gb259, 2, none⟩ (.slice Ao23 t249.length co23)).setCell ⟨gb259, 3, none⟩ (.slice Ao24 t252.length co24)) w.heap.size (fun k_ => some k_ ≠ (.slice Ao13 t231.length co13 : Value).ownBlock ∧ some k_ ≠ (.slice Ao17 t236.length co17 : Value).ownBlock ∧ some k_ ≠ (.slice Ao18 t239.length co18 : Value).ownBlock ∧ some k_ ≠ (v243 : Value).ownBlock ∧ some k_ ≠ (.slice Ao24 t252.length co24 : Value).ownBlock ∧ some k_ ≠ (v256 : Value).ownBlock) (.slice Ao23 t249.length co23) t249) := ⟨by (with_reducible repeat (first | apply R_alloc | apply R_drewN | apply R_drew)); exact R_mono (R_far (p := ⟨gb259, 3, none⟩) (R_far (p := ⟨gb259, 2, none⟩) (R_far (p := ⟨gb259, 1, none⟩) (R_far (p := ⟨gb259, 0, none⟩) (R_types HO251.out BK259.out (by decide)) (fun _ hk => hk.2) (.int .u8 t247)) (fun _ hk => hk.2) (.int .u32 t248)) (fun _ hk => hk.2) (.slice Ao23 t249.length co23)) (fun _ hk => hk.2) (.slice Ao24 t252.length co24)) (fun _ hk => ⟨hk.1.1.1.1.2, ⟨hk.1.1.1.2, ⟨hk.1.1.2, ⟨hk.1.2, ⟨hk.1.1.1.1.1.1, hk.1.1.1.1.1.2⟩⟩⟩⟩⟩)⟩
      have n5_ : Aside0 (Kd.R (Kd.int .u8) 5 ((((w20.setCell ⟨gb259, 0, none⟩ (.int .u8 t247)).setCell ⟨gb259, 1, none⟩ (.int .u32 t248)).setCell ⟨gb259, 2, none⟩ (.slice Ao23 t249.length co23)).setCell ⟨gb259, 3, none⟩ (.slice Ao24 t252.length co24)) w.heap.size (fun k_ => some k_ ≠ (.slice Ao13 t231.length co13 : Value).ownBlock ∧ some k_ ≠ (.slice Ao17 t236.length co17 : Value).ownBlock ∧ some k_ ≠ (.slice Ao18 t239.length co18 : Value).ownBlock ∧ some k_ ≠ (v243 : Value).ownBlock ∧ some k_ ≠ (.slice Ao23 t249.length co23 : Value).ownBlock ∧ some k_ ≠ (v256 : Value).ownBlock) (.slice Ao24 t252.length co24) t252) := ⟨by (with_reducible repeat (first | apply R_alloc | apply R_drewN | apply R_drew)); exact R_mono (R_far (p := ⟨gb259, 3, none⟩) (R_far (p := ⟨gb259, 2, none⟩) (R_far (p := ⟨gb259, 1, none⟩) (R_far (p := ⟨gb259, 0, none⟩) (R_types HO254.out BK259.out (by decide)) (fun _ hk => hk.2) (.int .u8 t247)) (fun _ hk => hk.2) (.int .u32 t248)) (fun _ hk => hk.2) (.slice Ao23 t249.length co23)) (fun _ hk => hk.2) (.slice Ao24 t252.length co24)) (fun _ hk => ⟨hk.1.1.1.1.2, ⟨hk.1.1.1.2, ⟨hk.1.1.2, ⟨hk.1.2, ⟨hk.1.1.1.1.1.1, hk.1.1.1.1.1.2⟩⟩⟩⟩⟩)⟩
      have n6_ : Aside0 (Kd.R (Kd.int .u8) 5 ((((w20.setCell ⟨gb259, 0, none⟩ (.int .u8 t247)).setCell ⟨gb259, 1, none⟩ (.int .u32 t248)).setCell ⟨gb259, 2, none⟩ (.slice Ao23 t249.length co23)).setCell ⟨gb259, 3, none⟩ (.slice Ao24 t252.length co24)) w.heap.size (fun k_ => some k_ ≠ (.slice Ao13 t231.length co13 : Value).ownBlock ∧ some k_ ≠ (.slice Ao17 t236.length co17 : Value).ownBlock ∧ some k_ ≠ (.slice Ao18 t239.length co18 : Value).ownBlock ∧ some k_ ≠ (v243 : Value).ownBlock ∧ some k_ ≠ (.slice Ao23 t249.length co23 : Value).ownBlock ∧ some k_ ≠ (.slice Ao24 t252.length co24 : Value).ownBlock) v256 t255) := ⟨by (with_reducible repeat (first | apply R_alloc | apply R_drewN | apply R_drew)); exact R_mono (R_far (p := ⟨gb259, 3, none⟩) (R_far (p := ⟨gb259, 2, none⟩) (R_far (p := ⟨gb259, 1, none⟩) (R_far (p := ⟨gb259, 0, none⟩) (R_types HO257.out BK259.out (by decide)) (fun _ hk => hk.2) (.int .u8 t247)) (fun _ hk => hk.2) (.int .u32 t248)) (fun _ hk => hk.2) (.slice Ao23 t249.length co23)) (fun _ hk => hk.2) (.slice Ao24 t252.length co24)) (fun _ hk => ⟨hk.1.1.1.1.2, ⟨hk.1.1.1.2, ⟨hk.1.1.2, ⟨hk.1.2, ⟨hk.1.1.1.1.1.1, hk.1.1.1.1.1.2⟩⟩⟩⟩⟩)⟩
      have n7_ : Aside0 (((((w20.setCell ⟨gb259, 0, none⟩ (.int .u8 t247)).setCell ⟨gb259, 1, none⟩ (.int .u32 t248)).setCell ⟨gb259, 2, none⟩ (.slice Ao23 t249.length co23)).setCell ⟨gb259, 3, none⟩ (.slice Ao24 t252.length co24)).heap[gb246]? = some (.cells #[.int .u8 t234, .int .u32 t235, .slice Ao17 t236.length co17, .slice Ao18 t239.length co18] 27 (0, 0))) := ⟨by (with_reducible repeat (first | refine blk_drewN ?_ _ | refine blk_drew ?_ | refine blk_alloc ?_ _)); refine blk_far ?_ NB246_259.out _; (with_reducible repeat (first | refine blk_drewN ?_ _ | refine blk_drew ?_ | refine blk_alloc ?_ _)); refine blk_far ?_ NB246_259.out _; (with_reducible repeat (first | refine blk_drewN ?_ _ | refine blk_drew ?_ | refine blk_alloc ?_ _)); refine blk_far ?_ NB246_259.out _; (with_reducible repeat (first | refine blk_drewN ?_ _ | refine blk_drew ?_ | refine blk_alloc ?_ _)); refine blk_far ?_ NB246_259.out _; (with_reducible repeat (first | refine blk_drewN ?_ _ | refine blk_drew ?_ | refine blk_alloc ?_ _)); exact BK246.out⟩
      have n8_ : Aside0 (((((w20.setCell ⟨gb259, 0, none⟩ (.int .u8 t247)).setCell ⟨gb259, 1, none⟩ (.int .u32 t248)).setCell ⟨gb259, 2, none⟩ (.slice Ao23 t249.length co23)).setCell ⟨gb259, 3, none⟩ (.slice Ao24 t252.length co24)).heap[gb259]? = some (.cells #[.int .u8 t247, .int .u32 t248, .slice Ao23 t249.length co23, .slice Ao24 t252.length co24] 31 (0, 0))) := ⟨by (with_reducible repeat (first | refine blk_drewN ?_ _ | refine blk_drew ?_ | refine blk_alloc ?_ _)); refine blk_put (cs := #[.int .u8 t247, .int .u32 t248, .slice Ao23 t249.length co23, .slice none 0 0]) ?_ 3 _ rfl; (with_reducible repeat (first | refine blk_drewN ?_ _ | refine blk_drew ?_ | refine blk_alloc ?_ _)); refine blk_put (cs := #[.int .u8 t247, .int .u32 t248, .slice none 0 0, .slice none 0 0]) ?_ 2 _ rfl; (with_reducible repeat (first | refine blk_drewN ?_ _ | refine blk_drew ?_ | refine blk_alloc ?_ _)); refine blk_put (cs := #[.int .u8 t247, .int .u32 0, .slice none 0 0, .slice none 0 0]) ?_ 1 _ rfl; (with_reducible repeat (first | refine blk_drewN ?_ _ | refine blk_drew ?_ | refine blk_alloc ?_ _)); refine blk_put (cs := #[.int .u8 0, .int .u32 0, .slice none 0 0, .slice none 0 0]) ?_ 0 _ rfl; (with_reducible repeat (first | refine blk_drewN ?_ _ | refine blk_drew ?_ | refine blk_alloc ?_ _)); exact BK259.out⟩
      have n9_ : Aside0 (Below w.heap.size w ((((w20.setCell ⟨gb259, 0, none⟩ (.int .u8 t247)).setCell ⟨gb259, 1, none⟩ (.int .u32 t248)).setCell ⟨gb259, 2, none⟩ (.slice Ao23 t249.length co23)).setCell ⟨gb259, 3, none⟩ (.slice Ao24 t252.length co24))) := ⟨by repeat (first | (with_reducible first | exact HB.out | apply below_alloc | apply pw_below_drewN | apply below_drew1 | refine below_set ?_ GE246.out | refine below_set ?_ GE259.out) | exact HB.out)⟩
      (try clear HO233)
      (try clear HO238)
      (try clear HO241)
      (try clear HO244)
      (try clear HO251)
      (try clear HO254)
      (try clear HO257)
      (try clear BK246)
      (try clear BK259)
      (try clear HB)
      generalize ((((w20.setCell ⟨gb259, 0, none⟩ (.int .u8 t247)).setCell ⟨gb259, 1, none⟩ (.int .u32 t248)).setCell ⟨gb259, 2, none⟩ (.slice Ao23 t249.length co23)).setCell ⟨gb259, 3, none⟩ (.slice Ao24 t252.length co24)) = w58 at n0_ n1_ n2_ n3_ n4_ n5_ n6_ n7_ n8_ n9_ ⊢
      have HO233 := n0_
      have HO238 := n1_
      have HO241 := n2_
      have HO244 := n3_
      have HO251 := n4_
      have HO254 := n5_
      have HO257 := n6_
      have BK246 := n7_
      have BK259 := n8_
      have HB := n9_
      clear n0_ n1_ n2_ n3_ n4_ n5_ n6_ n7_ n8_ n9_
      have n0_ := Aside0.mk (R_drew HO233.out)
      have n1_ := Aside0.mk (R_drew HO238.out)
      have n2_ := Aside0.mk (R_drew HO241.out)
      have n3_ := Aside0.mk (R_drew HO244.out)
      have n4_ := Aside0.mk (R_drew HO251.out)
      have n5_ := Aside0.mk (R_drew HO254.out)
      have n6_ := Aside0.mk (R_drew HO257.out)
      have n7_ := Aside0.mk (blk_drew BK246.out)
      have n8_ := Aside0.mk (blk_drew BK259.out)
      have n9_ := Aside0.mk (below_drew1 HB.out)
      clear HO233
      clear HO238
      clear HO241
      clear HO244
      clear HO251
      clear HO254
      clear HO257
      clear BK246
      clear BK259
      clear HB
      have HO233 := n0_
      have HO238 := n1_
      have HO241 := n2_
      have HO244 := n3_
      have HO251 := n4_
      have HO254 := n5_
      have HO257 := n6_
      have BK246 := n7_
      have BK259 := n8_
      have HB := n9_
      clear n0_ n1_ n2_ n3_ n4_ n5_ n6_ n7_ n8_ n9_
      refine start_ (n := 30) (S := fun w' => w'.cell? ⟨gb246, 0, none⟩ = some (.int .u8 t234) ∧ w'.cell? ⟨gb246, 1, none⟩ = some (.int .u32 t235) ∧ w'.cell? ⟨gb246, 2, none⟩ = some (.slice Ao17 t236.length co17) ∧ w'.cell? ⟨gb246, 3, none⟩ = some (.slice Ao18 t239.length co18) ∧ w'.cell? ⟨gb259, 0, none⟩ = some (.int .u8 t247) ∧ w'.cell? ⟨gb259, 1, none⟩ = some (.int .u32 t248) ∧ w'.cell? ⟨gb259, 2, none⟩ = some (.slice Ao23 t249.length co23) ∧ w'.cell? ⟨gb259, 3, none⟩ = some (.slice Ao24 t252.length co24)) (ds := []) #[false,false,false,false,false,false,false,false,false,false,false,false,false,false,false,false,false,false,false,false,false,false,false,false,false,false,false,false,false,false] (by kernel_rfl) rfl rfl ⟨(blk_cell BK246.out 0).trans rfl, (blk_cell BK246.out 1).trans rfl, (blk_cell BK246.out 2).trans rfl, (blk_cell BK246.out 3).trans rfl, (blk_cell BK259.out 0).trans rfl, (blk_cell BK259.out 1).trans rfl, (blk_cell BK259.out 2).trans rfl, (blk_cell BK259.out 3).trans rfl⟩ (fun hHeld => ?_); refine with_tabW crosswaylaw10_HeadParses.tab8 crosswaylaw10_HeadParses.bits8 (fun HT_ HW_ => ?_)
      generalize w58.drew = w59 at HO233 HO238 HO241 HO244 HO251 HO254 HO257 BK246 BK259 HB hHeld ⊢
      refine pure_ (i := 0) (N := some 34) (v := ?_) (a' := ?_) #[true,false,false,false,false,false,false,false,false,false,false,false,false,false,false,false,false,false,false,false,false,false,false,false,false,false,false,false,false,false] rfl rfl (any_of HT_.out (by kernel_rfl)) (fun _ _ _ h => h) (Or.inl ⟨by rfl, ?_⟩) ?_ ?_
      rotate_left
      ·intro w'; go_simp; with_reducible rfl
      rotate_left
      ·simp only [Act.put, sA, sB, sC, i64_w, i32_w]; rfl
      refine pure_ (i := 1) (N := some 35) (v := ?_) (a' := ?_) #[true,true,false,false,false,false,false,false,false,false,false,false,false,false,false,false,false,false,false,false,false,false,false,false,false,false,false,false,false,false] rfl rfl (any_of HT_.out (by kernel_rfl)) (fun _ _ _ h => h) (Or.inl ⟨by rfl, ?_⟩) ?_ ?_
      rotate_left
      ·intro w'; go_simp; with_reducible rfl
      rotate_left
      ·simp only [Act.put, sA, sB, sC, i64_w, i32_w]; rfl
      refine pure_ (i := 2) (N := some 36) (v := ?_) (a' := ?_) #[true,true,true,false,false,false,false,false,false,false,false,false,false,false,false,false,false,false,false,false,false,false,false,false,false,false,false,false,false,false] rfl rfl (any_of HT_.out (by kernel_rfl)) (fun _ _ _ h => h) (Or.inl ⟨by rfl, ?_⟩) ?_ ?_
      rotate_left
      ·intro w'; go_simp; with_reducible rfl
      rotate_left
      ·simp only [Act.put, sA, sB, sC, i64_w, i32_w]; rfl
      refine pure_ (i := 3) (N := some 37) (v := ?_) (a' := ?_) #[true,true,true,true,false,false,false,false,false,false,false,false,false,false,false,false,false,false,false,false,false,false,false,false,false,false,false,false,false,false] rfl rfl (any_of HT_.out (by kernel_rfl)) (fun _ _ _ h => h) (Or.inl ⟨by rfl, ?_⟩) ?_ ?_
      rotate_left
      ·intro w'; go_simp; with_reducible rfl
      rotate_left
      ·simp only [Act.put, sA, sB, sC, i64_w, i32_w]; rfl
      refine take_ (i := 4) (N := some 38) (v := ?_) (a' := ?_) #[true,true,true,true,true,false,false,false,false,false,false,false,false,false,false,false,false,false,false,false,false,false,false,false,false,false,false,false,false,false] rfl rfl (take_ofW HT_.out HW_.out (by kernel_rfl)) (fun _ _ _ h => h) (Or.inl ⟨by rfl, ?_⟩) hHeld ?_ ?_
      rotate_left
      ·rintro w' ⟨s0, s1, s2, s3, s4, s5, s6, s7⟩; go_simp; with_reducible rfl
      rotate_left
      ·simp only [Act.put, sA, sB, sC, i64_w, i32_w]; rfl
      refine take_ (i := 6) (N := some 40) (v := ?_) (a' := ?_) #[true,true,true,true,true,false,true,false,false,false,false,false,false,false,false,false,false,false,false,false,false,false,false,false,false,false,false,false,false,false] rfl rfl (take_ofW HT_.out HW_.out (by kernel_rfl)) (fun _ _ _ h => h) (Or.inl ⟨by rfl, ?_⟩) hHeld ?_ ?_
      rotate_left
      ·rintro w' ⟨s0, s1, s2, s3, s4, s5, s6, s7⟩; go_simp; with_reducible rfl
      rotate_left
      ·simp only [Act.put, sA, sB, sC, i64_w, i32_w]; rfl
      refine one_ (i := 5) (N := some 39) #[true,true,true,true,true,true,true,false,false,false,false,false,false,false,false,false,false,false,false,false,false,false,false,false,false,false,false,false,false,false] rfl rfl (one_of HT_.out (by kernel_rfl)) (by decide) (fun K hK => ?_)
      refine goes_ Try.func12 (by kernel_rfl) rfl #[.agg #[.int .u8 t234, .int .u32 t235, .slice Ao17 t236.length co17, .slice Ao18 t239.length co18]] (by rfl) rfl rfl (by (try simp only [List.map_toArray, List.map_cons, List.map_nil]); first | done | rfl | (simp only [List.length_drop, List.length_take]; rfl)) ?_
      with_reducible refine (crosswaylaw10_Of.calls t234 t235 _ _ t236 _ _ t239 t260 t261 t262 t265 _ ?side1 ?side2 ?side3 ?side4 A26.out).mono ?_
      (case side1 => repeat (first | exact (R_reads' HO238.out).2.2 | (with_reducible refine C_alloc ?_ _) | (with_reducible refine C_drewN ?_ _) | (with_reducible refine C_drew ?_)))
      (case side2 => exact (R_reads' HO238.out).2.1)
      (case side3 => repeat (first | exact (R_reads' HO241.out).2.2 | (with_reducible refine C_alloc ?_ _) | (with_reducible refine C_drewN ?_ _) | (with_reducible refine C_drew ?_)))
      (case side4 => exact (R_reads' HO241.out).2.1)
      rintro e w60 ⟨v263, v266, rfl, ho0, ho1, hb⟩
      refine ⟨_, rfl, ?_⟩
      have n0_ := Aside0.mk (R_mono (R_told (R_told (R_old (by (with_reducible repeat (first | apply R_alloc | apply R_drewN | apply R_drew)); exact HO233.out) hb) (R_base ho0)) (R_base ho1)) (fun _ h_ => h_.1))
      have n1_ := Aside0.mk (R_mono (R_told (R_told (R_old (by (with_reducible repeat (first | apply R_alloc | apply R_drewN | apply R_drew)); exact HO238.out) hb) (R_base ho0)) (R_base ho1)) (fun _ h_ => h_.1))
      have n2_ := Aside0.mk (R_mono (R_told (R_told (R_old (by (with_reducible repeat (first | apply R_alloc | apply R_drewN | apply R_drew)); exact HO241.out) hb) (R_base ho0)) (R_base ho1)) (fun _ h_ => h_.1))
      have n3_ := Aside0.mk (R_mono (R_told (R_told (R_old (by (with_reducible repeat (first | apply R_alloc | apply R_drewN | apply R_drew)); exact HO244.out) hb) (R_base ho0)) (R_base ho1)) (fun _ h_ => h_.1))
      have n4_ := Aside0.mk (R_mono (R_told (R_told (R_old (by (with_reducible repeat (first | apply R_alloc | apply R_drewN | apply R_drew)); exact HO251.out) hb) (R_base ho0)) (R_base ho1)) (fun _ h_ => h_.1))
      have n5_ := Aside0.mk (R_mono (R_told (R_told (R_old (by (with_reducible repeat (first | apply R_alloc | apply R_drewN | apply R_drew)); exact HO254.out) hb) (R_base ho0)) (R_base ho1)) (fun _ h_ => h_.1))
      have n7_ := Aside0.mk (R_lower (R_new' (R_new' (R_new' (R_new' (R_new' (R_new' (R_new' ho0 (R_lt (by (with_reducible repeat (first | apply R_alloc | apply R_drewN | apply R_drew)); exact HO233.out))) (R_lt (by (with_reducible repeat (first | apply R_alloc | apply R_drewN | apply R_drew)); exact HO238.out))) (R_lt (by (with_reducible repeat (first | apply R_alloc | apply R_drewN | apply R_drew)); exact HO241.out))) (R_lt (by (with_reducible repeat (first | apply R_alloc | apply R_drewN | apply R_drew)); exact HO244.out))) (R_lt (by (with_reducible repeat (first | apply R_alloc | apply R_drewN | apply R_drew)); exact HO251.out))) (R_lt (by (with_reducible repeat (first | apply R_alloc | apply R_drewN | apply R_drew)); exact HO254.out))) (R_lt (by (with_reducible repeat (first | apply R_alloc | apply R_drewN | apply R_drew)); exact HO257.out))) (below_size (by repeat (first | (with_reducible first | exact HB.out | apply below_alloc | apply pw_below_drewN | apply below_drew1 | refine below_set ?_ GE246.out | refine below_set ?_ GE259.out) | exact HB.out))))
      have n8_ := Aside0.mk (R_lower (R_new' (R_new' (R_new' (R_new' (R_new' (R_new' (R_new' ho1 (R_lt (by (with_reducible repeat (first | apply R_alloc | apply R_drewN | apply R_drew)); exact HO233.out))) (R_lt (by (with_reducible repeat (first | apply R_alloc | apply R_drewN | apply R_drew)); exact HO238.out))) (R_lt (by (with_reducible repeat (first | apply R_alloc | apply R_drewN | apply R_drew)); exact HO241.out))) (R_lt (by (with_reducible repeat (first | apply R_alloc | apply R_drewN | apply R_drew)); exact HO244.out))) (R_lt (by (with_reducible repeat (first | apply R_alloc | apply R_drewN | apply R_drew)); exact HO251.out))) (R_lt (by (with_reducible repeat (first | apply R_alloc | apply R_drewN | apply R_drew)); exact HO254.out))) (R_lt (by (with_reducible repeat (first | apply R_alloc | apply R_drewN | apply R_drew)); exact HO257.out))) (below_size (by repeat (first | (with_reducible first | exact HB.out | apply below_alloc | apply pw_below_drewN | apply below_drew1 | refine below_set ?_ GE246.out | refine below_set ?_ GE259.out) | exact HB.out))))
      have n9_ := Aside0.mk (blk_below (g := gb246) (o := .cells #[.int .u8 t234, .int .u32 t235, .slice Ao17 t236.length co17, .slice Ao18 t239.length co18] 27 (0, 0)) (by (with_reducible repeat (first | refine blk_drewN ?_ _ | refine blk_drew ?_ | refine blk_alloc ?_ _)); exact BK246.out) hb)
      have n10_ := Aside0.mk (blk_below (g := gb259) (o := .cells #[.int .u8 t247, .int .u32 t248, .slice Ao23 t249.length co23, .slice Ao24 t252.length co24] 31 (0, 0)) (by (with_reducible repeat (first | refine blk_drewN ?_ _ | refine blk_drew ?_ | refine blk_alloc ?_ _)); exact BK259.out) hb)
      have n11_ := Aside0.mk (below_step (by repeat (first | (with_reducible first | exact HB.out | apply below_alloc | apply pw_below_drewN | apply below_drew1 | refine below_set ?_ GE246.out | refine below_set ?_ GE259.out) | exact HB.out)) hb)
      clear HO233
      clear HO238
      clear HO241
      clear HO244
      clear HO251
      clear HO254
      clear BK246
      clear BK259
      clear HB
      have HO233 := n0_
      have HO238 := n1_
      have HO241 := n2_
      have HO244 := n3_
      have HO251 := n4_
      have HO254 := n5_
      have HO264 := n7_
      have HO267 := n8_
      have BK246 := n9_
      have BK259 := n10_
      have HB := n11_
      clear n0_ n1_ n2_ n3_ n4_ n5_ n7_ n8_ n9_ n10_ n11_
      (try clear hb)
      (try clear hb2)
      (try clear hk)
      (try clear hi)
      (try clear ho0)
      (try clear ho1)
      obtain ⟨Ao61, co61, eo61⟩ := R_slice HO264.out
      (first | subst eo61 | (injection eo61 with f1_ f2_ f3_; have f4_ := f1_.symm; have f5_ := f3_.symm; clear f1_ f2_ f3_; subst f4_; subst f5_))
      obtain ⟨Ao62, co62, eo62⟩ := R_slice HO267.out
      (first | subst eo62 | (injection eo62 with f1_ f2_ f3_; have f4_ := f1_.symm; have f5_ := f3_.symm; clear f1_ f2_ f3_; subst f4_; subst f5_))
      refine hK.out _ _ ⟨(blk_cell BK246.out 0).trans rfl, (blk_cell BK246.out 1).trans rfl, (blk_cell BK246.out 2).trans rfl, (blk_cell BK246.out 3).trans rfl, (blk_cell BK259.out 0).trans rfl, (blk_cell BK259.out 1).trans rfl, (blk_cell BK259.out 2).trans rfl, (blk_cell BK259.out 3).trans rfl⟩ (fun hHeld => ?_)
      clear hK K
      refine norm_ (a' := ?_) ?_ ?_
      rotate_left
      ·show Act.put _ (some 39) _ = _
       simp only [Act.put, sA, sB, sC, i64_w, i32_w]
       rfl
      refine one_ (i := 7) (N := some 41) #[true,true,true,true,true,true,true,true,false,false,false,false,false,false,false,false,false,false,false,false,false,false,false,false,false,false,false,false,false,false] rfl rfl (one_of HT_.out (by kernel_rfl)) (by decide) (fun K hK => ?_)
      refine goes_ Try.func11 (by kernel_rfl) rfl #[.agg #[.int .u8 t260, .int .u32 t261, .slice Ao61 t262.length co61, .slice Ao62 t265.length co62], .agg #[.int .u8 t247, .int .u32 t248, .slice Ao23 t249.length co23, .slice Ao24 t252.length co24]] (by rfl) rfl rfl (by (try simp only [List.map_toArray, List.map_cons, List.map_nil]); first | done | rfl | (simp only [List.length_drop, List.length_take]; rfl)) ?_
      with_reducible refine (crosswayref10_Same.calls t260 t261 _ _ t262 _ _ t265 t247 t248 _ _ t249 _ _ t252 false _ ?side1 ?side2 ?side3 ?side4 ?side5 ?side6 ?side7 ?side8 A27.out).mono ?_
      (case side1 => repeat (first | exact (R_reads' HO264.out).2.2 | (with_reducible refine C_alloc ?_ _) | (with_reducible refine C_drewN ?_ _) | (with_reducible refine C_drew ?_)))
      (case side2 => exact (R_reads' HO264.out).2.1)
      (case side3 => repeat (first | exact (R_reads' HO267.out).2.2 | (with_reducible refine C_alloc ?_ _) | (with_reducible refine C_drewN ?_ _) | (with_reducible refine C_drew ?_)))
      (case side4 => exact (R_reads' HO267.out).2.1)
      (case side5 => repeat (first | exact (R_reads' HO251.out).2.2 | (with_reducible refine C_alloc ?_ _) | (with_reducible refine C_drewN ?_ _) | (with_reducible refine C_drew ?_)))
      (case side6 => exact (R_reads' HO251.out).2.1)
      (case side7 => repeat (first | exact (R_reads' HO254.out).2.2 | (with_reducible refine C_alloc ?_ _) | (with_reducible refine C_drewN ?_ _) | (with_reducible refine C_drew ?_)))
      (case side8 => exact (R_reads' HO254.out).2.1)
      rintro e w63 ⟨rfl, hb⟩
      refine ⟨_, rfl, ?_⟩
      have n0_ := Aside0.mk (R_below (by (with_reducible repeat (first | apply R_alloc | apply R_drewN | apply R_drew)); exact HO233.out) hb)
      have n1_ := Aside0.mk (R_below (by (with_reducible repeat (first | apply R_alloc | apply R_drewN | apply R_drew)); exact HO238.out) hb)
      have n2_ := Aside0.mk (R_below (by (with_reducible repeat (first | apply R_alloc | apply R_drewN | apply R_drew)); exact HO241.out) hb)
      have n3_ := Aside0.mk (R_below (by (with_reducible repeat (first | apply R_alloc | apply R_drewN | apply R_drew)); exact HO244.out) hb)
      have n4_ := Aside0.mk (R_below (by (with_reducible repeat (first | apply R_alloc | apply R_drewN | apply R_drew)); exact HO251.out) hb)
      have n5_ := Aside0.mk (R_below (by (with_reducible repeat (first | apply R_alloc | apply R_drewN | apply R_drew)); exact HO254.out) hb)
      have n9_ := Aside0.mk (blk_below (g := gb246) (o := .cells #[.int .u8 t234, .int .u32 t235, .slice Ao17 t236.length co17, .slice Ao18 t239.length co18] 27 (0, 0)) (by (with_reducible repeat (first | refine blk_drewN ?_ _ | refine blk_drew ?_ | refine blk_alloc ?_ _)); exact BK246.out) hb)
      have n10_ := Aside0.mk (blk_below (g := gb259) (o := .cells #[.int .u8 t247, .int .u32 t248, .slice Ao23 t249.length co23, .slice Ao24 t252.length co24] 31 (0, 0)) (by (with_reducible repeat (first | refine blk_drewN ?_ _ | refine blk_drew ?_ | refine blk_alloc ?_ _)); exact BK259.out) hb)
      have n11_ := Aside0.mk (below_step (by repeat (first | (with_reducible first | exact HB.out | apply below_alloc | apply pw_below_drewN | apply below_drew1 | refine below_set ?_ GE246.out | refine below_set ?_ GE259.out) | exact HB.out)) hb)
      clear HO233
      clear HO238
      clear HO241
      clear HO244
      clear HO251
      clear HO254
      clear BK246
      clear BK259
      clear HB
      have HO233 := n0_
      have HO238 := n1_
      have HO241 := n2_
      have HO244 := n3_
      have HO251 := n4_
      have HO254 := n5_
      have BK246 := n9_
      have BK259 := n10_
      have HB := n11_
      clear n0_ n1_ n2_ n3_ n4_ n5_ n9_ n10_ n11_
      (try clear hb)
      (try clear hb2)
      (try clear hk)
      (try clear hi)
      refine hK.out _ _ ⟨(blk_cell BK246.out 0).trans rfl, (blk_cell BK246.out 1).trans rfl, (blk_cell BK246.out 2).trans rfl, (blk_cell BK246.out 3).trans rfl, (blk_cell BK259.out 0).trans rfl, (blk_cell BK259.out 1).trans rfl, (blk_cell BK259.out 2).trans rfl, (blk_cell BK259.out 3).trans rfl⟩ (fun hHeld => ?_)
      clear hK K
      refine norm_ (a' := ?_) ?_ ?_
      rotate_left
      ·show Act.put _ (some 41) _ = _
       simp only [Act.put, sA, sB, sC, i64_w, i32_w]
       rfl
      refine pure_ (i := 8) (N := some 42) (v := ?_) (a' := ?_) #[true,true,true,true,true,true,true,true,true,false,false,false,false,false,false,false,false,false,false,false,false,false,false,false,false,false,false,false,false,false] rfl rfl (any_of HT_.out (by kernel_rfl)) (fun _ _ _ h => h) (Or.inl ⟨by rfl, ?_⟩) ?_ ?_
      rotate_left
      ·intro w'; go_simp; with_reducible rfl
      rotate_left
      ·simp only [Act.put, sA, sB, sC, i64_w, i32_w]; rfl
      refine pure_ (i := 9) (N := some 43) (v := ?_) (a' := ?_) #[true,true,true,true,true,true,true,true,true,true,false,false,false,false,false,false,false,false,false,false,false,false,false,false,false,false,false,false,false,false] rfl rfl (any_of HT_.out (by kernel_rfl)) (fun _ _ _ h => h) (Or.inl ⟨by rfl, ?_⟩) ?_ ?_
      rotate_left
      ·intro w'; go_simp; with_reducible rfl
      rotate_left
      ·simp only [Act.put, sA, sB, sC, i64_w, i32_w]; rfl
      refine pure_ (i := 10) (N := some 44) (v := ?_) (a' := ?_) #[true,true,true,true,true,true,true,true,true,true,true,false,false,false,false,false,false,false,false,false,false,false,false,false,false,false,false,false,false,false] rfl rfl (any_of HT_.out (by kernel_rfl)) (fun _ _ _ h => h) (Or.inl ⟨by rfl, ?_⟩) ?_ ?_
      rotate_left
      ·intro w'; go_simp; with_reducible rfl
      rotate_left
      ·simp only [Act.put, sA, sB, sC, i64_w, i32_w]; rfl
      refine pure_ (i := 11) (N := some 45) (v := undef) (a' := ?_) #[true,true,true,true,true,true,true,true,true,true,true,true,false,false,false,false,false,false,false,false,false,false,false,false,false,false,false,false,false,false] rfl rfl (any_of HT_.out (by kernel_rfl)) (fun _ _ _ h => h) (Or.inr ⟨by rfl, rfl⟩) ?_ ?_
      rotate_left
      ·simp only [Act.put, sA, sB, sC, i64_w, i32_w]; rfl
      refine pure_ (i := 12) (N := some 46) (v := undef) (a' := ?_) #[true,true,true,true,true,true,true,true,true,true,true,true,true,false,false,false,false,false,false,false,false,false,false,false,false,false,false,false,false,false] rfl rfl (any_of HT_.out (by kernel_rfl)) (fun _ _ _ h => h) (Or.inr ⟨by rfl, rfl⟩) ?_ ?_
      rotate_left
      ·simp only [Act.put, sA, sB, sC, i64_w, i32_w]; rfl
      refine pure_ (i := 13) (N := some 47) (v := undef) (a' := ?_) #[true,true,true,true,true,true,true,true,true,true,true,true,true,true,false,false,false,false,false,false,false,false,false,false,false,false,false,false,false,false] rfl rfl (any_of HT_.out (by kernel_rfl)) (fun _ _ _ h => h) (Or.inr ⟨by rfl, rfl⟩) ?_ ?_
      rotate_left
      ·simp only [Act.put, sA, sB, sC, i64_w, i32_w]; rfl
      refine pure_ (i := 14) (N := some 48) (v := undef) (a' := ?_) #[true,true,true,true,true,true,true,true,true,true,true,true,true,true,true,false,false,false,false,false,false,false,false,false,false,false,false,false,false,false] rfl rfl (any_of HT_.out (by kernel_rfl)) (fun _ _ _ h => h) (Or.inr ⟨by rfl, rfl⟩) ?_ ?_
      rotate_left
      ·simp only [Act.put, sA, sB, sC, i64_w, i32_w]; rfl
      refine pure_ (i := 15) (N := some 49) (v := ?_) (a' := ?_) #[true,true,true,true,true,true,true,true,true,true,true,true,true,true,true,true,false,false,false,false,false,false,false,false,false,false,false,false,false,false] rfl rfl (any_of HT_.out (by kernel_rfl)) (fun _ _ _ h => h) (Or.inl ⟨by rfl, ?_⟩) ?_ ?_
      rotate_left
      ·intro w'; go_simp; with_reducible rfl
      rotate_left
      ·simp only [Act.put, sA, sB, sC, i64_w, i32_w]; rfl
      refine pure_ (i := 16) (N := some 50) (v := ?_) (a' := ?_) #[true,true,true,true,true,true,true,true,true,true,true,true,true,true,true,true,true,false,false,false,false,false,false,false,false,false,false,false,false,false] rfl rfl (any_of HT_.out (by kernel_rfl)) (fun _ _ _ h => h) (Or.inl ⟨by rfl, ?_⟩) ?_ ?_
      rotate_left
      ·intro w'; go_simp; with_reducible rfl
      rotate_left
      ·simp only [Act.put, sA, sB, sC, i64_w, i32_w]; rfl
      refine pure_ (i := 17) (N := some 51) (v := undef) (a' := ?_) #[true,true,true,true,true,true,true,true,true,true,true,true,true,true,true,true,true,true,false,false,false,false,false,false,false,false,false,false,false,false] rfl rfl (any_of HT_.out (by kernel_rfl)) (fun _ _ _ h => h) (Or.inr ⟨by rfl, rfl⟩) ?_ ?_
      rotate_left
      ·simp only [Act.put, sA, sB, sC, i64_w, i32_w]; rfl
      refine pure_ (i := 18) (N := some 52) (v := undef) (a' := ?_) #[true,true,true,true,true,true,true,true,true,true,true,true,true,true,true,true,true,true,true,false,false,false,false,false,false,false,false,false,false,false] rfl rfl (any_of HT_.out (by kernel_rfl)) (fun _ _ _ h => h) (Or.inr ⟨by rfl, rfl⟩) ?_ ?_
      rotate_left
      ·simp only [Act.put, sA, sB, sC, i64_w, i32_w]; rfl
      refine pure_ (i := 19) (N := some 53) (v := undef) (a' := ?_) #[true,true,true,true,true,true,true,true,true,true,true,true,true,true,true,true,true,true,true,true,false,false,false,false,false,false,false,false,false,false] rfl rfl (any_of HT_.out (by kernel_rfl)) (fun _ _ _ h => h) (Or.inr ⟨by rfl, rfl⟩) ?_ ?_
      rotate_left
      ·simp only [Act.put, sA, sB, sC, i64_w, i32_w]; rfl
      refine pure_ (i := 20) (N := some 54) (v := undef) (a' := ?_) #[true,true,true,true,true,true,true,true,true,true,true,true,true,true,true,true,true,true,true,true,true,false,false,false,false,false,false,false,false,false] rfl rfl (any_of HT_.out (by kernel_rfl)) (fun _ _ _ h => h) (Or.inr ⟨by rfl, rfl⟩) ?_ ?_
      rotate_left
      ·simp only [Act.put, sA, sB, sC, i64_w, i32_w]; rfl
      refine pure_ (i := 21) (N := some 55) (v := undef) (a' := ?_) #[true,true,true,true,true,true,true,true,true,true,true,true,true,true,true,true,true,true,true,true,true,true,false,false,false,false,false,false,false,false] rfl rfl (any_of HT_.out (by kernel_rfl)) (fun _ _ _ h => h) (Or.inr ⟨by rfl, rfl⟩) ?_ ?_
      rotate_left
      ·simp only [Act.put, sA, sB, sC, i64_w, i32_w]; rfl
      refine pure_ (i := 22) (N := some 56) (v := undef) (a' := ?_) #[true,true,true,true,true,true,true,true,true,true,true,true,true,true,true,true,true,true,true,true,true,true,true,false,false,false,false,false,false,false] rfl rfl (any_of HT_.out (by kernel_rfl)) (fun _ _ _ h => h) (Or.inr ⟨by rfl, rfl⟩) ?_ ?_
      rotate_left
      ·simp only [Act.put, sA, sB, sC, i64_w, i32_w]; rfl
      refine pure_ (i := 23) (N := some 57) (v := undef) (a' := ?_) #[true,true,true,true,true,true,true,true,true,true,true,true,true,true,true,true,true,true,true,true,true,true,true,true,false,false,false,false,false,false] rfl rfl (any_of HT_.out (by kernel_rfl)) (fun _ _ _ h => h) (Or.inr ⟨by rfl, rfl⟩) ?_ ?_
      rotate_left
      ·simp only [Act.put, sA, sB, sC, i64_w, i32_w]; rfl
      refine pure_ (i := 24) (N := some 58) (v := undef) (a' := ?_) #[true,true,true,true,true,true,true,true,true,true,true,true,true,true,true,true,true,true,true,true,true,true,true,true,true,false,false,false,false,false] rfl rfl (any_of HT_.out (by kernel_rfl)) (fun _ _ _ h => h) (Or.inr ⟨by rfl, rfl⟩) ?_ ?_
      rotate_left
      ·simp only [Act.put, sA, sB, sC, i64_w, i32_w]; rfl
      refine pure_ (i := 25) (N := some 59) (v := undef) (a' := ?_) #[true,true,true,true,true,true,true,true,true,true,true,true,true,true,true,true,true,true,true,true,true,true,true,true,true,true,false,false,false,false] rfl rfl (any_of HT_.out (by kernel_rfl)) (fun _ _ _ h => h) (Or.inr ⟨by rfl, rfl⟩) ?_ ?_
      rotate_left
      ·simp only [Act.put, sA, sB, sC, i64_w, i32_w]; rfl
      refine pure_ (i := 26) (N := some 60) (v := undef) (a' := ?_) #[true,true,true,true,true,true,true,true,true,true,true,true,true,true,true,true,true,true,true,true,true,true,true,true,true,true,true,false,false,false] rfl rfl (any_of HT_.out (by kernel_rfl)) (fun _ _ _ h => h) (Or.inr ⟨by rfl, rfl⟩) ?_ ?_
      rotate_left
      ·simp only [Act.put, sA, sB, sC, i64_w, i32_w]; rfl
      refine pure_ (i := 27) (N := some 61) (v := undef) (a' := ?_) #[true,true,true,true,true,true,true,true,true,true,true,true,true,true,true,true,true,true,true,true,true,true,true,true,true,true,true,true,false,false] rfl rfl (any_of HT_.out (by kernel_rfl)) (fun _ _ _ h => h) (Or.inr ⟨by rfl, rfl⟩) ?_ ?_
      rotate_left
      ·simp only [Act.put, sA, sB, sC, i64_w, i32_w]; rfl
      refine pure_ (i := 28) (N := some 62) (v := undef) (a' := ?_) #[true,true,true,true,true,true,true,true,true,true,true,true,true,true,true,true,true,true,true,true,true,true,true,true,true,true,true,true,true,false] rfl rfl (any_of HT_.out (by kernel_rfl)) (fun _ _ _ h => h) (Or.inr ⟨by rfl, rfl⟩) ?_ ?_
      rotate_left
      ·simp only [Act.put, sA, sB, sC, i64_w, i32_w]; rfl
      refine pure_ (i := 29) (N := some 63) (v := ?_) (a' := ?_) #[true,true,true,true,true,true,true,true,true,true,true,true,true,true,true,true,true,true,true,true,true,true,true,true,true,true,true,true,true,true] rfl rfl (any_of HT_.out (by kernel_rfl)) (fun _ _ _ h => h) (Or.inl ⟨by rfl, ?_⟩) ?_ ?_
      rotate_left
      ·intro w'; go_simp; with_reducible rfl
      rotate_left
      ·simp only [Act.put, sA, sB, sC, i64_w, i32_w]; rfl
      refine done_ (done_of HT_.out (by kernel_rfl)) ?_
      try go_wp2
      go_meet
      case rel => exact ⟨_, (true), (by first | rfl | (simp; done) | (simp [*]; done) | (simp only [i64_w]; done) | (simp [i64_w]; done)), H', ⟨by first | omega | exact Nat.le_refl _⟩, ⟨by (with_reducible repeat (first | apply R_alloc | apply R_drewN | apply R_drew)); exact R_mono HO233.out (fun _ hk => ⟨hk.1.1.2.2.1, ⟨hk.1.1.1, ⟨hk.1.1.2.1, ⟨hk.1.1.2.2.2.1, hk.1.1.2.2.2.2.1⟩⟩⟩⟩)⟩, ⟨by (with_reducible repeat (first | apply R_alloc | apply R_drewN | apply R_drew)); exact R_mono HO244.out (fun _ hk => ⟨hk.1.1.1, ⟨hk.1.1.2.1, ⟨hk.1.1.2.2.1, ⟨hk.1.1.2.2.2.1, hk.1.1.2.2.2.2.1⟩⟩⟩⟩)⟩, ⟨by (with_reducible repeat (first | apply R_alloc | apply R_drewN | apply R_drew)); exact R_mono HO238.out (fun _ hk => ⟨hk.1.1.1, ⟨hk.1.1.2.2.1, ⟨hk.1.1.2.1, ⟨hk.1.1.2.2.2.1, hk.1.1.2.2.2.2.1⟩⟩⟩⟩)⟩, ⟨by (with_reducible repeat (first | apply R_alloc | apply R_drewN | apply R_drew)); exact R_mono HO241.out (fun _ hk => ⟨hk.1.1.1, ⟨hk.1.1.2.2.1, ⟨hk.1.1.2.1, ⟨hk.1.1.2.2.2.1, hk.1.1.2.2.2.2.1⟩⟩⟩⟩)⟩, ⟨by (with_reducible repeat (first | apply R_alloc | apply R_drewN | apply R_drew)); exact R_mono HO251.out (fun _ hk => ⟨hk.1.1.1, ⟨hk.1.1.2.2.2.1, ⟨hk.1.1.2.1, ⟨hk.1.1.2.2.1, hk.1.1.2.2.2.2.1⟩⟩⟩⟩)⟩, ⟨by (with_reducible repeat (first | apply R_alloc | apply R_drewN | apply R_drew)); exact R_mono HO254.out (fun _ hk => ⟨hk.1.1.1, ⟨hk.1.1.2.2.2.1, ⟨hk.1.1.2.1, ⟨hk.1.1.2.2.1, hk.1.1.2.2.2.2.1⟩⟩⟩⟩)⟩, ⟨by (with_reducible repeat (first | refine blk_drewN ?_ _ | refine blk_drew ?_ | refine blk_alloc ?_ _)); exact BK246.out⟩, ⟨by (with_reducible repeat (first | refine blk_drewN ?_ _ | refine blk_drew ?_ | refine blk_alloc ?_ _)); exact BK259.out⟩, ⟨by repeat (first | (with_reducible first | exact HB.out | apply below_alloc | apply pw_below_drewN | apply below_drew1 | refine below_set ?_ GE246.out | refine below_set ?_ GE259.out) | exact HB.out)⟩⟩
    ·rw [if_neg c25] at H
     have c25b0 : (t245 == t258) = false := beq_eq_false_iff_ne.mpr c25
     have c25b1 : (t245 != t258) = true := bne_iff_ne.mpr c25
     (first | rw [c25b0] | (simp only [i64_w, i32_w]; rw [c25b0]) | skip)
     have H' := Aside0.mk H
     clear H
     try go_wp2
     have n0_ : Aside0 (Kd.R (Kd.int .u8) 5 ((((w20.setCell ⟨gb259, 0, none⟩ (.int .u8 t247)).setCell ⟨gb259, 1, none⟩ (.int .u32 t248)).setCell ⟨gb259, 2, none⟩ (.slice Ao23 t249.length co23)).setCell ⟨gb259, 3, none⟩ (.slice Ao24 t252.length co24)) w.heap.size (fun k_ => some k_ ≠ (.slice Ao17 t236.length co17 : Value).ownBlock ∧ some k_ ≠ (.slice Ao18 t239.length co18 : Value).ownBlock ∧ some k_ ≠ (v243 : Value).ownBlock ∧ some k_ ≠ (.slice Ao23 t249.length co23 : Value).ownBlock ∧ some k_ ≠ (.slice Ao24 t252.length co24 : Value).ownBlock ∧ some k_ ≠ (v256 : Value).ownBlock) (.slice Ao13 t231.length co13) t231) := ⟨by (with_reducible repeat (first | apply R_alloc | apply R_drewN | apply R_drew)); exact R_mono (R_far (p := ⟨gb259, 3, none⟩) (R_far (p := ⟨gb259, 2, none⟩) (R_far (p := ⟨gb259, 1, none⟩) (R_far (p := ⟨gb259, 0, none⟩) (R_types HO233.out BK259.out (by decide)) (fun _ hk => hk.2) (.int .u8 t247)) (fun _ hk => hk.2) (.int .u32 t248)) (fun _ hk => hk.2) (.slice Ao23 t249.length co23)) (fun _ hk => hk.2) (.slice Ao24 t252.length co24)) (fun _ hk => ⟨hk.1.1.1.1.1.1.2, ⟨hk.1.1.1.1.1.2, ⟨hk.1.1.1.1.2, ⟨hk.1.1.1.2, ⟨hk.1.1.2, hk.1.2⟩⟩⟩⟩⟩)⟩
     have n1_ : Aside0 (Kd.R (Kd.int .u8) 5 ((((w20.setCell ⟨gb259, 0, none⟩ (.int .u8 t247)).setCell ⟨gb259, 1, none⟩ (.int .u32 t248)).setCell ⟨gb259, 2, none⟩ (.slice Ao23 t249.length co23)).setCell ⟨gb259, 3, none⟩ (.slice Ao24 t252.length co24)) w.heap.size (fun k_ => some k_ ≠ (.slice Ao13 t231.length co13 : Value).ownBlock ∧ some k_ ≠ (.slice Ao18 t239.length co18 : Value).ownBlock ∧ some k_ ≠ (v243 : Value).ownBlock ∧ some k_ ≠ (.slice Ao23 t249.length co23 : Value).ownBlock ∧ some k_ ≠ (.slice Ao24 t252.length co24 : Value).ownBlock ∧ some k_ ≠ (v256 : Value).ownBlock) (.slice Ao17 t236.length co17) t236) := ⟨by (with_reducible repeat (first | apply R_alloc | apply R_drewN | apply R_drew)); exact R_mono (R_far (p := ⟨gb259, 3, none⟩) (R_far (p := ⟨gb259, 2, none⟩) (R_far (p := ⟨gb259, 1, none⟩) (R_far (p := ⟨gb259, 0, none⟩) (R_types HO238.out BK259.out (by decide)) (fun _ hk => hk.2) (.int .u8 t247)) (fun _ hk => hk.2) (.int .u32 t248)) (fun _ hk => hk.2) (.slice Ao23 t249.length co23)) (fun _ hk => hk.2) (.slice Ao24 t252.length co24)) (fun _ hk => ⟨hk.1.1.1.1.2, ⟨hk.1.1.1.1.1.1, ⟨hk.1.1.1.1.1.2, ⟨hk.1.1.1.2, ⟨hk.1.1.2, hk.1.2⟩⟩⟩⟩⟩)⟩
     have n2_ : Aside0 (Kd.R (Kd.int .u8) 5 ((((w20.setCell ⟨gb259, 0, none⟩ (.int .u8 t247)).setCell ⟨gb259, 1, none⟩ (.int .u32 t248)).setCell ⟨gb259, 2, none⟩ (.slice Ao23 t249.length co23)).setCell ⟨gb259, 3, none⟩ (.slice Ao24 t252.length co24)) w.heap.size (fun k_ => some k_ ≠ (.slice Ao13 t231.length co13 : Value).ownBlock ∧ some k_ ≠ (.slice Ao17 t236.length co17 : Value).ownBlock ∧ some k_ ≠ (v243 : Value).ownBlock ∧ some k_ ≠ (.slice Ao23 t249.length co23 : Value).ownBlock ∧ some k_ ≠ (.slice Ao24 t252.length co24 : Value).ownBlock ∧ some k_ ≠ (v256 : Value).ownBlock) (.slice Ao18 t239.length co18) t239) := ⟨by (with_reducible repeat (first | apply R_alloc | apply R_drewN | apply R_drew)); exact R_mono (R_far (p := ⟨gb259, 3, none⟩) (R_far (p := ⟨gb259, 2, none⟩) (R_far (p := ⟨gb259, 1, none⟩) (R_far (p := ⟨gb259, 0, none⟩) (R_types HO241.out BK259.out (by decide)) (fun _ hk => hk.2) (.int .u8 t247)) (fun _ hk => hk.2) (.int .u32 t248)) (fun _ hk => hk.2) (.slice Ao23 t249.length co23)) (fun _ hk => hk.2) (.slice Ao24 t252.length co24)) (fun _ hk => ⟨hk.1.1.1.1.2, ⟨hk.1.1.1.1.1.1, ⟨hk.1.1.1.1.1.2, ⟨hk.1.1.1.2, ⟨hk.1.1.2, hk.1.2⟩⟩⟩⟩⟩)⟩
     have n3_ : Aside0 (Kd.R (Kd.int .u8) 5 ((((w20.setCell ⟨gb259, 0, none⟩ (.int .u8 t247)).setCell ⟨gb259, 1, none⟩ (.int .u32 t248)).setCell ⟨gb259, 2, none⟩ (.slice Ao23 t249.length co23)).setCell ⟨gb259, 3, none⟩ (.slice Ao24 t252.length co24)) w.heap.size (fun k_ => some k_ ≠ (.slice Ao13 t231.length co13 : Value).ownBlock ∧ some k_ ≠ (.slice Ao17 t236.length co17 : Value).ownBlock ∧ some k_ ≠ (.slice Ao18 t239.length co18 : Value).ownBlock ∧ some k_ ≠ (.slice Ao23 t249.length co23 : Value).ownBlock ∧ some k_ ≠ (.slice Ao24 t252.length co24 : Value).ownBlock ∧ some k_ ≠ (v256 : Value).ownBlock) v243 t242) := ⟨by (with_reducible repeat (first | apply R_alloc | apply R_drewN | apply R_drew)); exact R_mono (R_far (p := ⟨gb259, 3, none⟩) (R_far (p := ⟨gb259, 2, none⟩) (R_far (p := ⟨gb259, 1, none⟩) (R_far (p := ⟨gb259, 0, none⟩) (R_types HO244.out BK259.out (by decide)) (fun _ hk => hk.2) (.int .u8 t247)) (fun _ hk => hk.2) (.int .u32 t248)) (fun _ hk => hk.2) (.slice Ao23 t249.length co23)) (fun _ hk => hk.2) (.slice Ao24 t252.length co24)) (fun _ hk => ⟨hk.1.1.1.1.2, ⟨hk.1.1.1.1.1.1, ⟨hk.1.1.1.1.1.2, ⟨hk.1.1.1.2, ⟨hk.1.1.2, hk.1.2⟩⟩⟩⟩⟩)⟩
     have n4_ : Aside0 (Kd.R (Kd.int .u8) 5 ((((w20.setCell ⟨gb259, 0, none⟩ (.int .u8 t247)).setCell ⟨gb259, 1, none⟩ (.int .u32 t248)).setCell ⟨gb259, 2, none⟩ (.slice Ao23 t249.length co23)).setCell ⟨gb259, 3, none⟩ (.slice Ao24 t252.length co24)) w.heap.size (fun k_ => some k_ ≠ (.slice Ao13 t231.length co13 : Value).ownBlock ∧ some k_ ≠ (.slice Ao17 t236.length co17 : Value).ownBlock ∧ some k_ ≠ (.slice Ao18 t239.length co18 : Value).ownBlock ∧ some k_ ≠ (v243 : Value).ownBlock ∧ some k_ ≠ (.slice Ao24 t252.length co24 : Value).ownBlock ∧ some k_ ≠ (v256 : Value).ownBlock) (.slice Ao23 t249.length co23) t249) := ⟨by (with_reducible repeat (first | apply R_alloc | apply R_drewN | apply R_drew)); exact R_mono (R_far (p := ⟨gb259, 3, none⟩) (R_far (p := ⟨gb259, 2, none⟩) (R_far (p := ⟨gb259, 1, none⟩) (R_far (p := ⟨gb259, 0, none⟩) (R_types HO251.out BK259.out (by decide)) (fun _ hk => hk.2) (.int .u8 t247)) (fun _ hk => hk.2) (.int .u32 t248)) (fun _ hk => hk.2) (.slice Ao23 t249.length co23)) (fun _ hk => hk.2) (.slice Ao24 t252.length co24)) (fun _ hk => ⟨hk.1.1.1.1.2, ⟨hk.1.1.1.2, ⟨hk.1.1.2, ⟨hk.1.2, ⟨hk.1.1.1.1.1.1, hk.1.1.1.1.1.2⟩⟩⟩⟩⟩)⟩
     have n5_ : Aside0 (Kd.R (Kd.int .u8) 5 ((((w20.setCell ⟨gb259, 0, none⟩ (.int .u8 t247)).setCell ⟨gb259, 1, none⟩ (.int .u32 t248)).setCell ⟨gb259, 2, none⟩ (.slice Ao23 t249.length co23)).setCell ⟨gb259, 3, none⟩ (.slice Ao24 t252.length co24)) w.heap.size (fun k_ => some k_ ≠ (.slice Ao13 t231.length co13 : Value).ownBlock ∧ some k_ ≠ (.slice Ao17 t236.length co17 : Value).ownBlock ∧ some k_ ≠ (.slice Ao18 t239.length co18 : Value).ownBlock ∧ some k_ ≠ (v243 : Value).ownBlock ∧ some k_ ≠ (.slice Ao23 t249.length co23 : Value).ownBlock ∧ some k_ ≠ (v256 : Value).ownBlock) (.slice Ao24 t252.length co24) t252) := ⟨by (with_reducible repeat (first | apply R_alloc | apply R_drewN | apply R_drew)); exact R_mono (R_far (p := ⟨gb259, 3, none⟩) (R_far (p := ⟨gb259, 2, none⟩) (R_far (p := ⟨gb259, 1, none⟩) (R_far (p := ⟨gb259, 0, none⟩) (R_types HO254.out BK259.out (by decide)) (fun _ hk => hk.2) (.int .u8 t247)) (fun _ hk => hk.2) (.int .u32 t248)) (fun _ hk => hk.2) (.slice Ao23 t249.length co23)) (fun _ hk => hk.2) (.slice Ao24 t252.length co24)) (fun _ hk => ⟨hk.1.1.1.1.2, ⟨hk.1.1.1.2, ⟨hk.1.1.2, ⟨hk.1.2, ⟨hk.1.1.1.1.1.1, hk.1.1.1.1.1.2⟩⟩⟩⟩⟩)⟩
     have n6_ : Aside0 (Kd.R (Kd.int .u8) 5 ((((w20.setCell ⟨gb259, 0, none⟩ (.int .u8 t247)).setCell ⟨gb259, 1, none⟩ (.int .u32 t248)).setCell ⟨gb259, 2, none⟩ (.slice Ao23 t249.length co23)).setCell ⟨gb259, 3, none⟩ (.slice Ao24 t252.length co24)) w.heap.size (fun k_ => some k_ ≠ (.slice Ao13 t231.length co13 : Value).ownBlock ∧ some k_ ≠ (.slice Ao17 t236.length co17 : Value).ownBlock ∧ some k_ ≠ (.slice Ao18 t239.length co18 : Value).ownBlock ∧ some k_ ≠ (v243 : Value).ownBlock ∧ some k_ ≠ (.slice Ao23 t249.length co23 : Value).ownBlock ∧ some k_ ≠ (.slice Ao24 t252.length co24 : Value).ownBlock) v256 t255) := ⟨by (with_reducible repeat (first | apply R_alloc | apply R_drewN | apply R_drew)); exact R_mono (R_far (p := ⟨gb259, 3, none⟩) (R_far (p := ⟨gb259, 2, none⟩) (R_far (p := ⟨gb259, 1, none⟩) (R_far (p := ⟨gb259, 0, none⟩) (R_types HO257.out BK259.out (by decide)) (fun _ hk => hk.2) (.int .u8 t247)) (fun _ hk => hk.2) (.int .u32 t248)) (fun _ hk => hk.2) (.slice Ao23 t249.length co23)) (fun _ hk => hk.2) (.slice Ao24 t252.length co24)) (fun _ hk => ⟨hk.1.1.1.1.2, ⟨hk.1.1.1.2, ⟨hk.1.1.2, ⟨hk.1.2, ⟨hk.1.1.1.1.1.1, hk.1.1.1.1.1.2⟩⟩⟩⟩⟩)⟩
     have n7_ : Aside0 (((((w20.setCell ⟨gb259, 0, none⟩ (.int .u8 t247)).setCell ⟨gb259, 1, none⟩ (.int .u32 t248)).setCell ⟨gb259, 2, none⟩ (.slice Ao23 t249.length co23)).setCell ⟨gb259, 3, none⟩ (.slice Ao24 t252.length co24)).heap[gb246]? = some (.cells #[.int .u8 t234, .int .u32 t235, .slice Ao17 t236.length co17, .slice Ao18 t239.length co18] 27 (0, 0))) := ⟨by (with_reducible repeat (first | refine blk_drewN ?_ _ | refine blk_drew ?_ | refine blk_alloc ?_ _)); refine blk_far ?_ NB246_259.out _; (with_reducible repeat (first | refine blk_drewN ?_ _ | refine blk_drew ?_ | refine blk_alloc ?_ _)); refine blk_far ?_ NB246_259.out _; (with_reducible repeat (first | refine blk_drewN ?_ _ | refine blk_drew ?_ | refine blk_alloc ?_ _)); refine blk_far ?_ NB246_259.out _; (with_reducible repeat (first | refine blk_drewN ?_ _ | refine blk_drew ?_ | refine blk_alloc ?_ _)); refine blk_far ?_ NB246_259.out _; (with_reducible repeat (first | refine blk_drewN ?_ _ | refine blk_drew ?_ | refine blk_alloc ?_ _)); exact BK246.out⟩
     have n8_ : Aside0 (((((w20.setCell ⟨gb259, 0, none⟩ (.int .u8 t247)).setCell ⟨gb259, 1, none⟩ (.int .u32 t248)).setCell ⟨gb259, 2, none⟩ (.slice Ao23 t249.length co23)).setCell ⟨gb259, 3, none⟩ (.slice Ao24 t252.length co24)).heap[gb259]? = some (.cells #[.int .u8 t247, .int .u32 t248, .slice Ao23 t249.length co23, .slice Ao24 t252.length co24] 31 (0, 0))) := ⟨by (with_reducible repeat (first | refine blk_drewN ?_ _ | refine blk_drew ?_ | refine blk_alloc ?_ _)); refine blk_put (cs := #[.int .u8 t247, .int .u32 t248, .slice Ao23 t249.length co23, .slice none 0 0]) ?_ 3 _ rfl; (with_reducible repeat (first | refine blk_drewN ?_ _ | refine blk_drew ?_ | refine blk_alloc ?_ _)); refine blk_put (cs := #[.int .u8 t247, .int .u32 t248, .slice none 0 0, .slice none 0 0]) ?_ 2 _ rfl; (with_reducible repeat (first | refine blk_drewN ?_ _ | refine blk_drew ?_ | refine blk_alloc ?_ _)); refine blk_put (cs := #[.int .u8 t247, .int .u32 0, .slice none 0 0, .slice none 0 0]) ?_ 1 _ rfl; (with_reducible repeat (first | refine blk_drewN ?_ _ | refine blk_drew ?_ | refine blk_alloc ?_ _)); refine blk_put (cs := #[.int .u8 0, .int .u32 0, .slice none 0 0, .slice none 0 0]) ?_ 0 _ rfl; (with_reducible repeat (first | refine blk_drewN ?_ _ | refine blk_drew ?_ | refine blk_alloc ?_ _)); exact BK259.out⟩
     have n9_ : Aside0 (Below w.heap.size w ((((w20.setCell ⟨gb259, 0, none⟩ (.int .u8 t247)).setCell ⟨gb259, 1, none⟩ (.int .u32 t248)).setCell ⟨gb259, 2, none⟩ (.slice Ao23 t249.length co23)).setCell ⟨gb259, 3, none⟩ (.slice Ao24 t252.length co24))) := ⟨by repeat (first | (with_reducible first | exact HB.out | apply below_alloc | apply pw_below_drewN | apply below_drew1 | refine below_set ?_ GE246.out | refine below_set ?_ GE259.out) | exact HB.out)⟩
     (try clear HO233)
     (try clear HO238)
     (try clear HO241)
     (try clear HO244)
     (try clear HO251)
     (try clear HO254)
     (try clear HO257)
     (try clear BK246)
     (try clear BK259)
     (try clear HB)
     generalize ((((w20.setCell ⟨gb259, 0, none⟩ (.int .u8 t247)).setCell ⟨gb259, 1, none⟩ (.int .u32 t248)).setCell ⟨gb259, 2, none⟩ (.slice Ao23 t249.length co23)).setCell ⟨gb259, 3, none⟩ (.slice Ao24 t252.length co24)) = w64 at n0_ n1_ n2_ n3_ n4_ n5_ n6_ n7_ n8_ n9_ ⊢
     have HO233 := n0_
     have HO238 := n1_
     have HO241 := n2_
     have HO244 := n3_
     have HO251 := n4_
     have HO254 := n5_
     have HO257 := n6_
     have BK246 := n7_
     have BK259 := n8_
     have HB := n9_
     clear n0_ n1_ n2_ n3_ n4_ n5_ n6_ n7_ n8_ n9_
     have n0_ := Aside0.mk (R_drew HO233.out)
     have n1_ := Aside0.mk (R_drew HO238.out)
     have n2_ := Aside0.mk (R_drew HO241.out)
     have n3_ := Aside0.mk (R_drew HO244.out)
     have n4_ := Aside0.mk (R_drew HO251.out)
     have n5_ := Aside0.mk (R_drew HO254.out)
     have n6_ := Aside0.mk (R_drew HO257.out)
     have n7_ := Aside0.mk (blk_drew BK246.out)
     have n8_ := Aside0.mk (blk_drew BK259.out)
     have n9_ := Aside0.mk (below_drew1 HB.out)
     clear HO233
     clear HO238
     clear HO241
     clear HO244
     clear HO251
     clear HO254
     clear HO257
     clear BK246
     clear BK259
     clear HB
     have HO233 := n0_
     have HO238 := n1_
     have HO241 := n2_
     have HO244 := n3_
     have HO251 := n4_
     have HO254 := n5_
     have HO257 := n6_
     have BK246 := n7_
     have BK259 := n8_
     have HB := n9_
     clear n0_ n1_ n2_ n3_ n4_ n5_ n6_ n7_ n8_ n9_
     refine start_ (n := 30) (S := fun w' => True) (ds := []) #[false,false,false,false,false,false,false,false,false,false,false,false,false,false,false,false,false,false,false,false,false,false,false,false,false,false,false,false,false,false] (by kernel_rfl) rfl rfl trivial (fun hHeld => ?_); refine with_tabW crosswaylaw10_HeadParses.tab8 crosswaylaw10_HeadParses.bits8 (fun HT_ HW_ => ?_)
     generalize w64.drew = w65 at HO233 HO238 HO241 HO244 HO251 HO254 HO257 BK246 BK259 HB hHeld ⊢
     refine pure_ (i := 0) (N := some 34) (v := ?_) (a' := ?_) #[true,false,false,false,false,false,false,false,false,false,false,false,false,false,false,false,false,false,false,false,false,false,false,false,false,false,false,false,false,false] rfl rfl (any_of HT_.out (by kernel_rfl)) (fun _ _ _ h => h) (Or.inl ⟨by rfl, ?_⟩) ?_ ?_
     rotate_left
     ·intro w'; go_simp; with_reducible rfl
     rotate_left
     ·simp only [Act.put, sA, sB, sC, i64_w, i32_w]; rfl
     refine pure_ (i := 1) (N := some 35) (v := ?_) (a' := ?_) #[true,true,false,false,false,false,false,false,false,false,false,false,false,false,false,false,false,false,false,false,false,false,false,false,false,false,false,false,false,false] rfl rfl (any_of HT_.out (by kernel_rfl)) (fun _ _ _ h => h) (Or.inl ⟨by rfl, ?_⟩) ?_ ?_
     rotate_left
     ·intro w'; go_simp; with_reducible rfl
     rotate_left
     ·simp only [Act.put, sA, sB, sC, i64_w, i32_w]; rfl
     refine pure_ (i := 2) (N := some 36) (v := ?_) (a' := ?_) #[true,true,true,false,false,false,false,false,false,false,false,false,false,false,false,false,false,false,false,false,false,false,false,false,false,false,false,false,false,false] rfl rfl (any_of HT_.out (by kernel_rfl)) (fun _ _ _ h => h) (Or.inl ⟨by rfl, ?_⟩) ?_ ?_
     rotate_left
     ·intro w'; go_simp; with_reducible rfl
     rotate_left
     ·simp only [Act.put, sA, sB, sC, i64_w, i32_w]; rfl
     refine pure_ (i := 3) (N := some 37) (v := ?_) (a' := ?_) #[true,true,true,true,false,false,false,false,false,false,false,false,false,false,false,false,false,false,false,false,false,false,false,false,false,false,false,false,false,false] rfl rfl (any_of HT_.out (by kernel_rfl)) (fun _ _ _ h => h) (Or.inl ⟨by rfl, ?_⟩) ?_ ?_
     rotate_left
     ·intro w'; go_simp; with_reducible rfl
     rotate_left
     ·simp only [Act.put, sA, sB, sC, i64_w, i32_w]; rfl
     refine pure_ (i := 4) (N := some 38) (v := undef) (a' := ?_) #[true,true,true,true,true,false,false,false,false,false,false,false,false,false,false,false,false,false,false,false,false,false,false,false,false,false,false,false,false,false] rfl rfl (any_of HT_.out (by kernel_rfl)) (fun _ _ _ h => h) (Or.inr ⟨by rfl, rfl⟩) ?_ ?_
     rotate_left
     ·simp only [Act.put, sA, sB, sC, i64_w, i32_w]; rfl
     refine pure_ (i := 5) (N := some 39) (v := undef) (a' := ?_) #[true,true,true,true,true,true,false,false,false,false,false,false,false,false,false,false,false,false,false,false,false,false,false,false,false,false,false,false,false,false] rfl rfl (any_of HT_.out (by kernel_rfl)) (fun _ _ _ h => h) (Or.inr ⟨by rfl, rfl⟩) ?_ ?_
     rotate_left
     ·simp only [Act.put, sA, sB, sC, i64_w, i32_w]; rfl
     refine pure_ (i := 6) (N := some 40) (v := undef) (a' := ?_) #[true,true,true,true,true,true,true,false,false,false,false,false,false,false,false,false,false,false,false,false,false,false,false,false,false,false,false,false,false,false] rfl rfl (any_of HT_.out (by kernel_rfl)) (fun _ _ _ h => h) (Or.inr ⟨by rfl, rfl⟩) ?_ ?_
     rotate_left
     ·simp only [Act.put, sA, sB, sC, i64_w, i32_w]; rfl
     refine pure_ (i := 7) (N := some 41) (v := undef) (a' := ?_) #[true,true,true,true,true,true,true,true,false,false,false,false,false,false,false,false,false,false,false,false,false,false,false,false,false,false,false,false,false,false] rfl rfl (any_of HT_.out (by kernel_rfl)) (fun _ _ _ h => h) (Or.inr ⟨by rfl, rfl⟩) ?_ ?_
     rotate_left
     ·simp only [Act.put, sA, sB, sC, i64_w, i32_w]; rfl
     refine pure_ (i := 8) (N := some 42) (v := undef) (a' := ?_) #[true,true,true,true,true,true,true,true,true,false,false,false,false,false,false,false,false,false,false,false,false,false,false,false,false,false,false,false,false,false] rfl rfl (any_of HT_.out (by kernel_rfl)) (fun _ _ _ h => h) (Or.inr ⟨by rfl, rfl⟩) ?_ ?_
     rotate_left
     ·simp only [Act.put, sA, sB, sC, i64_w, i32_w]; rfl
     refine pure_ (i := 9) (N := some 43) (v := ?_) (a' := ?_) #[true,true,true,true,true,true,true,true,true,true,false,false,false,false,false,false,false,false,false,false,false,false,false,false,false,false,false,false,false,false] rfl rfl (any_of HT_.out (by kernel_rfl)) (fun _ _ _ h => h) (Or.inl ⟨by rfl, ?_⟩) ?_ ?_
     rotate_left
     ·intro w'; go_simp; with_reducible rfl
     rotate_left
     ·simp only [Act.put, sA, sB, sC, i64_w, i32_w]; rfl
     refine pure_ (i := 10) (N := some 44) (v := ?_) (a' := ?_) #[true,true,true,true,true,true,true,true,true,true,true,false,false,false,false,false,false,false,false,false,false,false,false,false,false,false,false,false,false,false] rfl rfl (any_of HT_.out (by kernel_rfl)) (fun _ _ _ h => h) (Or.inl ⟨by rfl, ?_⟩) ?_ ?_
     rotate_left
     ·intro w'; go_simp; with_reducible rfl
     rotate_left
     ·simp only [Act.put, sA, sB, sC, i64_w, i32_w]; rfl
     refine pure_ (i := 11) (N := some 45) (v := undef) (a' := ?_) #[true,true,true,true,true,true,true,true,true,true,true,true,false,false,false,false,false,false,false,false,false,false,false,false,false,false,false,false,false,false] rfl rfl (any_of HT_.out (by kernel_rfl)) (fun _ _ _ h => h) (Or.inr ⟨by rfl, rfl⟩) ?_ ?_
     rotate_left
     ·simp only [Act.put, sA, sB, sC, i64_w, i32_w]; rfl
     refine pure_ (i := 12) (N := some 46) (v := undef) (a' := ?_) #[true,true,true,true,true,true,true,true,true,true,true,true,true,false,false,false,false,false,false,false,false,false,false,false,false,false,false,false,false,false] rfl rfl (any_of HT_.out (by kernel_rfl)) (fun _ _ _ h => h) (Or.inr ⟨by rfl, rfl⟩) ?_ ?_
     rotate_left
     ·simp only [Act.put, sA, sB, sC, i64_w, i32_w]; rfl
     refine pure_ (i := 13) (N := some 47) (v := undef) (a' := ?_) #[true,true,true,true,true,true,true,true,true,true,true,true,true,true,false,false,false,false,false,false,false,false,false,false,false,false,false,false,false,false] rfl rfl (any_of HT_.out (by kernel_rfl)) (fun _ _ _ h => h) (Or.inr ⟨by rfl, rfl⟩) ?_ ?_
     rotate_left
     ·simp only [Act.put, sA, sB, sC, i64_w, i32_w]; rfl
     refine pure_ (i := 14) (N := some 48) (v := undef) (a' := ?_) #[true,true,true,true,true,true,true,true,true,true,true,true,true,true,true,false,false,false,false,false,false,false,false,false,false,false,false,false,false,false] rfl rfl (any_of HT_.out (by kernel_rfl)) (fun _ _ _ h => h) (Or.inr ⟨by rfl, rfl⟩) ?_ ?_
     rotate_left
     ·simp only [Act.put, sA, sB, sC, i64_w, i32_w]; rfl
     refine pure_ (i := 15) (N := some 49) (v := ?_) (a' := ?_) #[true,true,true,true,true,true,true,true,true,true,true,true,true,true,true,true,false,false,false,false,false,false,false,false,false,false,false,false,false,false] rfl rfl (any_of HT_.out (by kernel_rfl)) (fun _ _ _ h => h) (Or.inl ⟨by rfl, ?_⟩) ?_ ?_
     rotate_left
     ·intro w'; go_simp; with_reducible rfl
     rotate_left
     ·simp only [Act.put, sA, sB, sC, i64_w, i32_w]; rfl
     refine pure_ (i := 16) (N := some 50) (v := ?_) (a' := ?_) #[true,true,true,true,true,true,true,true,true,true,true,true,true,true,true,true,true,false,false,false,false,false,false,false,false,false,false,false,false,false] rfl rfl (any_of HT_.out (by kernel_rfl)) (fun _ _ _ h => h) (Or.inl ⟨by rfl, ?_⟩) ?_ ?_
     rotate_left
     ·intro w'; go_simp; with_reducible rfl
     rotate_left
     ·simp only [Act.put, sA, sB, sC, i64_w, i32_w]; rfl
     refine pure_ (i := 17) (N := some 51) (v := undef) (a' := ?_) #[true,true,true,true,true,true,true,true,true,true,true,true,true,true,true,true,true,true,false,false,false,false,false,false,false,false,false,false,false,false] rfl rfl (any_of HT_.out (by kernel_rfl)) (fun _ _ _ h => h) (Or.inr ⟨by rfl, rfl⟩) ?_ ?_
     rotate_left
     ·simp only [Act.put, sA, sB, sC, i64_w, i32_w]; rfl
     refine pure_ (i := 18) (N := some 52) (v := undef) (a' := ?_) #[true,true,true,true,true,true,true,true,true,true,true,true,true,true,true,true,true,true,true,false,false,false,false,false,false,false,false,false,false,false] rfl rfl (any_of HT_.out (by kernel_rfl)) (fun _ _ _ h => h) (Or.inr ⟨by rfl, rfl⟩) ?_ ?_
     rotate_left
     ·simp only [Act.put, sA, sB, sC, i64_w, i32_w]; rfl
     refine pure_ (i := 19) (N := some 53) (v := undef) (a' := ?_) #[true,true,true,true,true,true,true,true,true,true,true,true,true,true,true,true,true,true,true,true,false,false,false,false,false,false,false,false,false,false] rfl rfl (any_of HT_.out (by kernel_rfl)) (fun _ _ _ h => h) (Or.inr ⟨by rfl, rfl⟩) ?_ ?_
     rotate_left
     ·simp only [Act.put, sA, sB, sC, i64_w, i32_w]; rfl
     refine pure_ (i := 20) (N := some 54) (v := undef) (a' := ?_) #[true,true,true,true,true,true,true,true,true,true,true,true,true,true,true,true,true,true,true,true,true,false,false,false,false,false,false,false,false,false] rfl rfl (any_of HT_.out (by kernel_rfl)) (fun _ _ _ h => h) (Or.inr ⟨by rfl, rfl⟩) ?_ ?_
     rotate_left
     ·simp only [Act.put, sA, sB, sC, i64_w, i32_w]; rfl
     refine pure_ (i := 21) (N := some 55) (v := undef) (a' := ?_) #[true,true,true,true,true,true,true,true,true,true,true,true,true,true,true,true,true,true,true,true,true,true,false,false,false,false,false,false,false,false] rfl rfl (any_of HT_.out (by kernel_rfl)) (fun _ _ _ h => h) (Or.inr ⟨by rfl, rfl⟩) ?_ ?_
     rotate_left
     ·simp only [Act.put, sA, sB, sC, i64_w, i32_w]; rfl
     refine pure_ (i := 22) (N := some 56) (v := undef) (a' := ?_) #[true,true,true,true,true,true,true,true,true,true,true,true,true,true,true,true,true,true,true,true,true,true,true,false,false,false,false,false,false,false] rfl rfl (any_of HT_.out (by kernel_rfl)) (fun _ _ _ h => h) (Or.inr ⟨by rfl, rfl⟩) ?_ ?_
     rotate_left
     ·simp only [Act.put, sA, sB, sC, i64_w, i32_w]; rfl
     refine pure_ (i := 23) (N := some 57) (v := undef) (a' := ?_) #[true,true,true,true,true,true,true,true,true,true,true,true,true,true,true,true,true,true,true,true,true,true,true,true,false,false,false,false,false,false] rfl rfl (any_of HT_.out (by kernel_rfl)) (fun _ _ _ h => h) (Or.inr ⟨by rfl, rfl⟩) ?_ ?_
     rotate_left
     ·simp only [Act.put, sA, sB, sC, i64_w, i32_w]; rfl
     refine pure_ (i := 24) (N := some 58) (v := undef) (a' := ?_) #[true,true,true,true,true,true,true,true,true,true,true,true,true,true,true,true,true,true,true,true,true,true,true,true,true,false,false,false,false,false] rfl rfl (any_of HT_.out (by kernel_rfl)) (fun _ _ _ h => h) (Or.inr ⟨by rfl, rfl⟩) ?_ ?_
     rotate_left
     ·simp only [Act.put, sA, sB, sC, i64_w, i32_w]; rfl
     refine pure_ (i := 25) (N := some 59) (v := undef) (a' := ?_) #[true,true,true,true,true,true,true,true,true,true,true,true,true,true,true,true,true,true,true,true,true,true,true,true,true,true,false,false,false,false] rfl rfl (any_of HT_.out (by kernel_rfl)) (fun _ _ _ h => h) (Or.inr ⟨by rfl, rfl⟩) ?_ ?_
     rotate_left
     ·simp only [Act.put, sA, sB, sC, i64_w, i32_w]; rfl
     refine pure_ (i := 26) (N := some 60) (v := undef) (a' := ?_) #[true,true,true,true,true,true,true,true,true,true,true,true,true,true,true,true,true,true,true,true,true,true,true,true,true,true,true,false,false,false] rfl rfl (any_of HT_.out (by kernel_rfl)) (fun _ _ _ h => h) (Or.inr ⟨by rfl, rfl⟩) ?_ ?_
     rotate_left
     ·simp only [Act.put, sA, sB, sC, i64_w, i32_w]; rfl
     refine pure_ (i := 27) (N := some 61) (v := undef) (a' := ?_) #[true,true,true,true,true,true,true,true,true,true,true,true,true,true,true,true,true,true,true,true,true,true,true,true,true,true,true,true,false,false] rfl rfl (any_of HT_.out (by kernel_rfl)) (fun _ _ _ h => h) (Or.inr ⟨by rfl, rfl⟩) ?_ ?_
     rotate_left
     ·simp only [Act.put, sA, sB, sC, i64_w, i32_w]; rfl
     refine pure_ (i := 28) (N := some 62) (v := undef) (a' := ?_) #[true,true,true,true,true,true,true,true,true,true,true,true,true,true,true,true,true,true,true,true,true,true,true,true,true,true,true,true,true,false] rfl rfl (any_of HT_.out (by kernel_rfl)) (fun _ _ _ h => h) (Or.inr ⟨by rfl, rfl⟩) ?_ ?_
     rotate_left
     ·simp only [Act.put, sA, sB, sC, i64_w, i32_w]; rfl
     refine pure_ (i := 29) (N := some 63) (v := ?_) (a' := ?_) #[true,true,true,true,true,true,true,true,true,true,true,true,true,true,true,true,true,true,true,true,true,true,true,true,true,true,true,true,true,true] rfl rfl (any_of HT_.out (by kernel_rfl)) (fun _ _ _ h => h) (Or.inl ⟨by rfl, ?_⟩) ?_ ?_
     rotate_left
     ·intro w'; go_simp; with_reducible rfl
     rotate_left
     ·simp only [Act.put, sA, sB, sC, i64_w, i32_w]; rfl
     refine done_ (done_of HT_.out (by kernel_rfl)) ?_
     try go_wp2
     go_meet
     case rel => exact ⟨_, (true), (by first | rfl | (simp; done) | (simp [*]; done) | (simp only [i64_w]; done) | (simp [i64_w]; done)), H', ⟨by first | omega | exact Nat.le_refl _⟩, ⟨by (with_reducible repeat (first | apply R_alloc | apply R_drewN | apply R_drew)); exact R_mono HO233.out (fun _ hk => ⟨hk.2.2.1, ⟨hk.1, ⟨hk.2.1, ⟨hk.2.2.2.1, hk.2.2.2.2.1⟩⟩⟩⟩)⟩, ⟨by (with_reducible repeat (first | apply R_alloc | apply R_drewN | apply R_drew)); exact R_mono HO244.out (fun _ hk => ⟨hk.1, ⟨hk.2.1, ⟨hk.2.2.1, ⟨hk.2.2.2.1, hk.2.2.2.2.1⟩⟩⟩⟩)⟩, ⟨by (with_reducible repeat (first | apply R_alloc | apply R_drewN | apply R_drew)); exact R_mono HO238.out (fun _ hk => ⟨hk.1, ⟨hk.2.2.1, ⟨hk.2.1, ⟨hk.2.2.2.1, hk.2.2.2.2.1⟩⟩⟩⟩)⟩, ⟨by (with_reducible repeat (first | apply R_alloc | apply R_drewN | apply R_drew)); exact R_mono HO241.out (fun _ hk => ⟨hk.1, ⟨hk.2.2.1, ⟨hk.2.1, ⟨hk.2.2.2.1, hk.2.2.2.2.1⟩⟩⟩⟩)⟩, ⟨by (with_reducible repeat (first | apply R_alloc | apply R_drewN | apply R_drew)); exact R_mono HO251.out (fun _ hk => ⟨hk.1, ⟨hk.2.2.2.1, ⟨hk.2.1, ⟨hk.2.2.1, hk.2.2.2.2.1⟩⟩⟩⟩)⟩, ⟨by (with_reducible repeat (first | apply R_alloc | apply R_drewN | apply R_drew)); exact R_mono HO254.out (fun _ hk => ⟨hk.1, ⟨hk.2.2.2.1, ⟨hk.2.1, ⟨hk.2.2.1, hk.2.2.2.2.1⟩⟩⟩⟩)⟩, ⟨by (with_reducible repeat (first | refine blk_drewN ?_ _ | refine blk_drew ?_ | refine blk_alloc ?_ _)); exact BK246.out⟩, ⟨by (with_reducible repeat (first | refine blk_drewN ?_ _ | refine blk_drew ?_ | refine blk_alloc ?_ _)); exact BK259.out⟩, ⟨by repeat (first | (with_reducible first | exact HB.out | apply below_alloc | apply pw_below_drewN | apply below_drew1 | refine below_set ?_ GE246.out | refine below_set ?_ GE259.out) | exact HB.out)⟩⟩
   case rest =>
    clear HC10
    try clear c1; try clear c2; try clear p2; try clear c11; try clear c12; try clear c25; try clear c25b0; try clear c25b1; try clear c28
    obtain ⟨kq, x63_9, rfl, HA, HJ9, HO_5, HO_7, HO_247002, HO_247003, HO_260002, HO_260003, BK246, BK259, HB⟩ := hcut
    cases kq with
    | zero => exact absurd HA.out (by simp [crosswaylaw10_HeadParses.j0])
    | succ kj9 =>
     have H := HA.out
     clear HA
     simp only [crosswaylaw10_HeadParses.j0] at H
     by_cases c66 : x63_9 = true
     ·subst c66
      have H1 : (none) = some r := by rw [if_pos rfl] at H; exact H
      clear H
      have H := H1
      clear H1
      exact absurd H (by simp)
     ·replace c66 := Bool.eq_false_iff.mpr c66
      subst c66
      have H1 : ((head_Id.f kj9 t231 a1).bind fun bt272 => (crosswaylaw10_HeadParses.l0 kj9 l0 a1 t231 t242 bt272.1 bt272.2 0)) = some r := by rw [if_neg (show ¬ (false = true) by decide)] at H; exact H
      clear H
      have H := H1
      clear H1
      replace H := Option.bind_eq_some_iff.mp H
      obtain ⟨⟨t272, t273⟩, A670, H⟩ := H
      try dsimp only at H
      have A67 := Aside0.mk A670
      clear A670
      have H' := Aside0.mk H
      clear H
      go_wp2_with (first | ((with_reducible refine gate_callee (f := 15) rfl ?_); refine goesL_ (some 67) rfl rfl Try.func15 (by kernel_rfl) rfl #[.slice Ao13 t231.length co13, .int .i64 a1] rfl (by (try simp only [List.map_toArray, List.map_cons, List.map_nil]); first | done | rfl | (simp only [List.length_drop, List.length_take]; rfl)) ?_; (with_reducible refine (head_Id.calls kj9 _ _ t231 a1 t272 t273 _ ?side1 ?side2 A67.out).mono ?_); (case side1 => repeat (first | exact (R_reads' HO_5.out).2.2 | (with_reducible refine C_alloc ?_ _) | (with_reducible refine C_drewN ?_ _) | (with_reducible refine C_drew ?_))); (case side2 => exact (R_reads' HO_5.out).2.1); rintro e w68 ⟨v274, rfl, ho0, hb⟩; refine ⟨_, rfl, ?_⟩; have n0_ := Aside0.mk (R_elder' (by (with_reducible repeat (first | apply R_alloc | apply R_drewN | apply R_drew)); exact HO_5.out) (R_base ho0) hb); have n1_ := Aside0.mk (R_elder' (by (with_reducible repeat (first | apply R_alloc | apply R_drewN | apply R_drew)); exact HO_7.out) (R_base ho0) hb); have n2_ := Aside0.mk (R_elder' (by (with_reducible repeat (first | apply R_alloc | apply R_drewN | apply R_drew)); exact HO_247002.out) (R_base ho0) hb); have n3_ := Aside0.mk (R_elder' (by (with_reducible repeat (first | apply R_alloc | apply R_drewN | apply R_drew)); exact HO_247003.out) (R_base ho0) hb); have n4_ := Aside0.mk (R_elder' (by (with_reducible repeat (first | apply R_alloc | apply R_drewN | apply R_drew)); exact HO_260002.out) (R_base ho0) hb); have n5_ := Aside0.mk (R_elder' (by (with_reducible repeat (first | apply R_alloc | apply R_drewN | apply R_drew)); exact HO_260003.out) (R_base ho0) hb); have n6_ := Aside0.mk (R_lower (R_new' (R_new' (R_new' (R_new' (R_new' (R_new' ho0 (R_lt (by (with_reducible repeat (first | apply R_alloc | apply R_drewN | apply R_drew)); exact HO_5.out))) (R_lt (by (with_reducible repeat (first | apply R_alloc | apply R_drewN | apply R_drew)); exact HO_7.out))) (R_lt (by (with_reducible repeat (first | apply R_alloc | apply R_drewN | apply R_drew)); exact HO_247002.out))) (R_lt (by (with_reducible repeat (first | apply R_alloc | apply R_drewN | apply R_drew)); exact HO_247003.out))) (R_lt (by (with_reducible repeat (first | apply R_alloc | apply R_drewN | apply R_drew)); exact HO_260002.out))) (R_lt (by (with_reducible repeat (first | apply R_alloc | apply R_drewN | apply R_drew)); exact HO_260003.out))) (below_size (by repeat (first | (with_reducible first | exact HB.out | apply below_alloc | apply pw_below_drewN | apply below_drew1 | refine below_set ?_ GE246.out | refine below_set ?_ GE259.out) | exact HB.out)))); have n7_ := Aside0.mk (blk_below (g := gb246) (o := .cells #[.int .u8 t234, .int .u32 t235, .slice Ao17 t236.length co17, .slice Ao18 t239.length co18] 27 (0, 0)) (by (with_reducible repeat (first | refine blk_drewN ?_ _ | refine blk_drew ?_ | refine blk_alloc ?_ _)); exact BK246.out) hb); have n8_ := Aside0.mk (blk_below (g := gb259) (o := .cells #[.int .u8 t247, .int .u32 t248, .slice Ao23 t249.length co23, .slice Ao24 t252.length co24] 31 (0, 0)) (by (with_reducible repeat (first | refine blk_drewN ?_ _ | refine blk_drew ?_ | refine blk_alloc ?_ _)); exact BK259.out) hb); have n9_ := Aside0.mk (below_step (by repeat (first | (with_reducible first | exact HB.out | apply below_alloc | apply pw_below_drewN | apply below_drew1 | refine below_set ?_ GE246.out | refine below_set ?_ GE259.out) | exact HB.out)) hb); clear HO_5 HO_7 HO_247002 HO_247003 HO_260002 HO_260003 BK246 BK259 HB; have HO_5 := n0_; have HO_7 := n1_; have HO_247002 := n2_; have HO_247003 := n3_; have HO_260002 := n4_; have HO_260003 := n5_; have HO275 := n6_; have BK246 := n7_; have BK259 := n8_; have HB := n9_; clear n0_ n1_ n2_ n3_ n4_ n5_ n6_ n7_ n8_ n9_; (try clear hb); (try clear hb2); (try clear hk); (try clear hi); (try clear ho0)))
      go_loopg [14] kj9 (fun kq v14 w' => ∃ (x7_2 : List Int) (x14_2 : Int), v14 = .int .i64 x14_2 ∧ Aside0 (crosswaylaw10_HeadParses.l0 kq l0 a1 t231 x7_2 t272 t273 x14_2 = some r) ∧ Aside0 (kq ≤ kj9) ∧ Aside0 (Kd.R (Kd.int .u8) 5 w' w.heap.size (fun k_ => some k_ ≠ (v243 : Value).ownBlock ∧ some k_ ≠ (v274 : Value).ownBlock ∧ some k_ ≠ ((.slice Ao17 t236.length co17) : Value).ownBlock ∧ some k_ ≠ ((.slice Ao18 t239.length co18) : Value).ownBlock ∧ some k_ ≠ ((.slice Ao23 t249.length co23) : Value).ownBlock ∧ some k_ ≠ ((.slice Ao24 t252.length co24) : Value).ownBlock) (.slice Ao13 t231.length co13) t231) ∧ Aside0 (Kd.R (Kd.int .u8) 5 w' w.heap.size (fun k_ => some k_ ≠ ((.slice Ao13 t231.length co13) : Value).ownBlock ∧ some k_ ≠ (v274 : Value).ownBlock ∧ some k_ ≠ ((.slice Ao17 t236.length co17) : Value).ownBlock ∧ some k_ ≠ ((.slice Ao18 t239.length co18) : Value).ownBlock ∧ some k_ ≠ ((.slice Ao23 t249.length co23) : Value).ownBlock ∧ some k_ ≠ ((.slice Ao24 t252.length co24) : Value).ownBlock) v243 x7_2) ∧ Aside0 (Kd.R (Kd.int .u8) 5 w' w.heap.size (fun k_ => some k_ ≠ ((.slice Ao13 t231.length co13) : Value).ownBlock ∧ some k_ ≠ (v243 : Value).ownBlock ∧ some k_ ≠ ((.slice Ao17 t236.length co17) : Value).ownBlock ∧ some k_ ≠ ((.slice Ao18 t239.length co18) : Value).ownBlock ∧ some k_ ≠ ((.slice Ao23 t249.length co23) : Value).ownBlock ∧ some k_ ≠ ((.slice Ao24 t252.length co24) : Value).ownBlock) v274 t272) ∧ Aside0 (Kd.R (Kd.int .u8) 5 w' w.heap.size (fun k_ => some k_ ≠ ((.slice Ao13 t231.length co13) : Value).ownBlock ∧ some k_ ≠ (v243 : Value).ownBlock ∧ some k_ ≠ (v274 : Value).ownBlock ∧ some k_ ≠ ((.slice Ao18 t239.length co18) : Value).ownBlock ∧ some k_ ≠ ((.slice Ao23 t249.length co23) : Value).ownBlock ∧ some k_ ≠ ((.slice Ao24 t252.length co24) : Value).ownBlock) (.slice Ao17 t236.length co17) t236) ∧ Aside0 (Kd.R (Kd.int .u8) 5 w' w.heap.size (fun k_ => some k_ ≠ ((.slice Ao13 t231.length co13) : Value).ownBlock ∧ some k_ ≠ (v243 : Value).ownBlock ∧ some k_ ≠ (v274 : Value).ownBlock ∧ some k_ ≠ ((.slice Ao17 t236.length co17) : Value).ownBlock ∧ some k_ ≠ ((.slice Ao23 t249.length co23) : Value).ownBlock ∧ some k_ ≠ ((.slice Ao24 t252.length co24) : Value).ownBlock) (.slice Ao18 t239.length co18) t239) ∧ Aside0 (Kd.R (Kd.int .u8) 5 w' w.heap.size (fun k_ => some k_ ≠ ((.slice Ao13 t231.length co13) : Value).ownBlock ∧ some k_ ≠ (v243 : Value).ownBlock ∧ some k_ ≠ (v274 : Value).ownBlock ∧ some k_ ≠ ((.slice Ao17 t236.length co17) : Value).ownBlock ∧ some k_ ≠ ((.slice Ao18 t239.length co18) : Value).ownBlock ∧ some k_ ≠ ((.slice Ao24 t252.length co24) : Value).ownBlock) (.slice Ao23 t249.length co23) t249) ∧ Aside0 (Kd.R (Kd.int .u8) 5 w' w.heap.size (fun k_ => some k_ ≠ ((.slice Ao13 t231.length co13) : Value).ownBlock ∧ some k_ ≠ (v243 : Value).ownBlock ∧ some k_ ≠ (v274 : Value).ownBlock ∧ some k_ ≠ ((.slice Ao17 t236.length co17) : Value).ownBlock ∧ some k_ ≠ ((.slice Ao18 t239.length co18) : Value).ownBlock ∧ some k_ ≠ ((.slice Ao23 t249.length co23) : Value).ownBlock) (.slice Ao24 t252.length co24) t252) ∧ Aside0 (w'.heap[gb246]? = some (.cells #[.int .u8 t234, .int .u32 t235, (.slice Ao17 t236.length co17), (.slice Ao18 t239.length co18)] 27 (0, 0))) ∧ Aside0 (w'.heap[gb259]? = some (.cells #[.int .u8 t247, .int .u32 t248, (.slice Ao23 t249.length co23), (.slice Ao24 t252.length co24)] 31 (0, 0))) ∧ Aside0 (Below w.heap.size w w'))
      case atStart => exact ⟨(t242), (0), (by first | rfl | (simp; done) | (simp [*]; done) | (simp only [i64_w]; done) | (simp [i64_w]; done)), H', ⟨Nat.le_refl _⟩, ⟨by (with_reducible repeat (first | apply R_alloc | apply R_drewN | apply R_drew)); exact R_mono HO_5.out (fun _ hk => ⟨hk.1.1, ⟨hk.2, ⟨hk.1.2.1, ⟨hk.1.2.2.1, ⟨hk.1.2.2.2.1, hk.1.2.2.2.2⟩⟩⟩⟩⟩)⟩, ⟨by (with_reducible repeat (first | apply R_alloc | apply R_drewN | apply R_drew)); exact R_mono HO_7.out (fun _ hk => ⟨hk.1.1, ⟨hk.2, ⟨hk.1.2.1, ⟨hk.1.2.2.1, ⟨hk.1.2.2.2.1, hk.1.2.2.2.2⟩⟩⟩⟩⟩)⟩, ⟨by (with_reducible repeat (first | apply R_alloc | apply R_drewN | apply R_drew)); exact R_mono HO275.out (fun _ hk => ⟨hk.1.1.1.1.1.2, ⟨hk.1.1.1.1.2, ⟨hk.1.1.1.2, ⟨hk.1.1.2, ⟨hk.1.2, hk.2⟩⟩⟩⟩⟩)⟩, ⟨by (with_reducible repeat (first | apply R_alloc | apply R_drewN | apply R_drew)); exact R_mono HO_247002.out (fun _ hk => ⟨hk.1.1, ⟨hk.1.2.1, ⟨hk.2, ⟨hk.1.2.2.1, ⟨hk.1.2.2.2.1, hk.1.2.2.2.2⟩⟩⟩⟩⟩)⟩, ⟨by (with_reducible repeat (first | apply R_alloc | apply R_drewN | apply R_drew)); exact R_mono HO_247003.out (fun _ hk => ⟨hk.1.1, ⟨hk.1.2.1, ⟨hk.2, ⟨hk.1.2.2.1, ⟨hk.1.2.2.2.1, hk.1.2.2.2.2⟩⟩⟩⟩⟩)⟩, ⟨by (with_reducible repeat (first | apply R_alloc | apply R_drewN | apply R_drew)); exact R_mono HO_260002.out (fun _ hk => ⟨hk.1.1, ⟨hk.1.2.1, ⟨hk.2, ⟨hk.1.2.2.1, ⟨hk.1.2.2.2.1, hk.1.2.2.2.2⟩⟩⟩⟩⟩)⟩, ⟨by (with_reducible repeat (first | apply R_alloc | apply R_drewN | apply R_drew)); exact R_mono HO_260003.out (fun _ hk => ⟨hk.1.1, ⟨hk.1.2.1, ⟨hk.2, ⟨hk.1.2.2.1, ⟨hk.1.2.2.2.1, hk.1.2.2.2.2⟩⟩⟩⟩⟩)⟩, ⟨by (with_reducible repeat (first | refine blk_drewN ?_ _ | refine blk_drew ?_ | refine blk_alloc ?_ _)); exact BK246.out⟩, ⟨by (with_reducible repeat (first | refine blk_drewN ?_ _ | refine blk_drew ?_ | refine blk_alloc ?_ _)); exact BK259.out⟩, ⟨by repeat (first | (with_reducible first | exact HB.out | apply below_alloc | apply pw_below_drewN | apply below_drew1 | refine below_set ?_ GE246.out | refine below_set ?_ GE259.out) | exact HB.out)⟩⟩
      case round =>
       clear H'
       try clear c1; try clear c2; try clear p2; try clear c6; try clear c11; try clear c12; try clear c15; try clear c25; try clear c25b0; try clear c25b1; try clear c28; try clear c66; try clear p2
       obtain ⟨x7_2, x14_2, rfl, HA, HK2, HO_5, HO_7, HO_12, HO_247002, HO_247003, HO_260002, HO_260003, BK246, BK259, HB⟩ := hrel
       cases gk with
       | zero => exact absurd HA.out (by simp [crosswaylaw10_HeadParses.l0])
       | succ k2 =>
        have H := HA.out
        clear HA
        simp only [crosswaylaw10_HeadParses.l0] at H
        by_cases c69 : x14_2 < (x7_2.length : Int)
        ·rw [if_pos c69] at H
         have c69b0 : decide (x14_2 < (x7_2.length : Int)) = true := decide_eq_true c69
         clear c69
         by_cases c70 : 0 ≤ x14_2
         ·rw [if_pos c70] at H
          have c70b0 : decide (0 ≤ x14_2) = true := decide_eq_true c70
          clear c70
          obtain ⟨y277, hy277⟩ : ∃ y_ : List Int, y_ = (x7_2.set (x14_2 : Int).toNat (((rd x7_2 x14_2) + 1) % 256)) := ⟨_, rfl⟩
          replace H : (crosswaylaw10_HeadParses.l0 k2 l0 a1 t231 y277 t272 t273 (wrap64 (x14_2 + 1))) = some r := by first | (rw [hy277]; with_reducible exact H) | (have H2_ := (Option.bind_some _ _).symm.trans H; rw [hy277]; with_reducible exact H2_) | (have H2_ := (Option.bind_some _ _).symm.trans H; with_reducible exact H2_) | with_reducible exact H | (rw [hy277]; exact H) | exact H
          have Ny277 := Aside0.mk hy277
          clear hy277
          have H' := Aside0.mk H
          clear H
          obtain ⟨Ao72, co72, eo72⟩ := R_slice HO_7.out
          subst eo72
          have p276 : 0 ≤ (x14_2 : Int) := of_decide_eq_true (by first | (with_reducible assumption) | assumption)
          have q276 : x14_2 < (x7_2.length : Int) := of_decide_eq_true (by first | (with_reducible assumption) | assumption)
          obtain ⟨ad276, e276, hx276_0⟩ := Kd.at_int (R_reads' HO_7.out).2.2 x14_2 p276 q276
          cases e276
          replace p276 := eq_true p276
          replace q276 := eq_true q276
          have p71 : 0 ≤ (x14_2 : Int) := of_decide_eq_true (by first | (with_reducible assumption) | assumption)
          have q71 : (x14_2 : Int) < ((x7_2.length : Int) : Int) := of_decide_eq_true (by first | (with_reducible assumption) | assumption)
          obtain ⟨go71, co71, eo71, gb71, gl71, cl71, HG71⟩ := R_form HO_7.out (by omega)
          (first | cases eo71 | (injection eo71 with ea_ en_ ec_; (first | subst ea_ | (injection ea_ with ea_; subst ea_)); subst ec_; clear en_))
          have GB71 := Aside0.mk gb71
          have GG71 := Aside0.mk HG71
          clear gb71 gl71 HG71
          (first | simp only [add_plain] at hx276_0 | skip)
          obtain ⟨hx71_0, hf71_0⟩ := R_celln 0 HO_7.out (x14_2 : Int) p71 q71
          replace p71 := eq_true p71
          replace q71 := eq_true q71
          have HP73 := R_putg HO_7.out (x14_2 : Int) (((rd x7_2 x14_2) + 1) % 256)
          go_wp2_with (first | ((with_reducible refine gate_store (t := 5) (p := 81) rfl ?_); refine store_event (t := 5) (p := 81) (v := ?vo_w74) (w1 := (wr.setCell ⟨go71, (x14_2 : Int).toNat, none⟩ (.int .u8 (((rd x7_2 x14_2) + 1) % 256)))) ?hg ?ho ?hn ?hr ?_; (case ho => rfl); (case hg => rfl); (case hn => rfl); (case hr => first | (go_simp; done) | (go_simp; rfl)); intro w74 hw; have hg : wr.grownBy w74 (some go71) := (by rw [hw]; exact HP73.2); have hp_ : Kd.R (Kd.int .u8) 5 w74 w.heap.size (fun k_ => some k_ ≠ (.slice Ao13 t231.length co13 : Value).ownBlock ∧ some k_ ≠ (v274 : Value).ownBlock ∧ some k_ ≠ (.slice Ao17 t236.length co17 : Value).ownBlock ∧ some k_ ≠ (.slice Ao18 t239.length co18 : Value).ownBlock ∧ some k_ ≠ (.slice Ao23 t249.length co23 : Value).ownBlock ∧ some k_ ≠ (.slice Ao24 t252.length co24 : Value).ownBlock) (.slice (some ⟨go71, 0, none⟩) x7_2.length co72) y277 := (by rw [hw, Ny277.out]; exact HP73.1); clear HP73; have n0_ := Aside0.mk (R_after (v := (.slice (some ⟨go71, 0, none⟩) x7_2.length co72)) (v1 := (.slice (some ⟨go71, 0, none⟩) x7_2.length co72)) (ok := (fun k_ => some k_ ≠ (v274 : Value).ownBlock ∧ some k_ ≠ (.slice Ao17 t236.length co17 : Value).ownBlock ∧ some k_ ≠ (.slice Ao18 t239.length co18 : Value).ownBlock ∧ some k_ ≠ (.slice Ao23 t249.length co23 : Value).ownBlock ∧ some k_ ≠ (.slice Ao24 t252.length co24 : Value).ownBlock)) (by (with_reducible repeat (first | apply R_alloc | apply R_drewN | apply R_drew)); exact R_mono HO_5.out (fun _ hk => ⟨⟨hk.2.1, ⟨hk.2.2.1, ⟨hk.2.2.2.1, ⟨hk.2.2.2.2.1, hk.2.2.2.2.2⟩⟩⟩⟩, hk.1⟩)) hg (.inl rfl)); have n1_ := Aside0.mk (hp_); have n2_ := Aside0.mk (R_after (v := (.slice (some ⟨go71, 0, none⟩) x7_2.length co72)) (v1 := (.slice (some ⟨go71, 0, none⟩) x7_2.length co72)) (ok := (fun k_ => some k_ ≠ (.slice Ao13 t231.length co13 : Value).ownBlock ∧ some k_ ≠ (.slice Ao17 t236.length co17 : Value).ownBlock ∧ some k_ ≠ (.slice Ao18 t239.length co18 : Value).ownBlock ∧ some k_ ≠ (.slice Ao23 t249.length co23 : Value).ownBlock ∧ some k_ ≠ (.slice Ao24 t252.length co24 : Value).ownBlock)) (by (with_reducible repeat (first | apply R_alloc | apply R_drewN | apply R_drew)); exact R_mono HO_12.out (fun _ hk => ⟨⟨hk.1, ⟨hk.2.2.1, ⟨hk.2.2.2.1, ⟨hk.2.2.2.2.1, hk.2.2.2.2.2⟩⟩⟩⟩, hk.2.1⟩)) hg (.inl rfl)); have n3_ := Aside0.mk (R_after (v := (.slice (some ⟨go71, 0, none⟩) x7_2.length co72)) (v1 := (.slice (some ⟨go71, 0, none⟩) x7_2.length co72)) (ok := (fun k_ => some k_ ≠ (.slice Ao13 t231.length co13 : Value).ownBlock ∧ some k_ ≠ (v274 : Value).ownBlock ∧ some k_ ≠ (.slice Ao18 t239.length co18 : Value).ownBlock ∧ some k_ ≠ (.slice Ao23 t249.length co23 : Value).ownBlock ∧ some k_ ≠ (.slice Ao24 t252.length co24 : Value).ownBlock)) (by (with_reducible repeat (first | apply R_alloc | apply R_drewN | apply R_drew)); exact R_mono HO_247002.out (fun _ hk => ⟨⟨hk.1, ⟨hk.2.2.1, ⟨hk.2.2.2.1, ⟨hk.2.2.2.2.1, hk.2.2.2.2.2⟩⟩⟩⟩, hk.2.1⟩)) hg (.inl rfl)); have n4_ := Aside0.mk (R_after (v := (.slice (some ⟨go71, 0, none⟩) x7_2.length co72)) (v1 := (.slice (some ⟨go71, 0, none⟩) x7_2.length co72)) (ok := (fun k_ => some k_ ≠ (.slice Ao13 t231.length co13 : Value).ownBlock ∧ some k_ ≠ (v274 : Value).ownBlock ∧ some k_ ≠ (.slice Ao17 t236.length co17 : Value).ownBlock ∧ some k_ ≠ (.slice Ao23 t249.length co23 : Value).ownBlock ∧ some k_ ≠ (.slice Ao24 t252.length co24 : Value).ownBlock)) (by (with_reducible repeat (first | apply R_alloc | apply R_drewN | apply R_drew)); exact R_mono HO_247003.out (fun _ hk => ⟨⟨hk.1, ⟨hk.2.2.1, ⟨hk.2.2.2.1, ⟨hk.2.2.2.2.1, hk.2.2.2.2.2⟩⟩⟩⟩, hk.2.1⟩)) hg (.inl rfl)); have n5_ := Aside0.mk (R_after (v := (.slice (some ⟨go71, 0, none⟩) x7_2.length co72)) (v1 := (.slice (some ⟨go71, 0, none⟩) x7_2.length co72)) (ok := (fun k_ => some k_ ≠ (.slice Ao13 t231.length co13 : Value).ownBlock ∧ some k_ ≠ (v274 : Value).ownBlock ∧ some k_ ≠ (.slice Ao17 t236.length co17 : Value).ownBlock ∧ some k_ ≠ (.slice Ao18 t239.length co18 : Value).ownBlock ∧ some k_ ≠ (.slice Ao24 t252.length co24 : Value).ownBlock)) (by (with_reducible repeat (first | apply R_alloc | apply R_drewN | apply R_drew)); exact R_mono HO_260002.out (fun _ hk => ⟨⟨hk.1, ⟨hk.2.2.1, ⟨hk.2.2.2.1, ⟨hk.2.2.2.2.1, hk.2.2.2.2.2⟩⟩⟩⟩, hk.2.1⟩)) hg (.inl rfl)); have n6_ := Aside0.mk (R_after (v := (.slice (some ⟨go71, 0, none⟩) x7_2.length co72)) (v1 := (.slice (some ⟨go71, 0, none⟩) x7_2.length co72)) (ok := (fun k_ => some k_ ≠ (.slice Ao13 t231.length co13 : Value).ownBlock ∧ some k_ ≠ (v274 : Value).ownBlock ∧ some k_ ≠ (.slice Ao17 t236.length co17 : Value).ownBlock ∧ some k_ ≠ (.slice Ao18 t239.length co18 : Value).ownBlock ∧ some k_ ≠ (.slice Ao23 t249.length co23 : Value).ownBlock)) (by (with_reducible repeat (first | apply R_alloc | apply R_drewN | apply R_drew)); exact R_mono HO_260003.out (fun _ hk => ⟨⟨hk.1, ⟨hk.2.2.1, ⟨hk.2.2.2.1, ⟨hk.2.2.2.2.1, hk.2.2.2.2.2⟩⟩⟩⟩, hk.2.1⟩)) hg (.inl rfl)); have n7_ := Aside0.mk (blk_grown (g := gb246) (o := .cells #[.int .u8 t234, .int .u32 t235, .slice Ao17 t236.length co17, .slice Ao18 t239.length co18] 27 (0, 0)) (by (with_reducible repeat (first | refine blk_drewN ?_ _ | refine blk_drew ?_ | refine blk_alloc ?_ _)); exact BK246.out) hg (R_ne HO_7.out BK246.out (by decide))); have n8_ := Aside0.mk (blk_grown (g := gb259) (o := .cells #[.int .u8 t247, .int .u32 t248, .slice Ao23 t249.length co23, .slice Ao24 t252.length co24] 31 (0, 0)) (by (with_reducible repeat (first | refine blk_drewN ?_ _ | refine blk_drew ?_ | refine blk_alloc ?_ _)); exact BK259.out) hg (R_ne HO_7.out BK259.out (by decide))); have n9_ := Aside0.mk ((by rw [hw]; exact below_set (HB.out) GB71.out : Below w.heap.size w w74)); clear HO_5 HO_7 HO_12 HO_247002 HO_247003 HO_260002 HO_260003 BK246 BK259 HB; have HO_5 := n0_; have HO_7 := n1_; have HO_12 := n2_; have HO_247002 := n3_; have HO_247003 := n4_; have HO_260002 := n5_; have HO_260003 := n6_; have BK246 := n7_; have BK259 := n8_; have HB := n9_; clear n0_ n1_ n2_ n3_ n4_ n5_ n6_ n7_ n8_ n9_; clear hg hw hp_))
          go_roundg k2
          case measure => have := HJ9.out; have := HK2.out; omega
          case rel => exact ⟨(y277), (wrap64 (x14_2 + 1)), (by first | rfl | (simp; done) | (simp [*]; done) | (simp only [i64_w]; done) | (simp [i64_w]; done)), H', ⟨by have := HJ9.out; have := HK2.out; omega⟩, ⟨by (with_reducible repeat (first | apply R_alloc | apply R_drewN | apply R_drew)); exact R_mono HO_5.out (fun _ hk => ⟨hk.2, ⟨hk.1.1, ⟨hk.1.2.1, ⟨hk.1.2.2.1, ⟨hk.1.2.2.2.1, hk.1.2.2.2.2⟩⟩⟩⟩⟩)⟩, ⟨by (with_reducible repeat (first | apply R_alloc | apply R_drewN | apply R_drew)); exact HO_7.out⟩, ⟨by (with_reducible repeat (first | apply R_alloc | apply R_drewN | apply R_drew)); exact R_mono HO_12.out (fun _ hk => ⟨hk.1.1, ⟨hk.2, ⟨hk.1.2.1, ⟨hk.1.2.2.1, ⟨hk.1.2.2.2.1, hk.1.2.2.2.2⟩⟩⟩⟩⟩)⟩, ⟨by (with_reducible repeat (first | apply R_alloc | apply R_drewN | apply R_drew)); exact R_mono HO_247002.out (fun _ hk => ⟨hk.1.1, ⟨hk.2, ⟨hk.1.2.1, ⟨hk.1.2.2.1, ⟨hk.1.2.2.2.1, hk.1.2.2.2.2⟩⟩⟩⟩⟩)⟩, ⟨by (with_reducible repeat (first | apply R_alloc | apply R_drewN | apply R_drew)); exact R_mono HO_247003.out (fun _ hk => ⟨hk.1.1, ⟨hk.2, ⟨hk.1.2.1, ⟨hk.1.2.2.1, ⟨hk.1.2.2.2.1, hk.1.2.2.2.2⟩⟩⟩⟩⟩)⟩, ⟨by (with_reducible repeat (first | apply R_alloc | apply R_drewN | apply R_drew)); exact R_mono HO_260002.out (fun _ hk => ⟨hk.1.1, ⟨hk.2, ⟨hk.1.2.1, ⟨hk.1.2.2.1, ⟨hk.1.2.2.2.1, hk.1.2.2.2.2⟩⟩⟩⟩⟩)⟩, ⟨by (with_reducible repeat (first | apply R_alloc | apply R_drewN | apply R_drew)); exact R_mono HO_260003.out (fun _ hk => ⟨hk.1.1, ⟨hk.2, ⟨hk.1.2.1, ⟨hk.1.2.2.1, ⟨hk.1.2.2.2.1, hk.1.2.2.2.2⟩⟩⟩⟩⟩)⟩, ⟨by (with_reducible repeat (first | refine blk_drewN ?_ _ | refine blk_drew ?_ | refine blk_alloc ?_ _)); exact BK246.out⟩, ⟨by (with_reducible repeat (first | refine blk_drewN ?_ _ | refine blk_drew ?_ | refine blk_alloc ?_ _)); exact BK259.out⟩, ⟨by repeat (first | (with_reducible first | exact HB.out | apply below_alloc | apply pw_below_drewN | apply below_drew1 | refine below_set ?_ GE246.out | refine below_set ?_ GE259.out) | exact HB.out)⟩⟩
         ·rw [if_neg c70] at H
          exact absurd H (by simp)
        ·rw [if_neg c69] at H
         have c69b0 : decide (x14_2 < (x7_2.length : Int)) = false := decide_eq_false c69
         clear c69
         replace H := Option.bind_eq_some_iff.mp H
         obtain ⟨t278, A750, H⟩ := H
         try dsimp only at H
         have A75 := Aside0.mk A750
         clear A750
         by_cases c76 : t278 = true
         ·subst c76
          have H1 : (if a1 < 0 then (crosswaylaw10_HeadParses.j2 k2 l0 a1 t272 t273 true) else (crosswaylaw10_HeadParses.j2 k2 l0 a1 t272 t273 (decide (a1 > 255)))) = some r := by rw [if_pos rfl] at H; exact H
          clear H
          have H := H1
          clear H1
          have HC77 := Aside0.mk H
          clear H
          obtain ⟨Ao78, co78, eo78⟩ := R_slice HO_7.out
          subst eo78
          go_upto_region 17 with (first | ((with_reducible refine gate_callee (f := 13) rfl ?_); refine goesL_ (some 84) rfl rfl Try.func13 (by kernel_rfl) rfl #[.slice Ao13 t231.length co13, .slice A0 l0.length c0] rfl (by (try simp only [List.map_toArray, List.map_cons, List.map_nil]); first | done | rfl | (simp only [List.length_drop, List.length_take]; rfl)) ?_; (with_reducible refine (crosswayref00_SameBytes.calls k2 _ _ t231 _ _ l0 true _ ?side1 ?side2 ?side3 ?side4 A75.out).mono ?_); (case side1 => repeat (first | exact (R_reads' HO_5.out).2.2 | (with_reducible refine C_alloc ?_ _) | (with_reducible refine C_drewN ?_ _) | (with_reducible refine C_drew ?_))); (case side2 => exact (R_reads' HO_5.out).2.1); (case side3 => repeat (first | exact (C_below HR0.out HB.out) | (with_reducible refine C_alloc ?_ _) | (with_reducible refine C_drewN ?_ _) | (with_reducible refine C_drew ?_))); (case side4 => exact HC0.out); rintro e w' ⟨rfl, ⟨nd, rfl⟩⟩; refine ⟨_, rfl, ?_⟩))
          (try simp only [Act.put, sA, sB, sC])
          go_cut [91] (fun v91 wc => ∃ (kq : Nat) (x91_76 : Bool), v91 = .bool x91_76 ∧ Aside0 (crosswaylaw10_HeadParses.j2 kq l0 a1 t272 t273 x91_76 = some r) ∧ Aside0 (kq ≤ k2) ∧ Aside0 (Kd.R (Kd.int .u8) 5 wc w.heap.size (fun k_ => some k_ ≠ ((.slice Ao17 t236.length co17) : Value).ownBlock ∧ some k_ ≠ ((.slice Ao18 t239.length co18) : Value).ownBlock ∧ some k_ ≠ ((.slice Ao23 t249.length co23) : Value).ownBlock ∧ some k_ ≠ ((.slice Ao24 t252.length co24) : Value).ownBlock) v274 t272) ∧ Aside0 (Kd.R (Kd.int .u8) 5 wc w.heap.size (fun k_ => some k_ ≠ (v274 : Value).ownBlock ∧ some k_ ≠ ((.slice Ao18 t239.length co18) : Value).ownBlock ∧ some k_ ≠ ((.slice Ao23 t249.length co23) : Value).ownBlock ∧ some k_ ≠ ((.slice Ao24 t252.length co24) : Value).ownBlock) (.slice Ao17 t236.length co17) t236) ∧ Aside0 (Kd.R (Kd.int .u8) 5 wc w.heap.size (fun k_ => some k_ ≠ (v274 : Value).ownBlock ∧ some k_ ≠ ((.slice Ao17 t236.length co17) : Value).ownBlock ∧ some k_ ≠ ((.slice Ao23 t249.length co23) : Value).ownBlock ∧ some k_ ≠ ((.slice Ao24 t252.length co24) : Value).ownBlock) (.slice Ao18 t239.length co18) t239) ∧ Aside0 (Kd.R (Kd.int .u8) 5 wc w.heap.size (fun k_ => some k_ ≠ (v274 : Value).ownBlock ∧ some k_ ≠ ((.slice Ao17 t236.length co17) : Value).ownBlock ∧ some k_ ≠ ((.slice Ao18 t239.length co18) : Value).ownBlock ∧ some k_ ≠ ((.slice Ao24 t252.length co24) : Value).ownBlock) (.slice Ao23 t249.length co23) t249) ∧ Aside0 (Kd.R (Kd.int .u8) 5 wc w.heap.size (fun k_ => some k_ ≠ (v274 : Value).ownBlock ∧ some k_ ≠ ((.slice Ao17 t236.length co17) : Value).ownBlock ∧ some k_ ≠ ((.slice Ao18 t239.length co18) : Value).ownBlock ∧ some k_ ≠ ((.slice Ao23 t249.length co23) : Value).ownBlock) (.slice Ao24 t252.length co24) t252) ∧ Aside0 (wc.heap[gb246]? = some (.cells #[.int .u8 t234, .int .u32 t235, (.slice Ao17 t236.length co17), (.slice Ao18 t239.length co18)] 27 (0, 0))) ∧ Aside0 (wc.heap[gb259]? = some (.cells #[.int .u8 t247, .int .u32 t248, (.slice Ao23 t249.length co23), (.slice Ao24 t252.length co24)] 31 (0, 0))) ∧ Aside0 (Below w.heap.size w wc))
          case first =>
           have H := HC77.out
           clear HC77
           by_cases c79 : a1 < 0
           ·rw [if_pos c79] at H
            have c79b0 : decide (a1 < 0) = true := decide_eq_true c79
            clear c79
            (first | rw [c79b0] | (simp only [i64_w, i32_w]; rw [c79b0]) | skip)
            have H' := Aside0.mk H
            clear H
            go_wp2
            go_meet
            case rel => exact ⟨_, (true), (by first | rfl | (simp; done) | (simp [*]; done) | (simp only [i64_w]; done) | (simp [i64_w]; done)), H', ⟨by have := HJ9.out; have := HK2.out; first | omega | exact Nat.le_refl _⟩, ⟨by (with_reducible repeat (first | apply R_alloc | apply R_drewN | apply R_drew)); exact R_mono HO_12.out (fun _ hk => ⟨hk.2.2.1, ⟨hk.2.2.2.1, ⟨hk.2.2.2.2.1, hk.2.2.2.2.2⟩⟩⟩)⟩, ⟨by (with_reducible repeat (first | apply R_alloc | apply R_drewN | apply R_drew)); exact R_mono HO_247002.out (fun _ hk => ⟨hk.2.2.1, ⟨hk.2.2.2.1, ⟨hk.2.2.2.2.1, hk.2.2.2.2.2⟩⟩⟩)⟩, ⟨by (with_reducible repeat (first | apply R_alloc | apply R_drewN | apply R_drew)); exact R_mono HO_247003.out (fun _ hk => ⟨hk.2.2.1, ⟨hk.2.2.2.1, ⟨hk.2.2.2.2.1, hk.2.2.2.2.2⟩⟩⟩)⟩, ⟨by (with_reducible repeat (first | apply R_alloc | apply R_drewN | apply R_drew)); exact R_mono HO_260002.out (fun _ hk => ⟨hk.2.2.1, ⟨hk.2.2.2.1, ⟨hk.2.2.2.2.1, hk.2.2.2.2.2⟩⟩⟩)⟩, ⟨by (with_reducible repeat (first | apply R_alloc | apply R_drewN | apply R_drew)); exact R_mono HO_260003.out (fun _ hk => ⟨hk.2.2.1, ⟨hk.2.2.2.1, ⟨hk.2.2.2.2.1, hk.2.2.2.2.2⟩⟩⟩)⟩, ⟨by (with_reducible repeat (first | refine blk_drewN ?_ _ | refine blk_drew ?_ | refine blk_alloc ?_ _)); exact BK246.out⟩, ⟨by (with_reducible repeat (first | refine blk_drewN ?_ _ | refine blk_drew ?_ | refine blk_alloc ?_ _)); exact BK259.out⟩, ⟨by repeat (first | (with_reducible first | exact HB.out | apply below_alloc | apply pw_below_drewN | apply below_drew1 | refine below_set ?_ GE246.out | refine below_set ?_ GE259.out) | exact HB.out)⟩⟩
           ·rw [if_neg c79] at H
            have c79b0 : decide (a1 < 0) = false := decide_eq_false c79
            clear c79
            (first | rw [c79b0] | (simp only [i64_w, i32_w]; rw [c79b0]) | skip)
            have H' := Aside0.mk H
            clear H
            go_wp2
            go_meet
            case rel => exact ⟨_, (decide (a1 > 255)), (by first | rfl | (simp; done) | (simp [*]; done) | (simp only [i64_w]; done) | (simp [i64_w]; done)), H', ⟨by have := HJ9.out; have := HK2.out; first | omega | exact Nat.le_refl _⟩, ⟨by (with_reducible repeat (first | apply R_alloc | apply R_drewN | apply R_drew)); exact R_mono HO_12.out (fun _ hk => ⟨hk.2.2.1, ⟨hk.2.2.2.1, ⟨hk.2.2.2.2.1, hk.2.2.2.2.2⟩⟩⟩)⟩, ⟨by (with_reducible repeat (first | apply R_alloc | apply R_drewN | apply R_drew)); exact R_mono HO_247002.out (fun _ hk => ⟨hk.2.2.1, ⟨hk.2.2.2.1, ⟨hk.2.2.2.2.1, hk.2.2.2.2.2⟩⟩⟩)⟩, ⟨by (with_reducible repeat (first | apply R_alloc | apply R_drewN | apply R_drew)); exact R_mono HO_247003.out (fun _ hk => ⟨hk.2.2.1, ⟨hk.2.2.2.1, ⟨hk.2.2.2.2.1, hk.2.2.2.2.2⟩⟩⟩)⟩, ⟨by (with_reducible repeat (first | apply R_alloc | apply R_drewN | apply R_drew)); exact R_mono HO_260002.out (fun _ hk => ⟨hk.2.2.1, ⟨hk.2.2.2.1, ⟨hk.2.2.2.2.1, hk.2.2.2.2.2⟩⟩⟩)⟩, ⟨by (with_reducible repeat (first | apply R_alloc | apply R_drewN | apply R_drew)); exact R_mono HO_260003.out (fun _ hk => ⟨hk.2.2.1, ⟨hk.2.2.2.1, ⟨hk.2.2.2.2.1, hk.2.2.2.2.2⟩⟩⟩)⟩, ⟨by (with_reducible repeat (first | refine blk_drewN ?_ _ | refine blk_drew ?_ | refine blk_alloc ?_ _)); exact BK246.out⟩, ⟨by (with_reducible repeat (first | refine blk_drewN ?_ _ | refine blk_drew ?_ | refine blk_alloc ?_ _)); exact BK259.out⟩, ⟨by repeat (first | (with_reducible first | exact HB.out | apply below_alloc | apply pw_below_drewN | apply below_drew1 | refine below_set ?_ GE246.out | refine below_set ?_ GE259.out) | exact HB.out)⟩⟩
          case rest =>
           clear HC77
           try clear c1; try clear c2; try clear p2; try clear q2; try clear hx2; try clear c6; try clear p6; try clear c7; try clear p7; try clear q7; try clear hx7; try clear hf7; try clear c11; try clear c12; try clear c13; try clear c15; try clear c25; try clear c25b0; try clear c25b1; try clear p27; try clear q27; try clear hx27; try clear c28; try clear p64; try clear c66; try clear c69; try clear c69b0; try clear c70; try clear c70b0; try clear p71; try clear q71; try clear hx71; try clear hf71; try clear c76; try clear c79; try clear c79b0; try clear hx276_0; try clear hx71_0; try clear p2; try clear p276; try clear p71; try clear q276; try clear q71
           obtain ⟨kq, x91_76, rfl, HA, HJ76, HO_12, HO_247002, HO_247003, HO_260002, HO_260003, BK246, BK259, HB⟩ := hcut
           cases kq with
           | zero => exact absurd HA.out (by simp [crosswaylaw10_HeadParses.j2])
           | succ kj76 =>
            have H := HA.out
            clear HA
            simp only [crosswaylaw10_HeadParses.j2] at H
            by_cases c80 : x91_76 = true
            ·subst c80
             have H1 : (if t273 = 11 then (some ((t272.length : Int) == 0)) else (none)) = some r := by rw [if_pos rfl] at H; exact H
             clear H
             have H := H1
             clear H1
             by_cases c81 : t273 = 11
             ·rw [if_pos c81] at H
              have c81b0 : (t273 == 11) = true := beq_iff_eq.mpr c81
              have c81b1 : (t273 != 11) = false := bne_eq_false_iff_eq.mpr c81
              clear c81
              obtain rfl := Option.some.inj H
              obtain ⟨Ao82, co82, eo82⟩ := R_slice HO_12.out
              subst eo82
              go_wp2
              go_ret
              exact ⟨by first | rfl | (simp [errW_none, errW_some] <;> rfl) | (simp [*, errW_none, errW_some] <;> rfl), by repeat (first | (with_reducible first | exact HB.out | apply below_alloc | apply pw_below_drewN | apply below_drew1 | refine below_set ?_ GE246.out | refine below_set ?_ GE259.out) | exact HB.out)⟩
             ·rw [if_neg c81] at H
              exact absurd H (by simp)
            ·replace c80 := Bool.eq_false_iff.mpr c80
             subst c80
             have H1 : (if (l0.length : Int) ≤ a1 then (if t273 = 12 then (some ((t272.length : Int) == 0)) else (none)) else (if t273 = 0 then (if 1 ≤ (wrap64 (a1 + 1)) then (if (wrap64 (a1 + 1)) ≤ (l0.length : Int) then ((crosswayref00_SameBytes.f kj76 t272 ((l0.take ((wrap64 (a1 + 1)) : Int).toNat).drop 1)).bind fun t280 => (some t280)) else (none)) else (none)) else (none))) = some r := by rw [if_neg (show ¬ (false = true) by decide)] at H; exact H
             clear H
             have H := H1
             clear H1
             by_cases c83 : (l0.length : Int) ≤ a1
             ·rw [if_pos c83] at H
              have c83b0 : decide ((l0.length : Int) ≤ a1) = true := decide_eq_true c83
              clear c83
              by_cases c84 : t273 = 12
              ·rw [if_pos c84] at H
               have c84b0 : (t273 == 12) = true := beq_iff_eq.mpr c84
               have c84b1 : (t273 != 12) = false := bne_eq_false_iff_eq.mpr c84
               clear c84
               obtain rfl := Option.some.inj H
               obtain ⟨Ao85, co85, eo85⟩ := R_slice HO_12.out
               subst eo85
               go_wp2
               go_ret
               exact ⟨by first | rfl | (simp [errW_none, errW_some] <;> rfl) | (simp [*, errW_none, errW_some] <;> rfl), by repeat (first | (with_reducible first | exact HB.out | apply below_alloc | apply pw_below_drewN | apply below_drew1 | refine below_set ?_ GE246.out | refine below_set ?_ GE259.out) | exact HB.out)⟩
              ·rw [if_neg c84] at H
               exact absurd H (by simp)
             ·rw [if_neg c83] at H
              have c83b0 : decide ((l0.length : Int) ≤ a1) = false := decide_eq_false c83
              clear c83
              by_cases c86 : t273 = 0
              ·rw [if_pos c86] at H
               have c86b0 : (t273 == 0) = true := beq_iff_eq.mpr c86
               have c86b1 : (t273 != 0) = false := bne_eq_false_iff_eq.mpr c86
               clear c86
               by_cases c87 : 1 ≤ (wrap64 (a1 + 1))
               ·rw [if_pos c87] at H
                have c87b0 := eq_true c87
                have c87b1 : decide (1 ≤ (wrap64 (a1 + 1))) = true := decide_eq_true c87
                by_cases c88 : (wrap64 (a1 + 1)) ≤ (l0.length : Int)
                ·rw [if_pos c88] at H
                 have c88b0 := eq_true c88
                 have c88b1 : decide ((wrap64 (a1 + 1)) ≤ (l0.length : Int)) = true := decide_eq_true c88
                 replace H := Option.bind_eq_some_iff.mp H
                 obtain ⟨t280, A890, H⟩ := H
                 try dsimp only at H
                 have A89 := Aside0.mk A890
                 clear A890
                 obtain rfl := Option.some.inj H
                 obtain ⟨i090, hi090, _, hsz90, _⟩ := info_parts info5
                 obtain ⟨A90, hcut90, hA90, hC90⟩ := print_mid_of (P := Try.prog) (Value.int .u8) 0 22 5 .i64 .i64 Try.underlying22 hi090 hsz90 A0 c0 l0 1 (wrap64 (a1 + 1)) (by omega) (by first | omega | exact of_decide_eq_true (by first | (with_reducible assumption) | assumption)) (of_decide_eq_true (by first | (with_reducible assumption) | assumption)) HC0.out
                 have HR279 := Aside0.mk (C_of_reads (h1 := fun _ => rfl) (hA90 _ (Kd.reads_of_C HR0.out)))
                 have HC279 := Aside0.mk hC90
                 clear hA90 hC90 hi090 hsz90
                 obtain ⟨yM90, hyM90⟩ : ∃ y_ : List Int, y_ = ((l0.take ((wrap64 (a1 + 1)) : Int).toNat).drop 1) := ⟨_, rfl⟩
                 have hcm90 : ∀ W : World, (Instr.slice 22 (.slice A0 l0.length c0) (some (.int .i64 1)) (some (.int .i64 (wrap64 (a1 + 1)))) none).run Try.prog W = .ok (.slice A90 yM90.length (c0 - 1)) W := by rw [hyM90]; exact hcut90
                 have HMR90 := Aside0.mk (show Kd.C (Kd.int .u8) w A90 yM90.length yM90 by rw [hyM90]; exact HR279.out)
                 have HMC90 := Aside0.mk (show yM90.length ≤ c0 - 1 by rw [hyM90]; exact HC279.out)
                 clear hcut90 HR279 HC279
                 obtain ⟨Ao91, co91, eo91⟩ := R_slice HO_12.out
                 subst eo91
                 have HMY90 := Aside0.mk hyM90
                 clear hyM90
                 go_wp2_with (first | (go_at_call 13; (with_reducible refine (crosswayref00_SameBytes.calls kj76 _ _ t272 _ _ yM90 t280 _ ?side1 ?side2 ?side3 ?side4 (by rw [HMY90.out]; exact A89.out)).mono ?_); (case side1 => repeat (first | exact (R_reads' HO_12.out).2.2 | (with_reducible refine C_alloc ?_ _) | (with_reducible refine C_drewN ?_ _) | (with_reducible refine C_drew ?_))); (case side2 => exact (R_reads' HO_12.out).2.1); (case side3 => repeat (first | exact (C_below HMR90.out HB.out) | (with_reducible refine C_alloc ?_ _) | (with_reducible refine C_drewN ?_ _) | (with_reducible refine C_drew ?_))); (case side4 => exact HMC90.out); rintro e w' ⟨rfl, ⟨nd, rfl⟩⟩))
                 go_ret
                 exact ⟨by first | rfl | (simp [errW_none, errW_some] <;> rfl) | (simp [*, errW_none, errW_some] <;> rfl), by repeat (first | (with_reducible first | exact HB.out | apply below_alloc | apply pw_below_drewN | apply below_drew1 | refine below_set ?_ GE246.out | refine below_set ?_ GE259.out) | exact HB.out)⟩
                ·rw [if_neg c88] at H
                 exact absurd H (by simp)
               ·rw [if_neg c87] at H
                exact absurd H (by simp)
              ·rw [if_neg c86] at H
               exact absurd H (by simp)
         ·replace c76 := Bool.eq_false_iff.mpr c76
          subst c76
          have H1 : (none) = some r := by rw [if_neg (show ¬ (false = true) by decide)] at H; exact H
          clear H
          have H := H1
          clear H1
          exact absurd H (by simp)
 ·replace c4 := Bool.eq_false_iff.mpr c4
  subst c4
  have H1 : (none) = some r := by rw [if_neg (show ¬ (false = true) by decide)] at H; exact H
  clear H
  have H := H1
  clear H1
  exact absurd H (by simp)

/-- The one pure statement of crosswaylaw10_HeadParses. -/
def crosswaylaw10_HeadParses.Pure : Prop := ∀ (l0 : List Int) (a1 : Int), l0.length ≤ maxLen → (∀ x ∈ l0, (Lit.int .u8 x).wf = true) → (Lit.int .i64 a1).wf = true → ∃ k, crosswaylaw10_HeadParses.f k l0 a1 = some true

end Go.Proofs.Ytnmhnihhlakinaa.M
