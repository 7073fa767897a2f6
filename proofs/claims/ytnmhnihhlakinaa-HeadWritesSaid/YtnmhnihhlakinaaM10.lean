/- Contracts of the Go functions that the laws reach, each as a plain Lean function: written by xprint.py, a program of this repo. -/
import Derived.Test.YtnmhnihhlakinaaM0
import Derived.Test.YtnmhnihhlakinaaM2
import Derived.Test.YtnmhnihhlakinaaM3
import Derived.Test.YtnmhnihhlakinaaM5
import Derived.Test.YtnmhnihhlakinaaM6
import Derived.Test.YtnmhnihhlakinaaM7
import Derived.Test.YtnmhnihhlakinaaM9
namespace Go.Proofs.Ytnmhnihhlakinaa.M
open Go.RowKit Go.Proofs.YtnmhnihhlakinaaW.PrintWords Go.Proofs.YtnmhnihhlakinaaW.PrintLast Go.Proofs.YtnmhnihhlakinaaW.PrintMore Go.Proofs.Ytnmhnihhlakinaa.X
attribute [local go_sem] max2_int min2_int max_two min_two max_three min_three max_four min_four   -- for this text's walks alone
set_option linter.unusedVariables false
set_option linter.unusedSimpArgs false

open Kd
/-! ### crosswaylaw10_HeadWrites: function 4 -/
mutual
def crosswaylaw10_HeadWrites.j0 : Nat → List Int → Bool → Int → Int → List Int → List Int → Int → Int → List Int → List Int → Option (Bool)
 | 0, _, _, _, _, _, _, _, _, _, _ => none
 | k + 1, x2, x48, x298000, x298001, x298002, x298003, x299000, x299001, x299002, x299003 => if x48 = true then (some true) else ((head_Head_Bytes.f k x298000 x298001 x298002 x298003).bind fun bt300 => ((crosswaylaw10_Of.f x298000 x298001 x298002 x298003).bind fun bt304 => ((crosswayref10_Bytes.f bt304.1 bt304.2.1 bt304.2.2.1 bt304.2.2.2).bind fun bt312 => (if bt300.2 = bt312.2 then ((crosswayref00_SameBytes.f k bt300.1 bt312.1).bind fun t316 => (if t316 = true then ((head_Same.f x298000 x298001 x298002 x298003 x299000 x299001 x299002 x299003).bind fun t317 => ((crosswaylaw10_Of.f x298000 x298001 x298002 x298003).bind fun bt318 => ((crosswaylaw10_Of.f x299000 x299001 x299002 x299003).bind fun bt326 => ((crosswayref10_Same.f bt318.1 bt318.2.1 bt318.2.2.1 bt318.2.2.2 bt326.1 bt326.2.1 bt326.2.2.1 bt326.2.2.2).bind fun t334 => (if (t317 != t334) = true then (none) else ((head_Same.f x298000 x298001 x298002 x298003 x298000 x298001 x298002 x298003).bind fun t335 => (if t335 = true then (if bt300.2 = 0 then ((crosswayref00_CopyBytes.f bt300.1).bind fun t336 => (if t336.length + x2.length < 140737488355328 then ((head_Parse.f k (t336 ++ x2)).bind fun bt342 => (if bt342.2.2.2.2.2 = 0 then ((head_Same.f bt342.1 bt342.2.1 bt342.2.2.1 bt342.2.2.2.1 x298000 x298001 x298002 x298003).bind fun t355 => (if t355 = true then ((crosswayref00_SameBytes.f k bt342.2.2.2.2.1 x2).bind fun t356 => (if t356 = true then (crosswaylaw10_HeadWrites.l0 k bt300.1 0 x298000 x298001 x298002 x298003) else (none))) else (none))) else (none))) else (none))) else (some ((bt300.1.length : Int) == 0))) else (none)))))))) else (none))) else (none)))))
def crosswaylaw10_HeadWrites.l0 : Nat → List Int → Int → Int → Int → List Int → List Int → Option (Bool)
 | 0, _, _, _, _, _, _ => none
 | k + 1, x7, x14, x298000, x298001, x298002, x298003 => if x14 < (x7.length : Int) then (if 0 ≤ x14 then (if x14 ≤ (x7.length : Int) then ((head_Parse.f k (x7.take (x14 : Int).toNat)).bind fun bt361 => (if bt361.2.2.2.2.2 = 12 then (crosswaylaw10_HeadWrites.l0 k x7 (wrap64 (x14 + 1)) x298000 x298001 x298002 x298003) else (none))) else (none)) else (none)) else (if 4 ≤ (x7.length : Int) then ((head_Id.f k (x7.drop 4) (mn (wrap64 ((x298002.length : Int) + 1)) 255)).bind fun bt378 => (if bt378.2 = 0 then (if (x298002.length : Int) = 255 then (some true) else (if 0 < (bt378.1.length : Int) then (if (wrap64 (rd bt378.1 0)) = (x298002.length : Int) then (if 1 ≤ (bt378.1.length : Int) then ((crosswayref00_SameBytes.f k (bt378.1.drop 1) x298002).bind fun t387 => (some t387)) else (none)) else (none)) else (none))) else (none))) else (none))
end
def crosswaylaw10_HeadWrites.f (k : Nat) (a0_0 : Int) (a0_1 : Int) (l0_2 : List Int) (l0_3 : List Int) (a1_0 : Int) (a1_1 : Int) (l1_2 : List Int) (l1_3 : List Int) (l2 : List Int) : Option (Bool) := (crosswaylaw10_alive.f k).bind fun t299 => (if t299 = true then (if (l0_2.length : Int) > 400 then (crosswaylaw10_HeadWrites.j0 k l2 true a0_0 a0_1 l0_2 l0_3 a1_0 a1_1 l1_2 l1_3) else (if (l0_3.length : Int) > 400 then (crosswaylaw10_HeadWrites.j0 k l2 true a0_0 a0_1 l0_2 l0_3 a1_0 a1_1 l1_2 l1_3) else (if (l1_2.length : Int) > 400 then (crosswaylaw10_HeadWrites.j0 k l2 true a0_0 a0_1 l0_2 l0_3 a1_0 a1_1 l1_2 l1_3) else (if (l1_3.length : Int) > 400 then (crosswaylaw10_HeadWrites.j0 k l2 true a0_0 a0_1 l0_2 l0_3 a1_0 a1_1 l1_2 l1_3) else (crosswaylaw10_HeadWrites.j0 k l2 (decide ((l2.length : Int) > 300)) a0_0 a0_1 l0_2 l0_3 a1_0 a1_1 l1_2 l1_3))))) else (none))
theorem crosswaylaw10_HeadWrites.mono_l : ∀ k, (∀ y0 y1 y2 y3 y4 y5 y6 y7 y8 y9, LeO (crosswaylaw10_HeadWrites.j0 k y0 y1 y2 y3 y4 y5 y6 y7 y8 y9) (crosswaylaw10_HeadWrites.j0 (k + 1) y0 y1 y2 y3 y4 y5 y6 y7 y8 y9)) ∧ (∀ y0 y1 y2 y3 y4 y5, LeO (crosswaylaw10_HeadWrites.l0 k y0 y1 y2 y3 y4 y5) (crosswaylaw10_HeadWrites.l0 (k + 1) y0 y1 y2 y3 y4 y5))
 | 0 => ⟨fun _ _ _ _ _ _ _ _ _ _ r h => by simp [crosswaylaw10_HeadWrites.j0] at h, fun _ _ _ _ _ _ r h => by simp [crosswaylaw10_HeadWrites.l0] at h⟩
 | k + 1 => by
  obtain ⟨ih0, ih1⟩ := crosswaylaw10_HeadWrites.mono_l k
  refine ⟨?_, ?_⟩
  ·intro y0 y1 y2 y3 y4 y5 y6 y7 y8 y9
   unfold crosswaylaw10_HeadWrites.j0
   repeat' first
   | (with_reducible exact ih0 _ _ _ _ _ _ _ _ _ _)
   | (with_reducible exact ih1 _ _ _ _ _ _)
   | (with_reducible exact crosswaylaw10_alive.mono _)
   | (with_reducible exact crosswayref00_SameBytes.mono _ _ _)
   | (with_reducible exact head_Head_Bytes.mono _ _ _ _ _)
   | (with_reducible exact head_Id.mono _ _ _)
   | (with_reducible exact head_Parse.mono _ _)
   | (with_reducible exact LeO.refl _)
   | (with_reducible exact LeO.none _)
   | (with_reducible refine LeO.ite ?_ ?_)
   | (with_reducible refine LeO.bind ?_ (fun _ => ?_))
   | exact ih0 _ _ _ _ _ _ _ _ _ _
   | exact ih1 _ _ _ _ _ _
   | exact crosswaylaw10_alive.mono _
   | exact crosswayref00_SameBytes.mono _ _ _
   | exact head_Head_Bytes.mono _ _ _ _ _
   | exact head_Id.mono _ _ _
   | exact head_Parse.mono _ _
   | exact LeO.none _
   | refine LeO.ite ?_ ?_
   | refine LeO.bind ?_ (fun _ => ?_)
  ·intro y0 y1 y2 y3 y4 y5
   unfold crosswaylaw10_HeadWrites.l0
   repeat' first
   | (with_reducible exact ih0 _ _ _ _ _ _ _ _ _ _)
   | (with_reducible exact ih1 _ _ _ _ _ _)
   | (with_reducible exact crosswaylaw10_alive.mono _)
   | (with_reducible exact crosswayref00_SameBytes.mono _ _ _)
   | (with_reducible exact head_Head_Bytes.mono _ _ _ _ _)
   | (with_reducible exact head_Id.mono _ _ _)
   | (with_reducible exact head_Parse.mono _ _)
   | (with_reducible exact LeO.refl _)
   | (with_reducible exact LeO.none _)
   | (with_reducible refine LeO.ite ?_ ?_)
   | (with_reducible refine LeO.bind ?_ (fun _ => ?_))
   | exact ih0 _ _ _ _ _ _ _ _ _ _
   | exact ih1 _ _ _ _ _ _
   | exact crosswaylaw10_alive.mono _
   | exact crosswayref00_SameBytes.mono _ _ _
   | exact head_Head_Bytes.mono _ _ _ _ _
   | exact head_Id.mono _ _ _
   | exact head_Parse.mono _ _
   | exact LeO.none _
   | refine LeO.ite ?_ ?_
   | refine LeO.bind ?_ (fun _ => ?_)
theorem crosswaylaw10_HeadWrites.mono : ∀ a0 a1 a2 a3 a4 a5 a6 a7 a8 k, LeO (crosswaylaw10_HeadWrites.f k a0 a1 a2 a3 a4 a5 a6 a7 a8) (crosswaylaw10_HeadWrites.f (k + 1) a0 a1 a2 a3 a4 a5 a6 a7 a8) := by
 intro a0 a1 a2 a3 a4 a5 a6 a7 a8 k
 obtain ⟨ih0, ih1⟩ := crosswaylaw10_HeadWrites.mono_l k
 unfold crosswaylaw10_HeadWrites.f
 repeat' first
   | (with_reducible exact ih0 _ _ _ _ _ _ _ _ _ _)
   | (with_reducible exact ih1 _ _ _ _ _ _)
   | (with_reducible exact crosswaylaw10_alive.mono _)
   | (with_reducible exact crosswayref00_SameBytes.mono _ _ _)
   | (with_reducible exact head_Head_Bytes.mono _ _ _ _ _)
   | (with_reducible exact head_Id.mono _ _ _)
   | (with_reducible exact head_Parse.mono _ _)
   | (with_reducible exact LeO.refl _)
   | (with_reducible exact LeO.none _)
   | (with_reducible refine LeO.ite ?_ ?_)
   | (with_reducible refine LeO.bind ?_ (fun _ => ?_))
   | exact ih0 _ _ _ _ _ _ _ _ _ _
   | exact ih1 _ _ _ _ _ _
   | exact crosswaylaw10_alive.mono _
   | exact crosswayref00_SameBytes.mono _ _ _
   | exact head_Head_Bytes.mono _ _ _ _ _
   | exact head_Id.mono _ _ _
   | exact head_Parse.mono _ _
   | exact LeO.none _
   | refine LeO.ite ?_ ?_
   | refine LeO.bind ?_ (fun _ => ?_)
def crosswaylaw10_HeadWrites.T7 : Bool × List (List Nat × List Nat) := (true, [([], []), ([], []), ([0, 1], [0, 1]), ([2], [2]), ([3], [3]), ([3], [3]), ([4, 5, 3, 3], [3, 4, 5]), ([6, 3], [3, 6]), ([3, 7], [3, 7]), ([8, 6], [8]), ([9], [9]), ([9], [9]), ([10, 11, 9, 9], [9, 10, 11]), ([9], [9]), ([13, 12, 9], [9, 13]), ([9], [9]), ([15, 14, 9], [9, 15]), ([14, 16, 16, 9], [9, 14, 16]), ([12, 17, 9], [9, 12, 17]), ([9, 18], [9, 18]), ([19, 17], [19]), ([20], [20]), ([20], [20]), ([21, 22, 20, 20], [20, 21, 22]), ([23, 20], [20, 23]), ([20, 24], [20, 24])])
def crosswaylaw10_HeadWrites.B7 : List Nat := [0, 0, 3, 7, 15, 15, 63, 127, 255, 511, 1023, 1023, 4095, 1023, 16383, 1023, 65535, 131071, 262143, 524287, 1048575, 2097151, 2097151, 8388607, 16777215, 33554431]
theorem crosswaylaw10_HeadWrites.tab7 : rtab .any (opsOf Try.f4 7) = crosswaylaw10_HeadWrites.T7 := by kernel_rfl
theorem crosswaylaw10_HeadWrites.bits7 : waitsOk crosswaylaw10_HeadWrites.T7.2 crosswaylaw10_HeadWrites.B7 = true := by kernel_rfl
def crosswaylaw10_HeadWrites.T20 : Bool × List (List Nat × List Nat) := (true, [([], []), ([0], [0]), ([], []), ([2], [2]), ([3], [3]), ([4], [4]), ([5], [5]), ([1, 6], [1, 6]), ([7], [7]), ([8], [8]), ([8], [8]), ([9, 7, 0, 1, 2, 3, 4, 5, 6, 7, 8, 9], [9]), ([10, 11, 0, 1, 2, 3, 4, 5, 6, 7, 8, 9, 10, 11], [10])])
def crosswaylaw10_HeadWrites.B20 : List Nat := [0, 1, 0, 4, 12, 28, 60, 127, 255, 511, 511, 1023, 4095]
theorem crosswaylaw10_HeadWrites.tab20 : rtab .any (opsOf Try.f4 20) = crosswaylaw10_HeadWrites.T20 := by kernel_rfl
theorem crosswaylaw10_HeadWrites.bits20 : waitsOk crosswaylaw10_HeadWrites.T20.2 crosswaylaw10_HeadWrites.B20 = true := by kernel_rfl
def crosswaylaw10_HeadWrites.T21 : Bool × List (List Nat × List Nat) := (true, [([], []), ([0], [0]), ([1], [1]), ([2], [2]), ([3, 2], [2, 3]), ([4, 2], [2, 4]), ([5, 2], [2, 5]), ([2, 6], [2, 6]), ([7, 2], [7]), ([8], [8]), ([9, 8], [8, 9]), ([10, 8, 8], [8, 10]), ([11], [11]), ([12, 11], [11, 12]), ([13, 11], [11, 13]), ([14, 11], [11, 14]), ([11], [11]), ([16, 11], [11, 16]), ([17, 11], [11, 17]), ([15, 18, 11], [11, 15, 18]), ([11, 19, 8], [8, 11, 19]), ([20, 11, 8], [8, 20]), ([21], [21]), ([22, 21], [21, 22]), ([21], [21]), ([24, 21], [21, 24]), ([23, 25, 21, 21], [21, 23, 25]), ([21, 26, 8], [8, 21, 26]), ([8, 27], [8, 27]), ([28, 26, 0, 1, 2, 3, 4, 5, 6, 7, 8, 9, 10, 11, 12, 13, 14, 15, 16, 17, 18, 19, 20, 21, 22, 23, 24, 25, 26, 27, 28], [28])])
def crosswaylaw10_HeadWrites.B21 : List Nat := [0, 1, 3, 7, 15, 31, 63, 127, 255, 511, 1023, 2047, 4095, 8191, 16383, 32767, 4095, 69631, 200703, 524287, 1048575, 2097151, 4194303, 8388607, 4194303, 20971519, 67108863, 134217727, 268435455, 536870911]
theorem crosswaylaw10_HeadWrites.tab21 : rtab .any (opsOf Try.f4 21) = crosswaylaw10_HeadWrites.T21 := by kernel_rfl
theorem crosswaylaw10_HeadWrites.bits21 : waitsOk crosswaylaw10_HeadWrites.T21.2 crosswaylaw10_HeadWrites.B21 = true := by kernel_rfl
set_option maxHeartbeats 8000000 in
set_option maxRecDepth 100000 in
theorem crosswaylaw10_HeadWrites.calls (k : Nat) (a0_0 : Int) (a0_1 : Int) (A0_2 : Option Addr) (c0_2 : Nat) (l0_2 : List Int) (A0_3 : Option Addr) (c0_3 : Nat) (l0_3 : List Int) (a1_0 : Int) (a1_1 : Int) (A1_2 : Option Addr) (c1_2 : Nat) (l1_2 : List Int) (A1_3 : Option Addr) (c1_3 : Nat) (l1_3 : List Int) (A2 : Option Addr) (c2 : Nat) (l2 : List Int) (r : Bool) (w : World) (hr0_2 : Kd.C (Kd.int .u8) w A0_2 l0_2.length l0_2) (hc0_2 : l0_2.length ≤ c0_2) (hr0_3 : Kd.C (Kd.int .u8) w A0_3 l0_3.length l0_3) (hc0_3 : l0_3.length ≤ c0_3) (hr1_2 : Kd.C (Kd.int .u8) w A1_2 l1_2.length l1_2) (hc1_2 : l1_2.length ≤ c1_2) (hr1_3 : Kd.C (Kd.int .u8) w A1_3 l1_3.length l1_3) (hc1_3 : l1_3.length ≤ c1_3) (hr2 : Kd.C (Kd.int .u8) w A2 l2.length l2) (hc2 : l2.length ≤ c2) (h : crosswaylaw10_HeadWrites.f k a0_0 a0_1 l0_2 l0_3 a1_0 a1_1 l1_2 l1_3 l2 = some r) :
  Calls Try.prog 4 #[.agg #[.int .u8 a0_0, .int .u32 a0_1, .slice A0_2 l0_2.length c0_2, .slice A0_3 l0_3.length c0_3], .agg #[.int .u8 a1_0, .int .u32 a1_1, .slice A1_2 l1_2.length c1_2, .slice A1_3 l1_3.length c1_3], .slice A2 l2.length c2] w fun e w' => e = .returned (.bool r) ∧ Below w.heap.size w w' := by
 have hu27 := Try.underlying27
 have HR0_2 := Aside0.mk hr0_2
 have HC0_2 := Aside0.mk hc0_2
 clear hr0_2 hc0_2
 have HR0_3 := Aside0.mk hr0_3
 have HC0_3 := Aside0.mk hc0_3
 clear hr0_3 hc0_3
 have HR1_2 := Aside0.mk hr1_2
 have HC1_2 := Aside0.mk hc1_2
 clear hr1_2 hc1_2
 have HR1_3 := Aside0.mk hr1_3
 have HC1_3 := Aside0.mk hc1_3
 clear hr1_3 hc1_3
 have HR2 := Aside0.mk hr2
 have HC2 := Aside0.mk hc2
 clear hr2 hc2
 have HB := Aside0.mk (Below.refl w.heap.size w)
 have H : ((crosswaylaw10_alive.f k).bind fun t299 => (if t299 = true then (if (l0_2.length : Int) > 400 then (crosswaylaw10_HeadWrites.j0 k l2 true a0_0 a0_1 l0_2 l0_3 a1_0 a1_1 l1_2 l1_3) else (if (l0_3.length : Int) > 400 then (crosswaylaw10_HeadWrites.j0 k l2 true a0_0 a0_1 l0_2 l0_3 a1_0 a1_1 l1_2 l1_3) else (if (l1_2.length : Int) > 400 then (crosswaylaw10_HeadWrites.j0 k l2 true a0_0 a0_1 l0_2 l0_3 a1_0 a1_1 l1_2 l1_3) else (if (l1_3.length : Int) > 400 then (crosswaylaw10_HeadWrites.j0 k l2 true a0_0 a0_1 l0_2 l0_3 a1_0 a1_1 l1_2 l1_3) else (crosswaylaw10_HeadWrites.j0 k l2 (decide ((l2.length : Int) > 300)) a0_0 a0_1 l0_2 l0_3 a1_0 a1_1 l1_2 l1_3))))) else (none))) = some r := h
 clear h
 replace H := Option.bind_eq_some_iff.mp H
 obtain ⟨t299, A40, H⟩ := H
 try dsimp only at H
 have A4 := Aside0.mk A40
 clear A40
 by_cases c5 : t299 = true
 ·subst c5
  have H1 : (if (l0_2.length : Int) > 400 then (crosswaylaw10_HeadWrites.j0 k l2 true a0_0 a0_1 l0_2 l0_3 a1_0 a1_1 l1_2 l1_3) else (if (l0_3.length : Int) > 400 then (crosswaylaw10_HeadWrites.j0 k l2 true a0_0 a0_1 l0_2 l0_3 a1_0 a1_1 l1_2 l1_3) else (if (l1_2.length : Int) > 400 then (crosswaylaw10_HeadWrites.j0 k l2 true a0_0 a0_1 l0_2 l0_3 a1_0 a1_1 l1_2 l1_3) else (if (l1_3.length : Int) > 400 then (crosswaylaw10_HeadWrites.j0 k l2 true a0_0 a0_1 l0_2 l0_3 a1_0 a1_1 l1_2 l1_3) else (crosswaylaw10_HeadWrites.j0 k l2 (decide ((l2.length : Int) > 300)) a0_0 a0_1 l0_2 l0_3 a1_0 a1_1 l1_2 l1_3))))) = some r := by rw [if_pos rfl] at H; exact H
  clear H
  have H := H1
  clear H1
  have HC6 := Aside0.mk H
  clear H
  go_enter Try.func4, Try.ntmps4
  go_upto_region 3 with (first | ((with_reducible refine gate_dst (N := 3) rfl ?_); (try (refine gate_guard (by rfl) ?_; dsimp only)); refine box_event ?hg (N := 3) ?hd (cs := #[.int .u8 a0_0, .int .u32 a0_1, .slice A0_2 l0_2.length c0_2, .slice A0_3 l0_3.length c0_3]) (t := 27) ?hr ?_; (case hd => rfl); (case hg => rfl); (case hr => first | (go_simp; done) | (go_simp; rfl)); intro gb297 hg w7 hbox hb; have n0_ := Aside0.mk (below_step (by repeat (first | (with_reducible first | exact HB.out | apply below_alloc | apply pw_below_drewN | apply below_drew1) | exact HB.out)) hb); have n1_ := Aside0.mk (hbox); have n2_ := Aside0.mk trivial; have n3_ := Aside0.mk ((by rw [hg]; exact (below_size (by repeat (first | (with_reducible first | exact HB.out | apply below_alloc | apply pw_below_drewN | apply below_drew1) | exact HB.out))) : w.heap.size ≤ gb297)); clear HB; have HB := n0_; have BK297 := n1_; have GW297 := n2_; have GE297 := n3_; clear n0_ n1_ n2_ n3_; clear hb hbox hg) | ((with_reducible refine gate_dst (N := 4) rfl ?_); (try (refine gate_guard (by rfl) ?_; dsimp only)); refine box_event ?hg (N := 4) ?hd (cs := #[.int .u8 a1_0, .int .u32 a1_1, .slice A1_2 l1_2.length c1_2, .slice A1_3 l1_3.length c1_3]) (t := 27) ?hr ?_; (case hd => rfl); (case hg => rfl); (case hr => first | (go_simp; done) | (go_simp; rfl)); intro gb298 hg w8 hbox hb; have n0_ := Aside0.mk (blk_below (g := gb297) (o := .cells #[.int .u8 a0_0, .int .u32 a0_1, .slice A0_2 l0_2.length c0_2, .slice A0_3 l0_3.length c0_3] 27 (0, 0)) (by (with_reducible repeat (first | refine blk_drewN ?_ _ | refine blk_drew ?_ | refine blk_alloc ?_ _)); exact BK297.out) hb); have n1_ := Aside0.mk (below_step (by repeat (first | (with_reducible first | exact HB.out | apply below_alloc | apply pw_below_drewN | apply below_drew1 | refine below_set ?_ GE297.out) | exact HB.out)) hb); have n2_ := Aside0.mk (hbox); have n3_ := Aside0.mk trivial; have n4_ := Aside0.mk ((by rw [hg]; exact (below_size (by repeat (first | (with_reducible first | exact HB.out | apply below_alloc | apply pw_below_drewN | apply below_drew1 | refine below_set ?_ GE297.out) | exact HB.out))) : w.heap.size ≤ gb298)); have n5_ := Aside0.mk ((by rw [hg]; exact Nat.ne_of_lt (blk_lt (g := gb297) (o := .cells #[.int .u8 a0_0, .int .u32 a0_1, .slice A0_2 l0_2.length c0_2, .slice A0_3 l0_3.length c0_3] 27 (0, 0)) (by (with_reducible repeat (first | refine blk_drewN ?_ _ | refine blk_drew ?_ | refine blk_alloc ?_ _)); exact BK297.out)) : gb297 ≠ gb298)); have n6_ := Aside0.mk ((by rw [hg]; exact Nat.ne_of_gt (blk_lt (g := gb297) (o := .cells #[.int .u8 a0_0, .int .u32 a0_1, .slice A0_2 l0_2.length c0_2, .slice A0_3 l0_3.length c0_3] 27 (0, 0)) (by (with_reducible repeat (first | refine blk_drewN ?_ _ | refine blk_drew ?_ | refine blk_alloc ?_ _)); exact BK297.out)) : gb298 ≠ gb297)); clear BK297 HB; have BK297 := n0_; have HB := n1_; have BK298 := n2_; have GW298 := n3_; have GE298 := n4_; have NB297_298 := n5_; have NB298_297 := n6_; clear n0_ n1_ n2_ n3_ n4_ n5_ n6_; clear hb hbox hg) | ((with_reducible refine gate_callee (f := 7) rfl ?_); refine goesL_ (some 20) rfl rfl Try.func7 (by kernel_rfl) rfl #[] rfl (by (try simp only [List.map_toArray, List.map_cons, List.map_nil]); first | done | rfl | (simp only [List.length_drop, List.length_take]; rfl)) ?_; (with_reducible refine (crosswaylaw10_alive.calls k  true _ A4.out).mono ?_); rintro e w9 ⟨rfl, hb⟩; refine ⟨_, rfl, ?_⟩; have n0_ := Aside0.mk (blk_below (g := gb297) (o := .cells #[.int .u8 a0_0, .int .u32 a0_1, .slice A0_2 l0_2.length c0_2, .slice A0_3 l0_3.length c0_3] 27 (0, 0)) (by (with_reducible repeat (first | refine blk_drewN ?_ _ | refine blk_drew ?_ | refine blk_alloc ?_ _)); exact BK297.out) hb); have n1_ := Aside0.mk (blk_below (g := gb298) (o := .cells #[.int .u8 a1_0, .int .u32 a1_1, .slice A1_2 l1_2.length c1_2, .slice A1_3 l1_3.length c1_3] 27 (0, 0)) (by (with_reducible repeat (first | refine blk_drewN ?_ _ | refine blk_drew ?_ | refine blk_alloc ?_ _)); exact BK298.out) hb); have n2_ := Aside0.mk (below_step (by repeat (first | (with_reducible first | exact HB.out | apply below_alloc | apply pw_below_drewN | apply below_drew1 | refine below_set ?_ GE297.out | refine below_set ?_ GE298.out) | exact HB.out)) hb); clear BK297 BK298 HB; have BK297 := n0_; have BK298 := n1_; have HB := n2_; clear n0_ n1_ n2_; (try clear hb); (try clear hb2); (try clear hk); (try clear hi)))
  (try simp only [Act.put, sA, sB, sC])
  go_cut [48] (fun v48 wc => ∃ (kq : Nat) (x48_5 : Bool), v48 = .bool x48_5 ∧ Aside0 (crosswaylaw10_HeadWrites.j0 kq l2 x48_5 a0_0 a0_1 l0_2 l0_3 a1_0 a1_1 l1_2 l1_3 = some r) ∧ Aside0 (kq ≤ k) ∧ Aside0 (wc.heap[gb297]? = some (.cells #[.int .u8 a0_0, .int .u32 a0_1, (.slice A0_2 l0_2.length c0_2), (.slice A0_3 l0_3.length c0_3)] 27 (0, 0))) ∧ Aside0 (wc.heap[gb298]? = some (.cells #[.int .u8 a1_0, .int .u32 a1_1, (.slice A1_2 l1_2.length c1_2), (.slice A1_3 l1_3.length c1_3)] 27 (0, 0))) ∧ Aside0 (Below w.heap.size w wc))
  case first =>
   have H := HC6.out
   clear HC6
   by_cases c10 : (l0_2.length : Int) > 400
   ·rw [if_pos c10] at H
    have c10b0 : decide (400 < (l0_2.length : Int)) = true := decide_eq_true c10
    have c10b1 : decide (400 < l0_2.length) = true := decide_eq_true (by omega)
    clear c10
    (first | rw [c10b0] | (simp only [i64_w, i32_w]; rw [c10b0]) | skip)
    have H' := Aside0.mk H
    clear H
    have hnb11 := NB297_298.out
    have hnc11 := NB298_297.out
    have hcz12_0 : w9.cell? ⟨gb297, 0, none⟩ = some (.int .u8 a0_0) := (blk_cell BK297.out 0).trans rfl
    have hcz12_1 : w9.cell? ⟨gb297, 1, none⟩ = some (.int .u32 a0_1) := (blk_cell BK297.out 1).trans rfl
    have hcz12_2 : w9.cell? ⟨gb297, 2, none⟩ = some (.slice A0_2 l0_2.length c0_2) := (blk_cell BK297.out 2).trans rfl
    have hcz12_3 : w9.cell? ⟨gb297, 3, none⟩ = some (.slice A0_3 l0_3.length c0_3) := (blk_cell BK297.out 3).trans rfl
    have hfz12_0 := blk_frozen BK297.out 0
    have hfz12_1 := blk_frozen BK297.out 1
    have hfz12_2 := blk_frozen BK297.out 2
    have hfz12_3 := blk_frozen BK297.out 3
    go_wp2
    go_meet
    case rel => exact ⟨_, (true), (by first | rfl | (simp; done) | (simp [*]; done) | (simp only [i64_w]; done) | (simp [i64_w]; done)), H', ⟨by first | omega | exact Nat.le_refl _⟩, ⟨by (with_reducible repeat (first | refine blk_drewN ?_ _ | refine blk_drew ?_ | refine blk_alloc ?_ _)); exact BK297.out⟩, ⟨by (with_reducible repeat (first | refine blk_drewN ?_ _ | refine blk_drew ?_ | refine blk_alloc ?_ _)); exact BK298.out⟩, ⟨by repeat (first | (with_reducible first | exact HB.out | apply below_alloc | apply pw_below_drewN | apply below_drew1 | refine below_set ?_ GE297.out | refine below_set ?_ GE298.out) | exact HB.out)⟩⟩
   ·rw [if_neg c10] at H
    have c10b0 : decide (400 < (l0_2.length : Int)) = false := decide_eq_false c10
    have c10b1 : decide (400 < l0_2.length) = false := decide_eq_false (by omega)
    clear c10
    (first | rw [c10b0] | (simp only [i64_w, i32_w]; rw [c10b0]) | skip)
    by_cases c13 : (l0_3.length : Int) > 400
    ·rw [if_pos c13] at H
     have c13b0 : decide (400 < (l0_3.length : Int)) = true := decide_eq_true c13
     have c13b1 : decide (400 < l0_3.length) = true := decide_eq_true (by omega)
     clear c13
     have H' := Aside0.mk H
     clear H
     have hnb14 := NB297_298.out
     have hnc14 := NB298_297.out
     have hcz15_0 : w9.cell? ⟨gb297, 0, none⟩ = some (.int .u8 a0_0) := (blk_cell BK297.out 0).trans rfl
     have hcz15_1 : w9.cell? ⟨gb297, 1, none⟩ = some (.int .u32 a0_1) := (blk_cell BK297.out 1).trans rfl
     have hcz15_2 : w9.cell? ⟨gb297, 2, none⟩ = some (.slice A0_2 l0_2.length c0_2) := (blk_cell BK297.out 2).trans rfl
     have hcz15_3 : w9.cell? ⟨gb297, 3, none⟩ = some (.slice A0_3 l0_3.length c0_3) := (blk_cell BK297.out 3).trans rfl
     have hfz15_0 := blk_frozen BK297.out 0
     have hfz15_1 := blk_frozen BK297.out 1
     have hfz15_2 := blk_frozen BK297.out 2
     have hfz15_3 := blk_frozen BK297.out 3
     go_wp2
     go_meet
     case rel => exact ⟨_, (true), (by first | rfl | (simp; done) | (simp [*]; done) | (simp only [i64_w]; done) | (simp [i64_w]; done)), H', ⟨by first | omega | exact Nat.le_refl _⟩, ⟨by (with_reducible repeat (first | refine blk_drewN ?_ _ | refine blk_drew ?_ | refine blk_alloc ?_ _)); exact BK297.out⟩, ⟨by (with_reducible repeat (first | refine blk_drewN ?_ _ | refine blk_drew ?_ | refine blk_alloc ?_ _)); exact BK298.out⟩, ⟨by repeat (first | (with_reducible first | exact HB.out | apply below_alloc | apply pw_below_drewN | apply below_drew1 | refine below_set ?_ GE297.out | refine below_set ?_ GE298.out) | exact HB.out)⟩⟩
    ·rw [if_neg c13] at H
     have c13b0 : decide (400 < (l0_3.length : Int)) = false := decide_eq_false c13
     have c13b1 : decide (400 < l0_3.length) = false := decide_eq_false (by omega)
     clear c13
     by_cases c16 : (l1_2.length : Int) > 400
     ·rw [if_pos c16] at H
      have c16b0 : decide (400 < (l1_2.length : Int)) = true := decide_eq_true c16
      have c16b1 : decide (400 < l1_2.length) = true := decide_eq_true (by omega)
      clear c16
      have H' := Aside0.mk H
      clear H
      have hnb17 := NB297_298.out
      have hnc17 := NB298_297.out
      have hcz18_0 : w9.cell? ⟨gb297, 0, none⟩ = some (.int .u8 a0_0) := (blk_cell BK297.out 0).trans rfl
      have hcz18_1 : w9.cell? ⟨gb297, 1, none⟩ = some (.int .u32 a0_1) := (blk_cell BK297.out 1).trans rfl
      have hcz18_2 : w9.cell? ⟨gb297, 2, none⟩ = some (.slice A0_2 l0_2.length c0_2) := (blk_cell BK297.out 2).trans rfl
      have hcz18_3 : w9.cell? ⟨gb297, 3, none⟩ = some (.slice A0_3 l0_3.length c0_3) := (blk_cell BK297.out 3).trans rfl
      have hfz18_0 := blk_frozen BK297.out 0
      have hfz18_1 := blk_frozen BK297.out 1
      have hfz18_2 := blk_frozen BK297.out 2
      have hfz18_3 := blk_frozen BK297.out 3
      have hcz19_0 : w9.cell? ⟨gb298, 0, none⟩ = some (.int .u8 a1_0) := (blk_cell BK298.out 0).trans rfl
      have hcz19_1 : w9.cell? ⟨gb298, 1, none⟩ = some (.int .u32 a1_1) := (blk_cell BK298.out 1).trans rfl
      have hcz19_2 : w9.cell? ⟨gb298, 2, none⟩ = some (.slice A1_2 l1_2.length c1_2) := (blk_cell BK298.out 2).trans rfl
      have hcz19_3 : w9.cell? ⟨gb298, 3, none⟩ = some (.slice A1_3 l1_3.length c1_3) := (blk_cell BK298.out 3).trans rfl
      have hfz19_0 := blk_frozen BK298.out 0
      have hfz19_1 := blk_frozen BK298.out 1
      have hfz19_2 := blk_frozen BK298.out 2
      have hfz19_3 := blk_frozen BK298.out 3
      go_wp2
      go_meet
      case rel => exact ⟨_, (true), (by first | rfl | (simp; done) | (simp [*]; done) | (simp only [i64_w]; done) | (simp [i64_w]; done)), H', ⟨by first | omega | exact Nat.le_refl _⟩, ⟨by (with_reducible repeat (first | refine blk_drewN ?_ _ | refine blk_drew ?_ | refine blk_alloc ?_ _)); exact BK297.out⟩, ⟨by (with_reducible repeat (first | refine blk_drewN ?_ _ | refine blk_drew ?_ | refine blk_alloc ?_ _)); exact BK298.out⟩, ⟨by repeat (first | (with_reducible first | exact HB.out | apply below_alloc | apply pw_below_drewN | apply below_drew1 | refine below_set ?_ GE297.out | refine below_set ?_ GE298.out) | exact HB.out)⟩⟩
     ·rw [if_neg c16] at H
      have c16b0 : decide (400 < (l1_2.length : Int)) = false := decide_eq_false c16
      have c16b1 : decide (400 < l1_2.length) = false := decide_eq_false (by omega)
      clear c16
      by_cases c20 : (l1_3.length : Int) > 400
      ·rw [if_pos c20] at H
       have c20b0 : decide (400 < (l1_3.length : Int)) = true := decide_eq_true c20
       have c20b1 : decide (400 < l1_3.length) = true := decide_eq_true (by omega)
       clear c20
       have H' := Aside0.mk H
       clear H
       have hnb21 := NB297_298.out
       have hnc21 := NB298_297.out
       have hcz22_0 : w9.cell? ⟨gb297, 0, none⟩ = some (.int .u8 a0_0) := (blk_cell BK297.out 0).trans rfl
       have hcz22_1 : w9.cell? ⟨gb297, 1, none⟩ = some (.int .u32 a0_1) := (blk_cell BK297.out 1).trans rfl
       have hcz22_2 : w9.cell? ⟨gb297, 2, none⟩ = some (.slice A0_2 l0_2.length c0_2) := (blk_cell BK297.out 2).trans rfl
       have hcz22_3 : w9.cell? ⟨gb297, 3, none⟩ = some (.slice A0_3 l0_3.length c0_3) := (blk_cell BK297.out 3).trans rfl
       have hfz22_0 := blk_frozen BK297.out 0
       have hfz22_1 := blk_frozen BK297.out 1
       have hfz22_2 := blk_frozen BK297.out 2
       have hfz22_3 := blk_frozen BK297.out 3
       have hcz23_0 : w9.cell? ⟨gb298, 0, none⟩ = some (.int .u8 a1_0) := (blk_cell BK298.out 0).trans rfl
       have hcz23_1 : w9.cell? ⟨gb298, 1, none⟩ = some (.int .u32 a1_1) := (blk_cell BK298.out 1).trans rfl
       have hcz23_2 : w9.cell? ⟨gb298, 2, none⟩ = some (.slice A1_2 l1_2.length c1_2) := (blk_cell BK298.out 2).trans rfl
       have hcz23_3 : w9.cell? ⟨gb298, 3, none⟩ = some (.slice A1_3 l1_3.length c1_3) := (blk_cell BK298.out 3).trans rfl
       have hfz23_0 := blk_frozen BK298.out 0
       have hfz23_1 := blk_frozen BK298.out 1
       have hfz23_2 := blk_frozen BK298.out 2
       have hfz23_3 := blk_frozen BK298.out 3
       go_wp2
       go_meet
       case rel => exact ⟨_, (true), (by first | rfl | (simp; done) | (simp [*]; done) | (simp only [i64_w]; done) | (simp [i64_w]; done)), H', ⟨by first | omega | exact Nat.le_refl _⟩, ⟨by (with_reducible repeat (first | refine blk_drewN ?_ _ | refine blk_drew ?_ | refine blk_alloc ?_ _)); exact BK297.out⟩, ⟨by (with_reducible repeat (first | refine blk_drewN ?_ _ | refine blk_drew ?_ | refine blk_alloc ?_ _)); exact BK298.out⟩, ⟨by repeat (first | (with_reducible first | exact HB.out | apply below_alloc | apply pw_below_drewN | apply below_drew1 | refine below_set ?_ GE297.out | refine below_set ?_ GE298.out) | exact HB.out)⟩⟩
      ·rw [if_neg c20] at H
       have c20b0 : decide (400 < (l1_3.length : Int)) = false := decide_eq_false c20
       have c20b1 : decide (400 < l1_3.length) = false := decide_eq_false (by omega)
       clear c20
       have H' := Aside0.mk H
       clear H
       have hnb24 := NB297_298.out
       have hnc24 := NB298_297.out
       have hcz25_0 : w9.cell? ⟨gb297, 0, none⟩ = some (.int .u8 a0_0) := (blk_cell BK297.out 0).trans rfl
       have hcz25_1 : w9.cell? ⟨gb297, 1, none⟩ = some (.int .u32 a0_1) := (blk_cell BK297.out 1).trans rfl
       have hcz25_2 : w9.cell? ⟨gb297, 2, none⟩ = some (.slice A0_2 l0_2.length c0_2) := (blk_cell BK297.out 2).trans rfl
       have hcz25_3 : w9.cell? ⟨gb297, 3, none⟩ = some (.slice A0_3 l0_3.length c0_3) := (blk_cell BK297.out 3).trans rfl
       have hfz25_0 := blk_frozen BK297.out 0
       have hfz25_1 := blk_frozen BK297.out 1
       have hfz25_2 := blk_frozen BK297.out 2
       have hfz25_3 := blk_frozen BK297.out 3
       have hcz26_0 : w9.cell? ⟨gb298, 0, none⟩ = some (.int .u8 a1_0) := (blk_cell BK298.out 0).trans rfl
       have hcz26_1 : w9.cell? ⟨gb298, 1, none⟩ = some (.int .u32 a1_1) := (blk_cell BK298.out 1).trans rfl
       have hcz26_2 : w9.cell? ⟨gb298, 2, none⟩ = some (.slice A1_2 l1_2.length c1_2) := (blk_cell BK298.out 2).trans rfl
       have hcz26_3 : w9.cell? ⟨gb298, 3, none⟩ = some (.slice A1_3 l1_3.length c1_3) := (blk_cell BK298.out 3).trans rfl
       have hfz26_0 := blk_frozen BK298.out 0
       have hfz26_1 := blk_frozen BK298.out 1
       have hfz26_2 := blk_frozen BK298.out 2
       have hfz26_3 := blk_frozen BK298.out 3
       go_wp2
       go_meet
       case rel => exact ⟨_, (decide ((l2.length : Int) > 300)), (by first | rfl | (simp; done) | (simp [*]; done) | (simp only [i64_w]; done) | (simp [i64_w]; done)), H', ⟨by first | omega | exact Nat.le_refl _⟩, ⟨by (with_reducible repeat (first | refine blk_drewN ?_ _ | refine blk_drew ?_ | refine blk_alloc ?_ _)); exact BK297.out⟩, ⟨by (with_reducible repeat (first | refine blk_drewN ?_ _ | refine blk_drew ?_ | refine blk_alloc ?_ _)); exact BK298.out⟩, ⟨by repeat (first | (with_reducible first | exact HB.out | apply below_alloc | apply pw_below_drewN | apply below_drew1 | refine below_set ?_ GE297.out | refine below_set ?_ GE298.out) | exact HB.out)⟩⟩
  case rest =>
   clear HC6
   try clear c1; try clear c2; try clear p2; try clear c4; try clear c5; try clear c7; try clear c10; try clear c10b0; try clear c10b1; try clear c11; try clear c13; try clear c13b0; try clear c13b1; try clear c14; try clear c16; try clear c16b0; try clear c16b1; try clear c17; try clear c20; try clear c20b0; try clear c20b1; try clear c21; try clear c24; try clear hcz12_0; try clear hcz12_1; try clear hcz12_2; try clear hcz12_3; try clear hcz15_0; try clear hcz15_1; try clear hcz15_2; try clear hcz15_3; try clear hcz18_0; try clear hcz18_1; try clear hcz18_2; try clear hcz18_3; try clear hcz19_0; try clear hcz19_1; try clear hcz19_2; try clear hcz19_3; try clear hcz22_0; try clear hcz22_1; try clear hcz22_2; try clear hcz22_3; try clear hcz23_0; try clear hcz23_1; try clear hcz23_2; try clear hcz23_3; try clear hcz25_0; try clear hcz25_1; try clear hcz25_2; try clear hcz25_3; try clear hcz26_0; try clear hcz26_1; try clear hcz26_2; try clear hcz26_3; try clear hfz12_0; try clear hfz12_1; try clear hfz12_2; try clear hfz12_3; try clear hfz15_0; try clear hfz15_1; try clear hfz15_2; try clear hfz15_3; try clear hfz18_0; try clear hfz18_1; try clear hfz18_2; try clear hfz18_3; try clear hfz19_0; try clear hfz19_1; try clear hfz19_2; try clear hfz19_3; try clear hfz22_0; try clear hfz22_1; try clear hfz22_2; try clear hfz22_3; try clear hfz23_0; try clear hfz23_1; try clear hfz23_2; try clear hfz23_3; try clear hfz25_0; try clear hfz25_1; try clear hfz25_2; try clear hfz25_3; try clear hfz26_0; try clear hfz26_1; try clear hfz26_2; try clear hfz26_3
   obtain ⟨kq, x48_5, rfl, HA, HJ5, BK297, BK298, HB⟩ := hcut
   cases kq with
   | zero => exact absurd HA.out (by simp [crosswaylaw10_HeadWrites.j0])
   | succ kj5 =>
    have H := HA.out
    clear HA
    simp only [crosswaylaw10_HeadWrites.j0] at H
    by_cases c27 : x48_5 = true
    ·subst c27
     have H1 : (some true) = some r := by rw [if_pos rfl] at H; exact H
     clear H
     have H := H1
     clear H1
     obtain rfl := Option.some.inj H
     go_wp2
     go_ret
     exact ⟨by first | rfl | (simp [errW_none, errW_some] <;> rfl) | (simp [*, errW_none, errW_some] <;> rfl), by repeat (first | (with_reducible first | exact HB.out | apply below_alloc | apply pw_below_drewN | apply below_drew1 | refine below_set ?_ GE297.out | refine below_set ?_ GE298.out) | exact HB.out)⟩
    ·replace c27 := Bool.eq_false_iff.mpr c27
     subst c27
     have H1 : ((head_Head_Bytes.f kj5 a0_0 a0_1 l0_2 l0_3).bind fun bt300 => ((crosswaylaw10_Of.f a0_0 a0_1 l0_2 l0_3).bind fun bt304 => ((crosswayref10_Bytes.f bt304.1 bt304.2.1 bt304.2.2.1 bt304.2.2.2).bind fun bt312 => (if bt300.2 = bt312.2 then ((crosswayref00_SameBytes.f kj5 bt300.1 bt312.1).bind fun t316 => (if t316 = true then ((head_Same.f a0_0 a0_1 l0_2 l0_3 a1_0 a1_1 l1_2 l1_3).bind fun t317 => ((crosswaylaw10_Of.f a0_0 a0_1 l0_2 l0_3).bind fun bt318 => ((crosswaylaw10_Of.f a1_0 a1_1 l1_2 l1_3).bind fun bt326 => ((crosswayref10_Same.f bt318.1 bt318.2.1 bt318.2.2.1 bt318.2.2.2 bt326.1 bt326.2.1 bt326.2.2.1 bt326.2.2.2).bind fun t334 => (if (t317 != t334) = true then (none) else ((head_Same.f a0_0 a0_1 l0_2 l0_3 a0_0 a0_1 l0_2 l0_3).bind fun t335 => (if t335 = true then (if bt300.2 = 0 then ((crosswayref00_CopyBytes.f bt300.1).bind fun t336 => (if t336.length + l2.length < 140737488355328 then ((head_Parse.f kj5 (t336 ++ l2)).bind fun bt342 => (if bt342.2.2.2.2.2 = 0 then ((head_Same.f bt342.1 bt342.2.1 bt342.2.2.1 bt342.2.2.2.1 a0_0 a0_1 l0_2 l0_3).bind fun t355 => (if t355 = true then ((crosswayref00_SameBytes.f kj5 bt342.2.2.2.2.1 l2).bind fun t356 => (if t356 = true then (crosswaylaw10_HeadWrites.l0 kj5 bt300.1 0 a0_0 a0_1 l0_2 l0_3) else (none))) else (none))) else (none))) else (none))) else (some ((bt300.1.length : Int) == 0))) else (none)))))))) else (none))) else (none))))) = some r := by rw [if_neg (show ¬ (false = true) by decide)] at H; exact H
     clear H
     have H := H1
     clear H1
     replace H := Option.bind_eq_some_iff.mp H
     obtain ⟨⟨t300, t303⟩, A280, H⟩ := H
     try dsimp only at H
     have A28 := Aside0.mk A280
     clear A280
     replace H := Option.bind_eq_some_iff.mp H
     obtain ⟨⟨t304, t305, t306, t309⟩, A290, H⟩ := H
     try dsimp only at H
     have A29 := Aside0.mk A290
     clear A290
     replace H := Option.bind_eq_some_iff.mp H
     obtain ⟨⟨t312, t315⟩, A300, H⟩ := H
     try dsimp only at H
     have A30 := Aside0.mk A300
     clear A300
     by_cases c31 : t303 = t315
     ·rw [if_pos c31] at H
      have c31b0 : (t303 == t315) = true := beq_iff_eq.mpr c31
      have c31b1 : (t303 != t315) = false := bne_eq_false_iff_eq.mpr c31
      clear c31
      replace H := Option.bind_eq_some_iff.mp H
      obtain ⟨t316, A320, H⟩ := H
      try dsimp only at H
      have A32 := Aside0.mk A320
      clear A320
      by_cases c33 : t316 = true
      ·subst c33
       have H1 : ((head_Same.f a0_0 a0_1 l0_2 l0_3 a1_0 a1_1 l1_2 l1_3).bind fun t317 => ((crosswaylaw10_Of.f a0_0 a0_1 l0_2 l0_3).bind fun bt318 => ((crosswaylaw10_Of.f a1_0 a1_1 l1_2 l1_3).bind fun bt326 => ((crosswayref10_Same.f bt318.1 bt318.2.1 bt318.2.2.1 bt318.2.2.2 bt326.1 bt326.2.1 bt326.2.2.1 bt326.2.2.2).bind fun t334 => (if (t317 != t334) = true then (none) else ((head_Same.f a0_0 a0_1 l0_2 l0_3 a0_0 a0_1 l0_2 l0_3).bind fun t335 => (if t335 = true then (if t303 = 0 then ((crosswayref00_CopyBytes.f t300).bind fun t336 => (if t336.length + l2.length < 140737488355328 then ((head_Parse.f kj5 (t336 ++ l2)).bind fun bt342 => (if bt342.2.2.2.2.2 = 0 then ((head_Same.f bt342.1 bt342.2.1 bt342.2.2.1 bt342.2.2.2.1 a0_0 a0_1 l0_2 l0_3).bind fun t355 => (if t355 = true then ((crosswayref00_SameBytes.f kj5 bt342.2.2.2.2.1 l2).bind fun t356 => (if t356 = true then (crosswaylaw10_HeadWrites.l0 kj5 t300 0 a0_0 a0_1 l0_2 l0_3) else (none))) else (none))) else (none))) else (none))) else (some ((t300.length : Int) == 0))) else (none)))))))) = some r := by rw [if_pos rfl] at H; exact H
       clear H
       have H := H1
       clear H1
       replace H := Option.bind_eq_some_iff.mp H
       obtain ⟨t317, A340, H⟩ := H
       try dsimp only at H
       have A34 := Aside0.mk A340
       clear A340
       replace H := Option.bind_eq_some_iff.mp H
       obtain ⟨⟨t318, t319, t320, t323⟩, A350, H⟩ := H
       try dsimp only at H
       have A35 := Aside0.mk A350
       clear A350
       replace H := Option.bind_eq_some_iff.mp H
       obtain ⟨⟨t326, t327, t328, t331⟩, A360, H⟩ := H
       try dsimp only at H
       have A36 := Aside0.mk A360
       clear A360
       replace H := Option.bind_eq_some_iff.mp H
       obtain ⟨t334, A370, H⟩ := H
       try dsimp only at H
       have A37 := Aside0.mk A370
       clear A370
       by_cases c38 : (t317 != t334) = true
       ·rw [if_pos c38] at H
        exact absurd H (by simp)
       ·rw [if_neg c38] at H
        have c38b0 : (t317 != t334) = false := by simpa using c38
        (try (have c38b1 : decide (t317 = t334) = true := by simpa using c38))
        (try (have c38b2 : (t317 == t334) = true := by simpa using c38))
        clear c38
        replace H := Option.bind_eq_some_iff.mp H
        obtain ⟨t335, A390, H⟩ := H
        try dsimp only at H
        have A39 := Aside0.mk A390
        clear A390
        by_cases c40 : t335 = true
        ·subst c40
         have H1 : (if t303 = 0 then ((crosswayref00_CopyBytes.f t300).bind fun t336 => (if t336.length + l2.length < 140737488355328 then ((head_Parse.f kj5 (t336 ++ l2)).bind fun bt342 => (if bt342.2.2.2.2.2 = 0 then ((head_Same.f bt342.1 bt342.2.1 bt342.2.2.1 bt342.2.2.2.1 a0_0 a0_1 l0_2 l0_3).bind fun t355 => (if t355 = true then ((crosswayref00_SameBytes.f kj5 bt342.2.2.2.2.1 l2).bind fun t356 => (if t356 = true then (crosswaylaw10_HeadWrites.l0 kj5 t300 0 a0_0 a0_1 l0_2 l0_3) else (none))) else (none))) else (none))) else (none))) else (some ((t300.length : Int) == 0))) = some r := by rw [if_pos rfl] at H; exact H
         clear H
         have H := H1
         clear H1
         by_cases c41 : t303 = 0
         ·rw [if_pos c41] at H
          have c41b0 : (t303 == 0) = true := beq_iff_eq.mpr c41
          have c41b1 : (t303 != 0) = false := bne_eq_false_iff_eq.mpr c41
          clear c41
          replace H := Option.bind_eq_some_iff.mp H
          obtain ⟨t336, A420, H⟩ := H
          try dsimp only at H
          have A42 := Aside0.mk A420
          clear A420
          by_cases c43 : t336.length + l2.length < 140737488355328
          ·rw [if_pos c43] at H
           have LMc43 := Aside0.mk c43
           clear c43
           obtain ⟨y339, hy339⟩ : ∃ y_ : List Int, y_ = (t336 ++ l2) := ⟨_, rfl⟩
           replace H : ((head_Parse.f kj5 y339).bind fun bt342 => (if bt342.2.2.2.2.2 = 0 then ((head_Same.f bt342.1 bt342.2.1 bt342.2.2.1 bt342.2.2.2.1 a0_0 a0_1 l0_2 l0_3).bind fun t355 => (if t355 = true then ((crosswayref00_SameBytes.f kj5 bt342.2.2.2.2.1 l2).bind fun t356 => (if t356 = true then (crosswaylaw10_HeadWrites.l0 kj5 t300 0 a0_0 a0_1 l0_2 l0_3) else (none))) else (none))) else (none))) = some r := by first | (rw [hy339]; with_reducible exact H) | (have H2_ := (Option.bind_some _ _).symm.trans H; rw [hy339]; with_reducible exact H2_) | (have H2_ := (Option.bind_some _ _).symm.trans H; with_reducible exact H2_) | with_reducible exact H | (rw [hy339]; exact H) | exact H
           have Ny339 := Aside0.mk hy339
           clear hy339
           replace H := Option.bind_eq_some_iff.mp H
           obtain ⟨⟨t342, t343, t344, t347, t350, t353⟩, A440, H⟩ := H
           try dsimp only at H
           have A44 := Aside0.mk A440
           clear A440
           by_cases c45 : t353 = 0
           ·rw [if_pos c45] at H
            have c45b0 : (t353 == 0) = true := beq_iff_eq.mpr c45
            have c45b1 : (t353 != 0) = false := bne_eq_false_iff_eq.mpr c45
            clear c45
            replace H := Option.bind_eq_some_iff.mp H
            obtain ⟨t355, A460, H⟩ := H
            try dsimp only at H
            have A46 := Aside0.mk A460
            clear A460
            by_cases c47 : t355 = true
            ·subst c47
             have H1 : ((crosswayref00_SameBytes.f kj5 t350 l2).bind fun t356 => (if t356 = true then (crosswaylaw10_HeadWrites.l0 kj5 t300 0 a0_0 a0_1 l0_2 l0_3) else (none))) = some r := by rw [if_pos rfl] at H; exact H
             clear H
             have H := H1
             clear H1
             replace H := Option.bind_eq_some_iff.mp H
             obtain ⟨t356, A480, H⟩ := H
             try dsimp only at H
             have A48 := Aside0.mk A480
             clear A480
             by_cases c49 : t356 = true
             ·subst c49
              have H1 : (crosswaylaw10_HeadWrites.l0 kj5 t300 0 a0_0 a0_1 l0_2 l0_3) = some r := by rw [if_pos rfl] at H; exact H
              clear H
              have H := H1
              clear H1
              have H' := Aside0.mk H
              clear H
              have hnb50 := NB297_298.out
              have hnc50 := NB298_297.out
              have hcz51_0 : wc.cell? ⟨gb297, 0, none⟩ = some (.int .u8 a0_0) := (blk_cell BK297.out 0).trans rfl
              have hcz51_1 : wc.cell? ⟨gb297, 1, none⟩ = some (.int .u32 a0_1) := (blk_cell BK297.out 1).trans rfl
              have hcz51_2 : wc.cell? ⟨gb297, 2, none⟩ = some (.slice A0_2 l0_2.length c0_2) := (blk_cell BK297.out 2).trans rfl
              have hcz51_3 : wc.cell? ⟨gb297, 3, none⟩ = some (.slice A0_3 l0_3.length c0_3) := (blk_cell BK297.out 3).trans rfl
              have hfz51_0 := blk_frozen BK297.out 0
              have hfz51_1 := blk_frozen BK297.out 1
              have hfz51_2 := blk_frozen BK297.out 2
              have hfz51_3 := blk_frozen BK297.out 3
              try go_wp2_with (first | ((with_reducible refine gate_callee (f := 16) rfl ?_); refine goesL_ (some 51) rfl rfl Try.func16 (by kernel_rfl) rfl #[.agg #[.int .u8 a0_0, .int .u32 a0_1, .slice A0_2 l0_2.length c0_2, .slice A0_3 l0_3.length c0_3]] rfl (by (try simp only [List.map_toArray, List.map_cons, List.map_nil]); first | done | rfl | (simp only [List.length_drop, List.length_take]; rfl)) ?_; (with_reducible refine (head_Head_Bytes.calls kj5 a0_0 a0_1 _ _ l0_2 _ _ l0_3 t300 t303 _ ?side1 ?side2 ?side3 ?side4 A28.out).mono ?_); (case side1 => repeat (first | exact (C_below HR0_2.out HB.out) | (with_reducible refine C_alloc ?_ _) | (with_reducible refine C_drewN ?_ _) | (with_reducible refine C_drew ?_))); (case side2 => exact HC0_2.out); (case side3 => repeat (first | exact (C_below HR0_3.out HB.out) | (with_reducible refine C_alloc ?_ _) | (with_reducible refine C_drewN ?_ _) | (with_reducible refine C_drew ?_))); (case side4 => exact HC0_3.out); rintro e w52 ⟨v301, rfl, ho0, hb⟩; refine ⟨_, rfl, ?_⟩; have n0_ := Aside0.mk (R_lower ho0 (below_size (by repeat (first | (with_reducible first | exact HB.out | apply below_alloc | apply pw_below_drewN | apply below_drew1 | refine below_set ?_ GE297.out | refine below_set ?_ GE298.out) | exact HB.out)))); have n1_ := Aside0.mk (blk_below (g := gb297) (o := .cells #[.int .u8 a0_0, .int .u32 a0_1, .slice A0_2 l0_2.length c0_2, .slice A0_3 l0_3.length c0_3] 27 (0, 0)) (by (with_reducible repeat (first | refine blk_drewN ?_ _ | refine blk_drew ?_ | refine blk_alloc ?_ _)); exact BK297.out) hb); have n2_ := Aside0.mk (blk_below (g := gb298) (o := .cells #[.int .u8 a1_0, .int .u32 a1_1, .slice A1_2 l1_2.length c1_2, .slice A1_3 l1_3.length c1_3] 27 (0, 0)) (by (with_reducible repeat (first | refine blk_drewN ?_ _ | refine blk_drew ?_ | refine blk_alloc ?_ _)); exact BK298.out) hb); have n3_ := Aside0.mk (below_step (by repeat (first | (with_reducible first | exact HB.out | apply below_alloc | apply pw_below_drewN | apply below_drew1 | refine below_set ?_ GE297.out | refine below_set ?_ GE298.out) | exact HB.out)) hb); clear BK297 BK298 HB; have HO302 := n0_; have BK297 := n1_; have BK298 := n2_; have HB := n3_; clear n0_ n1_ n2_ n3_; (try clear hb); (try clear hb2); (try clear hk); (try clear hi); (try clear ho0); have hcz53_0 : w52.cell? ⟨gb297, 0, none⟩ = some (.int .u8 a0_0) := (blk_cell BK297.out 0).trans rfl; have hcz53_1 : w52.cell? ⟨gb297, 1, none⟩ = some (.int .u32 a0_1) := (blk_cell BK297.out 1).trans rfl; have hcz53_2 : w52.cell? ⟨gb297, 2, none⟩ = some (.slice A0_2 l0_2.length c0_2) := (blk_cell BK297.out 2).trans rfl; have hcz53_3 : w52.cell? ⟨gb297, 3, none⟩ = some (.slice A0_3 l0_3.length c0_3) := (blk_cell BK297.out 3).trans rfl; have hfz53_0 := blk_frozen BK297.out 0; have hfz53_1 := blk_frozen BK297.out 1; have hfz53_2 := blk_frozen BK297.out 2; have hfz53_3 := blk_frozen BK297.out 3) | ((with_reducible refine gate_callee (f := 12) rfl ?_); refine goesL_ (some 56) rfl rfl Try.func12 (by kernel_rfl) rfl #[.agg #[.int .u8 a0_0, .int .u32 a0_1, .slice A0_2 l0_2.length c0_2, .slice A0_3 l0_3.length c0_3]] rfl (by (try simp only [List.map_toArray, List.map_cons, List.map_nil]); first | done | rfl | (simp only [List.length_drop, List.length_take]; rfl)) ?_; (with_reducible refine (crosswaylaw10_Of.calls a0_0 a0_1 _ _ l0_2 _ _ l0_3 t304 t305 t306 t309 _ ?side1 ?side2 ?side3 ?side4 A29.out).mono ?_); (case side1 => repeat (first | exact (C_below HR0_2.out HB.out) | (with_reducible refine C_alloc ?_ _) | (with_reducible refine C_drewN ?_ _) | (with_reducible refine C_drew ?_))); (case side2 => exact HC0_2.out); (case side3 => repeat (first | exact (C_below HR0_3.out HB.out) | (with_reducible refine C_alloc ?_ _) | (with_reducible refine C_drewN ?_ _) | (with_reducible refine C_drew ?_))); (case side4 => exact HC0_3.out); rintro e w54 ⟨v307, v310, rfl, ho0, ho1, hb⟩; refine ⟨_, rfl, ?_⟩; have n0_ := Aside0.mk (R_mono (R_told (R_told (R_old (by (with_reducible repeat (first | apply R_alloc | apply R_drewN | apply R_drew)); exact HO302.out) hb) (R_base ho0)) (R_base ho1)) (fun _ h_ => h_.1)); have n1_ := Aside0.mk (R_lower (R_new' ho0 (R_lt (by (with_reducible repeat (first | apply R_alloc | apply R_drewN | apply R_drew)); exact HO302.out))) (below_size (by repeat (first | (with_reducible first | exact HB.out | apply below_alloc | apply pw_below_drewN | apply below_drew1 | refine below_set ?_ GE297.out | refine below_set ?_ GE298.out) | exact HB.out)))); have n2_ := Aside0.mk (R_lower (R_new' ho1 (R_lt (by (with_reducible repeat (first | apply R_alloc | apply R_drewN | apply R_drew)); exact HO302.out))) (below_size (by repeat (first | (with_reducible first | exact HB.out | apply below_alloc | apply pw_below_drewN | apply below_drew1 | refine below_set ?_ GE297.out | refine below_set ?_ GE298.out) | exact HB.out)))); have n3_ := Aside0.mk (blk_below (g := gb297) (o := .cells #[.int .u8 a0_0, .int .u32 a0_1, .slice A0_2 l0_2.length c0_2, .slice A0_3 l0_3.length c0_3] 27 (0, 0)) (by (with_reducible repeat (first | refine blk_drewN ?_ _ | refine blk_drew ?_ | refine blk_alloc ?_ _)); exact BK297.out) hb); have n4_ := Aside0.mk (blk_below (g := gb298) (o := .cells #[.int .u8 a1_0, .int .u32 a1_1, .slice A1_2 l1_2.length c1_2, .slice A1_3 l1_3.length c1_3] 27 (0, 0)) (by (with_reducible repeat (first | refine blk_drewN ?_ _ | refine blk_drew ?_ | refine blk_alloc ?_ _)); exact BK298.out) hb); have n5_ := Aside0.mk (below_step (by repeat (first | (with_reducible first | exact HB.out | apply below_alloc | apply pw_below_drewN | apply below_drew1 | refine below_set ?_ GE297.out | refine below_set ?_ GE298.out) | exact HB.out)) hb); clear HO302 BK297 BK298 HB; have HO302 := n0_; have HO308 := n1_; have HO311 := n2_; have BK297 := n3_; have BK298 := n4_; have HB := n5_; clear n0_ n1_ n2_ n3_ n4_ n5_; (try clear hb); (try clear hb2); (try clear hk); (try clear hi); (try clear ho0); (try clear ho1); obtain ⟨Ao55, co55, eo55⟩ := R_slice HO308.out; subst eo55; obtain ⟨Ao56, co56, eo56⟩ := R_slice HO311.out; subst eo56) | ((with_reducible refine gate_callee (f := 17) rfl ?_); refine goesL_ (some 57) rfl rfl Try.func17 (by kernel_rfl) rfl #[.agg #[.int .u8 t304, .int .u32 t305, .slice Ao55 t306.length co55, .slice Ao56 t309.length co56]] rfl (by (try simp only [List.map_toArray, List.map_cons, List.map_nil]); first | done | rfl | (simp only [List.length_drop, List.length_take]; rfl)) ?_; (with_reducible refine (crosswayref10_Bytes.calls t304 t305 _ _ t306 _ _ t309 t312 t315 _ ?side1 ?side2 ?side3 ?side4 A30.out).mono ?_); (case side1 => repeat (first | exact (R_reads' HO308.out).2.2 | (with_reducible refine C_alloc ?_ _) | (with_reducible refine C_drewN ?_ _) | (with_reducible refine C_drew ?_))); (case side2 => exact (R_reads' HO308.out).2.1); (case side3 => repeat (first | exact (R_reads' HO311.out).2.2 | (with_reducible refine C_alloc ?_ _) | (with_reducible refine C_drewN ?_ _) | (with_reducible refine C_drew ?_))); (case side4 => exact (R_reads' HO311.out).2.1); rintro e w57 ⟨v313, rfl, ho0, hb⟩; refine ⟨_, rfl, ?_⟩; have n0_ := Aside0.mk (R_elder' (by (with_reducible repeat (first | apply R_alloc | apply R_drewN | apply R_drew)); exact HO302.out) (R_base ho0) hb); have n1_ := Aside0.mk (R_elder' (by (with_reducible repeat (first | apply R_alloc | apply R_drewN | apply R_drew)); exact HO308.out) (R_base ho0) hb); have n2_ := Aside0.mk (R_elder' (by (with_reducible repeat (first | apply R_alloc | apply R_drewN | apply R_drew)); exact HO311.out) (R_base ho0) hb); have n3_ := Aside0.mk (R_lower (R_new' (R_new' (R_new' ho0 (R_lt (by (with_reducible repeat (first | apply R_alloc | apply R_drewN | apply R_drew)); exact HO302.out))) (R_lt (by (with_reducible repeat (first | apply R_alloc | apply R_drewN | apply R_drew)); exact HO308.out))) (R_lt (by (with_reducible repeat (first | apply R_alloc | apply R_drewN | apply R_drew)); exact HO311.out))) (below_size (by repeat (first | (with_reducible first | exact HB.out | apply below_alloc | apply pw_below_drewN | apply below_drew1 | refine below_set ?_ GE297.out | refine below_set ?_ GE298.out) | exact HB.out)))); have n4_ := Aside0.mk (blk_below (g := gb297) (o := .cells #[.int .u8 a0_0, .int .u32 a0_1, .slice A0_2 l0_2.length c0_2, .slice A0_3 l0_3.length c0_3] 27 (0, 0)) (by (with_reducible repeat (first | refine blk_drewN ?_ _ | refine blk_drew ?_ | refine blk_alloc ?_ _)); exact BK297.out) hb); have n5_ := Aside0.mk (blk_below (g := gb298) (o := .cells #[.int .u8 a1_0, .int .u32 a1_1, .slice A1_2 l1_2.length c1_2, .slice A1_3 l1_3.length c1_3] 27 (0, 0)) (by (with_reducible repeat (first | refine blk_drewN ?_ _ | refine blk_drew ?_ | refine blk_alloc ?_ _)); exact BK298.out) hb); have n6_ := Aside0.mk (below_step (by repeat (first | (with_reducible first | exact HB.out | apply below_alloc | apply pw_below_drewN | apply below_drew1 | refine below_set ?_ GE297.out | refine below_set ?_ GE298.out) | exact HB.out)) hb); clear HO302 HO308 HO311 BK297 BK298 HB; have HO302 := n0_; have HO308 := n1_; have HO311 := n2_; have HO314 := n3_; have BK297 := n4_; have BK298 := n5_; have HB := n6_; clear n0_ n1_ n2_ n3_ n4_ n5_ n6_; (try clear hb); (try clear hb2); (try clear hk); (try clear hi); (try clear ho0)))
              have n0_ := Aside0.mk (R_drew HO302.out)
              have n1_ := Aside0.mk (R_drew HO308.out)
              have n2_ := Aside0.mk (R_drew HO311.out)
              have n3_ := Aside0.mk (R_drew HO314.out)
              have n4_ := Aside0.mk (blk_drew BK297.out)
              have n5_ := Aside0.mk (blk_drew BK298.out)
              have n6_ := Aside0.mk (below_drew1 HB.out)
              clear HO302
              clear HO308
              clear HO311
              clear HO314
              clear BK297
              clear BK298
              clear HB
              have HO302 := n0_
              have HO308 := n1_
              have HO311 := n2_
              have HO314 := n3_
              have BK297 := n4_
              have BK298 := n5_
              have HB := n6_
              clear n0_ n1_ n2_ n3_ n4_ n5_ n6_
              obtain ⟨Ao59, co59, eo59⟩ := R_slice HO302.out
              (first | subst eo59 | (injection eo59 with f1_ f2_ f3_; have f4_ := f1_.symm; have f5_ := f3_.symm; clear f1_ f2_ f3_; subst f4_; subst f5_))
              obtain ⟨Ao60, co60, eo60⟩ := R_slice HO314.out
              (first | subst eo60 | (injection eo60 with f1_ f2_ f3_; have f4_ := f1_.symm; have f5_ := f3_.symm; clear f1_ f2_ f3_; subst f4_; subst f5_))
              refine start_ (n := 26) (S := fun w' => w'.cell? ⟨gb297, 0, none⟩ = some (.int .u8 a0_0) ∧ w'.cell? ⟨gb297, 1, none⟩ = some (.int .u32 a0_1) ∧ w'.cell? ⟨gb297, 2, none⟩ = some (.slice A0_2 l0_2.length c0_2) ∧ w'.cell? ⟨gb297, 3, none⟩ = some (.slice A0_3 l0_3.length c0_3) ∧ w'.cell? ⟨gb298, 0, none⟩ = some (.int .u8 a1_0) ∧ w'.cell? ⟨gb298, 1, none⟩ = some (.int .u32 a1_1) ∧ w'.cell? ⟨gb298, 2, none⟩ = some (.slice A1_2 l1_2.length c1_2) ∧ w'.cell? ⟨gb298, 3, none⟩ = some (.slice A1_3 l1_3.length c1_3)) (ds := []) #[false,false,false,false,false,false,false,false,false,false,false,false,false,false,false,false,false,false,false,false,false,false,false,false,false,false] (by kernel_rfl) rfl rfl ⟨(blk_cell BK297.out 0).trans rfl, (blk_cell BK297.out 1).trans rfl, (blk_cell BK297.out 2).trans rfl, (blk_cell BK297.out 3).trans rfl, (blk_cell BK298.out 0).trans rfl, (blk_cell BK298.out 1).trans rfl, (blk_cell BK298.out 2).trans rfl, (blk_cell BK298.out 3).trans rfl⟩ (fun hHeld => ?_); refine with_tabW crosswaylaw10_HeadWrites.tab7 crosswaylaw10_HeadWrites.bits7 (fun HT_ HW_ => ?_)
              generalize w57.drew = w58 at HO302 HO308 HO311 HO314 BK297 BK298 HB hHeld ⊢
              refine pure_ (i := 0) (N := some 60) (v := ?_) (a' := ?_) #[true,false,false,false,false,false,false,false,false,false,false,false,false,false,false,false,false,false,false,false,false,false,false,false,false,false] rfl rfl (any_of HT_.out (by kernel_rfl)) (fun _ _ _ h => h) (Or.inl ⟨by rfl, ?_⟩) ?_ ?_
              rotate_left
              ·intro w'; go_simp; with_reducible rfl
              rotate_left
              ·simp only [Act.put, sA, sB, sC, i64_w, i32_w]; rfl
              refine pure_ (i := 1) (N := some 61) (v := ?_) (a' := ?_) #[true,true,false,false,false,false,false,false,false,false,false,false,false,false,false,false,false,false,false,false,false,false,false,false,false,false] rfl rfl (any_of HT_.out (by kernel_rfl)) (fun _ _ _ h => h) (Or.inl ⟨by rfl, ?_⟩) ?_ ?_
              rotate_left
              ·intro w'; go_simp; with_reducible rfl
              rotate_left
              ·simp only [Act.put, sA, sB, sC, i64_w, i32_w]; rfl
              refine pure_ (i := 2) (N := some 62) (v := ?_) (a' := ?_) #[true,true,true,false,false,false,false,false,false,false,false,false,false,false,false,false,false,false,false,false,false,false,false,false,false,false] rfl rfl (any_of HT_.out (by kernel_rfl)) (fun _ _ _ h => h) (Or.inl ⟨by rfl, ?_⟩) ?_ ?_
              rotate_left
              ·intro w'; go_simp; with_reducible rfl
              rotate_left
              ·simp only [Act.put, sA, sB, sC, i64_w, i32_w]; rfl
              refine pure_ (i := 3) (N := some 63) (v := ?_) (a' := ?_) #[true,true,true,true,false,false,false,false,false,false,false,false,false,false,false,false,false,false,false,false,false,false,false,false,false,false] rfl rfl (any_of HT_.out (by kernel_rfl)) (fun _ _ _ h => h) (Or.inl ⟨by rfl, ?_⟩) ?_ ?_
              rotate_left
              ·intro w'; go_simp; with_reducible rfl
              rotate_left
              ·simp only [Act.put, sA, sB, sC, i64_w, i32_w]; rfl
              refine pure_ (i := 4) (N := some 64) (v := ?_) (a' := ?_) #[true,true,true,true,true,false,false,false,false,false,false,false,false,false,false,false,false,false,false,false,false,false,false,false,false,false] rfl rfl (any_of HT_.out (by kernel_rfl)) (fun _ _ _ h => h) (Or.inl ⟨by rfl, ?_⟩) ?_ ?_
              rotate_left
              ·intro w'; go_simp; with_reducible rfl
              rotate_left
              ·simp only [Act.put, sA, sB, sC, i64_w, i32_w]; rfl
              refine pure_ (i := 5) (N := some 65) (v := ?_) (a' := ?_) #[true,true,true,true,true,true,false,false,false,false,false,false,false,false,false,false,false,false,false,false,false,false,false,false,false,false] rfl rfl (any_of HT_.out (by kernel_rfl)) (fun _ _ _ h => h) (Or.inl ⟨by rfl, ?_⟩) ?_ ?_
              rotate_left
              ·intro w'; go_simp; with_reducible rfl
              rotate_left
              ·simp only [Act.put, sA, sB, sC, i64_w, i32_w]; rfl
              refine one_ (i := 6) (N := some 66) #[true,true,true,true,true,true,true,false,false,false,false,false,false,false,false,false,false,false,false,false,false,false,false,false,false,false] rfl rfl (one_of HT_.out (by kernel_rfl)) (by decide) (fun K hK => ?_)
              refine goes_ Try.func13 (by kernel_rfl) rfl #[.slice Ao59 t300.length co59, .slice Ao60 t312.length co60] (by rfl) rfl rfl (by (try simp only [List.map_toArray, List.map_cons, List.map_nil]); first | done | rfl | (simp only [List.length_drop, List.length_take]; rfl)) ?_
              with_reducible refine (crosswayref00_SameBytes.calls kj5 _ _ t300 _ _ t312 true _ ?side1 ?side2 ?side3 ?side4 A32.out).mono ?_
              (case side1 => repeat (first | exact (R_reads' HO302.out).2.2 | (with_reducible refine C_alloc ?_ _) | (with_reducible refine C_drewN ?_ _) | (with_reducible refine C_drew ?_)))
              (case side2 => exact (R_reads' HO302.out).2.1)
              (case side3 => repeat (first | exact (R_reads' HO314.out).2.2 | (with_reducible refine C_alloc ?_ _) | (with_reducible refine C_drewN ?_ _) | (with_reducible refine C_drew ?_)))
              (case side4 => exact (R_reads' HO314.out).2.1)
              rintro e w' ⟨rfl, ⟨nd, rfl⟩⟩
              refine ⟨_, rfl, ?_⟩
              refine hK.out _ _ ⟨(blk_cell BK297.out 0).trans rfl, (blk_cell BK297.out 1).trans rfl, (blk_cell BK297.out 2).trans rfl, (blk_cell BK297.out 3).trans rfl, (blk_cell BK298.out 0).trans rfl, (blk_cell BK298.out 1).trans rfl, (blk_cell BK298.out 2).trans rfl, (blk_cell BK298.out 3).trans rfl⟩ (fun hHeld => ?_)
              clear hK K
              refine norm_ (a' := ?_) ?_ ?_
              rotate_left
              ·show Act.put _ (some 66) _ = _
               simp only [Act.put, sA, sB, sC, i64_w, i32_w]
               rfl
              refine pure_ (i := 7) (N := some 67) (v := ?_) (a' := ?_) #[true,true,true,true,true,true,true,true,false,false,false,false,false,false,false,false,false,false,false,false,false,false,false,false,false,false] rfl rfl (any_of HT_.out (by kernel_rfl)) (fun _ _ _ h => h) (Or.inl ⟨by rfl, ?_⟩) ?_ ?_
              rotate_left
              ·intro w'; go_simp; with_reducible rfl
              rotate_left
              ·simp only [Act.put, sA, sB, sC, i64_w, i32_w]; rfl
              refine pure_ (i := 8) (N := some 68) (v := ?_) (a' := ?_) #[true,true,true,true,true,true,true,true,true,false,false,false,false,false,false,false,false,false,false,false,false,false,false,false,false,false] rfl rfl (any_of HT_.out (by kernel_rfl)) (fun _ _ _ h => h) (Or.inl ⟨by rfl, ?_⟩) ?_ ?_
              rotate_left
              ·intro w'; go_simp; with_reducible rfl
              rotate_left
              ·simp only [Act.put, sA, sB, sC, i64_w, i32_w]; rfl
              refine pure_ (i := 9) (N := some 69) (v := ?_) (a' := ?_) #[true,true,true,true,true,true,true,true,true,true,false,false,false,false,false,false,false,false,false,false,false,false,false,false,false,false] rfl rfl (any_of HT_.out (by kernel_rfl)) (fun _ _ _ h => h) (Or.inl ⟨by rfl, ?_⟩) ?_ ?_
              rotate_left
              ·intro w'; go_simp; with_reducible rfl
              rotate_left
              ·simp only [Act.put, sA, sB, sC, i64_w, i32_w]; rfl
              refine take_ (i := 10) (N := some 70) (v := ?_) (a' := ?_) #[true,true,true,true,true,true,true,true,true,true,true,false,false,false,false,false,false,false,false,false,false,false,false,false,false,false] rfl rfl (take_ofW HT_.out HW_.out (by kernel_rfl)) (fun _ _ _ h => h) (Or.inl ⟨by rfl, ?_⟩) hHeld ?_ ?_
              rotate_left
              ·rintro w' ⟨s0, s1, s2, s3, s4, s5, s6, s7⟩; go_simp; with_reducible rfl
              rotate_left
              ·simp only [Act.put, sA, sB, sC, i64_w, i32_w]; rfl
              refine take_ (i := 11) (N := some 71) (v := ?_) (a' := ?_) #[true,true,true,true,true,true,true,true,true,true,true,true,false,false,false,false,false,false,false,false,false,false,false,false,false,false] rfl rfl (take_ofW HT_.out HW_.out (by kernel_rfl)) (fun _ _ _ h => h) (Or.inl ⟨by rfl, ?_⟩) hHeld ?_ ?_
              rotate_left
              ·rintro w' ⟨s0, s1, s2, s3, s4, s5, s6, s7⟩; go_simp; with_reducible rfl
              rotate_left
              ·simp only [Act.put, sA, sB, sC, i64_w, i32_w]; rfl
              refine take_ (i := 13) (N := some 73) (v := ?_) (a' := ?_) #[true,true,true,true,true,true,true,true,true,true,true,true,false,true,false,false,false,false,false,false,false,false,false,false,false,false] rfl rfl (take_ofW HT_.out HW_.out (by kernel_rfl)) (fun _ _ _ h => h) (Or.inl ⟨by rfl, ?_⟩) hHeld ?_ ?_
              rotate_left
              ·rintro w' ⟨s0, s1, s2, s3, s4, s5, s6, s7⟩; go_simp; with_reducible rfl
              rotate_left
              ·simp only [Act.put, sA, sB, sC, i64_w, i32_w]; rfl
              refine take_ (i := 15) (N := some 75) (v := ?_) (a' := ?_) #[true,true,true,true,true,true,true,true,true,true,true,true,false,true,false,true,false,false,false,false,false,false,false,false,false,false] rfl rfl (take_ofW HT_.out HW_.out (by kernel_rfl)) (fun _ _ _ h => h) (Or.inl ⟨by rfl, ?_⟩) hHeld ?_ ?_
              rotate_left
              ·rintro w' ⟨s0, s1, s2, s3, s4, s5, s6, s7⟩; go_simp; with_reducible rfl
              rotate_left
              ·simp only [Act.put, sA, sB, sC, i64_w, i32_w]; rfl
              refine one_ (i := 12) (N := some 72) #[true,true,true,true,true,true,true,true,true,true,true,true,true,true,false,true,false,false,false,false,false,false,false,false,false,false] rfl rfl (one_of HT_.out (by kernel_rfl)) (by decide) (fun K hK => ?_)
              refine goes_ Try.func18 (by kernel_rfl) rfl #[.agg #[.int .u8 a0_0, .int .u32 a0_1, .slice A0_2 l0_2.length c0_2, .slice A0_3 l0_3.length c0_3], .agg #[.int .u8 a1_0, .int .u32 a1_1, .slice A1_2 l1_2.length c1_2, .slice A1_3 l1_3.length c1_3]] (by rfl) rfl rfl (by (try simp only [List.map_toArray, List.map_cons, List.map_nil]); first | done | rfl | (simp only [List.length_drop, List.length_take]; rfl)) ?_
              with_reducible refine (head_Same.calls a0_0 a0_1 _ _ l0_2 _ _ l0_3 a1_0 a1_1 _ _ l1_2 _ _ l1_3 t317 _ ?side1 ?side2 ?side3 ?side4 ?side5 ?side6 ?side7 ?side8 A34.out).mono ?_
              (case side1 => repeat (first | exact (C_below HR0_2.out (by repeat (first | (with_reducible first | exact HB.out | apply below_alloc | apply pw_below_drewN | apply below_drew1 | refine below_set ?_ GE297.out | refine below_set ?_ GE298.out) | exact HB.out))) | (with_reducible refine C_alloc ?_ _) | (with_reducible refine C_drewN ?_ _) | (with_reducible refine C_drew ?_)))
              (case side2 => exact HC0_2.out)
              (case side3 => repeat (first | exact (C_below HR0_3.out (by repeat (first | (with_reducible first | exact HB.out | apply below_alloc | apply pw_below_drewN | apply below_drew1 | refine below_set ?_ GE297.out | refine below_set ?_ GE298.out) | exact HB.out))) | (with_reducible refine C_alloc ?_ _) | (with_reducible refine C_drewN ?_ _) | (with_reducible refine C_drew ?_)))
              (case side4 => exact HC0_3.out)
              (case side5 => repeat (first | exact (C_below HR1_2.out (by repeat (first | (with_reducible first | exact HB.out | apply below_alloc | apply pw_below_drewN | apply below_drew1 | refine below_set ?_ GE297.out | refine below_set ?_ GE298.out) | exact HB.out))) | (with_reducible refine C_alloc ?_ _) | (with_reducible refine C_drewN ?_ _) | (with_reducible refine C_drew ?_)))
              (case side6 => exact HC1_2.out)
              (case side7 => repeat (first | exact (C_below HR1_3.out (by repeat (first | (with_reducible first | exact HB.out | apply below_alloc | apply pw_below_drewN | apply below_drew1 | refine below_set ?_ GE297.out | refine below_set ?_ GE298.out) | exact HB.out))) | (with_reducible refine C_alloc ?_ _) | (with_reducible refine C_drewN ?_ _) | (with_reducible refine C_drew ?_)))
              (case side8 => exact HC1_3.out)
              rintro e w61 ⟨rfl, hb⟩
              refine ⟨_, rfl, ?_⟩
              have n0_ := Aside0.mk (R_below (by (with_reducible repeat (first | apply R_alloc | apply R_drewN | apply R_drew)); exact HO302.out) hb)
              have n1_ := Aside0.mk (R_below (by (with_reducible repeat (first | apply R_alloc | apply R_drewN | apply R_drew)); exact HO308.out) hb)
              have n2_ := Aside0.mk (R_below (by (with_reducible repeat (first | apply R_alloc | apply R_drewN | apply R_drew)); exact HO311.out) hb)
              have n3_ := Aside0.mk (R_below (by (with_reducible repeat (first | apply R_alloc | apply R_drewN | apply R_drew)); exact HO314.out) hb)
              have n4_ := Aside0.mk (blk_below (g := gb297) (o := .cells #[.int .u8 a0_0, .int .u32 a0_1, .slice A0_2 l0_2.length c0_2, .slice A0_3 l0_3.length c0_3] 27 (0, 0)) (by (with_reducible repeat (first | refine blk_drewN ?_ _ | refine blk_drew ?_ | refine blk_alloc ?_ _)); exact BK297.out) hb)
              have n5_ := Aside0.mk (blk_below (g := gb298) (o := .cells #[.int .u8 a1_0, .int .u32 a1_1, .slice A1_2 l1_2.length c1_2, .slice A1_3 l1_3.length c1_3] 27 (0, 0)) (by (with_reducible repeat (first | refine blk_drewN ?_ _ | refine blk_drew ?_ | refine blk_alloc ?_ _)); exact BK298.out) hb)
              have n6_ := Aside0.mk (below_step (by repeat (first | (with_reducible first | exact HB.out | apply below_alloc | apply pw_below_drewN | apply below_drew1 | refine below_set ?_ GE297.out | refine below_set ?_ GE298.out) | exact HB.out)) hb)
              clear HO302
              clear HO308
              clear HO311
              clear HO314
              clear BK297
              clear BK298
              clear HB
              have HO302 := n0_
              have HO308 := n1_
              have HO311 := n2_
              have HO314 := n3_
              have BK297 := n4_
              have BK298 := n5_
              have HB := n6_
              clear n0_ n1_ n2_ n3_ n4_ n5_ n6_
              (try clear hb)
              (try clear hb2)
              (try clear hk)
              (try clear hi)
              refine hK.out _ _ ⟨(blk_cell BK297.out 0).trans rfl, (blk_cell BK297.out 1).trans rfl, (blk_cell BK297.out 2).trans rfl, (blk_cell BK297.out 3).trans rfl, (blk_cell BK298.out 0).trans rfl, (blk_cell BK298.out 1).trans rfl, (blk_cell BK298.out 2).trans rfl, (blk_cell BK298.out 3).trans rfl⟩ (fun hHeld => ?_)
              clear hK K
              refine norm_ (a' := ?_) ?_ ?_
              rotate_left
              ·show Act.put _ (some 72) _ = _
               simp only [Act.put, sA, sB, sC, i64_w, i32_w]
               rfl
              refine one_ (i := 14) (N := some 74) #[true,true,true,true,true,true,true,true,true,true,true,true,true,true,true,true,false,false,false,false,false,false,false,false,false,false] rfl rfl (one_of HT_.out (by kernel_rfl)) (by decide) (fun K hK => ?_)
              refine goes_ Try.func12 (by kernel_rfl) rfl #[.agg #[.int .u8 a0_0, .int .u32 a0_1, .slice A0_2 l0_2.length c0_2, .slice A0_3 l0_3.length c0_3]] (by rfl) rfl rfl (by (try simp only [List.map_toArray, List.map_cons, List.map_nil]); first | done | rfl | (simp only [List.length_drop, List.length_take]; rfl)) ?_
              with_reducible refine (crosswaylaw10_Of.calls a0_0 a0_1 _ _ l0_2 _ _ l0_3 t318 t319 t320 t323 _ ?side1 ?side2 ?side3 ?side4 A35.out).mono ?_
              (case side1 => repeat (first | exact (C_below HR0_2.out HB.out) | (with_reducible refine C_alloc ?_ _) | (with_reducible refine C_drewN ?_ _) | (with_reducible refine C_drew ?_)))
              (case side2 => exact HC0_2.out)
              (case side3 => repeat (first | exact (C_below HR0_3.out HB.out) | (with_reducible refine C_alloc ?_ _) | (with_reducible refine C_drewN ?_ _) | (with_reducible refine C_drew ?_)))
              (case side4 => exact HC0_3.out)
              rintro e w62 ⟨v321, v324, rfl, ho0, ho1, hb⟩
              refine ⟨_, rfl, ?_⟩
              have n0_ := Aside0.mk (R_mono (R_told (R_told (R_old (by (with_reducible repeat (first | apply R_alloc | apply R_drewN | apply R_drew)); exact HO302.out) hb) (R_base ho0)) (R_base ho1)) (fun _ h_ => h_.1))
              have n1_ := Aside0.mk (R_mono (R_told (R_told (R_old (by (with_reducible repeat (first | apply R_alloc | apply R_drewN | apply R_drew)); exact HO308.out) hb) (R_base ho0)) (R_base ho1)) (fun _ h_ => h_.1))
              have n2_ := Aside0.mk (R_mono (R_told (R_told (R_old (by (with_reducible repeat (first | apply R_alloc | apply R_drewN | apply R_drew)); exact HO311.out) hb) (R_base ho0)) (R_base ho1)) (fun _ h_ => h_.1))
              have n3_ := Aside0.mk (R_mono (R_told (R_told (R_old (by (with_reducible repeat (first | apply R_alloc | apply R_drewN | apply R_drew)); exact HO314.out) hb) (R_base ho0)) (R_base ho1)) (fun _ h_ => h_.1))
              have n4_ := Aside0.mk (R_lower (R_new' (R_new' (R_new' (R_new' ho0 (R_lt (by (with_reducible repeat (first | apply R_alloc | apply R_drewN | apply R_drew)); exact HO302.out))) (R_lt (by (with_reducible repeat (first | apply R_alloc | apply R_drewN | apply R_drew)); exact HO308.out))) (R_lt (by (with_reducible repeat (first | apply R_alloc | apply R_drewN | apply R_drew)); exact HO311.out))) (R_lt (by (with_reducible repeat (first | apply R_alloc | apply R_drewN | apply R_drew)); exact HO314.out))) (below_size (by repeat (first | (with_reducible first | exact HB.out | apply below_alloc | apply pw_below_drewN | apply below_drew1 | refine below_set ?_ GE297.out | refine below_set ?_ GE298.out) | exact HB.out))))
              have n5_ := Aside0.mk (R_lower (R_new' (R_new' (R_new' (R_new' ho1 (R_lt (by (with_reducible repeat (first | apply R_alloc | apply R_drewN | apply R_drew)); exact HO302.out))) (R_lt (by (with_reducible repeat (first | apply R_alloc | apply R_drewN | apply R_drew)); exact HO308.out))) (R_lt (by (with_reducible repeat (first | apply R_alloc | apply R_drewN | apply R_drew)); exact HO311.out))) (R_lt (by (with_reducible repeat (first | apply R_alloc | apply R_drewN | apply R_drew)); exact HO314.out))) (below_size (by repeat (first | (with_reducible first | exact HB.out | apply below_alloc | apply pw_below_drewN | apply below_drew1 | refine below_set ?_ GE297.out | refine below_set ?_ GE298.out) | exact HB.out))))
              have n6_ := Aside0.mk (blk_below (g := gb297) (o := .cells #[.int .u8 a0_0, .int .u32 a0_1, .slice A0_2 l0_2.length c0_2, .slice A0_3 l0_3.length c0_3] 27 (0, 0)) (by (with_reducible repeat (first | refine blk_drewN ?_ _ | refine blk_drew ?_ | refine blk_alloc ?_ _)); exact BK297.out) hb)
              have n7_ := Aside0.mk (blk_below (g := gb298) (o := .cells #[.int .u8 a1_0, .int .u32 a1_1, .slice A1_2 l1_2.length c1_2, .slice A1_3 l1_3.length c1_3] 27 (0, 0)) (by (with_reducible repeat (first | refine blk_drewN ?_ _ | refine blk_drew ?_ | refine blk_alloc ?_ _)); exact BK298.out) hb)
              have n8_ := Aside0.mk (below_step (by repeat (first | (with_reducible first | exact HB.out | apply below_alloc | apply pw_below_drewN | apply below_drew1 | refine below_set ?_ GE297.out | refine below_set ?_ GE298.out) | exact HB.out)) hb)
              clear HO302
              clear HO308
              clear HO311
              clear HO314
              clear BK297
              clear BK298
              clear HB
              have HO302 := n0_
              have HO308 := n1_
              have HO311 := n2_
              have HO314 := n3_
              have HO322 := n4_
              have HO325 := n5_
              have BK297 := n6_
              have BK298 := n7_
              have HB := n8_
              clear n0_ n1_ n2_ n3_ n4_ n5_ n6_ n7_ n8_
              (try clear hb)
              (try clear hb2)
              (try clear hk)
              (try clear hi)
              (try clear ho0)
              (try clear ho1)
              refine hK.out _ _ ⟨(blk_cell BK297.out 0).trans rfl, (blk_cell BK297.out 1).trans rfl, (blk_cell BK297.out 2).trans rfl, (blk_cell BK297.out 3).trans rfl, (blk_cell BK298.out 0).trans rfl, (blk_cell BK298.out 1).trans rfl, (blk_cell BK298.out 2).trans rfl, (blk_cell BK298.out 3).trans rfl⟩ (fun hHeld => ?_)
              clear hK K
              refine norm_ (a' := ?_) ?_ ?_
              rotate_left
              ·show Act.put _ (some 74) _ = _
               simp only [Act.put, sA, sB, sC, i64_w, i32_w]
               rfl
              refine one_ (i := 16) (N := some 76) #[true,true,true,true,true,true,true,true,true,true,true,true,true,true,true,true,true,false,false,false,false,false,false,false,false,false] rfl rfl (one_of HT_.out (by kernel_rfl)) (by decide) (fun K hK => ?_)
              refine goes_ Try.func12 (by kernel_rfl) rfl #[.agg #[.int .u8 a1_0, .int .u32 a1_1, .slice A1_2 l1_2.length c1_2, .slice A1_3 l1_3.length c1_3]] (by rfl) rfl rfl (by (try simp only [List.map_toArray, List.map_cons, List.map_nil]); first | done | rfl | (simp only [List.length_drop, List.length_take]; rfl)) ?_
              with_reducible refine (crosswaylaw10_Of.calls a1_0 a1_1 _ _ l1_2 _ _ l1_3 t326 t327 t328 t331 _ ?side1 ?side2 ?side3 ?side4 A36.out).mono ?_
              (case side1 => repeat (first | exact (C_below HR1_2.out HB.out) | (with_reducible refine C_alloc ?_ _) | (with_reducible refine C_drewN ?_ _) | (with_reducible refine C_drew ?_)))
              (case side2 => exact HC1_2.out)
              (case side3 => repeat (first | exact (C_below HR1_3.out HB.out) | (with_reducible refine C_alloc ?_ _) | (with_reducible refine C_drewN ?_ _) | (with_reducible refine C_drew ?_)))
              (case side4 => exact HC1_3.out)
              rintro e w63 ⟨v329, v332, rfl, ho0, ho1, hb⟩
              refine ⟨_, rfl, ?_⟩
              have n0_ := Aside0.mk (R_mono (R_told (R_told (R_old (by (with_reducible repeat (first | apply R_alloc | apply R_drewN | apply R_drew)); exact HO302.out) hb) (R_base ho0)) (R_base ho1)) (fun _ h_ => h_.1))
              have n1_ := Aside0.mk (R_mono (R_told (R_told (R_old (by (with_reducible repeat (first | apply R_alloc | apply R_drewN | apply R_drew)); exact HO308.out) hb) (R_base ho0)) (R_base ho1)) (fun _ h_ => h_.1))
              have n2_ := Aside0.mk (R_mono (R_told (R_told (R_old (by (with_reducible repeat (first | apply R_alloc | apply R_drewN | apply R_drew)); exact HO311.out) hb) (R_base ho0)) (R_base ho1)) (fun _ h_ => h_.1))
              have n3_ := Aside0.mk (R_mono (R_told (R_told (R_old (by (with_reducible repeat (first | apply R_alloc | apply R_drewN | apply R_drew)); exact HO314.out) hb) (R_base ho0)) (R_base ho1)) (fun _ h_ => h_.1))
              have n4_ := Aside0.mk (R_mono (R_told (R_told (R_old (by (with_reducible repeat (first | apply R_alloc | apply R_drewN | apply R_drew)); exact HO322.out) hb) (R_base ho0)) (R_base ho1)) (fun _ h_ => h_.1))
              have n5_ := Aside0.mk (R_mono (R_told (R_told (R_old (by (with_reducible repeat (first | apply R_alloc | apply R_drewN | apply R_drew)); exact HO325.out) hb) (R_base ho0)) (R_base ho1)) (fun _ h_ => h_.1))
              have n6_ := Aside0.mk (R_lower (R_new' (R_new' (R_new' (R_new' (R_new' (R_new' ho0 (R_lt (by (with_reducible repeat (first | apply R_alloc | apply R_drewN | apply R_drew)); exact HO302.out))) (R_lt (by (with_reducible repeat (first | apply R_alloc | apply R_drewN | apply R_drew)); exact HO308.out))) (R_lt (by (with_reducible repeat (first | apply R_alloc | apply R_drewN | apply R_drew)); exact HO311.out))) (R_lt (by (with_reducible repeat (first | apply R_alloc | apply R_drewN | apply R_drew)); exact HO314.out))) (R_lt (by (with_reducible repeat (first | apply R_alloc | apply R_drewN | apply R_drew)); exact HO322.out))) (R_lt (by (with_reducible repeat (first | apply R_alloc | apply R_drewN | apply R_drew)); exact HO325.out))) (below_size (by repeat (first | (with_reducible first | exact HB.out | apply below_alloc | apply pw_below_drewN | apply below_drew1 | refine below_set ?_ GE297.out | refine below_set ?_ GE298.out) | exact HB.out))))
              have n7_ := Aside0.mk (R_lower (R_new' (R_new' (R_new' (R_new' (R_new' (R_new' ho1 (R_lt (by (with_reducible repeat (first | apply R_alloc | apply R_drewN | apply R_drew)); exact HO302.out))) (R_lt (by (with_reducible repeat (first | apply R_alloc | apply R_drewN | apply R_drew)); exact HO308.out))) (R_lt (by (with_reducible repeat (first | apply R_alloc | apply R_drewN | apply R_drew)); exact HO311.out))) (R_lt (by (with_reducible repeat (first | apply R_alloc | apply R_drewN | apply R_drew)); exact HO314.out))) (R_lt (by (with_reducible repeat (first | apply R_alloc | apply R_drewN | apply R_drew)); exact HO322.out))) (R_lt (by (with_reducible repeat (first | apply R_alloc | apply R_drewN | apply R_drew)); exact HO325.out))) (below_size (by repeat (first | (with_reducible first | exact HB.out | apply below_alloc | apply pw_below_drewN | apply below_drew1 | refine below_set ?_ GE297.out | refine below_set ?_ GE298.out) | exact HB.out))))
              have n8_ := Aside0.mk (blk_below (g := gb297) (o := .cells #[.int .u8 a0_0, .int .u32 a0_1, .slice A0_2 l0_2.length c0_2, .slice A0_3 l0_3.length c0_3] 27 (0, 0)) (by (with_reducible repeat (first | refine blk_drewN ?_ _ | refine blk_drew ?_ | refine blk_alloc ?_ _)); exact BK297.out) hb)
              have n9_ := Aside0.mk (blk_below (g := gb298) (o := .cells #[.int .u8 a1_0, .int .u32 a1_1, .slice A1_2 l1_2.length c1_2, .slice A1_3 l1_3.length c1_3] 27 (0, 0)) (by (with_reducible repeat (first | refine blk_drewN ?_ _ | refine blk_drew ?_ | refine blk_alloc ?_ _)); exact BK298.out) hb)
              have n10_ := Aside0.mk (below_step (by repeat (first | (with_reducible first | exact HB.out | apply below_alloc | apply pw_below_drewN | apply below_drew1 | refine below_set ?_ GE297.out | refine below_set ?_ GE298.out) | exact HB.out)) hb)
              clear HO302
              clear HO308
              clear HO311
              clear HO314
              clear HO322
              clear HO325
              clear BK297
              clear BK298
              clear HB
              have HO302 := n0_
              have HO308 := n1_
              have HO311 := n2_
              have HO314 := n3_
              have HO322 := n4_
              have HO325 := n5_
              have HO330 := n6_
              have HO333 := n7_
              have BK297 := n8_
              have BK298 := n9_
              have HB := n10_
              clear n0_ n1_ n2_ n3_ n4_ n5_ n6_ n7_ n8_ n9_ n10_
              (try clear hb)
              (try clear hb2)
              (try clear hk)
              (try clear hi)
              (try clear ho0)
              (try clear ho1)
              obtain ⟨Ao64, co64, eo64⟩ := R_slice HO322.out
              (first | subst eo64 | (injection eo64 with f1_ f2_ f3_; have f4_ := f1_.symm; have f5_ := f3_.symm; clear f1_ f2_ f3_; subst f4_; subst f5_))
              obtain ⟨Ao65, co65, eo65⟩ := R_slice HO325.out
              (first | subst eo65 | (injection eo65 with f1_ f2_ f3_; have f4_ := f1_.symm; have f5_ := f3_.symm; clear f1_ f2_ f3_; subst f4_; subst f5_))
              obtain ⟨Ao66, co66, eo66⟩ := R_slice HO330.out
              (first | subst eo66 | (injection eo66 with f1_ f2_ f3_; have f4_ := f1_.symm; have f5_ := f3_.symm; clear f1_ f2_ f3_; subst f4_; subst f5_))
              obtain ⟨Ao67, co67, eo67⟩ := R_slice HO333.out
              (first | subst eo67 | (injection eo67 with f1_ f2_ f3_; have f4_ := f1_.symm; have f5_ := f3_.symm; clear f1_ f2_ f3_; subst f4_; subst f5_))
              refine hK.out _ _ ⟨(blk_cell BK297.out 0).trans rfl, (blk_cell BK297.out 1).trans rfl, (blk_cell BK297.out 2).trans rfl, (blk_cell BK297.out 3).trans rfl, (blk_cell BK298.out 0).trans rfl, (blk_cell BK298.out 1).trans rfl, (blk_cell BK298.out 2).trans rfl, (blk_cell BK298.out 3).trans rfl⟩ (fun hHeld => ?_)
              clear hK K
              refine norm_ (a' := ?_) ?_ ?_
              rotate_left
              ·show Act.put _ (some 76) _ = _
               simp only [Act.put, sA, sB, sC, i64_w, i32_w]
               rfl
              refine one_ (i := 17) (N := some 77) #[true,true,true,true,true,true,true,true,true,true,true,true,true,true,true,true,true,true,false,false,false,false,false,false,false,false] rfl rfl (one_of HT_.out (by kernel_rfl)) (by decide) (fun K hK => ?_)
              refine goes_ Try.func11 (by kernel_rfl) rfl #[.agg #[.int .u8 t318, .int .u32 t319, .slice Ao64 t320.length co64, .slice Ao65 t323.length co65], .agg #[.int .u8 t326, .int .u32 t327, .slice Ao66 t328.length co66, .slice Ao67 t331.length co67]] (by rfl) rfl rfl (by (try simp only [List.map_toArray, List.map_cons, List.map_nil]); first | done | rfl | (simp only [List.length_drop, List.length_take]; rfl)) ?_
              with_reducible refine (crosswayref10_Same.calls t318 t319 _ _ t320 _ _ t323 t326 t327 _ _ t328 _ _ t331 t334 _ ?side1 ?side2 ?side3 ?side4 ?side5 ?side6 ?side7 ?side8 A37.out).mono ?_
              (case side1 => repeat (first | exact (R_reads' HO322.out).2.2 | (with_reducible refine C_alloc ?_ _) | (with_reducible refine C_drewN ?_ _) | (with_reducible refine C_drew ?_)))
              (case side2 => exact (R_reads' HO322.out).2.1)
              (case side3 => repeat (first | exact (R_reads' HO325.out).2.2 | (with_reducible refine C_alloc ?_ _) | (with_reducible refine C_drewN ?_ _) | (with_reducible refine C_drew ?_)))
              (case side4 => exact (R_reads' HO325.out).2.1)
              (case side5 => repeat (first | exact (R_reads' HO330.out).2.2 | (with_reducible refine C_alloc ?_ _) | (with_reducible refine C_drewN ?_ _) | (with_reducible refine C_drew ?_)))
              (case side6 => exact (R_reads' HO330.out).2.1)
              (case side7 => repeat (first | exact (R_reads' HO333.out).2.2 | (with_reducible refine C_alloc ?_ _) | (with_reducible refine C_drewN ?_ _) | (with_reducible refine C_drew ?_)))
              (case side8 => exact (R_reads' HO333.out).2.1)
              rintro e w68 ⟨rfl, hb⟩
              refine ⟨_, rfl, ?_⟩
              have n0_ := Aside0.mk (R_below (by (with_reducible repeat (first | apply R_alloc | apply R_drewN | apply R_drew)); exact HO302.out) hb)
              have n1_ := Aside0.mk (R_below (by (with_reducible repeat (first | apply R_alloc | apply R_drewN | apply R_drew)); exact HO308.out) hb)
              have n2_ := Aside0.mk (R_below (by (with_reducible repeat (first | apply R_alloc | apply R_drewN | apply R_drew)); exact HO311.out) hb)
              have n3_ := Aside0.mk (R_below (by (with_reducible repeat (first | apply R_alloc | apply R_drewN | apply R_drew)); exact HO314.out) hb)
              have n4_ := Aside0.mk (R_below (by (with_reducible repeat (first | apply R_alloc | apply R_drewN | apply R_drew)); exact HO322.out) hb)
              have n5_ := Aside0.mk (R_below (by (with_reducible repeat (first | apply R_alloc | apply R_drewN | apply R_drew)); exact HO325.out) hb)
              have n6_ := Aside0.mk (R_below (by (with_reducible repeat (first | apply R_alloc | apply R_drewN | apply R_drew)); exact HO330.out) hb)
              have n7_ := Aside0.mk (R_below (by (with_reducible repeat (first | apply R_alloc | apply R_drewN | apply R_drew)); exact HO333.out) hb)
              have n8_ := Aside0.mk (blk_below (g := gb297) (o := .cells #[.int .u8 a0_0, .int .u32 a0_1, .slice A0_2 l0_2.length c0_2, .slice A0_3 l0_3.length c0_3] 27 (0, 0)) (by (with_reducible repeat (first | refine blk_drewN ?_ _ | refine blk_drew ?_ | refine blk_alloc ?_ _)); exact BK297.out) hb)
              have n9_ := Aside0.mk (blk_below (g := gb298) (o := .cells #[.int .u8 a1_0, .int .u32 a1_1, .slice A1_2 l1_2.length c1_2, .slice A1_3 l1_3.length c1_3] 27 (0, 0)) (by (with_reducible repeat (first | refine blk_drewN ?_ _ | refine blk_drew ?_ | refine blk_alloc ?_ _)); exact BK298.out) hb)
              have n10_ := Aside0.mk (below_step (by repeat (first | (with_reducible first | exact HB.out | apply below_alloc | apply pw_below_drewN | apply below_drew1 | refine below_set ?_ GE297.out | refine below_set ?_ GE298.out) | exact HB.out)) hb)
              clear HO302
              clear HO308
              clear HO311
              clear HO314
              clear HO322
              clear HO325
              clear HO330
              clear HO333
              clear BK297
              clear BK298
              clear HB
              have HO302 := n0_
              have HO308 := n1_
              have HO311 := n2_
              have HO314 := n3_
              have HO322 := n4_
              have HO325 := n5_
              have HO330 := n6_
              have HO333 := n7_
              have BK297 := n8_
              have BK298 := n9_
              have HB := n10_
              clear n0_ n1_ n2_ n3_ n4_ n5_ n6_ n7_ n8_ n9_ n10_
              (try clear hb)
              (try clear hb2)
              (try clear hk)
              (try clear hi)
              refine hK.out _ _ ⟨(blk_cell BK297.out 0).trans rfl, (blk_cell BK297.out 1).trans rfl, (blk_cell BK297.out 2).trans rfl, (blk_cell BK297.out 3).trans rfl, (blk_cell BK298.out 0).trans rfl, (blk_cell BK298.out 1).trans rfl, (blk_cell BK298.out 2).trans rfl, (blk_cell BK298.out 3).trans rfl⟩ (fun hHeld => ?_)
              clear hK K
              refine norm_ (a' := ?_) ?_ ?_
              rotate_left
              ·show Act.put _ (some 77) _ = _
               simp only [Act.put, sA, sB, sC, i64_w, i32_w]
               rfl
              refine pure_ (i := 18) (N := some 78) (v := ?_) (a' := ?_) #[true,true,true,true,true,true,true,true,true,true,true,true,true,true,true,true,true,true,true,false,false,false,false,false,false,false] rfl rfl (any_of HT_.out (by kernel_rfl)) (fun _ _ _ h => h) (Or.inl ⟨by rfl, ?_⟩) ?_ ?_
              rotate_left
              ·intro w'; go_simp; with_reducible rfl
              rotate_left
              ·simp only [Act.put, sA, sB, sC, i64_w, i32_w]; rfl
              refine pure_ (i := 19) (N := some 79) (v := ?_) (a' := ?_) #[true,true,true,true,true,true,true,true,true,true,true,true,true,true,true,true,true,true,true,true,false,false,false,false,false,false] rfl rfl (any_of HT_.out (by kernel_rfl)) (fun _ _ _ h => h) (Or.inl ⟨by rfl, ?_⟩) ?_ ?_
              rotate_left
              ·intro w'; go_simp; with_reducible rfl
              rotate_left
              ·simp only [Act.put, sA, sB, sC, i64_w, i32_w]; rfl
              refine pure_ (i := 20) (N := some 80) (v := ?_) (a' := ?_) #[true,true,true,true,true,true,true,true,true,true,true,true,true,true,true,true,true,true,true,true,true,false,false,false,false,false] rfl rfl (any_of HT_.out (by kernel_rfl)) (fun _ _ _ h => h) (Or.inl ⟨by rfl, ?_⟩) ?_ ?_
              rotate_left
              ·intro w'; go_simp; with_reducible rfl
              rotate_left
              ·simp only [Act.put, sA, sB, sC, i64_w, i32_w]; rfl
              refine take_ (i := 21) (N := some 81) (v := ?_) (a' := ?_) #[true,true,true,true,true,true,true,true,true,true,true,true,true,true,true,true,true,true,true,true,true,true,false,false,false,false] rfl rfl (take_ofW HT_.out HW_.out (by kernel_rfl)) (fun _ _ _ h => h) (Or.inl ⟨by rfl, ?_⟩) hHeld ?_ ?_
              rotate_left
              ·rintro w' ⟨s0, s1, s2, s3, s4, s5, s6, s7⟩; go_simp; with_reducible rfl
              rotate_left
              ·simp only [Act.put, sA, sB, sC, i64_w, i32_w]; rfl
              refine take_ (i := 22) (N := some 82) (v := ?_) (a' := ?_) #[true,true,true,true,true,true,true,true,true,true,true,true,true,true,true,true,true,true,true,true,true,true,true,false,false,false] rfl rfl (take_ofW HT_.out HW_.out (by kernel_rfl)) (fun _ _ _ h => h) (Or.inl ⟨by rfl, ?_⟩) hHeld ?_ ?_
              rotate_left
              ·rintro w' ⟨s0, s1, s2, s3, s4, s5, s6, s7⟩; go_simp; with_reducible rfl
              rotate_left
              ·simp only [Act.put, sA, sB, sC, i64_w, i32_w]; rfl
              refine one_ (i := 23) (N := some 83) #[true,true,true,true,true,true,true,true,true,true,true,true,true,true,true,true,true,true,true,true,true,true,true,true,false,false] rfl rfl (one_of HT_.out (by kernel_rfl)) (by decide) (fun K hK => ?_)
              refine goes_ Try.func18 (by kernel_rfl) rfl #[.agg #[.int .u8 a0_0, .int .u32 a0_1, .slice A0_2 l0_2.length c0_2, .slice A0_3 l0_3.length c0_3], .agg #[.int .u8 a0_0, .int .u32 a0_1, .slice A0_2 l0_2.length c0_2, .slice A0_3 l0_3.length c0_3]] (by rfl) rfl rfl (by (try simp only [List.map_toArray, List.map_cons, List.map_nil]); first | done | rfl | (simp only [List.length_drop, List.length_take]; rfl)) ?_
              with_reducible refine (head_Same.calls a0_0 a0_1 _ _ l0_2 _ _ l0_3 a0_0 a0_1 _ _ l0_2 _ _ l0_3 true _ ?side1 ?side2 ?side3 ?side4 ?side5 ?side6 ?side7 ?side8 A39.out).mono ?_
              (case side1 => repeat (first | exact (C_below HR0_2.out HB.out) | (with_reducible refine C_alloc ?_ _) | (with_reducible refine C_drewN ?_ _) | (with_reducible refine C_drew ?_)))
              (case side2 => exact HC0_2.out)
              (case side3 => repeat (first | exact (C_below HR0_3.out HB.out) | (with_reducible refine C_alloc ?_ _) | (with_reducible refine C_drewN ?_ _) | (with_reducible refine C_drew ?_)))
              (case side4 => exact HC0_3.out)
              (case side5 => repeat (first | exact (C_below HR0_2.out HB.out) | (with_reducible refine C_alloc ?_ _) | (with_reducible refine C_drewN ?_ _) | (with_reducible refine C_drew ?_)))
              (case side6 => exact HC0_2.out)
              (case side7 => repeat (first | exact (C_below HR0_3.out HB.out) | (with_reducible refine C_alloc ?_ _) | (with_reducible refine C_drewN ?_ _) | (with_reducible refine C_drew ?_)))
              (case side8 => exact HC0_3.out)
              rintro e w69 ⟨rfl, hb⟩
              refine ⟨_, rfl, ?_⟩
              have n0_ := Aside0.mk (R_below (by (with_reducible repeat (first | apply R_alloc | apply R_drewN | apply R_drew)); exact HO302.out) hb)
              have n1_ := Aside0.mk (R_below (by (with_reducible repeat (first | apply R_alloc | apply R_drewN | apply R_drew)); exact HO308.out) hb)
              have n2_ := Aside0.mk (R_below (by (with_reducible repeat (first | apply R_alloc | apply R_drewN | apply R_drew)); exact HO311.out) hb)
              have n3_ := Aside0.mk (R_below (by (with_reducible repeat (first | apply R_alloc | apply R_drewN | apply R_drew)); exact HO314.out) hb)
              have n4_ := Aside0.mk (R_below (by (with_reducible repeat (first | apply R_alloc | apply R_drewN | apply R_drew)); exact HO322.out) hb)
              have n5_ := Aside0.mk (R_below (by (with_reducible repeat (first | apply R_alloc | apply R_drewN | apply R_drew)); exact HO325.out) hb)
              have n6_ := Aside0.mk (R_below (by (with_reducible repeat (first | apply R_alloc | apply R_drewN | apply R_drew)); exact HO330.out) hb)
              have n7_ := Aside0.mk (R_below (by (with_reducible repeat (first | apply R_alloc | apply R_drewN | apply R_drew)); exact HO333.out) hb)
              have n8_ := Aside0.mk (blk_below (g := gb297) (o := .cells #[.int .u8 a0_0, .int .u32 a0_1, .slice A0_2 l0_2.length c0_2, .slice A0_3 l0_3.length c0_3] 27 (0, 0)) (by (with_reducible repeat (first | refine blk_drewN ?_ _ | refine blk_drew ?_ | refine blk_alloc ?_ _)); exact BK297.out) hb)
              have n9_ := Aside0.mk (blk_below (g := gb298) (o := .cells #[.int .u8 a1_0, .int .u32 a1_1, .slice A1_2 l1_2.length c1_2, .slice A1_3 l1_3.length c1_3] 27 (0, 0)) (by (with_reducible repeat (first | refine blk_drewN ?_ _ | refine blk_drew ?_ | refine blk_alloc ?_ _)); exact BK298.out) hb)
              have n10_ := Aside0.mk (below_step (by repeat (first | (with_reducible first | exact HB.out | apply below_alloc | apply pw_below_drewN | apply below_drew1 | refine below_set ?_ GE297.out | refine below_set ?_ GE298.out) | exact HB.out)) hb)
              clear HO302
              clear HO308
              clear HO311
              clear HO314
              clear HO322
              clear HO325
              clear HO330
              clear HO333
              clear BK297
              clear BK298
              clear HB
              have HO302 := n0_
              have HO308 := n1_
              have HO311 := n2_
              have HO314 := n3_
              have HO322 := n4_
              have HO325 := n5_
              have HO330 := n6_
              have HO333 := n7_
              have BK297 := n8_
              have BK298 := n9_
              have HB := n10_
              clear n0_ n1_ n2_ n3_ n4_ n5_ n6_ n7_ n8_ n9_ n10_
              (try clear hb)
              (try clear hb2)
              (try clear hk)
              (try clear hi)
              refine hK.out _ _ ⟨(blk_cell BK297.out 0).trans rfl, (blk_cell BK297.out 1).trans rfl, (blk_cell BK297.out 2).trans rfl, (blk_cell BK297.out 3).trans rfl, (blk_cell BK298.out 0).trans rfl, (blk_cell BK298.out 1).trans rfl, (blk_cell BK298.out 2).trans rfl, (blk_cell BK298.out 3).trans rfl⟩ (fun hHeld => ?_)
              clear hK K
              refine norm_ (a' := ?_) ?_ ?_
              rotate_left
              ·show Act.put _ (some 83) _ = _
               simp only [Act.put, sA, sB, sC, i64_w, i32_w]
               rfl
              refine pure_ (i := 24) (N := some 84) (v := ?_) (a' := ?_) #[true,true,true,true,true,true,true,true,true,true,true,true,true,true,true,true,true,true,true,true,true,true,true,true,true,false] rfl rfl (any_of HT_.out (by kernel_rfl)) (fun _ _ _ h => h) (Or.inl ⟨by rfl, ?_⟩) ?_ ?_
              rotate_left
              ·intro w'; go_simp; with_reducible rfl
              rotate_left
              ·simp only [Act.put, sA, sB, sC, i64_w, i32_w]; rfl
              refine pure_ (i := 25) (N := some 85) (v := ?_) (a' := ?_) #[true,true,true,true,true,true,true,true,true,true,true,true,true,true,true,true,true,true,true,true,true,true,true,true,true,true] rfl rfl (any_of HT_.out (by kernel_rfl)) (fun _ _ _ h => h) (Or.inl ⟨by rfl, ?_⟩) ?_ ?_
              rotate_left
              ·intro w'; go_simp; with_reducible rfl
              rotate_left
              ·simp only [Act.put, sA, sB, sC, i64_w, i32_w]; rfl
              refine done_ (done_of HT_.out (by kernel_rfl)) ?_
              try go_wp2_with (first | ((with_reducible refine gate_callee (f := 8) rfl ?_); refine goesL_ (some 93) rfl rfl Try.func8 (by kernel_rfl) rfl #[.slice Ao59 t300.length co59] rfl (by (try simp only [List.map_toArray, List.map_cons, List.map_nil]); first | done | rfl | (simp only [List.length_drop, List.length_take]; rfl)) ?_; (with_reducible refine (crosswayref00_CopyBytes.calls _ _ t300 t336 _ ?side1 ?side2 A42.out).mono ?_); (case side1 => repeat (first | exact (R_reads' HO302.out).2.2 | (with_reducible refine C_alloc ?_ _) | (with_reducible refine C_drewN ?_ _) | (with_reducible refine C_drew ?_))); (case side2 => exact (R_reads' HO302.out).2.1); rintro e w70 ⟨v337, rfl, ho0, hb⟩; refine ⟨_, rfl, ?_⟩; have n0_ := Aside0.mk (R_elder' (by (with_reducible repeat (first | apply R_alloc | apply R_drewN | apply R_drew)); exact HO302.out) (R_base ho0) hb); have n1_ := Aside0.mk (R_elder' (by (with_reducible repeat (first | apply R_alloc | apply R_drewN | apply R_drew)); exact HO308.out) (R_base ho0) hb); have n2_ := Aside0.mk (R_elder' (by (with_reducible repeat (first | apply R_alloc | apply R_drewN | apply R_drew)); exact HO311.out) (R_base ho0) hb); have n3_ := Aside0.mk (R_elder' (by (with_reducible repeat (first | apply R_alloc | apply R_drewN | apply R_drew)); exact HO314.out) (R_base ho0) hb); have n4_ := Aside0.mk (R_elder' (by (with_reducible repeat (first | apply R_alloc | apply R_drewN | apply R_drew)); exact HO322.out) (R_base ho0) hb); have n5_ := Aside0.mk (R_elder' (by (with_reducible repeat (first | apply R_alloc | apply R_drewN | apply R_drew)); exact HO325.out) (R_base ho0) hb); have n6_ := Aside0.mk (R_elder' (by (with_reducible repeat (first | apply R_alloc | apply R_drewN | apply R_drew)); exact HO330.out) (R_base ho0) hb); have n7_ := Aside0.mk (R_elder' (by (with_reducible repeat (first | apply R_alloc | apply R_drewN | apply R_drew)); exact HO333.out) (R_base ho0) hb); have n8_ := Aside0.mk (R_lower (R_new' (R_new' (R_new' (R_new' (R_new' (R_new' (R_new' (R_new' ho0 (R_lt (by (with_reducible repeat (first | apply R_alloc | apply R_drewN | apply R_drew)); exact HO302.out))) (R_lt (by (with_reducible repeat (first | apply R_alloc | apply R_drewN | apply R_drew)); exact HO308.out))) (R_lt (by (with_reducible repeat (first | apply R_alloc | apply R_drewN | apply R_drew)); exact HO311.out))) (R_lt (by (with_reducible repeat (first | apply R_alloc | apply R_drewN | apply R_drew)); exact HO314.out))) (R_lt (by (with_reducible repeat (first | apply R_alloc | apply R_drewN | apply R_drew)); exact HO322.out))) (R_lt (by (with_reducible repeat (first | apply R_alloc | apply R_drewN | apply R_drew)); exact HO325.out))) (R_lt (by (with_reducible repeat (first | apply R_alloc | apply R_drewN | apply R_drew)); exact HO330.out))) (R_lt (by (with_reducible repeat (first | apply R_alloc | apply R_drewN | apply R_drew)); exact HO333.out))) (below_size (by repeat (first | (with_reducible first | exact HB.out | apply below_alloc | apply pw_below_drewN | apply below_drew1 | refine below_set ?_ GE297.out | refine below_set ?_ GE298.out) | exact HB.out)))); have n9_ := Aside0.mk (blk_below (g := gb297) (o := .cells #[.int .u8 a0_0, .int .u32 a0_1, .slice A0_2 l0_2.length c0_2, .slice A0_3 l0_3.length c0_3] 27 (0, 0)) (by (with_reducible repeat (first | refine blk_drewN ?_ _ | refine blk_drew ?_ | refine blk_alloc ?_ _)); exact BK297.out) hb); have n10_ := Aside0.mk (blk_below (g := gb298) (o := .cells #[.int .u8 a1_0, .int .u32 a1_1, .slice A1_2 l1_2.length c1_2, .slice A1_3 l1_3.length c1_3] 27 (0, 0)) (by (with_reducible repeat (first | refine blk_drewN ?_ _ | refine blk_drew ?_ | refine blk_alloc ?_ _)); exact BK298.out) hb); have n11_ := Aside0.mk (below_step (by repeat (first | (with_reducible first | exact HB.out | apply below_alloc | apply pw_below_drewN | apply below_drew1 | refine below_set ?_ GE297.out | refine below_set ?_ GE298.out) | exact HB.out)) hb); clear HO302 HO308 HO311 HO314 HO322 HO325 HO330 HO333 BK297 BK298 HB; have HO302 := n0_; have HO308 := n1_; have HO311 := n2_; have HO314 := n3_; have HO322 := n4_; have HO325 := n5_; have HO330 := n6_; have HO333 := n7_; have HO338 := n8_; have BK297 := n9_; have BK298 := n10_; have HB := n11_; clear n0_ n1_ n2_ n3_ n4_ n5_ n6_ n7_ n8_ n9_ n10_ n11_; (try clear hb); (try clear hb2); (try clear hk); (try clear hi); (try clear ho0)) | ((with_reducible refine gate_builtin (b := .append) (xs := #[.tmp 93, .tmp 94]) rfl ?_); (try (refine gate_guard (by rfl) ?_; dsimp only)); at_builtin; refine R_append_rows (Kd.int .u8) (w0 := w) w.heap.size rfl (.tmp 93) (.tmp 94) 22 5 (.int .u8 0) 1 rfl Try.underlying22 info5 rfl (by decide) (by omega) v337 t336 l2 _ _ _ (fun k_ => some k_ ≠ (.slice Ao59 t300.length co59 : Value).ownBlock ∧ some k_ ≠ (.slice Ao55 t306.length co55 : Value).ownBlock ∧ some k_ ≠ (.slice Ao56 t309.length co56 : Value).ownBlock ∧ some k_ ≠ (.slice Ao60 t312.length co60 : Value).ownBlock ∧ some k_ ≠ (.slice Ao64 t320.length co64 : Value).ownBlock ∧ some k_ ≠ (.slice Ao65 t323.length co65 : Value).ownBlock ∧ some k_ ≠ (.slice Ao66 t328.length co66 : Value).ownBlock ∧ some k_ ≠ (.slice Ao67 t331.length co67 : Value).ownBlock) (fun _ => False) rfl rfl ?aO ?aR (fun _ _ h => h) (fun _ h => h.elim) ?aF ?aB ?aS ?aL ?_; (case aR => repeat (first | exact (C_below HR2.out HB.out) | (with_reducible refine C_alloc ?_ _) | (with_reducible refine C_drewN ?_ _) | (with_reducible refine C_drew ?_))); (case aB => exact (by repeat (first | (with_reducible first | exact HB.out | apply below_alloc | apply pw_below_drewN | apply below_drew1 | refine below_set ?_ GE297.out | refine below_set ?_ GE298.out) | exact HB.out))); (case aF => exact (fun k_ hk => ⟨Kd.fresh' (R_lt (by (with_reducible repeat (first | apply R_alloc | apply R_drewN | apply R_drew)); exact HO302.out)) k_ hk, Kd.fresh' (R_lt (by (with_reducible repeat (first | apply R_alloc | apply R_drewN | apply R_drew)); exact HO308.out)) k_ hk, Kd.fresh' (R_lt (by (with_reducible repeat (first | apply R_alloc | apply R_drewN | apply R_drew)); exact HO311.out)) k_ hk, Kd.fresh' (R_lt (by (with_reducible repeat (first | apply R_alloc | apply R_drewN | apply R_drew)); exact HO314.out)) k_ hk, Kd.fresh' (R_lt (by (with_reducible repeat (first | apply R_alloc | apply R_drewN | apply R_drew)); exact HO322.out)) k_ hk, Kd.fresh' (R_lt (by (with_reducible repeat (first | apply R_alloc | apply R_drewN | apply R_drew)); exact HO325.out)) k_ hk, Kd.fresh' (R_lt (by (with_reducible repeat (first | apply R_alloc | apply R_drewN | apply R_drew)); exact HO330.out)) k_ hk, Kd.fresh' (R_lt (by (with_reducible repeat (first | apply R_alloc | apply R_drewN | apply R_drew)); exact HO333.out)) k_ hk⟩)); (case aO => exact (by (with_reducible repeat (first | apply R_alloc | apply R_drewN | apply R_drew)); exact R_mono HO338.out (fun _ hk => ⟨hk.1.1.1.1.1.1.1.2, ⟨hk.1.1.1.1.1.1.2, ⟨hk.1.1.1.1.1.2, ⟨hk.1.1.1.1.2, ⟨hk.1.1.1.2, ⟨hk.1.1.2, ⟨hk.1.2, hk.2⟩⟩⟩⟩⟩⟩⟩))); (case aS => exact (below_size (by repeat (first | (with_reducible first | exact HB.out | apply below_alloc | apply pw_below_drewN | apply below_drew1 | refine below_set ?_ GE297.out | refine below_set ?_ GE298.out) | exact HB.out)))); (case aL => have := LMc43.out; omega); intro v340 w71 ho hb hg hat; rw [← Ny339.out] at ho; have n0_ := Aside0.mk (blk_grown (g := gb297) (o := .cells #[.int .u8 a0_0, .int .u32 a0_1, .slice A0_2 l0_2.length c0_2, .slice A0_3 l0_3.length c0_3] 27 (0, 0)) (by (with_reducible repeat (first | refine blk_drewN ?_ _ | refine blk_drew ?_ | refine blk_alloc ?_ _)); exact BK297.out) hg (R_ne HO338.out BK297.out (by decide))); have n1_ := Aside0.mk (blk_grown (g := gb298) (o := .cells #[.int .u8 a1_0, .int .u32 a1_1, .slice A1_2 l1_2.length c1_2, .slice A1_3 l1_3.length c1_3] 27 (0, 0)) (by (with_reducible repeat (first | refine blk_drewN ?_ _ | refine blk_drew ?_ | refine blk_alloc ?_ _)); exact BK298.out) hg (R_ne HO338.out BK298.out (by decide))); have n2_ := Aside0.mk (R_after (ok := (fun k_ => some k_ ≠ (.slice Ao55 t306.length co55 : Value).ownBlock ∧ some k_ ≠ (.slice Ao56 t309.length co56 : Value).ownBlock ∧ some k_ ≠ (.slice Ao60 t312.length co60 : Value).ownBlock ∧ some k_ ≠ (.slice Ao64 t320.length co64 : Value).ownBlock ∧ some k_ ≠ (.slice Ao65 t323.length co65 : Value).ownBlock ∧ some k_ ≠ (.slice Ao66 t328.length co66 : Value).ownBlock ∧ some k_ ≠ (.slice Ao67 t331.length co67 : Value).ownBlock)) (by (with_reducible repeat (first | apply R_alloc | apply R_drewN | apply R_drew)); exact R_mono HO302.out (fun _ hk => ⟨⟨hk.1.1.1.1.1.1.1.2, ⟨hk.1.1.1.1.1.1.2, ⟨hk.1.1.1.1.1.2, ⟨hk.1.1.1.1.2, ⟨hk.1.1.1.2, ⟨hk.1.1.2, hk.1.2⟩⟩⟩⟩⟩⟩, hk.2⟩)) hg hat); have n3_ := Aside0.mk (R_after (ok := (fun k_ => some k_ ≠ (.slice Ao59 t300.length co59 : Value).ownBlock ∧ some k_ ≠ (.slice Ao56 t309.length co56 : Value).ownBlock ∧ some k_ ≠ (.slice Ao60 t312.length co60 : Value).ownBlock ∧ some k_ ≠ (.slice Ao64 t320.length co64 : Value).ownBlock ∧ some k_ ≠ (.slice Ao65 t323.length co65 : Value).ownBlock ∧ some k_ ≠ (.slice Ao66 t328.length co66 : Value).ownBlock ∧ some k_ ≠ (.slice Ao67 t331.length co67 : Value).ownBlock)) (by (with_reducible repeat (first | apply R_alloc | apply R_drewN | apply R_drew)); exact R_mono HO308.out (fun _ hk => ⟨⟨hk.1.1.1.1.1.1.2, ⟨hk.1.1.1.1.1.1.1, ⟨hk.1.1.1.1.1.2, ⟨hk.1.1.1.1.2, ⟨hk.1.1.1.2, ⟨hk.1.1.2, hk.1.2⟩⟩⟩⟩⟩⟩, hk.2⟩)) hg hat); have n4_ := Aside0.mk (R_after (ok := (fun k_ => some k_ ≠ (.slice Ao59 t300.length co59 : Value).ownBlock ∧ some k_ ≠ (.slice Ao55 t306.length co55 : Value).ownBlock ∧ some k_ ≠ (.slice Ao60 t312.length co60 : Value).ownBlock ∧ some k_ ≠ (.slice Ao64 t320.length co64 : Value).ownBlock ∧ some k_ ≠ (.slice Ao65 t323.length co65 : Value).ownBlock ∧ some k_ ≠ (.slice Ao66 t328.length co66 : Value).ownBlock ∧ some k_ ≠ (.slice Ao67 t331.length co67 : Value).ownBlock)) (by (with_reducible repeat (first | apply R_alloc | apply R_drewN | apply R_drew)); exact R_mono HO311.out (fun _ hk => ⟨⟨hk.1.1.1.1.1.1.2, ⟨hk.1.1.1.1.1.1.1, ⟨hk.1.1.1.1.1.2, ⟨hk.1.1.1.1.2, ⟨hk.1.1.1.2, ⟨hk.1.1.2, hk.1.2⟩⟩⟩⟩⟩⟩, hk.2⟩)) hg hat); have n5_ := Aside0.mk (R_after (ok := (fun k_ => some k_ ≠ (.slice Ao59 t300.length co59 : Value).ownBlock ∧ some k_ ≠ (.slice Ao55 t306.length co55 : Value).ownBlock ∧ some k_ ≠ (.slice Ao56 t309.length co56 : Value).ownBlock ∧ some k_ ≠ (.slice Ao64 t320.length co64 : Value).ownBlock ∧ some k_ ≠ (.slice Ao65 t323.length co65 : Value).ownBlock ∧ some k_ ≠ (.slice Ao66 t328.length co66 : Value).ownBlock ∧ some k_ ≠ (.slice Ao67 t331.length co67 : Value).ownBlock)) (by (with_reducible repeat (first | apply R_alloc | apply R_drewN | apply R_drew)); exact R_mono HO314.out (fun _ hk => ⟨⟨hk.1.1.1.1.1.1.1.2, ⟨hk.1.1.1.1.1.1.2, ⟨hk.1.1.1.1.1.2, ⟨hk.1.1.1.1.2, ⟨hk.1.1.1.2, ⟨hk.1.1.2, hk.1.2⟩⟩⟩⟩⟩⟩, hk.2⟩)) hg hat); have n6_ := Aside0.mk (R_after (ok := (fun k_ => some k_ ≠ (.slice Ao59 t300.length co59 : Value).ownBlock ∧ some k_ ≠ (.slice Ao55 t306.length co55 : Value).ownBlock ∧ some k_ ≠ (.slice Ao56 t309.length co56 : Value).ownBlock ∧ some k_ ≠ (.slice Ao60 t312.length co60 : Value).ownBlock ∧ some k_ ≠ (.slice Ao65 t323.length co65 : Value).ownBlock ∧ some k_ ≠ (.slice Ao66 t328.length co66 : Value).ownBlock ∧ some k_ ≠ (.slice Ao67 t331.length co67 : Value).ownBlock)) (by (with_reducible repeat (first | apply R_alloc | apply R_drewN | apply R_drew)); exact R_mono HO322.out (fun _ hk => ⟨⟨hk.1.1.1.1.1.1.2, ⟨hk.1.1.1.1.1.2, ⟨hk.1.1.1.1.2, ⟨hk.1.1.1.2, ⟨hk.1.1.1.1.1.1.1, ⟨hk.1.1.2, hk.1.2⟩⟩⟩⟩⟩⟩, hk.2⟩)) hg hat); have n7_ := Aside0.mk (R_after (ok := (fun k_ => some k_ ≠ (.slice Ao59 t300.length co59 : Value).ownBlock ∧ some k_ ≠ (.slice Ao55 t306.length co55 : Value).ownBlock ∧ some k_ ≠ (.slice Ao56 t309.length co56 : Value).ownBlock ∧ some k_ ≠ (.slice Ao60 t312.length co60 : Value).ownBlock ∧ some k_ ≠ (.slice Ao64 t320.length co64 : Value).ownBlock ∧ some k_ ≠ (.slice Ao66 t328.length co66 : Value).ownBlock ∧ some k_ ≠ (.slice Ao67 t331.length co67 : Value).ownBlock)) (by (with_reducible repeat (first | apply R_alloc | apply R_drewN | apply R_drew)); exact R_mono HO325.out (fun _ hk => ⟨⟨hk.1.1.1.1.1.1.2, ⟨hk.1.1.1.1.1.2, ⟨hk.1.1.1.1.2, ⟨hk.1.1.1.2, ⟨hk.1.1.1.1.1.1.1, ⟨hk.1.1.2, hk.1.2⟩⟩⟩⟩⟩⟩, hk.2⟩)) hg hat); have n8_ := Aside0.mk (R_after (ok := (fun k_ => some k_ ≠ (.slice Ao59 t300.length co59 : Value).ownBlock ∧ some k_ ≠ (.slice Ao55 t306.length co55 : Value).ownBlock ∧ some k_ ≠ (.slice Ao56 t309.length co56 : Value).ownBlock ∧ some k_ ≠ (.slice Ao60 t312.length co60 : Value).ownBlock ∧ some k_ ≠ (.slice Ao64 t320.length co64 : Value).ownBlock ∧ some k_ ≠ (.slice Ao65 t323.length co65 : Value).ownBlock ∧ some k_ ≠ (.slice Ao67 t331.length co67 : Value).ownBlock)) (by (with_reducible repeat (first | apply R_alloc | apply R_drewN | apply R_drew)); exact R_mono HO330.out (fun _ hk => ⟨⟨hk.1.1.1.1.1.1.2, ⟨hk.1.1.1.1.1.2, ⟨hk.1.1.1.1.2, ⟨hk.1.1.1.2, ⟨hk.1.1.2, ⟨hk.1.2, hk.1.1.1.1.1.1.1⟩⟩⟩⟩⟩⟩, hk.2⟩)) hg hat); have n9_ := Aside0.mk (R_after (ok := (fun k_ => some k_ ≠ (.slice Ao59 t300.length co59 : Value).ownBlock ∧ some k_ ≠ (.slice Ao55 t306.length co55 : Value).ownBlock ∧ some k_ ≠ (.slice Ao56 t309.length co56 : Value).ownBlock ∧ some k_ ≠ (.slice Ao60 t312.length co60 : Value).ownBlock ∧ some k_ ≠ (.slice Ao64 t320.length co64 : Value).ownBlock ∧ some k_ ≠ (.slice Ao65 t323.length co65 : Value).ownBlock ∧ some k_ ≠ (.slice Ao66 t328.length co66 : Value).ownBlock)) (by (with_reducible repeat (first | apply R_alloc | apply R_drewN | apply R_drew)); exact R_mono HO333.out (fun _ hk => ⟨⟨hk.1.1.1.1.1.1.2, ⟨hk.1.1.1.1.1.2, ⟨hk.1.1.1.1.2, ⟨hk.1.1.1.2, ⟨hk.1.1.2, ⟨hk.1.2, hk.1.1.1.1.1.1.1⟩⟩⟩⟩⟩⟩, hk.2⟩)) hg hat); have n10_ := Aside0.mk (hb); have n11_ := Aside0.mk (ho); clear BK297 BK298 HO302 HO308 HO311 HO314 HO322 HO325 HO330 HO333 HB HO338; have BK297 := n0_; have BK298 := n1_; have HO302 := n2_; have HO308 := n3_; have HO311 := n4_; have HO314 := n5_; have HO322 := n6_; have HO325 := n7_; have HO330 := n8_; have HO333 := n9_; have HB := n10_; have HO341 := n11_; clear n0_ n1_ n2_ n3_ n4_ n5_ n6_ n7_ n8_ n9_ n10_ n11_; clear ho hb hg hat; obtain ⟨Ao72, co72, eo72⟩ := R_slice HO341.out; subst eo72) | ((with_reducible refine gate_callee (f := 9) rfl ?_); refine goesL_ (some 96) rfl rfl Try.func9 (by kernel_rfl) rfl #[.slice Ao72 y339.length co72] rfl (by (try simp only [List.map_toArray, List.map_cons, List.map_nil]); first | done | rfl | (simp only [List.length_drop, List.length_take]; rfl)) ?_; (with_reducible refine (head_Parse.calls kj5 _ _ y339 t342 t343 t344 t347 t350 t353 _ ?side1 ?side2 A44.out).mono ?_); (case side1 => repeat (first | exact (R_reads' HO341.out).2.2 | (with_reducible refine C_alloc ?_ _) | (with_reducible refine C_drewN ?_ _) | (with_reducible refine C_drew ?_))); (case side2 => exact (R_reads' HO341.out).2.1); rintro e w73 ⟨v345, v348, v351, rfl, ho0, ho1, ho2, hb⟩; refine ⟨_, rfl, ?_⟩; have n0_ := Aside0.mk (R_mono (R_told (R_told (R_told (R_old (by (with_reducible repeat (first | apply R_alloc | apply R_drewN | apply R_drew)); exact HO302.out) hb) (R_base ho0)) (R_base ho1)) (R_base ho2)) (fun _ h_ => h_.1)); have n1_ := Aside0.mk (R_mono (R_told (R_told (R_told (R_old (by (with_reducible repeat (first | apply R_alloc | apply R_drewN | apply R_drew)); exact HO308.out) hb) (R_base ho0)) (R_base ho1)) (R_base ho2)) (fun _ h_ => h_.1)); have n2_ := Aside0.mk (R_mono (R_told (R_told (R_told (R_old (by (with_reducible repeat (first | apply R_alloc | apply R_drewN | apply R_drew)); exact HO311.out) hb) (R_base ho0)) (R_base ho1)) (R_base ho2)) (fun _ h_ => h_.1)); have n3_ := Aside0.mk (R_mono (R_told (R_told (R_told (R_old (by (with_reducible repeat (first | apply R_alloc | apply R_drewN | apply R_drew)); exact HO314.out) hb) (R_base ho0)) (R_base ho1)) (R_base ho2)) (fun _ h_ => h_.1)); have n4_ := Aside0.mk (R_mono (R_told (R_told (R_told (R_old (by (with_reducible repeat (first | apply R_alloc | apply R_drewN | apply R_drew)); exact HO322.out) hb) (R_base ho0)) (R_base ho1)) (R_base ho2)) (fun _ h_ => h_.1)); have n5_ := Aside0.mk (R_mono (R_told (R_told (R_told (R_old (by (with_reducible repeat (first | apply R_alloc | apply R_drewN | apply R_drew)); exact HO325.out) hb) (R_base ho0)) (R_base ho1)) (R_base ho2)) (fun _ h_ => h_.1)); have n6_ := Aside0.mk (R_mono (R_told (R_told (R_told (R_old (by (with_reducible repeat (first | apply R_alloc | apply R_drewN | apply R_drew)); exact HO330.out) hb) (R_base ho0)) (R_base ho1)) (R_base ho2)) (fun _ h_ => h_.1)); have n7_ := Aside0.mk (R_mono (R_told (R_told (R_told (R_old (by (with_reducible repeat (first | apply R_alloc | apply R_drewN | apply R_drew)); exact HO333.out) hb) (R_base ho0)) (R_base ho1)) (R_base ho2)) (fun _ h_ => h_.1)); have n8_ := Aside0.mk (R_mono (R_told (R_told (R_told (R_old (by (with_reducible repeat (first | apply R_alloc | apply R_drewN | apply R_drew)); exact HO341.out) hb) (R_base ho0)) (R_base ho1)) (R_base ho2)) (fun _ h_ => h_.1)); have n9_ := Aside0.mk (R_lower (R_new' (R_new' (R_new' (R_new' (R_new' (R_new' (R_new' (R_new' (R_new' ho0 (R_lt (by (with_reducible repeat (first | apply R_alloc | apply R_drewN | apply R_drew)); exact HO302.out))) (R_lt (by (with_reducible repeat (first | apply R_alloc | apply R_drewN | apply R_drew)); exact HO308.out))) (R_lt (by (with_reducible repeat (first | apply R_alloc | apply R_drewN | apply R_drew)); exact HO311.out))) (R_lt (by (with_reducible repeat (first | apply R_alloc | apply R_drewN | apply R_drew)); exact HO314.out))) (R_lt (by (with_reducible repeat (first | apply R_alloc | apply R_drewN | apply R_drew)); exact HO322.out))) (R_lt (by (with_reducible repeat (first | apply R_alloc | apply R_drewN | apply R_drew)); exact HO325.out))) (R_lt (by (with_reducible repeat (first | apply R_alloc | apply R_drewN | apply R_drew)); exact HO330.out))) (R_lt (by (with_reducible repeat (first | apply R_alloc | apply R_drewN | apply R_drew)); exact HO333.out))) (R_lt (by (with_reducible repeat (first | apply R_alloc | apply R_drewN | apply R_drew)); exact HO341.out))) (below_size (by repeat (first | (with_reducible first | exact HB.out | apply below_alloc | apply pw_below_drewN | apply below_drew1 | refine below_set ?_ GE297.out | refine below_set ?_ GE298.out) | exact HB.out)))); have n10_ := Aside0.mk (R_lower (R_new' (R_new' (R_new' (R_new' (R_new' (R_new' (R_new' (R_new' (R_new' ho1 (R_lt (by (with_reducible repeat (first | apply R_alloc | apply R_drewN | apply R_drew)); exact HO302.out))) (R_lt (by (with_reducible repeat (first | apply R_alloc | apply R_drewN | apply R_drew)); exact HO308.out))) (R_lt (by (with_reducible repeat (first | apply R_alloc | apply R_drewN | apply R_drew)); exact HO311.out))) (R_lt (by (with_reducible repeat (first | apply R_alloc | apply R_drewN | apply R_drew)); exact HO314.out))) (R_lt (by (with_reducible repeat (first | apply R_alloc | apply R_drewN | apply R_drew)); exact HO322.out))) (R_lt (by (with_reducible repeat (first | apply R_alloc | apply R_drewN | apply R_drew)); exact HO325.out))) (R_lt (by (with_reducible repeat (first | apply R_alloc | apply R_drewN | apply R_drew)); exact HO330.out))) (R_lt (by (with_reducible repeat (first | apply R_alloc | apply R_drewN | apply R_drew)); exact HO333.out))) (R_lt (by (with_reducible repeat (first | apply R_alloc | apply R_drewN | apply R_drew)); exact HO341.out))) (below_size (by repeat (first | (with_reducible first | exact HB.out | apply below_alloc | apply pw_below_drewN | apply below_drew1 | refine below_set ?_ GE297.out | refine below_set ?_ GE298.out) | exact HB.out)))); have n11_ := Aside0.mk (R_lower (R_new' (R_new' (R_new' (R_new' (R_new' (R_new' (R_new' (R_new' (R_new' ho2 (R_lt (by (with_reducible repeat (first | apply R_alloc | apply R_drewN | apply R_drew)); exact HO302.out))) (R_lt (by (with_reducible repeat (first | apply R_alloc | apply R_drewN | apply R_drew)); exact HO308.out))) (R_lt (by (with_reducible repeat (first | apply R_alloc | apply R_drewN | apply R_drew)); exact HO311.out))) (R_lt (by (with_reducible repeat (first | apply R_alloc | apply R_drewN | apply R_drew)); exact HO314.out))) (R_lt (by (with_reducible repeat (first | apply R_alloc | apply R_drewN | apply R_drew)); exact HO322.out))) (R_lt (by (with_reducible repeat (first | apply R_alloc | apply R_drewN | apply R_drew)); exact HO325.out))) (R_lt (by (with_reducible repeat (first | apply R_alloc | apply R_drewN | apply R_drew)); exact HO330.out))) (R_lt (by (with_reducible repeat (first | apply R_alloc | apply R_drewN | apply R_drew)); exact HO333.out))) (R_lt (by (with_reducible repeat (first | apply R_alloc | apply R_drewN | apply R_drew)); exact HO341.out))) (below_size (by repeat (first | (with_reducible first | exact HB.out | apply below_alloc | apply pw_below_drewN | apply below_drew1 | refine below_set ?_ GE297.out | refine below_set ?_ GE298.out) | exact HB.out)))); have n12_ := Aside0.mk (blk_below (g := gb297) (o := .cells #[.int .u8 a0_0, .int .u32 a0_1, .slice A0_2 l0_2.length c0_2, .slice A0_3 l0_3.length c0_3] 27 (0, 0)) (by (with_reducible repeat (first | refine blk_drewN ?_ _ | refine blk_drew ?_ | refine blk_alloc ?_ _)); exact BK297.out) hb); have n13_ := Aside0.mk (blk_below (g := gb298) (o := .cells #[.int .u8 a1_0, .int .u32 a1_1, .slice A1_2 l1_2.length c1_2, .slice A1_3 l1_3.length c1_3] 27 (0, 0)) (by (with_reducible repeat (first | refine blk_drewN ?_ _ | refine blk_drew ?_ | refine blk_alloc ?_ _)); exact BK298.out) hb); have n14_ := Aside0.mk (below_step (by repeat (first | (with_reducible first | exact HB.out | apply below_alloc | apply pw_below_drewN | apply below_drew1 | refine below_set ?_ GE297.out | refine below_set ?_ GE298.out) | exact HB.out)) hb); clear HO302 HO308 HO311 HO314 HO322 HO325 HO330 HO333 HO341 BK297 BK298 HB; have HO302 := n0_; have HO308 := n1_; have HO311 := n2_; have HO314 := n3_; have HO322 := n4_; have HO325 := n5_; have HO330 := n6_; have HO333 := n7_; have HO341 := n8_; have HO346 := n9_; have HO349 := n10_; have HO352 := n11_; have BK297 := n12_; have BK298 := n13_; have HB := n14_; clear n0_ n1_ n2_ n3_ n4_ n5_ n6_ n7_ n8_ n9_ n10_ n11_ n12_ n13_ n14_; (try clear hb); (try clear hb2); (try clear hk); (try clear hi); (try clear ho0); (try clear ho1); (try clear ho2)) | ((with_reducible refine gate_dst (N := 11) rfl ?_); (try (refine gate_guard (by rfl) ?_; dsimp only)); refine box_event ?hg (N := 11) ?hd (cs := #[.int .u8 0, .int .u32 0, .slice none 0 0, .slice none 0 0]) (t := 27) ?hr ?_; (case hd => rfl); (case hg => rfl); (case hr => first | (go_simp; done) | (go_simp; rfl)); intro gb354 hg w74 hbox hb; have n0_ := Aside0.mk (R_below (by (with_reducible repeat (first | apply R_alloc | apply R_drewN | apply R_drew)); exact HO302.out) hb); have n1_ := Aside0.mk (R_below (by (with_reducible repeat (first | apply R_alloc | apply R_drewN | apply R_drew)); exact HO308.out) hb); have n2_ := Aside0.mk (R_below (by (with_reducible repeat (first | apply R_alloc | apply R_drewN | apply R_drew)); exact HO311.out) hb); have n3_ := Aside0.mk (R_below (by (with_reducible repeat (first | apply R_alloc | apply R_drewN | apply R_drew)); exact HO314.out) hb); have n4_ := Aside0.mk (R_below (by (with_reducible repeat (first | apply R_alloc | apply R_drewN | apply R_drew)); exact HO322.out) hb); have n5_ := Aside0.mk (R_below (by (with_reducible repeat (first | apply R_alloc | apply R_drewN | apply R_drew)); exact HO325.out) hb); have n6_ := Aside0.mk (R_below (by (with_reducible repeat (first | apply R_alloc | apply R_drewN | apply R_drew)); exact HO330.out) hb); have n7_ := Aside0.mk (R_below (by (with_reducible repeat (first | apply R_alloc | apply R_drewN | apply R_drew)); exact HO333.out) hb); have n8_ := Aside0.mk (R_below (by (with_reducible repeat (first | apply R_alloc | apply R_drewN | apply R_drew)); exact HO341.out) hb); have n9_ := Aside0.mk (R_below (by (with_reducible repeat (first | apply R_alloc | apply R_drewN | apply R_drew)); exact HO346.out) hb); have n10_ := Aside0.mk (R_below (by (with_reducible repeat (first | apply R_alloc | apply R_drewN | apply R_drew)); exact HO349.out) hb); have n11_ := Aside0.mk (R_below (by (with_reducible repeat (first | apply R_alloc | apply R_drewN | apply R_drew)); exact HO352.out) hb); have n12_ := Aside0.mk (blk_below (g := gb297) (o := .cells #[.int .u8 a0_0, .int .u32 a0_1, .slice A0_2 l0_2.length c0_2, .slice A0_3 l0_3.length c0_3] 27 (0, 0)) (by (with_reducible repeat (first | refine blk_drewN ?_ _ | refine blk_drew ?_ | refine blk_alloc ?_ _)); exact BK297.out) hb); have n13_ := Aside0.mk (blk_below (g := gb298) (o := .cells #[.int .u8 a1_0, .int .u32 a1_1, .slice A1_2 l1_2.length c1_2, .slice A1_3 l1_3.length c1_3] 27 (0, 0)) (by (with_reducible repeat (first | refine blk_drewN ?_ _ | refine blk_drew ?_ | refine blk_alloc ?_ _)); exact BK298.out) hb); have n14_ := Aside0.mk (below_step (by repeat (first | (with_reducible first | exact HB.out | apply below_alloc | apply pw_below_drewN | apply below_drew1 | refine below_set ?_ GE297.out | refine below_set ?_ GE298.out) | exact HB.out)) hb); have n15_ := Aside0.mk (hbox); have n16_ := Aside0.mk ((by rw [hg]; exact (below_size (by repeat (first | (with_reducible first | exact HB.out | apply below_alloc | apply pw_below_drewN | apply below_drew1 | refine below_set ?_ GE297.out | refine below_set ?_ GE298.out) | exact HB.out))) : w.heap.size ≤ gb354)); have n17_ := Aside0.mk ((by rw [hg]; exact (below_size (by repeat (first | (with_reducible first | exact HB.out | apply below_alloc | apply pw_below_drewN | apply below_drew1 | refine below_set ?_ GE297.out | refine below_set ?_ GE298.out) | exact HB.out))) : w.heap.size ≤ gb354)); have n18_ := Aside0.mk ((by rw [hg]; exact Nat.ne_of_lt (blk_lt (g := gb297) (o := .cells #[.int .u8 a0_0, .int .u32 a0_1, .slice A0_2 l0_2.length c0_2, .slice A0_3 l0_3.length c0_3] 27 (0, 0)) (by (with_reducible repeat (first | refine blk_drewN ?_ _ | refine blk_drew ?_ | refine blk_alloc ?_ _)); exact BK297.out)) : gb297 ≠ gb354)); have n19_ := Aside0.mk ((by rw [hg]; exact Nat.ne_of_gt (blk_lt (g := gb297) (o := .cells #[.int .u8 a0_0, .int .u32 a0_1, .slice A0_2 l0_2.length c0_2, .slice A0_3 l0_3.length c0_3] 27 (0, 0)) (by (with_reducible repeat (first | refine blk_drewN ?_ _ | refine blk_drew ?_ | refine blk_alloc ?_ _)); exact BK297.out)) : gb354 ≠ gb297)); have n20_ := Aside0.mk ((by rw [hg]; exact Nat.ne_of_lt (blk_lt (g := gb298) (o := .cells #[.int .u8 a1_0, .int .u32 a1_1, .slice A1_2 l1_2.length c1_2, .slice A1_3 l1_3.length c1_3] 27 (0, 0)) (by (with_reducible repeat (first | refine blk_drewN ?_ _ | refine blk_drew ?_ | refine blk_alloc ?_ _)); exact BK298.out)) : gb298 ≠ gb354)); have n21_ := Aside0.mk ((by rw [hg]; exact Nat.ne_of_gt (blk_lt (g := gb298) (o := .cells #[.int .u8 a1_0, .int .u32 a1_1, .slice A1_2 l1_2.length c1_2, .slice A1_3 l1_3.length c1_3] 27 (0, 0)) (by (with_reducible repeat (first | refine blk_drewN ?_ _ | refine blk_drew ?_ | refine blk_alloc ?_ _)); exact BK298.out)) : gb354 ≠ gb298)); clear HO302 HO308 HO311 HO314 HO322 HO325 HO330 HO333 HO341 HO346 HO349 HO352 BK297 BK298 HB; have HO302 := n0_; have HO308 := n1_; have HO311 := n2_; have HO314 := n3_; have HO322 := n4_; have HO325 := n5_; have HO330 := n6_; have HO333 := n7_; have HO341 := n8_; have HO346 := n9_; have HO349 := n10_; have HO352 := n11_; have BK297 := n12_; have BK298 := n13_; have HB := n14_; have BK354 := n15_; have GW354 := n16_; have GE354 := n17_; have NB297_354 := n18_; have NB354_297 := n19_; have NB298_354 := n20_; have NB354_298 := n21_; clear n0_ n1_ n2_ n3_ n4_ n5_ n6_ n7_ n8_ n9_ n10_ n11_ n12_ n13_ n14_ n15_ n16_ n17_ n18_ n19_ n20_ n21_; clear hb hbox hg; have hnb75 := NB354_297.out; have hnc75 := NB297_354.out; have hnb76 := NB354_298.out; have hnc76 := NB298_354.out; have hcz77_0 : w74.cell? ⟨gb354, 0, none⟩ = some (.int .u8 0) := (blk_cell BK354.out 0).trans rfl; have hcz77_1 : w74.cell? ⟨gb354, 1, none⟩ = some (.int .u32 0) := (blk_cell BK354.out 1).trans rfl; have hcz77_2 : w74.cell? ⟨gb354, 2, none⟩ = some (.slice none 0 0) := (blk_cell BK354.out 2).trans rfl; have hcz77_3 : w74.cell? ⟨gb354, 3, none⟩ = some (.slice none 0 0) := (blk_cell BK354.out 3).trans rfl; have hfz77_0 := blk_frozen BK354.out 0; have hfz77_1 := blk_frozen BK354.out 1; have hfz77_2 := blk_frozen BK354.out 2; have hfz77_3 := blk_frozen BK354.out 3; obtain ⟨Ao78, co78, eo78⟩ := R_slice HO346.out; subst eo78; obtain ⟨Ao79, co79, eo79⟩ := R_slice HO349.out; subst eo79; have hcz80_0 : w74.cell? ⟨gb297, 0, none⟩ = some (.int .u8 a0_0) := (blk_cell BK297.out 0).trans rfl; have hcz80_1 : w74.cell? ⟨gb297, 1, none⟩ = some (.int .u32 a0_1) := (blk_cell BK297.out 1).trans rfl; have hcz80_2 : w74.cell? ⟨gb297, 2, none⟩ = some (.slice A0_2 l0_2.length c0_2) := (blk_cell BK297.out 2).trans rfl; have hcz80_3 : w74.cell? ⟨gb297, 3, none⟩ = some (.slice A0_3 l0_3.length c0_3) := (blk_cell BK297.out 3).trans rfl; have hfz80_0 := blk_frozen BK297.out 0; have hfz80_1 := blk_frozen BK297.out 1; have hfz80_2 := blk_frozen BK297.out 2; have hfz80_3 := blk_frozen BK297.out 3) | (go_at_call 18; (with_reducible refine (head_Same.calls t342 t343 _ _ t344 _ _ t347 a0_0 a0_1 _ _ l0_2 _ _ l0_3 true _ ?side1 ?side2 ?side3 ?side4 ?side5 ?side6 ?side7 ?side8 A46.out).mono ?_); (case side1 => refine (R_reads' (e := 5) (base := w.heap.size) (ok := fun k_ => ((((((((((some k_ ≠ (.slice Ao79 t347.length co79 : Value).ownBlock ∧ some k_ ≠ (v351 : Value).ownBlock) ∧ some k_ ≠ (.slice Ao59 t300.length co59 : Value).ownBlock) ∧ some k_ ≠ (.slice Ao55 t306.length co55 : Value).ownBlock) ∧ some k_ ≠ (.slice Ao56 t309.length co56 : Value).ownBlock) ∧ some k_ ≠ (.slice Ao60 t312.length co60 : Value).ownBlock) ∧ some k_ ≠ (.slice Ao64 t320.length co64 : Value).ownBlock) ∧ some k_ ≠ (.slice Ao65 t323.length co65 : Value).ownBlock) ∧ some k_ ≠ (.slice Ao66 t328.length co66 : Value).ownBlock) ∧ some k_ ≠ (.slice Ao67 t331.length co67 : Value).ownBlock) ∧ some k_ ≠ (.slice Ao72 y339.length co72 : Value).ownBlock)) (n := t344.length) (c := co78) ?_).2.2; exact (by (with_reducible repeat (first | apply R_alloc | apply R_drewN | apply R_drew)); exact (R_mono (R_far (p := ⟨gb354, 3, none⟩) (R_far (p := ⟨gb354, 2, none⟩) (R_far (p := ⟨gb354, 1, none⟩) (R_far (p := ⟨gb354, 0, none⟩) (R_types HO346.out BK354.out (by decide)) (fun _ hk => hk.2) (.int .u8 t342)) (fun _ hk => hk.2) (.int .u32 t343)) (fun _ hk => hk.2) (.slice Ao78 t344.length co78)) (fun _ hk => hk.2) (.slice Ao79 t347.length co79)) (fun _ h_ => h_.1)))); (case side2 => exact (R_reads' HO346.out).2.1); (case side3 => refine (R_reads' (e := 5) (base := w.heap.size) (ok := fun k_ => ((((((((((some k_ ≠ (.slice Ao78 t344.length co78 : Value).ownBlock ∧ some k_ ≠ (v351 : Value).ownBlock) ∧ some k_ ≠ (.slice Ao59 t300.length co59 : Value).ownBlock) ∧ some k_ ≠ (.slice Ao55 t306.length co55 : Value).ownBlock) ∧ some k_ ≠ (.slice Ao56 t309.length co56 : Value).ownBlock) ∧ some k_ ≠ (.slice Ao60 t312.length co60 : Value).ownBlock) ∧ some k_ ≠ (.slice Ao64 t320.length co64 : Value).ownBlock) ∧ some k_ ≠ (.slice Ao65 t323.length co65 : Value).ownBlock) ∧ some k_ ≠ (.slice Ao66 t328.length co66 : Value).ownBlock) ∧ some k_ ≠ (.slice Ao67 t331.length co67 : Value).ownBlock) ∧ some k_ ≠ (.slice Ao72 y339.length co72 : Value).ownBlock)) (n := t347.length) (c := co79) ?_).2.2; exact (by (with_reducible repeat (first | apply R_alloc | apply R_drewN | apply R_drew)); exact (R_mono (R_far (p := ⟨gb354, 3, none⟩) (R_far (p := ⟨gb354, 2, none⟩) (R_far (p := ⟨gb354, 1, none⟩) (R_far (p := ⟨gb354, 0, none⟩) (R_types HO349.out BK354.out (by decide)) (fun _ hk => hk.2) (.int .u8 t342)) (fun _ hk => hk.2) (.int .u32 t343)) (fun _ hk => hk.2) (.slice Ao78 t344.length co78)) (fun _ hk => hk.2) (.slice Ao79 t347.length co79)) (fun _ h_ => h_.1)))); (case side4 => exact (R_reads' HO349.out).2.1); (case side5 => exact C_below HR0_2.out (by repeat (first | (with_reducible first | exact HB.out | apply below_alloc | apply pw_below_drewN | apply below_drew1 | refine below_set ?_ GE297.out | refine below_set ?_ GE298.out | refine below_set ?_ GE354.out) | exact HB.out))); (case side6 => exact HC0_2.out); (case side7 => exact C_below HR0_3.out (by repeat (first | (with_reducible first | exact HB.out | apply below_alloc | apply pw_below_drewN | apply below_drew1 | refine below_set ?_ GE297.out | refine below_set ?_ GE298.out | refine below_set ?_ GE354.out) | exact HB.out))); (case side8 => exact HC0_3.out); rintro e w81 ⟨rfl, hb⟩; have n0_ := Aside0.mk (R_below (by (with_reducible repeat (first | apply R_alloc | apply R_drewN | apply R_drew)); exact (R_mono (R_far (p := ⟨gb354, 3, none⟩) (R_far (p := ⟨gb354, 2, none⟩) (R_far (p := ⟨gb354, 1, none⟩) (R_far (p := ⟨gb354, 0, none⟩) (R_types HO302.out BK354.out (by decide)) (fun _ hk => hk.2) (.int .u8 t342)) (fun _ hk => hk.2) (.int .u32 t343)) (fun _ hk => hk.2) (.slice Ao78 t344.length co78)) (fun _ hk => hk.2) (.slice Ao79 t347.length co79)) (fun _ h_ => h_.1))) hb); have n1_ := Aside0.mk (R_below (by (with_reducible repeat (first | apply R_alloc | apply R_drewN | apply R_drew)); exact (R_mono (R_far (p := ⟨gb354, 3, none⟩) (R_far (p := ⟨gb354, 2, none⟩) (R_far (p := ⟨gb354, 1, none⟩) (R_far (p := ⟨gb354, 0, none⟩) (R_types HO308.out BK354.out (by decide)) (fun _ hk => hk.2) (.int .u8 t342)) (fun _ hk => hk.2) (.int .u32 t343)) (fun _ hk => hk.2) (.slice Ao78 t344.length co78)) (fun _ hk => hk.2) (.slice Ao79 t347.length co79)) (fun _ h_ => h_.1))) hb); have n2_ := Aside0.mk (R_below (by (with_reducible repeat (first | apply R_alloc | apply R_drewN | apply R_drew)); exact (R_mono (R_far (p := ⟨gb354, 3, none⟩) (R_far (p := ⟨gb354, 2, none⟩) (R_far (p := ⟨gb354, 1, none⟩) (R_far (p := ⟨gb354, 0, none⟩) (R_types HO311.out BK354.out (by decide)) (fun _ hk => hk.2) (.int .u8 t342)) (fun _ hk => hk.2) (.int .u32 t343)) (fun _ hk => hk.2) (.slice Ao78 t344.length co78)) (fun _ hk => hk.2) (.slice Ao79 t347.length co79)) (fun _ h_ => h_.1))) hb); have n3_ := Aside0.mk (R_below (by (with_reducible repeat (first | apply R_alloc | apply R_drewN | apply R_drew)); exact (R_mono (R_far (p := ⟨gb354, 3, none⟩) (R_far (p := ⟨gb354, 2, none⟩) (R_far (p := ⟨gb354, 1, none⟩) (R_far (p := ⟨gb354, 0, none⟩) (R_types HO314.out BK354.out (by decide)) (fun _ hk => hk.2) (.int .u8 t342)) (fun _ hk => hk.2) (.int .u32 t343)) (fun _ hk => hk.2) (.slice Ao78 t344.length co78)) (fun _ hk => hk.2) (.slice Ao79 t347.length co79)) (fun _ h_ => h_.1))) hb); have n4_ := Aside0.mk (R_below (by (with_reducible repeat (first | apply R_alloc | apply R_drewN | apply R_drew)); exact (R_mono (R_far (p := ⟨gb354, 3, none⟩) (R_far (p := ⟨gb354, 2, none⟩) (R_far (p := ⟨gb354, 1, none⟩) (R_far (p := ⟨gb354, 0, none⟩) (R_types HO322.out BK354.out (by decide)) (fun _ hk => hk.2) (.int .u8 t342)) (fun _ hk => hk.2) (.int .u32 t343)) (fun _ hk => hk.2) (.slice Ao78 t344.length co78)) (fun _ hk => hk.2) (.slice Ao79 t347.length co79)) (fun _ h_ => h_.1))) hb); have n5_ := Aside0.mk (R_below (by (with_reducible repeat (first | apply R_alloc | apply R_drewN | apply R_drew)); exact (R_mono (R_far (p := ⟨gb354, 3, none⟩) (R_far (p := ⟨gb354, 2, none⟩) (R_far (p := ⟨gb354, 1, none⟩) (R_far (p := ⟨gb354, 0, none⟩) (R_types HO325.out BK354.out (by decide)) (fun _ hk => hk.2) (.int .u8 t342)) (fun _ hk => hk.2) (.int .u32 t343)) (fun _ hk => hk.2) (.slice Ao78 t344.length co78)) (fun _ hk => hk.2) (.slice Ao79 t347.length co79)) (fun _ h_ => h_.1))) hb); have n6_ := Aside0.mk (R_below (by (with_reducible repeat (first | apply R_alloc | apply R_drewN | apply R_drew)); exact (R_mono (R_far (p := ⟨gb354, 3, none⟩) (R_far (p := ⟨gb354, 2, none⟩) (R_far (p := ⟨gb354, 1, none⟩) (R_far (p := ⟨gb354, 0, none⟩) (R_types HO330.out BK354.out (by decide)) (fun _ hk => hk.2) (.int .u8 t342)) (fun _ hk => hk.2) (.int .u32 t343)) (fun _ hk => hk.2) (.slice Ao78 t344.length co78)) (fun _ hk => hk.2) (.slice Ao79 t347.length co79)) (fun _ h_ => h_.1))) hb); have n7_ := Aside0.mk (R_below (by (with_reducible repeat (first | apply R_alloc | apply R_drewN | apply R_drew)); exact (R_mono (R_far (p := ⟨gb354, 3, none⟩) (R_far (p := ⟨gb354, 2, none⟩) (R_far (p := ⟨gb354, 1, none⟩) (R_far (p := ⟨gb354, 0, none⟩) (R_types HO333.out BK354.out (by decide)) (fun _ hk => hk.2) (.int .u8 t342)) (fun _ hk => hk.2) (.int .u32 t343)) (fun _ hk => hk.2) (.slice Ao78 t344.length co78)) (fun _ hk => hk.2) (.slice Ao79 t347.length co79)) (fun _ h_ => h_.1))) hb); have n8_ := Aside0.mk (R_below (by (with_reducible repeat (first | apply R_alloc | apply R_drewN | apply R_drew)); exact (R_mono (R_far (p := ⟨gb354, 3, none⟩) (R_far (p := ⟨gb354, 2, none⟩) (R_far (p := ⟨gb354, 1, none⟩) (R_far (p := ⟨gb354, 0, none⟩) (R_types HO341.out BK354.out (by decide)) (fun _ hk => hk.2) (.int .u8 t342)) (fun _ hk => hk.2) (.int .u32 t343)) (fun _ hk => hk.2) (.slice Ao78 t344.length co78)) (fun _ hk => hk.2) (.slice Ao79 t347.length co79)) (fun _ h_ => h_.1))) hb); have n9_ := Aside0.mk (R_below (by (with_reducible repeat (first | apply R_alloc | apply R_drewN | apply R_drew)); exact (R_mono (R_far (p := ⟨gb354, 3, none⟩) (R_far (p := ⟨gb354, 2, none⟩) (R_far (p := ⟨gb354, 1, none⟩) (R_far (p := ⟨gb354, 0, none⟩) (R_types HO346.out BK354.out (by decide)) (fun _ hk => hk.2) (.int .u8 t342)) (fun _ hk => hk.2) (.int .u32 t343)) (fun _ hk => hk.2) (.slice Ao78 t344.length co78)) (fun _ hk => hk.2) (.slice Ao79 t347.length co79)) (fun _ h_ => h_.1))) hb); have n10_ := Aside0.mk (R_below (by (with_reducible repeat (first | apply R_alloc | apply R_drewN | apply R_drew)); exact (R_mono (R_far (p := ⟨gb354, 3, none⟩) (R_far (p := ⟨gb354, 2, none⟩) (R_far (p := ⟨gb354, 1, none⟩) (R_far (p := ⟨gb354, 0, none⟩) (R_types HO349.out BK354.out (by decide)) (fun _ hk => hk.2) (.int .u8 t342)) (fun _ hk => hk.2) (.int .u32 t343)) (fun _ hk => hk.2) (.slice Ao78 t344.length co78)) (fun _ hk => hk.2) (.slice Ao79 t347.length co79)) (fun _ h_ => h_.1))) hb); have n11_ := Aside0.mk (R_below (by (with_reducible repeat (first | apply R_alloc | apply R_drewN | apply R_drew)); exact (R_mono (R_far (p := ⟨gb354, 3, none⟩) (R_far (p := ⟨gb354, 2, none⟩) (R_far (p := ⟨gb354, 1, none⟩) (R_far (p := ⟨gb354, 0, none⟩) (R_types HO352.out BK354.out (by decide)) (fun _ hk => hk.2) (.int .u8 t342)) (fun _ hk => hk.2) (.int .u32 t343)) (fun _ hk => hk.2) (.slice Ao78 t344.length co78)) (fun _ hk => hk.2) (.slice Ao79 t347.length co79)) (fun _ h_ => h_.1))) hb); have n12_ := Aside0.mk (blk_below (g := gb297) (o := .cells #[.int .u8 a0_0, .int .u32 a0_1, .slice A0_2 l0_2.length c0_2, .slice A0_3 l0_3.length c0_3] 27 (0, 0)) (by (with_reducible repeat (first | refine blk_drewN ?_ _ | refine blk_drew ?_ | refine blk_alloc ?_ _)); refine blk_far ?_ NB297_354.out _; (with_reducible repeat (first | refine blk_drewN ?_ _ | refine blk_drew ?_ | refine blk_alloc ?_ _)); refine blk_far ?_ NB297_354.out _; (with_reducible repeat (first | refine blk_drewN ?_ _ | refine blk_drew ?_ | refine blk_alloc ?_ _)); refine blk_far ?_ NB297_354.out _; (with_reducible repeat (first | refine blk_drewN ?_ _ | refine blk_drew ?_ | refine blk_alloc ?_ _)); refine blk_far ?_ NB297_354.out _; (with_reducible repeat (first | refine blk_drewN ?_ _ | refine blk_drew ?_ | refine blk_alloc ?_ _)); exact BK297.out) hb); have n13_ := Aside0.mk (blk_below (g := gb298) (o := .cells #[.int .u8 a1_0, .int .u32 a1_1, .slice A1_2 l1_2.length c1_2, .slice A1_3 l1_3.length c1_3] 27 (0, 0)) (by (with_reducible repeat (first | refine blk_drewN ?_ _ | refine blk_drew ?_ | refine blk_alloc ?_ _)); refine blk_far ?_ NB298_354.out _; (with_reducible repeat (first | refine blk_drewN ?_ _ | refine blk_drew ?_ | refine blk_alloc ?_ _)); refine blk_far ?_ NB298_354.out _; (with_reducible repeat (first | refine blk_drewN ?_ _ | refine blk_drew ?_ | refine blk_alloc ?_ _)); refine blk_far ?_ NB298_354.out _; (with_reducible repeat (first | refine blk_drewN ?_ _ | refine blk_drew ?_ | refine blk_alloc ?_ _)); refine blk_far ?_ NB298_354.out _; (with_reducible repeat (first | refine blk_drewN ?_ _ | refine blk_drew ?_ | refine blk_alloc ?_ _)); exact BK298.out) hb); have n14_ := Aside0.mk (blk_below (g := gb354) (o := .cells #[.int .u8 t342, .int .u32 t343, .slice Ao78 t344.length co78, .slice Ao79 t347.length co79] 27 (0, 0)) (by (with_reducible repeat (first | refine blk_drewN ?_ _ | refine blk_drew ?_ | refine blk_alloc ?_ _)); refine blk_put (cs := #[.int .u8 t342, .int .u32 t343, .slice Ao78 t344.length co78, .slice none 0 0]) ?_ 3 _ rfl; (with_reducible repeat (first | refine blk_drewN ?_ _ | refine blk_drew ?_ | refine blk_alloc ?_ _)); refine blk_put (cs := #[.int .u8 t342, .int .u32 t343, .slice none 0 0, .slice none 0 0]) ?_ 2 _ rfl; (with_reducible repeat (first | refine blk_drewN ?_ _ | refine blk_drew ?_ | refine blk_alloc ?_ _)); refine blk_put (cs := #[.int .u8 t342, .int .u32 0, .slice none 0 0, .slice none 0 0]) ?_ 1 _ rfl; (with_reducible repeat (first | refine blk_drewN ?_ _ | refine blk_drew ?_ | refine blk_alloc ?_ _)); refine blk_put (cs := #[.int .u8 0, .int .u32 0, .slice none 0 0, .slice none 0 0]) ?_ 0 _ rfl; (with_reducible repeat (first | refine blk_drewN ?_ _ | refine blk_drew ?_ | refine blk_alloc ?_ _)); exact BK354.out) hb); have n15_ := Aside0.mk (below_step (by repeat (first | (with_reducible first | exact HB.out | apply below_alloc | apply pw_below_drewN | apply below_drew1 | refine below_set ?_ GE297.out | refine below_set ?_ GE298.out | refine below_set ?_ GE354.out) | exact HB.out)) hb); clear HO302 HO308 HO311 HO314 HO322 HO325 HO330 HO333 HO341 HO346 HO349 HO352 BK297 BK298 BK354 HB; have HO302 := n0_; have HO308 := n1_; have HO311 := n2_; have HO314 := n3_; have HO322 := n4_; have HO325 := n5_; have HO330 := n6_; have HO333 := n7_; have HO341 := n8_; have HO346 := n9_; have HO349 := n10_; have HO352 := n11_; have BK297 := n12_; have BK298 := n13_; have BK354 := n14_; have HB := n15_; clear n0_ n1_ n2_ n3_ n4_ n5_ n6_ n7_ n8_ n9_ n10_ n11_ n12_ n13_ n14_ n15_; (try clear hb); (try clear hb2); (try clear hk); (try clear hi); obtain ⟨Ao82, co82, eo82⟩ := R_slice HO352.out; subst eo82) | (go_at_call 13; (with_reducible refine (crosswayref00_SameBytes.calls kj5 _ _ t350 _ _ l2 true _ ?side1 ?side2 ?side3 ?side4 A48.out).mono ?_); (case side1 => repeat (first | exact (R_reads' HO352.out).2.2 | (with_reducible refine C_alloc ?_ _) | (with_reducible refine C_drewN ?_ _) | (with_reducible refine C_drew ?_))); (case side2 => exact (R_reads' HO352.out).2.1); (case side3 => repeat (first | exact (C_below HR2.out HB.out) | (with_reducible refine C_alloc ?_ _) | (with_reducible refine C_drewN ?_ _) | (with_reducible refine C_drew ?_))); (case side4 => exact HC2.out); rintro e w' ⟨rfl, ⟨nd, rfl⟩⟩))
              go_loopg [14] kj5 (fun kq v14 w' => ∃ (x14_2 : Int), v14 = .int .i64 x14_2 ∧ Aside0 (crosswaylaw10_HeadWrites.l0 kq t300 x14_2 a0_0 a0_1 l0_2 l0_3 = some r) ∧ Aside0 (kq ≤ kj5) ∧ Aside0 (Kd.R (Kd.int .u8) 5 w' w.heap.size (fun k_ => some k_ ≠ ((.slice Ao78 t344.length co78) : Value).ownBlock ∧ some k_ ≠ ((.slice Ao79 t347.length co79) : Value).ownBlock) (.slice Ao59 t300.length co59) t300) ∧ Aside0 (Kd.R (Kd.int .u8) 5 w' w.heap.size (fun k_ => some k_ ≠ ((.slice Ao59 t300.length co59) : Value).ownBlock ∧ some k_ ≠ ((.slice Ao79 t347.length co79) : Value).ownBlock) (.slice Ao78 t344.length co78) t344) ∧ Aside0 (Kd.R (Kd.int .u8) 5 w' w.heap.size (fun k_ => some k_ ≠ ((.slice Ao59 t300.length co59) : Value).ownBlock ∧ some k_ ≠ ((.slice Ao78 t344.length co78) : Value).ownBlock) (.slice Ao79 t347.length co79) t347) ∧ Aside0 (w'.heap[gb297]? = some (.cells #[.int .u8 a0_0, .int .u32 a0_1, (.slice A0_2 l0_2.length c0_2), (.slice A0_3 l0_3.length c0_3)] 27 (0, 0))) ∧ Aside0 (w'.heap[gb298]? = some (.cells #[.int .u8 a1_0, .int .u32 a1_1, (.slice A1_2 l1_2.length c1_2), (.slice A1_3 l1_3.length c1_3)] 27 (0, 0))) ∧ Aside0 (w'.heap[gb354]? = some (.cells #[.int .u8 t342, .int .u32 t343, (.slice Ao78 t344.length co78), (.slice Ao79 t347.length co79)] 27 (0, 0))) ∧ Aside0 (Below w.heap.size w w'))
              case atStart => exact ⟨(0), (by first | rfl | (simp; done) | (simp [*]; done) | (simp only [i64_w]; done) | (simp [i64_w]; done)), H', ⟨Nat.le_refl _⟩, ⟨by (with_reducible repeat (first | apply R_alloc | apply R_drewN | apply R_drew)); exact R_mono HO302.out (fun _ hk => ⟨hk.1.1.2, hk.1.2⟩)⟩, ⟨by (with_reducible repeat (first | apply R_alloc | apply R_drewN | apply R_drew)); exact R_mono HO346.out (fun _ hk => ⟨hk.1.1.1.1.1.1.1.1.2, hk.1.1.1.1.1.1.1.1.1.1⟩)⟩, ⟨by (with_reducible repeat (first | apply R_alloc | apply R_drewN | apply R_drew)); exact R_mono HO349.out (fun _ hk => ⟨hk.1.1.1.1.1.1.1.1.2, hk.1.1.1.1.1.1.1.1.1.1⟩)⟩, ⟨by (with_reducible repeat (first | refine blk_drewN ?_ _ | refine blk_drew ?_ | refine blk_alloc ?_ _)); exact BK297.out⟩, ⟨by (with_reducible repeat (first | refine blk_drewN ?_ _ | refine blk_drew ?_ | refine blk_alloc ?_ _)); exact BK298.out⟩, ⟨by (with_reducible repeat (first | refine blk_drewN ?_ _ | refine blk_drew ?_ | refine blk_alloc ?_ _)); exact BK354.out⟩, ⟨by repeat (first | (with_reducible first | exact HB.out | apply below_alloc | apply pw_below_drewN | apply below_drew1 | refine below_set ?_ GE297.out | refine below_set ?_ GE298.out | refine below_set ?_ GE354.out) | exact HB.out)⟩⟩
              case round =>
               clear H'
               try clear c1; try clear p2; try clear c3; try clear c4; try clear c5; try clear c7; try clear c8; try clear c9; try clear c11; try clear c12; try clear c13; try clear c16; try clear c17; try clear c18; try clear c31; try clear c31b0; try clear c31b1; try clear c33; try clear c38; try clear c38b0; try clear c38b1; try clear c38b2; try clear c40; try clear c41; try clear c41b0; try clear c41b1; try clear c43; try clear c45; try clear c45b0; try clear c45b1; try clear c47; try clear c49; try clear c50; try clear c75; try clear c76; try clear hcz51_0; try clear hcz51_1; try clear hcz51_2; try clear hcz51_3; try clear hcz53_0; try clear hcz53_1; try clear hcz53_2; try clear hcz53_3; try clear hcz77_0; try clear hcz77_1; try clear hcz77_2; try clear hcz77_3; try clear hcz80_0; try clear hcz80_1; try clear hcz80_2; try clear hcz80_3; try clear hfz51_0; try clear hfz51_1; try clear hfz51_2; try clear hfz51_3; try clear hfz53_0; try clear hfz53_1; try clear hfz53_2; try clear hfz53_3; try clear hfz77_0; try clear hfz77_1; try clear hfz77_2; try clear hfz77_3; try clear hfz80_0; try clear hfz80_1; try clear hfz80_2; try clear hfz80_3
               obtain ⟨x14_2, rfl, HA, HK2, HO_7, HO_355002, HO_355003, BK297, BK298, BK354, HB⟩ := hrel
               cases gk with
               | zero => exact absurd HA.out (by simp [crosswaylaw10_HeadWrites.l0])
               | succ k2 =>
                have H := HA.out
                clear HA
                simp only [crosswaylaw10_HeadWrites.l0] at H
                by_cases c83 : x14_2 < (t300.length : Int)
                ·rw [if_pos c83] at H
                 have c83b0 : decide (x14_2 < (t300.length : Int)) = true := decide_eq_true c83
                 clear c83
                 by_cases c84 : 0 ≤ x14_2
                 ·rw [if_pos c84] at H
                  have c84b0 := eq_true c84
                  have c84b1 : decide (0 ≤ x14_2) = true := decide_eq_true c84
                  clear c84
                  by_cases c85 : x14_2 ≤ (t300.length : Int)
                  ·rw [if_pos c85] at H
                   have c85b0 := eq_true c85
                   have c85b1 : decide (x14_2 ≤ (t300.length : Int)) = true := decide_eq_true c85
                   clear c85
                   obtain ⟨y357, hy357⟩ : ∃ y_ : List Int, y_ = (t300.take (x14_2 : Int).toNat) := ⟨_, rfl⟩
                   replace H : ((head_Parse.f k2 y357).bind fun bt361 => (if bt361.2.2.2.2.2 = 12 then (crosswaylaw10_HeadWrites.l0 k2 t300 (wrap64 (x14_2 + 1)) a0_0 a0_1 l0_2 l0_3) else (none))) = some r := by first | (rw [hy357]; with_reducible exact H) | (have H2_ := (Option.bind_some _ _).symm.trans H; rw [hy357]; with_reducible exact H2_) | (have H2_ := (Option.bind_some _ _).symm.trans H; with_reducible exact H2_) | with_reducible exact H | (rw [hy357]; exact H) | exact H
                   have Ny357 := Aside0.mk hy357
                   clear hy357
                   replace H := Option.bind_eq_some_iff.mp H
                   obtain ⟨⟨t361, t362, t363, t366, t369, t372⟩, A860, H⟩ := H
                   try dsimp only at H
                   have A86 := Aside0.mk A860
                   clear A860
                   by_cases c87 : t372 = 12
                   ·rw [if_pos c87] at H
                    have c87b0 : (t372 == 12) = true := beq_iff_eq.mpr c87
                    have c87b1 : (t372 != 12) = false := bne_eq_false_iff_eq.mpr c87
                    clear c87
                    have H' := Aside0.mk H
                    clear H
                    have q88 : (x14_2 : Int) ≤ ((t300.length : Int) : Int) := of_decide_eq_true (by first | (with_reducible assumption) | assumption)
                    obtain ⟨i088, hi088, _, hsz88, _⟩ := info_parts info5
                    have hroom88 : t300.length ≤ co59 := (R_reads' HO_7.out).2.1
                    have hC88 : Kd.C (Kd.int .u8) _ Ao59 t300.length t300 := (R_reads' HO_7.out).2.2
                    have hcut88 := cut_to (P := Try.prog) 22 5 .i64 Try.underlying22 hi088 Ao59 t300.length co59 x14_2 (of_decide_eq_true (by first | (with_reducible assumption) | assumption)) q88 hroom88
                    have hr88 := C_take (m := (x14_2 : Int).toNat) hC88 (by omega)
                    have hy88 : y357.length = (x14_2 : Int).toNat := (by rw [Ny357.out, List.length_take]; omega)
                    rw [← Ny357.out] at hr88
                    rw [← hy88] at hcut88
                    have HR360 := Aside0.mk hr88
                    have HC360 := Aside0.mk (show y357.length ≤ co59 from by omega)
                    clear hr88 hC88 hroom88 hi088 hsz88
                    have KY88 := Aside0.mk hy88
                    clear hy88
                    have KL88 := Aside0.mk (show (x14_2 : Int).toNat ≤ t300.length from by omega)
                    replace q88 := eq_true q88
                    go_wp2_with (first | ((with_reducible refine gate_callee (f := 9) rfl ?_); refine goesL_ (some 124) rfl rfl Try.func9 (by kernel_rfl) rfl #[.slice Ao59 y357.length co59] rfl (by (try simp only [List.map_toArray, List.map_cons, List.map_nil]); first | done | rfl | (simp only [List.length_drop, List.length_take]; rfl)) ?_; (with_reducible refine (head_Parse.calls k2 _ _ y357 t361 t362 t363 t366 t369 t372 _ ?side1 ?side2 A86.out).mono ?_); (case side1 => repeat (first | exact (by repeat (first | (with_reducible exact HR360.out) | (with_reducible refine C_alloc ?_ _) | (with_reducible refine C_drewN ?_ _) | (with_reducible refine C_drew ?_) | exact HR360.out)) | (with_reducible refine C_alloc ?_ _) | (with_reducible refine C_drewN ?_ _) | (with_reducible refine C_drew ?_))); (case side2 => exact HC360.out); rintro e w89 ⟨v364, v367, v370, rfl, ho0, ho1, ho2, hb⟩; refine ⟨_, rfl, ?_⟩; have n0_ := Aside0.mk (R_mono (R_told (R_told (R_told (R_old (by (with_reducible repeat (first | apply R_alloc | apply R_drewN | apply R_drew)); exact HO_7.out) hb) (R_base ho0)) (R_base ho1)) (R_base ho2)) (fun _ h_ => h_.1)); have n1_ := Aside0.mk (R_mono (R_told (R_told (R_told (R_old (by (with_reducible repeat (first | apply R_alloc | apply R_drewN | apply R_drew)); exact HO_355002.out) hb) (R_base ho0)) (R_base ho1)) (R_base ho2)) (fun _ h_ => h_.1)); have n2_ := Aside0.mk (R_mono (R_told (R_told (R_told (R_old (by (with_reducible repeat (first | apply R_alloc | apply R_drewN | apply R_drew)); exact HO_355003.out) hb) (R_base ho0)) (R_base ho1)) (R_base ho2)) (fun _ h_ => h_.1)); have n3_ := Aside0.mk (R_lower (R_new' (R_new' (R_new' ho0 (R_lt (by (with_reducible repeat (first | apply R_alloc | apply R_drewN | apply R_drew)); exact HO_7.out))) (R_lt (by (with_reducible repeat (first | apply R_alloc | apply R_drewN | apply R_drew)); exact HO_355002.out))) (R_lt (by (with_reducible repeat (first | apply R_alloc | apply R_drewN | apply R_drew)); exact HO_355003.out))) (below_size (by repeat (first | (with_reducible first | exact HB.out | apply below_alloc | apply pw_below_drewN | apply below_drew1 | refine below_set ?_ GE297.out | refine below_set ?_ GE298.out | refine below_set ?_ GE354.out) | exact HB.out)))); have n4_ := Aside0.mk (R_lower (R_new' (R_new' (R_new' ho1 (R_lt (by (with_reducible repeat (first | apply R_alloc | apply R_drewN | apply R_drew)); exact HO_7.out))) (R_lt (by (with_reducible repeat (first | apply R_alloc | apply R_drewN | apply R_drew)); exact HO_355002.out))) (R_lt (by (with_reducible repeat (first | apply R_alloc | apply R_drewN | apply R_drew)); exact HO_355003.out))) (below_size (by repeat (first | (with_reducible first | exact HB.out | apply below_alloc | apply pw_below_drewN | apply below_drew1 | refine below_set ?_ GE297.out | refine below_set ?_ GE298.out | refine below_set ?_ GE354.out) | exact HB.out)))); have n5_ := Aside0.mk trivial; have n6_ := Aside0.mk (blk_below (g := gb297) (o := .cells #[.int .u8 a0_0, .int .u32 a0_1, .slice A0_2 l0_2.length c0_2, .slice A0_3 l0_3.length c0_3] 27 (0, 0)) (by (with_reducible repeat (first | refine blk_drewN ?_ _ | refine blk_drew ?_ | refine blk_alloc ?_ _)); exact BK297.out) hb); have n7_ := Aside0.mk (blk_below (g := gb298) (o := .cells #[.int .u8 a1_0, .int .u32 a1_1, .slice A1_2 l1_2.length c1_2, .slice A1_3 l1_3.length c1_3] 27 (0, 0)) (by (with_reducible repeat (first | refine blk_drewN ?_ _ | refine blk_drew ?_ | refine blk_alloc ?_ _)); exact BK298.out) hb); have n8_ := Aside0.mk (blk_below (g := gb354) (o := .cells #[.int .u8 t342, .int .u32 t343, .slice Ao78 t344.length co78, .slice Ao79 t347.length co79] 27 (0, 0)) (by (with_reducible repeat (first | refine blk_drewN ?_ _ | refine blk_drew ?_ | refine blk_alloc ?_ _)); exact BK354.out) hb); have n10_ := Aside0.mk (below_step (by repeat (first | (with_reducible first | exact HB.out | apply below_alloc | apply pw_below_drewN | apply below_drew1 | refine below_set ?_ GE297.out | refine below_set ?_ GE298.out | refine below_set ?_ GE354.out) | exact HB.out)) hb); clear HO_7 HO_355002 HO_355003 BK297 BK298 BK354 HB; have HO_7 := n0_; have HO_355002 := n1_; have HO_355003 := n2_; have HO365 := n3_; have HO368 := n4_; have HO371 := n5_; have BK297 := n6_; have BK298 := n7_; have BK354 := n8_; have HB := n10_; clear n0_ n1_ n2_ n3_ n4_ n5_ n6_ n7_ n8_ n10_; (try clear hb); (try clear hb2); (try clear hk); (try clear hi); (try clear ho0); (try clear ho1); (try clear ho2)) | ((with_reducible refine gate_dst (N := 15) rfl ?_); (try (refine gate_guard (by rfl) ?_; dsimp only)); refine box_event ?hg (N := 15) ?hd (cs := #[.int .u8 0, .int .u32 0, .slice none 0 0, .slice none 0 0]) (t := 27) ?hr ?_; (case hd => rfl); (case hg => rfl); (case hr => first | (go_simp; done) | (go_simp; rfl)); intro gb373 hg w90 hbox hb; have n0_ := Aside0.mk (R_below (by (with_reducible repeat (first | apply R_alloc | apply R_drewN | apply R_drew)); exact HO_7.out) hb); have n1_ := Aside0.mk (R_below (by (with_reducible repeat (first | apply R_alloc | apply R_drewN | apply R_drew)); exact HO_355002.out) hb); have n2_ := Aside0.mk (R_below (by (with_reducible repeat (first | apply R_alloc | apply R_drewN | apply R_drew)); exact HO_355003.out) hb); have n3_ := Aside0.mk (R_below (by (with_reducible repeat (first | apply R_alloc | apply R_drewN | apply R_drew)); exact HO365.out) hb); have n4_ := Aside0.mk (R_below (by (with_reducible repeat (first | apply R_alloc | apply R_drewN | apply R_drew)); exact HO368.out) hb); have n6_ := Aside0.mk (blk_below (g := gb297) (o := .cells #[.int .u8 a0_0, .int .u32 a0_1, .slice A0_2 l0_2.length c0_2, .slice A0_3 l0_3.length c0_3] 27 (0, 0)) (by (with_reducible repeat (first | refine blk_drewN ?_ _ | refine blk_drew ?_ | refine blk_alloc ?_ _)); exact BK297.out) hb); have n7_ := Aside0.mk (blk_below (g := gb298) (o := .cells #[.int .u8 a1_0, .int .u32 a1_1, .slice A1_2 l1_2.length c1_2, .slice A1_3 l1_3.length c1_3] 27 (0, 0)) (by (with_reducible repeat (first | refine blk_drewN ?_ _ | refine blk_drew ?_ | refine blk_alloc ?_ _)); exact BK298.out) hb); have n8_ := Aside0.mk (blk_below (g := gb354) (o := .cells #[.int .u8 t342, .int .u32 t343, .slice Ao78 t344.length co78, .slice Ao79 t347.length co79] 27 (0, 0)) (by (with_reducible repeat (first | refine blk_drewN ?_ _ | refine blk_drew ?_ | refine blk_alloc ?_ _)); exact BK354.out) hb); have n10_ := Aside0.mk (below_step (by repeat (first | (with_reducible first | exact HB.out | apply below_alloc | apply pw_below_drewN | apply below_drew1 | refine below_set ?_ GE297.out | refine below_set ?_ GE298.out | refine below_set ?_ GE354.out) | exact HB.out)) hb); have n11_ := Aside0.mk (hbox); have n12_ := Aside0.mk trivial; have n13_ := Aside0.mk ((by rw [hg]; exact (below_size (by repeat (first | (with_reducible first | exact HB.out | apply below_alloc | apply pw_below_drewN | apply below_drew1 | refine below_set ?_ GE297.out | refine below_set ?_ GE298.out | refine below_set ?_ GE354.out) | exact HB.out))) : w.heap.size ≤ gb373)); have n14_ := Aside0.mk ((by rw [hg]; exact Nat.ne_of_lt (blk_lt (g := gb297) (o := .cells #[.int .u8 a0_0, .int .u32 a0_1, .slice A0_2 l0_2.length c0_2, .slice A0_3 l0_3.length c0_3] 27 (0, 0)) (by (with_reducible repeat (first | refine blk_drewN ?_ _ | refine blk_drew ?_ | refine blk_alloc ?_ _)); exact BK297.out)) : gb297 ≠ gb373)); have n15_ := Aside0.mk ((by rw [hg]; exact Nat.ne_of_gt (blk_lt (g := gb297) (o := .cells #[.int .u8 a0_0, .int .u32 a0_1, .slice A0_2 l0_2.length c0_2, .slice A0_3 l0_3.length c0_3] 27 (0, 0)) (by (with_reducible repeat (first | refine blk_drewN ?_ _ | refine blk_drew ?_ | refine blk_alloc ?_ _)); exact BK297.out)) : gb373 ≠ gb297)); have n16_ := Aside0.mk ((by rw [hg]; exact Nat.ne_of_lt (blk_lt (g := gb298) (o := .cells #[.int .u8 a1_0, .int .u32 a1_1, .slice A1_2 l1_2.length c1_2, .slice A1_3 l1_3.length c1_3] 27 (0, 0)) (by (with_reducible repeat (first | refine blk_drewN ?_ _ | refine blk_drew ?_ | refine blk_alloc ?_ _)); exact BK298.out)) : gb298 ≠ gb373)); have n17_ := Aside0.mk ((by rw [hg]; exact Nat.ne_of_gt (blk_lt (g := gb298) (o := .cells #[.int .u8 a1_0, .int .u32 a1_1, .slice A1_2 l1_2.length c1_2, .slice A1_3 l1_3.length c1_3] 27 (0, 0)) (by (with_reducible repeat (first | refine blk_drewN ?_ _ | refine blk_drew ?_ | refine blk_alloc ?_ _)); exact BK298.out)) : gb373 ≠ gb298)); have n18_ := Aside0.mk ((by rw [hg]; exact Nat.ne_of_lt (blk_lt (g := gb354) (o := .cells #[.int .u8 t342, .int .u32 t343, .slice Ao78 t344.length co78, .slice Ao79 t347.length co79] 27 (0, 0)) (by (with_reducible repeat (first | refine blk_drewN ?_ _ | refine blk_drew ?_ | refine blk_alloc ?_ _)); exact BK354.out)) : gb354 ≠ gb373)); have n19_ := Aside0.mk ((by rw [hg]; exact Nat.ne_of_gt (blk_lt (g := gb354) (o := .cells #[.int .u8 t342, .int .u32 t343, .slice Ao78 t344.length co78, .slice Ao79 t347.length co79] 27 (0, 0)) (by (with_reducible repeat (first | refine blk_drewN ?_ _ | refine blk_drew ?_ | refine blk_alloc ?_ _)); exact BK354.out)) : gb373 ≠ gb354)); clear HO_7 HO_355002 HO_355003 HO365 HO368 BK297 BK298 BK354 HB; have HO_7 := n0_; have HO_355002 := n1_; have HO_355003 := n2_; have HO365 := n3_; have HO368 := n4_; have BK297 := n6_; have BK298 := n7_; have BK354 := n8_; have HB := n10_; have BK373 := n11_; have GW373 := n12_; have GE373 := n13_; have NB297_373 := n14_; have NB373_297 := n15_; have NB298_373 := n16_; have NB373_298 := n17_; have NB354_373 := n18_; have NB373_354 := n19_; clear n0_ n1_ n2_ n3_ n4_ n6_ n7_ n8_ n10_ n11_ n12_ n13_ n14_ n15_ n16_ n17_ n18_ n19_; clear hb hbox hg; have hnb91 := NB373_297.out; have hnc91 := NB297_373.out; have hnb92 := NB373_298.out; have hnc92 := NB298_373.out; have hnb93 := NB373_354.out; have hnc93 := NB354_373.out; have hcz94_0 : w90.cell? ⟨gb373, 0, none⟩ = some (.int .u8 0) := (blk_cell BK373.out 0).trans rfl; have hcz94_1 : w90.cell? ⟨gb373, 1, none⟩ = some (.int .u32 0) := (blk_cell BK373.out 1).trans rfl; have hcz94_2 : w90.cell? ⟨gb373, 2, none⟩ = some (.slice none 0 0) := (blk_cell BK373.out 2).trans rfl; have hcz94_3 : w90.cell? ⟨gb373, 3, none⟩ = some (.slice none 0 0) := (blk_cell BK373.out 3).trans rfl; have hfz94_0 := blk_frozen BK373.out 0; have hfz94_1 := blk_frozen BK373.out 1; have hfz94_2 := blk_frozen BK373.out 2; have hfz94_3 := blk_frozen BK373.out 3; obtain ⟨Ao95, co95, eo95⟩ := R_slice HO365.out; subst eo95; obtain ⟨Ao96, co96, eo96⟩ := R_slice HO368.out; subst eo96))
                    go_roundg k2
                    case measure => have := HJ5.out; have := HK2.out; omega
                    case rel => exact ⟨(wrap64 (x14_2 + 1)), (by first | rfl | (simp; done) | (simp [*]; done) | (simp only [i64_w]; done) | (simp [i64_w]; done)), H', ⟨by have := HJ5.out; have := HK2.out; omega⟩, ⟨by (with_reducible repeat (first | apply R_alloc | apply R_drewN | apply R_drew)); exact R_mono (R_far (p := ⟨gb373, 3, none⟩) (R_far (p := ⟨gb373, 2, none⟩) (R_far (p := ⟨gb373, 1, none⟩) (R_far (p := ⟨gb373, 0, none⟩) (R_types HO_7.out BK373.out (by decide)) (fun _ hk => hk.2) (.int .u8 t361)) (fun _ hk => hk.2) (.int .u32 t362)) (fun _ hk => hk.2) (.slice Ao95 t363.length co95)) (fun _ hk => hk.2) (.slice Ao96 t366.length co96)) (fun _ hk => ⟨hk.1.1.1.1.1, hk.1.1.1.1.2⟩)⟩, ⟨by (with_reducible repeat (first | apply R_alloc | apply R_drewN | apply R_drew)); exact R_mono (R_far (p := ⟨gb373, 3, none⟩) (R_far (p := ⟨gb373, 2, none⟩) (R_far (p := ⟨gb373, 1, none⟩) (R_far (p := ⟨gb373, 0, none⟩) (R_types HO_355002.out BK373.out (by decide)) (fun _ hk => hk.2) (.int .u8 t361)) (fun _ hk => hk.2) (.int .u32 t362)) (fun _ hk => hk.2) (.slice Ao95 t363.length co95)) (fun _ hk => hk.2) (.slice Ao96 t366.length co96)) (fun _ hk => ⟨hk.1.1.1.1.1, hk.1.1.1.1.2⟩)⟩, ⟨by (with_reducible repeat (first | apply R_alloc | apply R_drewN | apply R_drew)); exact R_mono (R_far (p := ⟨gb373, 3, none⟩) (R_far (p := ⟨gb373, 2, none⟩) (R_far (p := ⟨gb373, 1, none⟩) (R_far (p := ⟨gb373, 0, none⟩) (R_types HO_355003.out BK373.out (by decide)) (fun _ hk => hk.2) (.int .u8 t361)) (fun _ hk => hk.2) (.int .u32 t362)) (fun _ hk => hk.2) (.slice Ao95 t363.length co95)) (fun _ hk => hk.2) (.slice Ao96 t366.length co96)) (fun _ hk => ⟨hk.1.1.1.1.1, hk.1.1.1.1.2⟩)⟩, ⟨by (with_reducible repeat (first | refine blk_drewN ?_ _ | refine blk_drew ?_ | refine blk_alloc ?_ _)); refine blk_far ?_ NB297_373.out _; (with_reducible repeat (first | refine blk_drewN ?_ _ | refine blk_drew ?_ | refine blk_alloc ?_ _)); refine blk_far ?_ NB297_373.out _; (with_reducible repeat (first | refine blk_drewN ?_ _ | refine blk_drew ?_ | refine blk_alloc ?_ _)); refine blk_far ?_ NB297_373.out _; (with_reducible repeat (first | refine blk_drewN ?_ _ | refine blk_drew ?_ | refine blk_alloc ?_ _)); refine blk_far ?_ NB297_373.out _; (with_reducible repeat (first | refine blk_drewN ?_ _ | refine blk_drew ?_ | refine blk_alloc ?_ _)); exact BK297.out⟩, ⟨by (with_reducible repeat (first | refine blk_drewN ?_ _ | refine blk_drew ?_ | refine blk_alloc ?_ _)); refine blk_far ?_ NB298_373.out _; (with_reducible repeat (first | refine blk_drewN ?_ _ | refine blk_drew ?_ | refine blk_alloc ?_ _)); refine blk_far ?_ NB298_373.out _; (with_reducible repeat (first | refine blk_drewN ?_ _ | refine blk_drew ?_ | refine blk_alloc ?_ _)); refine blk_far ?_ NB298_373.out _; (with_reducible repeat (first | refine blk_drewN ?_ _ | refine blk_drew ?_ | refine blk_alloc ?_ _)); refine blk_far ?_ NB298_373.out _; (with_reducible repeat (first | refine blk_drewN ?_ _ | refine blk_drew ?_ | refine blk_alloc ?_ _)); exact BK298.out⟩, ⟨by (with_reducible repeat (first | refine blk_drewN ?_ _ | refine blk_drew ?_ | refine blk_alloc ?_ _)); refine blk_far ?_ NB354_373.out _; (with_reducible repeat (first | refine blk_drewN ?_ _ | refine blk_drew ?_ | refine blk_alloc ?_ _)); refine blk_far ?_ NB354_373.out _; (with_reducible repeat (first | refine blk_drewN ?_ _ | refine blk_drew ?_ | refine blk_alloc ?_ _)); refine blk_far ?_ NB354_373.out _; (with_reducible repeat (first | refine blk_drewN ?_ _ | refine blk_drew ?_ | refine blk_alloc ?_ _)); refine blk_far ?_ NB354_373.out _; (with_reducible repeat (first | refine blk_drewN ?_ _ | refine blk_drew ?_ | refine blk_alloc ?_ _)); exact BK354.out⟩, ⟨by repeat (first | (with_reducible first | exact HB.out | apply below_alloc | apply pw_below_drewN | apply below_drew1 | refine below_set ?_ GE297.out | refine below_set ?_ GE298.out | refine below_set ?_ GE354.out | refine below_set ?_ GE373.out) | exact HB.out)⟩⟩
                   ·rw [if_neg c87] at H
                    exact absurd H (by simp)
                  ·rw [if_neg c85] at H
                   exact absurd H (by simp)
                 ·rw [if_neg c84] at H
                  exact absurd H (by simp)
                ·rw [if_neg c83] at H
                 have c83b0 : decide (x14_2 < (t300.length : Int)) = false := decide_eq_false c83
                 clear c83
                 by_cases c97 : 4 ≤ (t300.length : Int)
                 ·rw [if_pos c97] at H
                  have c97b0 := eq_true c97
                  have c97b1 : decide (4 ≤ (t300.length : Int)) = true := decide_eq_true c97
                  clear c97
                  obtain ⟨y374, hy374⟩ : ∃ y_ : List Int, y_ = (t300.drop 4) := ⟨_, rfl⟩
                  replace H : ((head_Id.f k2 y374 (mn (wrap64 ((l0_2.length : Int) + 1)) 255)).bind fun bt378 => (if bt378.2 = 0 then (if (l0_2.length : Int) = 255 then (some true) else (if 0 < (bt378.1.length : Int) then (if (wrap64 (rd bt378.1 0)) = (l0_2.length : Int) then (if 1 ≤ (bt378.1.length : Int) then ((crosswayref00_SameBytes.f k2 (bt378.1.drop 1) l0_2).bind fun t387 => (some t387)) else (none)) else (none)) else (none))) else (none))) = some r := by first | (rw [hy374]; with_reducible exact H) | (have H2_ := (Option.bind_some _ _).symm.trans H; rw [hy374]; with_reducible exact H2_) | (have H2_ := (Option.bind_some _ _).symm.trans H; with_reducible exact H2_) | with_reducible exact H | (rw [hy374]; exact H) | exact H
                  have Ny374 := Aside0.mk hy374
                  clear hy374
                  obtain ⟨ji98, hji98⟩ : ∃ j_ : Int, (mn (wrap64 ((l0_2.length : Int) + 1)) 255) = j_ := ⟨_, rfl⟩
                  replace H : ((head_Id.f k2 y374 (ji98)).bind fun bt378 => (if bt378.2 = 0 then (if (l0_2.length : Int) = 255 then (some true) else (if 0 < (bt378.1.length : Int) then (if (wrap64 (rd bt378.1 0)) = (l0_2.length : Int) then (if 1 ≤ (bt378.1.length : Int) then ((crosswayref00_SameBytes.f k2 (bt378.1.drop 1) l0_2).bind fun t387 => (some t387)) else (none)) else (none)) else (none))) else (none))) = some r := by first | (rw [hji98] at H; exact H) | (simp only [hji98] at H ⊢; exact H)
                  have hji98_ : (if 255 < (wrap64 ((l0_2.length : Int) + 1)) then 255 else (wrap64 ((l0_2.length : Int) + 1))) = ji98 := hji98
                  replace H := Option.bind_eq_some_iff.mp H
                  obtain ⟨⟨t378, t379⟩, A990, H⟩ := H
                  try dsimp only at H
                  have A99 := Aside0.mk A990
                  clear A990
                  by_cases c100 : t379 = 0
                  ·rw [if_pos c100] at H
                   have c100b0 : (t379 == 0) = true := beq_iff_eq.mpr c100
                   have c100b1 : (t379 != 0) = false := bne_eq_false_iff_eq.mpr c100
                   clear c100
                   by_cases c101 : (l0_2.length : Int) = 255
                   ·rw [if_pos c101] at H
                    have c101b0 : ((l0_2.length : Int) == 255) = true := beq_iff_eq.mpr c101
                    have c101b1 : ((l0_2.length : Int) != 255) = false := bne_eq_false_iff_eq.mpr c101
                    clear c101
                    obtain rfl := Option.some.inj H
                    try go_wp2
                    have n0_ := Aside0.mk (R_drew HO_7.out)
                    have n1_ := Aside0.mk (R_drew HO_355002.out)
                    have n2_ := Aside0.mk (R_drew HO_355003.out)
                    have n3_ := Aside0.mk (blk_drew BK297.out)
                    have n4_ := Aside0.mk (blk_drew BK298.out)
                    have n5_ := Aside0.mk (blk_drew BK354.out)
                    have n6_ := Aside0.mk (below_drew1 HB.out)
                    clear HO_7
                    clear HO_355002
                    clear HO_355003
                    clear BK297
                    clear BK298
                    clear BK354
                    clear HB
                    have HO_7 := n0_
                    have HO_355002 := n1_
                    have HO_355003 := n2_
                    have BK297 := n3_
                    have BK298 := n4_
                    have BK354 := n5_
                    have HB := n6_
                    clear n0_ n1_ n2_ n3_ n4_ n5_ n6_
                    have q103 : (4 : Int) ≤ ((t300.length : Int) : Int) := of_decide_eq_true (by first | (with_reducible assumption) | assumption)
                    obtain ⟨i0103, hi0103, _, hsz103, _⟩ := info_parts info5
                    have hroom103 : t300.length ≤ co59 := (R_reads' HO_7.out).2.1
                    have hC103 : Kd.C (Kd.int .u8) _ Ao59 t300.length t300 := (R_reads' HO_7.out).2.2
                    have hcut103 := cut_from (P := Try.prog) 22 5 .i64 Try.underlying22 hi0103 1 hsz103 Ao59 t300.length co59 4 (by omega) q103
                    have hr103 := C_drop (m := (4 : Int).toNat) (c := co59) hC103 (by omega) hroom103
                    obtain ⟨A103, hA103⟩ : ∃ A_x, A_x = (if co59 = (4 : Int).toNat then Ao59 else (Ao59 : Option Addr).map (·.add ((4 : Int).toNat * 1))) := ⟨_, rfl⟩
                    obtain ⟨c103, hc103⟩ : ∃ c_x, c_x = co59 - (4 : Int).toNat := ⟨_, rfl⟩
                    have hy103 : y374.length = t300.length - (4 : Int).toNat := (by rw [Ny374.out, List.length_drop] <;> omega)
                    rw [show (t300).drop (4 : Int).toNat = y374 from Ny374.out.symm] at hr103
                    replace hr103 : Kd.C (Kd.int .u8) _ A103 y374.length y374 := (by rw [hA103]; exact hr103)
                    rw [← hy103, ← hA103, ← hc103] at hcut103
                    have HR377 := Aside0.mk hr103
                    have HC377 := Aside0.mk (show y374.length ≤ c103 from by rw [hy103, hc103]; exact Nat.sub_le_sub_right hroom103 _)
                    clear hr103 hC103 hroom103 hi0103 hsz103 hc103
                    have KY103 := Aside0.mk hy103
                    have KA103 := Aside0.mk hA103
                    clear hy103 hA103
                    have KL103 := Aside0.mk (show 4 ≤ t300.length from by omega)
                    replace q103 := eq_true q103
                    refine start_ (n := 13) (S := fun w' => w'.cell? ⟨gb297, 0, none⟩ = some (.int .u8 a0_0) ∧ w'.cell? ⟨gb297, 1, none⟩ = some (.int .u32 a0_1) ∧ w'.cell? ⟨gb297, 2, none⟩ = some (.slice A0_2 l0_2.length c0_2) ∧ w'.cell? ⟨gb297, 3, none⟩ = some (.slice A0_3 l0_3.length c0_3)) (ds := []) #[false,false,false,false,false,false,false,false,false,false,false,false,false] (by kernel_rfl) rfl rfl ⟨(blk_cell BK297.out 0).trans rfl, (blk_cell BK297.out 1).trans rfl, (blk_cell BK297.out 2).trans rfl, (blk_cell BK297.out 3).trans rfl⟩ (fun hHeld => ?_); refine with_tabW crosswaylaw10_HeadWrites.tab20 crosswaylaw10_HeadWrites.bits20 (fun HT_ HW_ => ?_)
                    generalize wr.drew = w102 at HO_7 HO_355002 HO_355003 BK297 BK298 BK354 HB HR377 hHeld ⊢
                    refine pure_ (i := 0) (N := some 131) (v := ?_) (a' := ?_) #[true,false,false,false,false,false,false,false,false,false,false,false,false] rfl rfl (any_of HT_.out (by kernel_rfl)) (fun _ _ _ h => h) (Or.inl ⟨by rfl, ?_⟩) ?_ ?_
                    rotate_left
                    ·intro w'; go_simp; with_reducible rfl
                    rotate_left
                    ·simp only [Act.put, sA, sB, sC, i64_w, i32_w]; rfl
                    refine pure_ (i := 1) (N := some 132) (v := ?_) (a' := ?_) #[true,true,false,false,false,false,false,false,false,false,false,false,false] rfl rfl (any_of HT_.out (by kernel_rfl)) (fun _ _ _ h => h) (Or.inl ⟨by rfl, ?_⟩) ?_ ?_
                    rotate_left
                    ·intro w'; go_simp; with_reducible rfl
                    rotate_left
                    ·simp only [Act.put, sA, sB, sC, i64_w, i32_w]; rfl
                    refine pure_ (i := 2) (N := some 133) (v := ?_) (a' := ?_) #[true,true,true,false,false,false,false,false,false,false,false,false,false] rfl rfl (any_of HT_.out (by kernel_rfl)) (fun _ _ _ h => h) (Or.inl ⟨by rfl, ?_⟩) ?_ ?_
                    rotate_left
                    ·intro w'; go_simp; with_reducible rfl
                    rotate_left
                    ·simp only [Act.put, sA, sB, sC, i64_w, i32_w]; rfl
                    refine take_ (i := 3) (N := some 134) (v := ?_) (a' := ?_) #[true,true,true,true,false,false,false,false,false,false,false,false,false] rfl rfl (take_ofW HT_.out HW_.out (by kernel_rfl)) (fun _ _ _ h => h) (Or.inl ⟨by rfl, ?_⟩) hHeld ?_ ?_
                    rotate_left
                    ·rintro w' ⟨s0, s1, s2, s3⟩; go_simp; with_reducible rfl
                    rotate_left
                    ·simp only [Act.put, sA, sB, sC, i64_w, i32_w]; rfl
                    refine pure_ (i := 4) (N := some 135) (v := ?_) (a' := ?_) #[true,true,true,true,true,false,false,false,false,false,false,false,false] rfl rfl (any_of HT_.out (by kernel_rfl)) (fun _ _ _ h => h) (Or.inl ⟨by rfl, ?_⟩) ?_ ?_
                    rotate_left
                    ·intro w'; go_simp; with_reducible rfl
                    rotate_left
                    ·simp only [Act.put, sA, sB, sC, i64_w, i32_w]; rfl
                    refine pure_ (i := 5) (N := some 136) (v := ?_) (a' := ?_) #[true,true,true,true,true,true,false,false,false,false,false,false,false] rfl rfl (any_of HT_.out (by kernel_rfl)) (fun _ _ _ h => h) (Or.inl ⟨by rfl, ?_⟩) ?_ ?_
                    rotate_left
                    ·intro w'; go_simp; with_reducible rfl
                    rotate_left
                    ·simp only [Act.put, sA, sB, sC, i64_w, i32_w]; rfl
                    refine pure_ (i := 6) (N := some 137) (v := ?_) (a' := ?_) #[true,true,true,true,true,true,true,false,false,false,false,false,false] rfl rfl (any_of HT_.out (by kernel_rfl)) (fun _ _ _ h => h) (Or.inl ⟨by rfl, ?_⟩) ?_ ?_
                    rotate_left
                    ·intro w'; go_simp; with_reducible rfl
                    rotate_left
                    ·simp only [Act.put, sA, sB, sC, i64_w, i32_w]; rfl
                    refine one_ (i := 7) (N := some 138) #[true,true,true,true,true,true,true,true,false,false,false,false,false] rfl rfl (one_of HT_.out (by kernel_rfl)) (by decide) (fun K hK => ?_)
                    refine goes_ Try.func15 (by kernel_rfl) rfl #[.slice A103 y374.length c103, .int .i64 ji98] (by rfl) rfl rfl (by (try simp only [List.map_toArray, List.map_cons, List.map_nil]); first | done | (simp only [hji98]; rfl) | rfl | (simp only [List.length_drop, List.length_take]; rfl)) ?_
                    with_reducible refine (head_Id.calls k2 _ _ y374 ji98 t378 t379 _ ?side1 ?side2 A99.out).mono ?_
                    (case side1 => repeat (first | exact (by repeat (first | (with_reducible exact HR377.out) | (with_reducible refine C_alloc ?_ _) | (with_reducible refine C_drewN ?_ _) | (with_reducible refine C_drew ?_) | exact HR377.out)) | (with_reducible refine C_alloc ?_ _) | (with_reducible refine C_drewN ?_ _) | (with_reducible refine C_drew ?_)))
                    (case side2 => exact HC377.out)
                    rintro e w104 ⟨v380, rfl, ho0, hb⟩
                    refine ⟨_, rfl, ?_⟩
                    have n0_ := Aside0.mk (R_elder' (by (with_reducible repeat (first | apply R_alloc | apply R_drewN | apply R_drew)); exact HO_7.out) (R_base ho0) hb)
                    have n1_ := Aside0.mk (R_elder' (by (with_reducible repeat (first | apply R_alloc | apply R_drewN | apply R_drew)); exact HO_355002.out) (R_base ho0) hb)
                    have n2_ := Aside0.mk (R_elder' (by (with_reducible repeat (first | apply R_alloc | apply R_drewN | apply R_drew)); exact HO_355003.out) (R_base ho0) hb)
                    have n3_ := Aside0.mk (R_lower (R_new' (R_new' (R_new' ho0 (R_lt (by (with_reducible repeat (first | apply R_alloc | apply R_drewN | apply R_drew)); exact HO_7.out))) (R_lt (by (with_reducible repeat (first | apply R_alloc | apply R_drewN | apply R_drew)); exact HO_355002.out))) (R_lt (by (with_reducible repeat (first | apply R_alloc | apply R_drewN | apply R_drew)); exact HO_355003.out))) (below_size (by repeat (first | (with_reducible first | exact HB.out | apply below_alloc | apply pw_below_drewN | apply below_drew1 | refine below_set ?_ GE297.out | refine below_set ?_ GE298.out | refine below_set ?_ GE354.out) | exact HB.out))))
                    have n4_ := Aside0.mk (blk_below (g := gb297) (o := .cells #[.int .u8 a0_0, .int .u32 a0_1, .slice A0_2 l0_2.length c0_2, .slice A0_3 l0_3.length c0_3] 27 (0, 0)) (by (with_reducible repeat (first | refine blk_drewN ?_ _ | refine blk_drew ?_ | refine blk_alloc ?_ _)); exact BK297.out) hb)
                    have n5_ := Aside0.mk (blk_below (g := gb298) (o := .cells #[.int .u8 a1_0, .int .u32 a1_1, .slice A1_2 l1_2.length c1_2, .slice A1_3 l1_3.length c1_3] 27 (0, 0)) (by (with_reducible repeat (first | refine blk_drewN ?_ _ | refine blk_drew ?_ | refine blk_alloc ?_ _)); exact BK298.out) hb)
                    have n6_ := Aside0.mk (blk_below (g := gb354) (o := .cells #[.int .u8 t342, .int .u32 t343, .slice Ao78 t344.length co78, .slice Ao79 t347.length co79] 27 (0, 0)) (by (with_reducible repeat (first | refine blk_drewN ?_ _ | refine blk_drew ?_ | refine blk_alloc ?_ _)); exact BK354.out) hb)
                    have n7_ := Aside0.mk (C_below (by repeat (first | (with_reducible exact HR377.out) | (with_reducible refine C_alloc ?_ _) | (with_reducible refine C_drewN ?_ _) | (with_reducible refine C_drew ?_) | exact HR377.out)) hb)
                    have n8_ := Aside0.mk (below_step (by repeat (first | (with_reducible first | exact HB.out | apply below_alloc | apply pw_below_drewN | apply below_drew1 | refine below_set ?_ GE297.out | refine below_set ?_ GE298.out | refine below_set ?_ GE354.out) | exact HB.out)) hb)
                    clear HO_7
                    clear HO_355002
                    clear HO_355003
                    clear BK297
                    clear BK298
                    clear BK354
                    clear HR377
                    clear HB
                    have HO_7 := n0_
                    have HO_355002 := n1_
                    have HO_355003 := n2_
                    have HO381 := n3_
                    have BK297 := n4_
                    have BK298 := n5_
                    have BK354 := n6_
                    have HR377 := n7_
                    have HB := n8_
                    clear n0_ n1_ n2_ n3_ n4_ n5_ n6_ n7_ n8_
                    (try clear hb)
                    (try clear hb2)
                    (try clear hk)
                    (try clear hi)
                    (try clear ho0)
                    refine hK.out _ _ ⟨(blk_cell BK297.out 0).trans rfl, (blk_cell BK297.out 1).trans rfl, (blk_cell BK297.out 2).trans rfl, (blk_cell BK297.out 3).trans rfl⟩ (fun hHeld => ?_)
                    clear hK K
                    refine norm_ (a' := ?_) ?_ ?_
                    rotate_left
                    ·show Act.put _ (some 138) _ = _
                     simp only [Act.put, sA, sB, sC, i64_w, i32_w]
                     rfl
                    refine pure_ (i := 8) (N := some 130) (v := ?_) (a' := ?_) #[true,true,true,true,true,true,true,true,true,false,false,false,false] rfl rfl (any_of HT_.out (by kernel_rfl)) (fun _ _ _ h => h) (Or.inl ⟨by rfl, ?_⟩) ?_ ?_
                    rotate_left
                    ·intro w'; go_simp; with_reducible rfl
                    rotate_left
                    ·simp only [Act.put, sA, sB, sC, i64_w, i32_w]; rfl
                    refine pure_ (i := 9) (N := some 139) (v := ?_) (a' := ?_) #[true,true,true,true,true,true,true,true,true,true,false,false,false] rfl rfl (any_of HT_.out (by kernel_rfl)) (fun _ _ _ h => h) (Or.inl ⟨by rfl, ?_⟩) ?_ ?_
                    rotate_left
                    ·intro w'; go_simp; with_reducible rfl
                    rotate_left
                    ·simp only [Act.put, sA, sB, sC, i64_w, i32_w]; rfl
                    refine pure_ (i := 10) (N := some 140) (v := ?_) (a' := ?_) #[true,true,true,true,true,true,true,true,true,true,true,false,false] rfl rfl (any_of HT_.out (by kernel_rfl)) (fun _ _ _ h => h) (Or.inl ⟨by rfl, ?_⟩) ?_ ?_
                    rotate_left
                    ·intro w'; go_simp; with_reducible rfl
                    rotate_left
                    ·simp only [Act.put, sA, sB, sC, i64_w, i32_w]; rfl
                    refine pure_ (i := 11) (N := some 18) (v := ?_) (a' := ?_) #[true,true,true,true,true,true,true,true,true,true,true,true,false] rfl rfl (any_of HT_.out (by kernel_rfl)) (fun _ _ _ h => h) (Or.inl ⟨by rfl, ?_⟩) ?_ ?_
                    rotate_left
                    ·intro w'; go_simp; with_reducible rfl
                    rotate_left
                    ·simp only [Act.put, sA, sB, sC, i64_w, i32_w]; rfl
                    refine pure_ (i := 12) (N := some 19) (v := ?_) (a' := ?_) #[true,true,true,true,true,true,true,true,true,true,true,true,true] rfl rfl (any_of HT_.out (by kernel_rfl)) (fun _ _ _ h => h) (Or.inl ⟨by rfl, ?_⟩) ?_ ?_
                    rotate_left
                    ·intro w'; go_simp; with_reducible rfl
                    rotate_left
                    ·simp only [Act.put, sA, sB, sC, i64_w, i32_w]; rfl
                    refine done_ (done_of HT_.out (by kernel_rfl)) ?_
                    try go_wp2
                    have n0_ := Aside0.mk (R_drew HO_7.out)
                    have n1_ := Aside0.mk (R_drew HO_355002.out)
                    have n2_ := Aside0.mk (R_drew HO_355003.out)
                    have n3_ := Aside0.mk (R_drew HO381.out)
                    have n4_ := Aside0.mk (blk_drew BK297.out)
                    have n5_ := Aside0.mk (blk_drew BK298.out)
                    have n6_ := Aside0.mk (blk_drew BK354.out)
                    have n7_ := Aside0.mk (C_drew HR377.out)
                    have n8_ := Aside0.mk (below_drew1 HB.out)
                    clear HO_7
                    clear HO_355002
                    clear HO_355003
                    clear HO381
                    clear BK297
                    clear BK298
                    clear BK354
                    clear HR377
                    clear HB
                    have HO_7 := n0_
                    have HO_355002 := n1_
                    have HO_355003 := n2_
                    have HO381 := n3_
                    have BK297 := n4_
                    have BK298 := n5_
                    have BK354 := n6_
                    have HR377 := n7_
                    have HB := n8_
                    clear n0_ n1_ n2_ n3_ n4_ n5_ n6_ n7_ n8_
                    refine start_ (n := 30) (S := fun w' => w'.cell? ⟨gb297, 0, none⟩ = some (.int .u8 a0_0) ∧ w'.cell? ⟨gb297, 1, none⟩ = some (.int .u32 a0_1) ∧ w'.cell? ⟨gb297, 2, none⟩ = some (.slice A0_2 l0_2.length c0_2) ∧ w'.cell? ⟨gb297, 3, none⟩ = some (.slice A0_3 l0_3.length c0_3)) (ds := []) #[false,false,false,false,false,false,false,false,false,false,false,false,false,false,false,false,false,false,false,false,false,false,false,false,false,false,false,false,false,false] (by kernel_rfl) rfl rfl ⟨(blk_cell BK297.out 0).trans rfl, (blk_cell BK297.out 1).trans rfl, (blk_cell BK297.out 2).trans rfl, (blk_cell BK297.out 3).trans rfl⟩ (fun hHeld => ?_); refine with_tabW crosswaylaw10_HeadWrites.tab21 crosswaylaw10_HeadWrites.bits21 (fun HT_ HW_ => ?_)
                    generalize w104.drew = w105 at HO_7 HO_355002 HO_355003 HO381 BK297 BK298 BK354 HR377 HB hHeld ⊢
                    refine pure_ (i := 0) (N := some 141) (v := ?_) (a' := ?_) #[true,false,false,false,false,false,false,false,false,false,false,false,false,false,false,false,false,false,false,false,false,false,false,false,false,false,false,false,false,false] rfl rfl (any_of HT_.out (by kernel_rfl)) (fun _ _ _ h => h) (Or.inl ⟨by rfl, ?_⟩) ?_ ?_
                    rotate_left
                    ·intro w'; go_simp; with_reducible rfl
                    rotate_left
                    ·simp only [Act.put, sA, sB, sC, i64_w, i32_w]; rfl
                    refine pure_ (i := 1) (N := some 142) (v := ?_) (a' := ?_) #[true,true,false,false,false,false,false,false,false,false,false,false,false,false,false,false,false,false,false,false,false,false,false,false,false,false,false,false,false,false] rfl rfl (any_of HT_.out (by kernel_rfl)) (fun _ _ _ h => h) (Or.inl ⟨by rfl, ?_⟩) ?_ ?_
                    rotate_left
                    ·intro w'; go_simp; with_reducible rfl
                    rotate_left
                    ·simp only [Act.put, sA, sB, sC, i64_w, i32_w]; rfl
                    refine pure_ (i := 2) (N := some 143) (v := ?_) (a' := ?_) #[true,true,true,false,false,false,false,false,false,false,false,false,false,false,false,false,false,false,false,false,false,false,false,false,false,false,false,false,false,false] rfl rfl (any_of HT_.out (by kernel_rfl)) (fun _ _ _ h => h) (Or.inl ⟨by rfl, ?_⟩) ?_ ?_
                    rotate_left
                    ·intro w'; go_simp; with_reducible rfl
                    rotate_left
                    ·simp only [Act.put, sA, sB, sC, i64_w, i32_w]; rfl
                    refine pure_ (i := 3) (N := some 144) (v := ?_) (a' := ?_) #[true,true,true,true,false,false,false,false,false,false,false,false,false,false,false,false,false,false,false,false,false,false,false,false,false,false,false,false,false,false] rfl rfl (any_of HT_.out (by kernel_rfl)) (fun _ _ _ h => h) (Or.inl ⟨by rfl, ?_⟩) ?_ ?_
                    rotate_left
                    ·intro w'; go_simp; with_reducible rfl
                    rotate_left
                    ·simp only [Act.put, sA, sB, sC, i64_w, i32_w]; rfl
                    refine take_ (i := 4) (N := some 145) (v := ?_) (a' := ?_) #[true,true,true,true,true,false,false,false,false,false,false,false,false,false,false,false,false,false,false,false,false,false,false,false,false,false,false,false,false,false] rfl rfl (take_ofW HT_.out HW_.out (by kernel_rfl)) (fun _ _ _ h => h) (Or.inl ⟨by rfl, ?_⟩) hHeld ?_ ?_
                    rotate_left
                    ·rintro w' ⟨s0, s1, s2, s3⟩; go_simp; with_reducible rfl
                    rotate_left
                    ·simp only [Act.put, sA, sB, sC, i64_w, i32_w]; rfl
                    refine pure_ (i := 5) (N := some 146) (v := ?_) (a' := ?_) #[true,true,true,true,true,true,false,false,false,false,false,false,false,false,false,false,false,false,false,false,false,false,false,false,false,false,false,false,false,false] rfl rfl (any_of HT_.out (by kernel_rfl)) (fun _ _ _ h => h) (Or.inl ⟨by rfl, ?_⟩) ?_ ?_
                    rotate_left
                    ·intro w'; go_simp; with_reducible rfl
                    rotate_left
                    ·simp only [Act.put, sA, sB, sC, i64_w, i32_w]; rfl
                    refine pure_ (i := 6) (N := some 147) (v := ?_) (a' := ?_) #[true,true,true,true,true,true,true,false,false,false,false,false,false,false,false,false,false,false,false,false,false,false,false,false,false,false,false,false,false,false] rfl rfl (any_of HT_.out (by kernel_rfl)) (fun _ _ _ h => h) (Or.inl ⟨by rfl, ?_⟩) ?_ ?_
                    rotate_left
                    ·intro w'; go_simp; with_reducible rfl
                    rotate_left
                    ·simp only [Act.put, sA, sB, sC, i64_w, i32_w]; rfl
                    refine pure_ (i := 7) (N := some 148) (v := ?_) (a' := ?_) #[true,true,true,true,true,true,true,true,false,false,false,false,false,false,false,false,false,false,false,false,false,false,false,false,false,false,false,false,false,false] rfl rfl (any_of HT_.out (by kernel_rfl)) (fun _ _ _ h => h) (Or.inl ⟨by rfl, ?_⟩) ?_ ?_
                    rotate_left
                    ·intro w'; go_simp; with_reducible rfl
                    rotate_left
                    ·simp only [Act.put, sA, sB, sC, i64_w, i32_w]; rfl
                    refine pure_ (i := 8) (N := some 149) (v := ?_) (a' := ?_) #[true,true,true,true,true,true,true,true,true,false,false,false,false,false,false,false,false,false,false,false,false,false,false,false,false,false,false,false,false,false] rfl rfl (any_of HT_.out (by kernel_rfl)) (fun _ _ _ h => h) (Or.inl ⟨by rfl, ?_⟩) ?_ ?_
                    rotate_left
                    ·intro w'; go_simp; with_reducible rfl
                    rotate_left
                    ·simp only [Act.put, sA, sB, sC, i64_w, i32_w]; rfl
                    refine pure_ (i := 9) (N := some 150) (v := undef) (a' := ?_) #[true,true,true,true,true,true,true,true,true,true,false,false,false,false,false,false,false,false,false,false,false,false,false,false,false,false,false,false,false,false] rfl rfl (any_of HT_.out (by kernel_rfl)) (fun _ _ _ h => h) (Or.inr ⟨by rfl, rfl⟩) ?_ ?_
                    rotate_left
                    ·simp only [Act.put, sA, sB, sC, i64_w, i32_w]; rfl
                    refine pure_ (i := 10) (N := some 151) (v := undef) (a' := ?_) #[true,true,true,true,true,true,true,true,true,true,true,false,false,false,false,false,false,false,false,false,false,false,false,false,false,false,false,false,false,false] rfl rfl (any_of HT_.out (by kernel_rfl)) (fun _ _ _ h => h) (Or.inr ⟨by rfl, rfl⟩) ?_ ?_
                    rotate_left
                    ·simp only [Act.put, sA, sB, sC, i64_w, i32_w]; rfl
                    refine pure_ (i := 11) (N := some 152) (v := undef) (a' := ?_) #[true,true,true,true,true,true,true,true,true,true,true,true,false,false,false,false,false,false,false,false,false,false,false,false,false,false,false,false,false,false] rfl rfl (any_of HT_.out (by kernel_rfl)) (fun _ _ _ h => h) (Or.inr ⟨by rfl, rfl⟩) ?_ ?_
                    rotate_left
                    ·simp only [Act.put, sA, sB, sC, i64_w, i32_w]; rfl
                    refine pure_ (i := 12) (N := some 153) (v := undef) (a' := ?_) #[true,true,true,true,true,true,true,true,true,true,true,true,true,false,false,false,false,false,false,false,false,false,false,false,false,false,false,false,false,false] rfl rfl (any_of HT_.out (by kernel_rfl)) (fun _ _ _ h => h) (Or.inr ⟨by rfl, rfl⟩) ?_ ?_
                    rotate_left
                    ·simp only [Act.put, sA, sB, sC, i64_w, i32_w]; rfl
                    refine pure_ (i := 13) (N := some 154) (v := undef) (a' := ?_) #[true,true,true,true,true,true,true,true,true,true,true,true,true,true,false,false,false,false,false,false,false,false,false,false,false,false,false,false,false,false] rfl rfl (any_of HT_.out (by kernel_rfl)) (fun _ _ _ h => h) (Or.inr ⟨by rfl, rfl⟩) ?_ ?_
                    rotate_left
                    ·simp only [Act.put, sA, sB, sC, i64_w, i32_w]; rfl
                    refine pure_ (i := 14) (N := some 155) (v := undef) (a' := ?_) #[true,true,true,true,true,true,true,true,true,true,true,true,true,true,true,false,false,false,false,false,false,false,false,false,false,false,false,false,false,false] rfl rfl (any_of HT_.out (by kernel_rfl)) (fun _ _ _ h => h) (Or.inr ⟨by rfl, rfl⟩) ?_ ?_
                    rotate_left
                    ·simp only [Act.put, sA, sB, sC, i64_w, i32_w]; rfl
                    refine pure_ (i := 15) (N := some 156) (v := undef) (a' := ?_) #[true,true,true,true,true,true,true,true,true,true,true,true,true,true,true,true,false,false,false,false,false,false,false,false,false,false,false,false,false,false] rfl rfl (any_of HT_.out (by kernel_rfl)) (fun _ _ _ h => h) (Or.inr ⟨by rfl, rfl⟩) ?_ ?_
                    rotate_left
                    ·simp only [Act.put, sA, sB, sC, i64_w, i32_w]; rfl
                    refine pure_ (i := 16) (N := some 157) (v := undef) (a' := ?_) #[true,true,true,true,true,true,true,true,true,true,true,true,true,true,true,true,true,false,false,false,false,false,false,false,false,false,false,false,false,false] rfl rfl (any_of HT_.out (by kernel_rfl)) (fun _ _ _ h => h) (Or.inr ⟨by rfl, rfl⟩) ?_ ?_
                    rotate_left
                    ·simp only [Act.put, sA, sB, sC, i64_w, i32_w]; rfl
                    refine pure_ (i := 17) (N := some 158) (v := undef) (a' := ?_) #[true,true,true,true,true,true,true,true,true,true,true,true,true,true,true,true,true,true,false,false,false,false,false,false,false,false,false,false,false,false] rfl rfl (any_of HT_.out (by kernel_rfl)) (fun _ _ _ h => h) (Or.inr ⟨by rfl, rfl⟩) ?_ ?_
                    rotate_left
                    ·simp only [Act.put, sA, sB, sC, i64_w, i32_w]; rfl
                    refine pure_ (i := 18) (N := some 159) (v := undef) (a' := ?_) #[true,true,true,true,true,true,true,true,true,true,true,true,true,true,true,true,true,true,true,false,false,false,false,false,false,false,false,false,false,false] rfl rfl (any_of HT_.out (by kernel_rfl)) (fun _ _ _ h => h) (Or.inr ⟨by rfl, rfl⟩) ?_ ?_
                    rotate_left
                    ·simp only [Act.put, sA, sB, sC, i64_w, i32_w]; rfl
                    refine pure_ (i := 19) (N := some 160) (v := undef) (a' := ?_) #[true,true,true,true,true,true,true,true,true,true,true,true,true,true,true,true,true,true,true,true,false,false,false,false,false,false,false,false,false,false] rfl rfl (any_of HT_.out (by kernel_rfl)) (fun _ _ _ h => h) (Or.inr ⟨by rfl, rfl⟩) ?_ ?_
                    rotate_left
                    ·simp only [Act.put, sA, sB, sC, i64_w, i32_w]; rfl
                    refine pure_ (i := 20) (N := some 161) (v := undef) (a' := ?_) #[true,true,true,true,true,true,true,true,true,true,true,true,true,true,true,true,true,true,true,true,true,false,false,false,false,false,false,false,false,false] rfl rfl (any_of HT_.out (by kernel_rfl)) (fun _ _ _ h => h) (Or.inr ⟨by rfl, rfl⟩) ?_ ?_
                    rotate_left
                    ·simp only [Act.put, sA, sB, sC, i64_w, i32_w]; rfl
                    refine pure_ (i := 21) (N := some 162) (v := undef) (a' := ?_) #[true,true,true,true,true,true,true,true,true,true,true,true,true,true,true,true,true,true,true,true,true,true,false,false,false,false,false,false,false,false] rfl rfl (any_of HT_.out (by kernel_rfl)) (fun _ _ _ h => h) (Or.inr ⟨by rfl, rfl⟩) ?_ ?_
                    rotate_left
                    ·simp only [Act.put, sA, sB, sC, i64_w, i32_w]; rfl
                    refine pure_ (i := 22) (N := some 163) (v := undef) (a' := ?_) #[true,true,true,true,true,true,true,true,true,true,true,true,true,true,true,true,true,true,true,true,true,true,true,false,false,false,false,false,false,false] rfl rfl (any_of HT_.out (by kernel_rfl)) (fun _ _ _ h => h) (Or.inr ⟨by rfl, rfl⟩) ?_ ?_
                    rotate_left
                    ·simp only [Act.put, sA, sB, sC, i64_w, i32_w]; rfl
                    refine pure_ (i := 23) (N := some 164) (v := undef) (a' := ?_) #[true,true,true,true,true,true,true,true,true,true,true,true,true,true,true,true,true,true,true,true,true,true,true,true,false,false,false,false,false,false] rfl rfl (any_of HT_.out (by kernel_rfl)) (fun _ _ _ h => h) (Or.inr ⟨by rfl, rfl⟩) ?_ ?_
                    rotate_left
                    ·simp only [Act.put, sA, sB, sC, i64_w, i32_w]; rfl
                    refine pure_ (i := 24) (N := some 165) (v := undef) (a' := ?_) #[true,true,true,true,true,true,true,true,true,true,true,true,true,true,true,true,true,true,true,true,true,true,true,true,true,false,false,false,false,false] rfl rfl (any_of HT_.out (by kernel_rfl)) (fun _ _ _ h => h) (Or.inr ⟨by rfl, rfl⟩) ?_ ?_
                    rotate_left
                    ·simp only [Act.put, sA, sB, sC, i64_w, i32_w]; rfl
                    refine pure_ (i := 25) (N := some 166) (v := undef) (a' := ?_) #[true,true,true,true,true,true,true,true,true,true,true,true,true,true,true,true,true,true,true,true,true,true,true,true,true,true,false,false,false,false] rfl rfl (any_of HT_.out (by kernel_rfl)) (fun _ _ _ h => h) (Or.inr ⟨by rfl, rfl⟩) ?_ ?_
                    rotate_left
                    ·simp only [Act.put, sA, sB, sC, i64_w, i32_w]; rfl
                    refine pure_ (i := 26) (N := some 167) (v := undef) (a' := ?_) #[true,true,true,true,true,true,true,true,true,true,true,true,true,true,true,true,true,true,true,true,true,true,true,true,true,true,true,false,false,false] rfl rfl (any_of HT_.out (by kernel_rfl)) (fun _ _ _ h => h) (Or.inr ⟨by rfl, rfl⟩) ?_ ?_
                    rotate_left
                    ·simp only [Act.put, sA, sB, sC, i64_w, i32_w]; rfl
                    refine pure_ (i := 27) (N := some 168) (v := undef) (a' := ?_) #[true,true,true,true,true,true,true,true,true,true,true,true,true,true,true,true,true,true,true,true,true,true,true,true,true,true,true,true,false,false] rfl rfl (any_of HT_.out (by kernel_rfl)) (fun _ _ _ h => h) (Or.inr ⟨by rfl, rfl⟩) ?_ ?_
                    rotate_left
                    ·simp only [Act.put, sA, sB, sC, i64_w, i32_w]; rfl
                    refine pure_ (i := 28) (N := some 169) (v := ?_) (a' := ?_) #[true,true,true,true,true,true,true,true,true,true,true,true,true,true,true,true,true,true,true,true,true,true,true,true,true,true,true,true,true,false] rfl rfl (any_of HT_.out (by kernel_rfl)) (fun _ _ _ h => h) (Or.inl ⟨by rfl, ?_⟩) ?_ ?_
                    rotate_left
                    ·intro w'; go_simp; with_reducible rfl
                    rotate_left
                    ·simp only [Act.put, sA, sB, sC, i64_w, i32_w]; rfl
                    refine pure_ (i := 29) (N := some 6) (v := ?_) (a' := ?_) #[true,true,true,true,true,true,true,true,true,true,true,true,true,true,true,true,true,true,true,true,true,true,true,true,true,true,true,true,true,true] rfl rfl (any_of HT_.out (by kernel_rfl)) (fun _ _ _ h => h) (Or.inl ⟨by rfl, ?_⟩) ?_ ?_
                    rotate_left
                    ·intro w'; go_simp; with_reducible rfl
                    rotate_left
                    ·simp only [Act.put, sA, sB, sC, i64_w, i32_w]; rfl
                    refine done_ (done_of HT_.out (by kernel_rfl)) ?_
                    try go_wp2
                    go_ret
                    exact ⟨by first | rfl | (simp [errW_none, errW_some] <;> rfl) | (simp only [← hji98]; first | rfl | (simp [errW_none, errW_some] <;> rfl)) | (simp [*, errW_none, errW_some] <;> rfl), by repeat (first | (with_reducible first | exact HB.out | apply below_alloc | apply pw_below_drewN | apply below_drew1 | refine below_set ?_ GE297.out | refine below_set ?_ GE298.out | refine below_set ?_ GE354.out) | exact HB.out)⟩
                   ·rw [if_neg c101] at H
                    have c101b0 : ((l0_2.length : Int) == 255) = false := beq_eq_false_iff_ne.mpr c101
                    have c101b1 : ((l0_2.length : Int) != 255) = true := bne_iff_ne.mpr c101
                    by_cases c106 : 0 < (t378.length : Int)
                    ·rw [if_pos c106] at H
                     have c106b0 : decide (0 < (t378.length : Int)) = true := decide_eq_true c106
                     have c106b1 : decide (0 < t378.length) = true := decide_eq_true (by omega)
                     clear c106
                     by_cases c107 : (wrap64 (rd t378 0)) = (l0_2.length : Int)
                     ·rw [if_pos c107] at H
                      have c107b0 : ((wrap64 (rd t378 0)) == (l0_2.length : Int)) = true := beq_iff_eq.mpr c107
                      have c107b1 : ((wrap64 (rd t378 0)) != (l0_2.length : Int)) = false := bne_eq_false_iff_eq.mpr c107
                      clear c107
                      by_cases c108 : 1 ≤ (t378.length : Int)
                      ·rw [if_pos c108] at H
                       have c108b0 := eq_true c108
                       have c108b1 : decide (1 ≤ (t378.length : Int)) = true := decide_eq_true c108
                       clear c108
                       obtain ⟨y383, hy383⟩ : ∃ y_ : List Int, y_ = (t378.drop 1) := ⟨_, rfl⟩
                       replace H : ((crosswayref00_SameBytes.f k2 y383 l0_2).bind fun t387 => (some t387)) = some r := by first | (rw [hy383]; with_reducible exact H) | (have H2_ := (Option.bind_some _ _).symm.trans H; rw [hy383]; with_reducible exact H2_) | (have H2_ := (Option.bind_some _ _).symm.trans H; with_reducible exact H2_) | with_reducible exact H | (rw [hy383]; exact H) | exact H
                       have Ny383 := Aside0.mk hy383
                       clear hy383
                       replace H := Option.bind_eq_some_iff.mp H
                       obtain ⟨t387, A1090, H⟩ := H
                       try dsimp only at H
                       have A109 := Aside0.mk A1090
                       clear A1090
                       obtain rfl := Option.some.inj H
                       try go_wp2
                       have n0_ := Aside0.mk (R_drew HO_7.out)
                       have n1_ := Aside0.mk (R_drew HO_355002.out)
                       have n2_ := Aside0.mk (R_drew HO_355003.out)
                       have n3_ := Aside0.mk (blk_drew BK297.out)
                       have n4_ := Aside0.mk (blk_drew BK298.out)
                       have n5_ := Aside0.mk (blk_drew BK354.out)
                       have n6_ := Aside0.mk (below_drew1 HB.out)
                       clear HO_7
                       clear HO_355002
                       clear HO_355003
                       clear BK297
                       clear BK298
                       clear BK354
                       clear HB
                       have HO_7 := n0_
                       have HO_355002 := n1_
                       have HO_355003 := n2_
                       have BK297 := n3_
                       have BK298 := n4_
                       have BK354 := n5_
                       have HB := n6_
                       clear n0_ n1_ n2_ n3_ n4_ n5_ n6_
                       have q111 : (4 : Int) ≤ ((t300.length : Int) : Int) := of_decide_eq_true (by first | (with_reducible assumption) | assumption)
                       obtain ⟨i0111, hi0111, _, hsz111, _⟩ := info_parts info5
                       have hroom111 : t300.length ≤ co59 := (R_reads' HO_7.out).2.1
                       have hC111 : Kd.C (Kd.int .u8) _ Ao59 t300.length t300 := (R_reads' HO_7.out).2.2
                       have hcut111 := cut_from (P := Try.prog) 22 5 .i64 Try.underlying22 hi0111 1 hsz111 Ao59 t300.length co59 4 (by omega) q111
                       have hr111 := C_drop (m := (4 : Int).toNat) (c := co59) hC111 (by omega) hroom111
                       obtain ⟨A111, hA111⟩ : ∃ A_x, A_x = (if co59 = (4 : Int).toNat then Ao59 else (Ao59 : Option Addr).map (·.add ((4 : Int).toNat * 1))) := ⟨_, rfl⟩
                       obtain ⟨c111, hc111⟩ : ∃ c_x, c_x = co59 - (4 : Int).toNat := ⟨_, rfl⟩
                       have hy111 : y374.length = t300.length - (4 : Int).toNat := (by rw [Ny374.out, List.length_drop] <;> omega)
                       rw [show (t300).drop (4 : Int).toNat = y374 from Ny374.out.symm] at hr111
                       replace hr111 : Kd.C (Kd.int .u8) _ A111 y374.length y374 := (by rw [hA111]; exact hr111)
                       rw [← hy111, ← hA111, ← hc111] at hcut111
                       have HR377 := Aside0.mk hr111
                       have HC377 := Aside0.mk (show y374.length ≤ c111 from by rw [hy111, hc111]; exact Nat.sub_le_sub_right hroom111 _)
                       clear hr111 hC111 hroom111 hi0111 hsz111 hc111
                       have KY111 := Aside0.mk hy111
                       have KA111 := Aside0.mk hA111
                       clear hy111 hA111
                       have KL111 := Aside0.mk (show 4 ≤ t300.length from by omega)
                       replace q111 := eq_true q111
                       refine start_ (n := 13) (S := fun w' => w'.cell? ⟨gb297, 0, none⟩ = some (.int .u8 a0_0) ∧ w'.cell? ⟨gb297, 1, none⟩ = some (.int .u32 a0_1) ∧ w'.cell? ⟨gb297, 2, none⟩ = some (.slice A0_2 l0_2.length c0_2) ∧ w'.cell? ⟨gb297, 3, none⟩ = some (.slice A0_3 l0_3.length c0_3)) (ds := []) #[false,false,false,false,false,false,false,false,false,false,false,false,false] (by kernel_rfl) rfl rfl ⟨(blk_cell BK297.out 0).trans rfl, (blk_cell BK297.out 1).trans rfl, (blk_cell BK297.out 2).trans rfl, (blk_cell BK297.out 3).trans rfl⟩ (fun hHeld => ?_); refine with_tabW crosswaylaw10_HeadWrites.tab20 crosswaylaw10_HeadWrites.bits20 (fun HT_ HW_ => ?_)
                       generalize wr.drew = w110 at HO_7 HO_355002 HO_355003 BK297 BK298 BK354 HB HR377 hHeld ⊢
                       refine pure_ (i := 0) (N := some 131) (v := ?_) (a' := ?_) #[true,false,false,false,false,false,false,false,false,false,false,false,false] rfl rfl (any_of HT_.out (by kernel_rfl)) (fun _ _ _ h => h) (Or.inl ⟨by rfl, ?_⟩) ?_ ?_
                       rotate_left
                       ·intro w'; go_simp; with_reducible rfl
                       rotate_left
                       ·simp only [Act.put, sA, sB, sC, i64_w, i32_w]; rfl
                       refine pure_ (i := 1) (N := some 132) (v := ?_) (a' := ?_) #[true,true,false,false,false,false,false,false,false,false,false,false,false] rfl rfl (any_of HT_.out (by kernel_rfl)) (fun _ _ _ h => h) (Or.inl ⟨by rfl, ?_⟩) ?_ ?_
                       rotate_left
                       ·intro w'; go_simp; with_reducible rfl
                       rotate_left
                       ·simp only [Act.put, sA, sB, sC, i64_w, i32_w]; rfl
                       refine pure_ (i := 2) (N := some 133) (v := ?_) (a' := ?_) #[true,true,true,false,false,false,false,false,false,false,false,false,false] rfl rfl (any_of HT_.out (by kernel_rfl)) (fun _ _ _ h => h) (Or.inl ⟨by rfl, ?_⟩) ?_ ?_
                       rotate_left
                       ·intro w'; go_simp; with_reducible rfl
                       rotate_left
                       ·simp only [Act.put, sA, sB, sC, i64_w, i32_w]; rfl
                       refine take_ (i := 3) (N := some 134) (v := ?_) (a' := ?_) #[true,true,true,true,false,false,false,false,false,false,false,false,false] rfl rfl (take_ofW HT_.out HW_.out (by kernel_rfl)) (fun _ _ _ h => h) (Or.inl ⟨by rfl, ?_⟩) hHeld ?_ ?_
                       rotate_left
                       ·rintro w' ⟨s0, s1, s2, s3⟩; go_simp; with_reducible rfl
                       rotate_left
                       ·simp only [Act.put, sA, sB, sC, i64_w, i32_w]; rfl
                       refine pure_ (i := 4) (N := some 135) (v := ?_) (a' := ?_) #[true,true,true,true,true,false,false,false,false,false,false,false,false] rfl rfl (any_of HT_.out (by kernel_rfl)) (fun _ _ _ h => h) (Or.inl ⟨by rfl, ?_⟩) ?_ ?_
                       rotate_left
                       ·intro w'; go_simp; with_reducible rfl
                       rotate_left
                       ·simp only [Act.put, sA, sB, sC, i64_w, i32_w]; rfl
                       refine pure_ (i := 5) (N := some 136) (v := ?_) (a' := ?_) #[true,true,true,true,true,true,false,false,false,false,false,false,false] rfl rfl (any_of HT_.out (by kernel_rfl)) (fun _ _ _ h => h) (Or.inl ⟨by rfl, ?_⟩) ?_ ?_
                       rotate_left
                       ·intro w'; go_simp; with_reducible rfl
                       rotate_left
                       ·simp only [Act.put, sA, sB, sC, i64_w, i32_w]; rfl
                       refine pure_ (i := 6) (N := some 137) (v := ?_) (a' := ?_) #[true,true,true,true,true,true,true,false,false,false,false,false,false] rfl rfl (any_of HT_.out (by kernel_rfl)) (fun _ _ _ h => h) (Or.inl ⟨by rfl, ?_⟩) ?_ ?_
                       rotate_left
                       ·intro w'; go_simp; with_reducible rfl
                       rotate_left
                       ·simp only [Act.put, sA, sB, sC, i64_w, i32_w]; rfl
                       refine one_ (i := 7) (N := some 138) #[true,true,true,true,true,true,true,true,false,false,false,false,false] rfl rfl (one_of HT_.out (by kernel_rfl)) (by decide) (fun K hK => ?_)
                       refine goes_ Try.func15 (by kernel_rfl) rfl #[.slice A111 y374.length c111, .int .i64 ji98] (by rfl) rfl rfl (by (try simp only [List.map_toArray, List.map_cons, List.map_nil]); first | done | (simp only [hji98]; rfl) | rfl | (simp only [List.length_drop, List.length_take]; rfl)) ?_
                       with_reducible refine (head_Id.calls k2 _ _ y374 ji98 t378 t379 _ ?side1 ?side2 A99.out).mono ?_
                       (case side1 => repeat (first | exact (by repeat (first | (with_reducible exact HR377.out) | (with_reducible refine C_alloc ?_ _) | (with_reducible refine C_drewN ?_ _) | (with_reducible refine C_drew ?_) | exact HR377.out)) | (with_reducible refine C_alloc ?_ _) | (with_reducible refine C_drewN ?_ _) | (with_reducible refine C_drew ?_)))
                       (case side2 => exact HC377.out)
                       rintro e w112 ⟨v380, rfl, ho0, hb⟩
                       refine ⟨_, rfl, ?_⟩
                       have n0_ := Aside0.mk (R_elder' (by (with_reducible repeat (first | apply R_alloc | apply R_drewN | apply R_drew)); exact HO_7.out) (R_base ho0) hb)
                       have n1_ := Aside0.mk (R_elder' (by (with_reducible repeat (first | apply R_alloc | apply R_drewN | apply R_drew)); exact HO_355002.out) (R_base ho0) hb)
                       have n2_ := Aside0.mk (R_elder' (by (with_reducible repeat (first | apply R_alloc | apply R_drewN | apply R_drew)); exact HO_355003.out) (R_base ho0) hb)
                       have n3_ := Aside0.mk (R_lower (R_new' (R_new' (R_new' ho0 (R_lt (by (with_reducible repeat (first | apply R_alloc | apply R_drewN | apply R_drew)); exact HO_7.out))) (R_lt (by (with_reducible repeat (first | apply R_alloc | apply R_drewN | apply R_drew)); exact HO_355002.out))) (R_lt (by (with_reducible repeat (first | apply R_alloc | apply R_drewN | apply R_drew)); exact HO_355003.out))) (below_size (by repeat (first | (with_reducible first | exact HB.out | apply below_alloc | apply pw_below_drewN | apply below_drew1 | refine below_set ?_ GE297.out | refine below_set ?_ GE298.out | refine below_set ?_ GE354.out) | exact HB.out))))
                       have n4_ := Aside0.mk (blk_below (g := gb297) (o := .cells #[.int .u8 a0_0, .int .u32 a0_1, .slice A0_2 l0_2.length c0_2, .slice A0_3 l0_3.length c0_3] 27 (0, 0)) (by (with_reducible repeat (first | refine blk_drewN ?_ _ | refine blk_drew ?_ | refine blk_alloc ?_ _)); exact BK297.out) hb)
                       have n5_ := Aside0.mk (blk_below (g := gb298) (o := .cells #[.int .u8 a1_0, .int .u32 a1_1, .slice A1_2 l1_2.length c1_2, .slice A1_3 l1_3.length c1_3] 27 (0, 0)) (by (with_reducible repeat (first | refine blk_drewN ?_ _ | refine blk_drew ?_ | refine blk_alloc ?_ _)); exact BK298.out) hb)
                       have n6_ := Aside0.mk (blk_below (g := gb354) (o := .cells #[.int .u8 t342, .int .u32 t343, .slice Ao78 t344.length co78, .slice Ao79 t347.length co79] 27 (0, 0)) (by (with_reducible repeat (first | refine blk_drewN ?_ _ | refine blk_drew ?_ | refine blk_alloc ?_ _)); exact BK354.out) hb)
                       have n7_ := Aside0.mk (C_below (by repeat (first | (with_reducible exact HR377.out) | (with_reducible refine C_alloc ?_ _) | (with_reducible refine C_drewN ?_ _) | (with_reducible refine C_drew ?_) | exact HR377.out)) hb)
                       have n8_ := Aside0.mk (below_step (by repeat (first | (with_reducible first | exact HB.out | apply below_alloc | apply pw_below_drewN | apply below_drew1 | refine below_set ?_ GE297.out | refine below_set ?_ GE298.out | refine below_set ?_ GE354.out) | exact HB.out)) hb)
                       clear HO_7
                       clear HO_355002
                       clear HO_355003
                       clear BK297
                       clear BK298
                       clear BK354
                       clear HR377
                       clear HB
                       have HO_7 := n0_
                       have HO_355002 := n1_
                       have HO_355003 := n2_
                       have HO381 := n3_
                       have BK297 := n4_
                       have BK298 := n5_
                       have BK354 := n6_
                       have HR377 := n7_
                       have HB := n8_
                       clear n0_ n1_ n2_ n3_ n4_ n5_ n6_ n7_ n8_
                       (try clear hb)
                       (try clear hb2)
                       (try clear hk)
                       (try clear hi)
                       (try clear ho0)
                       refine hK.out _ _ ⟨(blk_cell BK297.out 0).trans rfl, (blk_cell BK297.out 1).trans rfl, (blk_cell BK297.out 2).trans rfl, (blk_cell BK297.out 3).trans rfl⟩ (fun hHeld => ?_)
                       clear hK K
                       refine norm_ (a' := ?_) ?_ ?_
                       rotate_left
                       ·show Act.put _ (some 138) _ = _
                        simp only [Act.put, sA, sB, sC, i64_w, i32_w]
                        rfl
                       refine pure_ (i := 8) (N := some 130) (v := ?_) (a' := ?_) #[true,true,true,true,true,true,true,true,true,false,false,false,false] rfl rfl (any_of HT_.out (by kernel_rfl)) (fun _ _ _ h => h) (Or.inl ⟨by rfl, ?_⟩) ?_ ?_
                       rotate_left
                       ·intro w'; go_simp; with_reducible rfl
                       rotate_left
                       ·simp only [Act.put, sA, sB, sC, i64_w, i32_w]; rfl
                       refine pure_ (i := 9) (N := some 139) (v := ?_) (a' := ?_) #[true,true,true,true,true,true,true,true,true,true,false,false,false] rfl rfl (any_of HT_.out (by kernel_rfl)) (fun _ _ _ h => h) (Or.inl ⟨by rfl, ?_⟩) ?_ ?_
                       rotate_left
                       ·intro w'; go_simp; with_reducible rfl
                       rotate_left
                       ·simp only [Act.put, sA, sB, sC, i64_w, i32_w]; rfl
                       refine pure_ (i := 10) (N := some 140) (v := ?_) (a' := ?_) #[true,true,true,true,true,true,true,true,true,true,true,false,false] rfl rfl (any_of HT_.out (by kernel_rfl)) (fun _ _ _ h => h) (Or.inl ⟨by rfl, ?_⟩) ?_ ?_
                       rotate_left
                       ·intro w'; go_simp; with_reducible rfl
                       rotate_left
                       ·simp only [Act.put, sA, sB, sC, i64_w, i32_w]; rfl
                       refine pure_ (i := 11) (N := some 18) (v := ?_) (a' := ?_) #[true,true,true,true,true,true,true,true,true,true,true,true,false] rfl rfl (any_of HT_.out (by kernel_rfl)) (fun _ _ _ h => h) (Or.inl ⟨by rfl, ?_⟩) ?_ ?_
                       rotate_left
                       ·intro w'; go_simp; with_reducible rfl
                       rotate_left
                       ·simp only [Act.put, sA, sB, sC, i64_w, i32_w]; rfl
                       refine pure_ (i := 12) (N := some 19) (v := ?_) (a' := ?_) #[true,true,true,true,true,true,true,true,true,true,true,true,true] rfl rfl (any_of HT_.out (by kernel_rfl)) (fun _ _ _ h => h) (Or.inl ⟨by rfl, ?_⟩) ?_ ?_
                       rotate_left
                       ·intro w'; go_simp; with_reducible rfl
                       rotate_left
                       ·simp only [Act.put, sA, sB, sC, i64_w, i32_w]; rfl
                       refine done_ (done_of HT_.out (by kernel_rfl)) ?_
                       try go_wp2
                       have n0_ := Aside0.mk (R_drew HO_7.out)
                       have n1_ := Aside0.mk (R_drew HO_355002.out)
                       have n2_ := Aside0.mk (R_drew HO_355003.out)
                       have n3_ := Aside0.mk (R_drew HO381.out)
                       have n4_ := Aside0.mk (blk_drew BK297.out)
                       have n5_ := Aside0.mk (blk_drew BK298.out)
                       have n6_ := Aside0.mk (blk_drew BK354.out)
                       have n7_ := Aside0.mk (C_drew HR377.out)
                       have n8_ := Aside0.mk (below_drew1 HB.out)
                       clear HO_7
                       clear HO_355002
                       clear HO_355003
                       clear HO381
                       clear BK297
                       clear BK298
                       clear BK354
                       clear HR377
                       clear HB
                       have HO_7 := n0_
                       have HO_355002 := n1_
                       have HO_355003 := n2_
                       have HO381 := n3_
                       have BK297 := n4_
                       have BK298 := n5_
                       have BK354 := n6_
                       have HR377 := n7_
                       have HB := n8_
                       clear n0_ n1_ n2_ n3_ n4_ n5_ n6_ n7_ n8_
                       obtain ⟨Ao114, co114, eo114⟩ := R_slice HO381.out
                       (first | subst eo114 | (injection eo114 with f1_ f2_ f3_; have f4_ := f1_.symm; have f5_ := f3_.symm; clear f1_ f2_ f3_; subst f4_; subst f5_))
                       have p382 : 0 ≤ (0 : Int) := (by omega)
                       have q382 : 0 < (t378.length : Int) := of_decide_eq_true (by first | (with_reducible assumption) | assumption)
                       obtain ⟨ad382, e382, hx382_0⟩ := Kd.at_int (R_reads' HO381.out).2.2 0 p382 q382
                       cases e382
                       have qi382 : (0 < t378.length) = True := eq_true (by omega)
                       (try rw [show ((0 : Int)).toNat = 0 from rfl] at hx382_0)
                       (try rw [Addr.add_zero'] at hx382_0)
                       replace p382 := eq_true p382
                       replace q382 := eq_true q382
                       have q115 : (1 : Int) ≤ ((t378.length : Int) : Int) := of_decide_eq_true (by first | (with_reducible assumption) | assumption)
                       obtain ⟨i0115, hi0115, _, hsz115, _⟩ := info_parts info5
                       have hroom115 : t378.length ≤ co114 := (R_reads' HO381.out).2.1
                       have hC115 : Kd.C (Kd.int .u8) _ (some ad382) t378.length t378 := (R_reads' HO381.out).2.2
                       have hcut115 := cut_from (P := Try.prog) 22 5 .i64 Try.underlying22 hi0115 1 hsz115 (some ad382) t378.length co114 1 (by omega) q115
                       have hr115 := C_drop (m := (1 : Int).toNat) (c := co114) hC115 (by omega) hroom115
                       obtain ⟨A115, hA115⟩ : ∃ A_x, A_x = (if co114 = (1 : Int).toNat then (some ad382) else ((some ad382) : Option Addr).map (·.add ((1 : Int).toNat * 1))) := ⟨_, rfl⟩
                       obtain ⟨c115, hc115⟩ : ∃ c_x, c_x = co114 - (1 : Int).toNat := ⟨_, rfl⟩
                       have hy115 : y383.length = t378.length - (1 : Int).toNat := (by rw [Ny383.out, List.length_drop] <;> omega)
                       rw [show (t378).drop (1 : Int).toNat = y383 from Ny383.out.symm] at hr115
                       replace hr115 : Kd.C (Kd.int .u8) _ A115 y383.length y383 := (by rw [hA115]; exact hr115)
                       rw [← hy115, ← hA115, ← hc115] at hcut115
                       have HR386 := Aside0.mk hr115
                       have HC386 := Aside0.mk (show y383.length ≤ c115 from by rw [hy115, hc115]; exact Nat.sub_le_sub_right hroom115 _)
                       clear hr115 hC115 hroom115 hi0115 hsz115 hc115
                       have KY115 := Aside0.mk hy115
                       have KA115 := Aside0.mk hA115
                       clear hy115 hA115
                       have KL115 := Aside0.mk (show 1 ≤ t378.length from by omega)
                       replace q115 := eq_true q115
                       refine start_ (n := 30) (S := fun w' => w'.cell? ⟨gb297, 0, none⟩ = some (.int .u8 a0_0) ∧ w'.cell? ⟨gb297, 1, none⟩ = some (.int .u32 a0_1) ∧ w'.cell? ⟨gb297, 2, none⟩ = some (.slice A0_2 l0_2.length c0_2) ∧ w'.cell? ⟨gb297, 3, none⟩ = some (.slice A0_3 l0_3.length c0_3) ∧ w'.cell? ad382 = some (.int .u8 (rd t378 0))) (ds := []) #[false,false,false,false,false,false,false,false,false,false,false,false,false,false,false,false,false,false,false,false,false,false,false,false,false,false,false,false,false,false] (by kernel_rfl) rfl rfl ⟨(blk_cell BK297.out 0).trans rfl, (blk_cell BK297.out 1).trans rfl, (blk_cell BK297.out 2).trans rfl, (blk_cell BK297.out 3).trans rfl, hx382_0⟩ (fun hHeld => ?_); refine with_tabW crosswaylaw10_HeadWrites.tab21 crosswaylaw10_HeadWrites.bits21 (fun HT_ HW_ => ?_)
                       generalize w112.drew = w113 at HO_7 HO_355002 HO_355003 HO381 BK297 BK298 BK354 HR377 HB HR386 hx382_0 hHeld ⊢
                       refine pure_ (i := 0) (N := some 141) (v := ?_) (a' := ?_) #[true,false,false,false,false,false,false,false,false,false,false,false,false,false,false,false,false,false,false,false,false,false,false,false,false,false,false,false,false,false] rfl rfl (any_of HT_.out (by kernel_rfl)) (fun _ _ _ h => h) (Or.inl ⟨by rfl, ?_⟩) ?_ ?_
                       rotate_left
                       ·intro w'; go_simp; with_reducible rfl
                       rotate_left
                       ·simp only [Act.put, sA, sB, sC, i64_w, i32_w]; rfl
                       refine pure_ (i := 1) (N := some 142) (v := ?_) (a' := ?_) #[true,true,false,false,false,false,false,false,false,false,false,false,false,false,false,false,false,false,false,false,false,false,false,false,false,false,false,false,false,false] rfl rfl (any_of HT_.out (by kernel_rfl)) (fun _ _ _ h => h) (Or.inl ⟨by rfl, ?_⟩) ?_ ?_
                       rotate_left
                       ·intro w'; go_simp; with_reducible rfl
                       rotate_left
                       ·simp only [Act.put, sA, sB, sC, i64_w, i32_w]; rfl
                       refine pure_ (i := 2) (N := some 143) (v := ?_) (a' := ?_) #[true,true,true,false,false,false,false,false,false,false,false,false,false,false,false,false,false,false,false,false,false,false,false,false,false,false,false,false,false,false] rfl rfl (any_of HT_.out (by kernel_rfl)) (fun _ _ _ h => h) (Or.inl ⟨by rfl, ?_⟩) ?_ ?_
                       rotate_left
                       ·intro w'; go_simp; with_reducible rfl
                       rotate_left
                       ·simp only [Act.put, sA, sB, sC, i64_w, i32_w]; rfl
                       refine pure_ (i := 3) (N := some 144) (v := ?_) (a' := ?_) #[true,true,true,true,false,false,false,false,false,false,false,false,false,false,false,false,false,false,false,false,false,false,false,false,false,false,false,false,false,false] rfl rfl (any_of HT_.out (by kernel_rfl)) (fun _ _ _ h => h) (Or.inl ⟨by rfl, ?_⟩) ?_ ?_
                       rotate_left
                       ·intro w'; go_simp; with_reducible rfl
                       rotate_left
                       ·simp only [Act.put, sA, sB, sC, i64_w, i32_w]; rfl
                       refine take_ (i := 4) (N := some 145) (v := ?_) (a' := ?_) #[true,true,true,true,true,false,false,false,false,false,false,false,false,false,false,false,false,false,false,false,false,false,false,false,false,false,false,false,false,false] rfl rfl (take_ofW HT_.out HW_.out (by kernel_rfl)) (fun _ _ _ h => h) (Or.inl ⟨by rfl, ?_⟩) hHeld ?_ ?_
                       rotate_left
                       ·rintro w' ⟨s0, s1, s2, s3, s4⟩; go_simp; with_reducible rfl
                       rotate_left
                       ·simp only [Act.put, sA, sB, sC, i64_w, i32_w]; rfl
                       refine pure_ (i := 5) (N := some 146) (v := ?_) (a' := ?_) #[true,true,true,true,true,true,false,false,false,false,false,false,false,false,false,false,false,false,false,false,false,false,false,false,false,false,false,false,false,false] rfl rfl (any_of HT_.out (by kernel_rfl)) (fun _ _ _ h => h) (Or.inl ⟨by rfl, ?_⟩) ?_ ?_
                       rotate_left
                       ·intro w'; go_simp; with_reducible rfl
                       rotate_left
                       ·simp only [Act.put, sA, sB, sC, i64_w, i32_w]; rfl
                       refine pure_ (i := 6) (N := some 147) (v := ?_) (a' := ?_) #[true,true,true,true,true,true,true,false,false,false,false,false,false,false,false,false,false,false,false,false,false,false,false,false,false,false,false,false,false,false] rfl rfl (any_of HT_.out (by kernel_rfl)) (fun _ _ _ h => h) (Or.inl ⟨by rfl, ?_⟩) ?_ ?_
                       rotate_left
                       ·intro w'; go_simp; with_reducible rfl
                       rotate_left
                       ·simp only [Act.put, sA, sB, sC, i64_w, i32_w]; rfl
                       refine pure_ (i := 7) (N := some 148) (v := ?_) (a' := ?_) #[true,true,true,true,true,true,true,true,false,false,false,false,false,false,false,false,false,false,false,false,false,false,false,false,false,false,false,false,false,false] rfl rfl (any_of HT_.out (by kernel_rfl)) (fun _ _ _ h => h) (Or.inl ⟨by rfl, ?_⟩) ?_ ?_
                       rotate_left
                       ·intro w'; go_simp; with_reducible rfl
                       rotate_left
                       ·simp only [Act.put, sA, sB, sC, i64_w, i32_w]; rfl
                       refine pure_ (i := 8) (N := some 149) (v := ?_) (a' := ?_) #[true,true,true,true,true,true,true,true,true,false,false,false,false,false,false,false,false,false,false,false,false,false,false,false,false,false,false,false,false,false] rfl rfl (any_of HT_.out (by kernel_rfl)) (fun _ _ _ h => h) (Or.inl ⟨by rfl, ?_⟩) ?_ ?_
                       rotate_left
                       ·intro w'; go_simp; with_reducible rfl
                       rotate_left
                       ·simp only [Act.put, sA, sB, sC, i64_w, i32_w]; rfl
                       refine pure_ (i := 9) (N := some 150) (v := ?_) (a' := ?_) #[true,true,true,true,true,true,true,true,true,true,false,false,false,false,false,false,false,false,false,false,false,false,false,false,false,false,false,false,false,false] rfl rfl (any_of HT_.out (by kernel_rfl)) (fun _ _ _ h => h) (Or.inl ⟨by rfl, ?_⟩) ?_ ?_
                       rotate_left
                       ·intro w'; go_simp; with_reducible rfl
                       rotate_left
                       ·simp only [Act.put, sA, sB, sC, i64_w, i32_w]; rfl
                       refine pure_ (i := 10) (N := some 151) (v := ?_) (a' := ?_) #[true,true,true,true,true,true,true,true,true,true,true,false,false,false,false,false,false,false,false,false,false,false,false,false,false,false,false,false,false,false] rfl rfl (any_of HT_.out (by kernel_rfl)) (fun _ _ _ h => h) (Or.inl ⟨by rfl, ?_⟩) ?_ ?_
                       rotate_left
                       ·intro w'; go_simp; with_reducible rfl
                       rotate_left
                       ·simp only [Act.put, sA, sB, sC, i64_w, i32_w]; rfl
                       refine pure_ (i := 11) (N := some 152) (v := ?_) (a' := ?_) #[true,true,true,true,true,true,true,true,true,true,true,true,false,false,false,false,false,false,false,false,false,false,false,false,false,false,false,false,false,false] rfl rfl (any_of HT_.out (by kernel_rfl)) (fun _ _ _ h => h) (Or.inl ⟨by rfl, ?_⟩) ?_ ?_
                       rotate_left
                       ·intro w'; go_simp; with_reducible rfl
                       rotate_left
                       ·simp only [Act.put, sA, sB, sC, i64_w, i32_w]; rfl
                       refine pure_ (i := 12) (N := some 153) (v := ?_) (a' := ?_) #[true,true,true,true,true,true,true,true,true,true,true,true,true,false,false,false,false,false,false,false,false,false,false,false,false,false,false,false,false,false] rfl rfl (any_of HT_.out (by kernel_rfl)) (fun _ _ _ h => h) (Or.inl ⟨by rfl, ?_⟩) ?_ ?_
                       rotate_left
                       ·intro w'; go_simp; with_reducible rfl
                       rotate_left
                       ·simp only [Act.put, sA, sB, sC, i64_w, i32_w]; rfl
                       refine pure_ (i := 13) (N := some 154) (v := ?_) (a' := ?_) #[true,true,true,true,true,true,true,true,true,true,true,true,true,true,false,false,false,false,false,false,false,false,false,false,false,false,false,false,false,false] rfl rfl (any_of HT_.out (by kernel_rfl)) (fun _ _ _ h => h) (Or.inl ⟨by rfl, ?_⟩) ?_ ?_
                       rotate_left
                       ·intro w'; go_simp; with_reducible rfl
                       rotate_left
                       ·simp only [Act.put, sA, sB, sC, i64_w, i32_w]; rfl
                       refine pure_ (i := 16) (N := some 157) (v := ?_) (a' := ?_) #[true,true,true,true,true,true,true,true,true,true,true,true,true,true,false,false,true,false,false,false,false,false,false,false,false,false,false,false,false,false] rfl rfl (any_of HT_.out (by kernel_rfl)) (fun _ _ _ h => h) (Or.inl ⟨by rfl, ?_⟩) ?_ ?_
                       rotate_left
                       ·intro w'; go_simp; with_reducible rfl
                       rotate_left
                       ·simp only [Act.put, sA, sB, sC, i64_w, i32_w]; rfl
                       refine take_ (i := 14) (N := some 155) (v := ?_) (a' := ?_) #[true,true,true,true,true,true,true,true,true,true,true,true,true,true,true,false,true,false,false,false,false,false,false,false,false,false,false,false,false,false] rfl rfl (take_ofW HT_.out HW_.out (by kernel_rfl)) (fun _ _ _ h => h) (Or.inl ⟨by rfl, ?_⟩) hHeld ?_ ?_
                       rotate_left
                       ·rintro w' ⟨s0, s1, s2, s3, s4⟩; go_simp; with_reducible rfl
                       rotate_left
                       ·simp only [Act.put, sA, sB, sC, i64_w, i32_w]; rfl
                       refine pure_ (i := 15) (N := some 156) (v := ?_) (a' := ?_) #[true,true,true,true,true,true,true,true,true,true,true,true,true,true,true,true,true,false,false,false,false,false,false,false,false,false,false,false,false,false] rfl rfl (any_of HT_.out (by kernel_rfl)) (fun _ _ _ h => h) (Or.inl ⟨by rfl, ?_⟩) ?_ ?_
                       rotate_left
                       ·intro w'; go_simp; with_reducible rfl
                       rotate_left
                       ·simp only [Act.put, sA, sB, sC, i64_w, i32_w]; rfl
                       refine take_ (i := 17) (N := some 158) (v := ?_) (a' := ?_) #[true,true,true,true,true,true,true,true,true,true,true,true,true,true,true,true,true,true,false,false,false,false,false,false,false,false,false,false,false,false] rfl rfl (take_ofW HT_.out HW_.out (by kernel_rfl)) (fun _ _ _ h => h) (Or.inl ⟨by rfl, ?_⟩) hHeld ?_ ?_
                       rotate_left
                       ·rintro w' ⟨s0, s1, s2, s3, s4⟩; go_simp; with_reducible rfl
                       rotate_left
                       ·simp only [Act.put, sA, sB, sC, i64_w, i32_w]; rfl
                       refine pure_ (i := 18) (N := some 159) (v := ?_) (a' := ?_) #[true,true,true,true,true,true,true,true,true,true,true,true,true,true,true,true,true,true,true,false,false,false,false,false,false,false,false,false,false,false] rfl rfl (any_of HT_.out (by kernel_rfl)) (fun _ _ _ h => h) (Or.inl ⟨by rfl, ?_⟩) ?_ ?_
                       rotate_left
                       ·intro w'; go_simp; with_reducible rfl
                       rotate_left
                       ·simp only [Act.put, sA, sB, sC, i64_w, i32_w]; rfl
                       refine pure_ (i := 19) (N := some 160) (v := ?_) (a' := ?_) #[true,true,true,true,true,true,true,true,true,true,true,true,true,true,true,true,true,true,true,true,false,false,false,false,false,false,false,false,false,false] rfl rfl (any_of HT_.out (by kernel_rfl)) (fun _ _ _ h => h) (Or.inl ⟨by rfl, ?_⟩) ?_ ?_
                       rotate_left
                       ·intro w'; go_simp; with_reducible rfl
                       rotate_left
                       ·simp only [Act.put, sA, sB, sC, i64_w, i32_w]; rfl
                       refine pure_ (i := 20) (N := some 161) (v := ?_) (a' := ?_) #[true,true,true,true,true,true,true,true,true,true,true,true,true,true,true,true,true,true,true,true,true,false,false,false,false,false,false,false,false,false] rfl rfl (any_of HT_.out (by kernel_rfl)) (fun _ _ _ h => h) (Or.inl ⟨by rfl, ?_⟩) ?_ ?_
                       rotate_left
                       ·intro w'; go_simp; with_reducible rfl
                       rotate_left
                       ·simp only [Act.put, sA, sB, sC, i64_w, i32_w]; rfl
                       refine pure_ (i := 21) (N := some 162) (v := ?_) (a' := ?_) #[true,true,true,true,true,true,true,true,true,true,true,true,true,true,true,true,true,true,true,true,true,true,false,false,false,false,false,false,false,false] rfl rfl (any_of HT_.out (by kernel_rfl)) (fun _ _ _ h => h) (Or.inl ⟨by rfl, ?_⟩) ?_ ?_
                       rotate_left
                       ·intro w'; go_simp; with_reducible rfl
                       rotate_left
                       ·simp only [Act.put, sA, sB, sC, i64_w, i32_w]; rfl
                       refine pure_ (i := 22) (N := some 163) (v := ?_) (a' := ?_) #[true,true,true,true,true,true,true,true,true,true,true,true,true,true,true,true,true,true,true,true,true,true,true,false,false,false,false,false,false,false] rfl rfl (any_of HT_.out (by kernel_rfl)) (fun _ _ _ h => h) (Or.inl ⟨by rfl, ?_⟩) ?_ ?_
                       rotate_left
                       ·intro w'; go_simp; with_reducible rfl
                       rotate_left
                       ·simp only [Act.put, sA, sB, sC, i64_w, i32_w]; rfl
                       refine pure_ (i := 23) (N := some 164) (v := ?_) (a' := ?_) #[true,true,true,true,true,true,true,true,true,true,true,true,true,true,true,true,true,true,true,true,true,true,true,true,false,false,false,false,false,false] rfl rfl (any_of HT_.out (by kernel_rfl)) (fun _ _ _ h => h) (Or.inl ⟨by rfl, ?_⟩) ?_ ?_
                       rotate_left
                       ·intro w'; go_simp; with_reducible rfl
                       rotate_left
                       ·simp only [Act.put, sA, sB, sC, i64_w, i32_w]; rfl
                       refine pure_ (i := 24) (N := some 165) (v := ?_) (a' := ?_) #[true,true,true,true,true,true,true,true,true,true,true,true,true,true,true,true,true,true,true,true,true,true,true,true,true,false,false,false,false,false] rfl rfl (any_of HT_.out (by kernel_rfl)) (fun _ _ _ h => h) (Or.inl ⟨by rfl, ?_⟩) ?_ ?_
                       rotate_left
                       ·intro w'; go_simp; with_reducible rfl
                       rotate_left
                       ·simp only [Act.put, sA, sB, sC, i64_w, i32_w]; rfl
                       refine take_ (i := 25) (N := some 166) (v := ?_) (a' := ?_) #[true,true,true,true,true,true,true,true,true,true,true,true,true,true,true,true,true,true,true,true,true,true,true,true,true,true,false,false,false,false] rfl rfl (take_ofW HT_.out HW_.out (by kernel_rfl)) (fun _ _ _ h => h) (Or.inl ⟨by rfl, ?_⟩) hHeld ?_ ?_
                       rotate_left
                       ·rintro w' ⟨s0, s1, s2, s3, s4⟩; go_simp; with_reducible rfl
                       rotate_left
                       ·simp only [Act.put, sA, sB, sC, i64_w, i32_w]; rfl
                       refine one_ (i := 26) (N := some 167) #[true,true,true,true,true,true,true,true,true,true,true,true,true,true,true,true,true,true,true,true,true,true,true,true,true,true,true,false,false,false] rfl rfl (one_of HT_.out (by kernel_rfl)) (by decide) (fun K hK => ?_)
                       refine goes_ Try.func13 (by kernel_rfl) rfl #[.slice A115 y383.length c115, .slice A0_2 l0_2.length c0_2] (by rfl) rfl rfl (by (try simp only [List.map_toArray, List.map_cons, List.map_nil]); first | done | rfl | (simp only [List.length_drop, List.length_take]; rfl)) ?_
                       with_reducible refine (crosswayref00_SameBytes.calls k2 _ _ y383 _ _ l0_2 t387 _ ?side1 ?side2 ?side3 ?side4 A109.out).mono ?_
                       (case side1 => repeat (first | exact (by repeat (first | (with_reducible exact HR386.out) | (with_reducible refine C_alloc ?_ _) | (with_reducible refine C_drewN ?_ _) | (with_reducible refine C_drew ?_) | exact HR386.out)) | (with_reducible refine C_alloc ?_ _) | (with_reducible refine C_drewN ?_ _) | (with_reducible refine C_drew ?_)))
                       (case side2 => exact HC386.out)
                       (case side3 => repeat (first | exact (C_below HR0_2.out HB.out) | (with_reducible refine C_alloc ?_ _) | (with_reducible refine C_drewN ?_ _) | (with_reducible refine C_drew ?_)))
                       (case side4 => exact HC0_2.out)
                       rintro e w' ⟨rfl, ⟨nd, rfl⟩⟩
                       refine ⟨_, rfl, ?_⟩
                       refine hK.out _ _ ⟨(blk_cell BK297.out 0).trans rfl, (blk_cell BK297.out 1).trans rfl, (blk_cell BK297.out 2).trans rfl, (blk_cell BK297.out 3).trans rfl, hHeld.2.2.2.2⟩ (fun hHeld => ?_)
                       clear hK K
                       refine norm_ (a' := ?_) ?_ ?_
                       rotate_left
                       ·show Act.put _ (some 167) _ = _
                        simp only [Act.put, sA, sB, sC, i64_w, i32_w]
                        rfl
                       refine pure_ (i := 27) (N := some 168) (v := ?_) (a' := ?_) #[true,true,true,true,true,true,true,true,true,true,true,true,true,true,true,true,true,true,true,true,true,true,true,true,true,true,true,true,false,false] rfl rfl (any_of HT_.out (by kernel_rfl)) (fun _ _ _ h => h) (Or.inl ⟨by rfl, ?_⟩) ?_ ?_
                       rotate_left
                       ·intro w'; go_simp; with_reducible rfl
                       rotate_left
                       ·simp only [Act.put, sA, sB, sC, i64_w, i32_w]; rfl
                       refine pure_ (i := 28) (N := some 169) (v := ?_) (a' := ?_) #[true,true,true,true,true,true,true,true,true,true,true,true,true,true,true,true,true,true,true,true,true,true,true,true,true,true,true,true,true,false] rfl rfl (any_of HT_.out (by kernel_rfl)) (fun _ _ _ h => h) (Or.inl ⟨by rfl, ?_⟩) ?_ ?_
                       rotate_left
                       ·intro w'; go_simp; with_reducible rfl
                       rotate_left
                       ·simp only [Act.put, sA, sB, sC, i64_w, i32_w]; rfl
                       refine pure_ (i := 29) (N := some 6) (v := ?_) (a' := ?_) #[true,true,true,true,true,true,true,true,true,true,true,true,true,true,true,true,true,true,true,true,true,true,true,true,true,true,true,true,true,true] rfl rfl (any_of HT_.out (by kernel_rfl)) (fun _ _ _ h => h) (Or.inl ⟨by rfl, ?_⟩) ?_ ?_
                       rotate_left
                       ·intro w'; go_simp; with_reducible rfl
                       rotate_left
                       ·simp only [Act.put, sA, sB, sC, i64_w, i32_w]; rfl
                       refine done_ (done_of HT_.out (by kernel_rfl)) ?_
                       try go_wp2
                       go_ret
                       exact ⟨by first | rfl | (simp [errW_none, errW_some] <;> rfl) | (simp only [← hji98]; first | rfl | (simp [errW_none, errW_some] <;> rfl)) | (simp [*, errW_none, errW_some] <;> rfl), by repeat (first | (with_reducible first | exact HB.out | apply below_alloc | apply pw_below_drewN | apply below_drew1 | refine below_set ?_ GE297.out | refine below_set ?_ GE298.out | refine below_set ?_ GE354.out) | exact HB.out)⟩
                      ·rw [if_neg c108] at H
                       exact absurd H (by simp)
                     ·rw [if_neg c107] at H
                      have c107b0 : ((wrap64 (rd t378 0)) == (l0_2.length : Int)) = false := beq_eq_false_iff_ne.mpr c107
                      have c107b1 : ((wrap64 (rd t378 0)) != (l0_2.length : Int)) = true := bne_iff_ne.mpr c107
                      exact absurd H (by simp)
                    ·rw [if_neg c106] at H
                     exact absurd H (by simp)
                  ·rw [if_neg c100] at H
                   have c100b0 : (t379 == 0) = false := beq_eq_false_iff_ne.mpr c100
                   have c100b1 : (t379 != 0) = true := bne_iff_ne.mpr c100
                   exact absurd H (by simp)
                 ·rw [if_neg c97] at H
                  exact absurd H (by simp)
             ·replace c49 := Bool.eq_false_iff.mpr c49
              subst c49
              have H1 : (none) = some r := by rw [if_neg (show ¬ (false = true) by decide)] at H; exact H
              clear H
              have H := H1
              clear H1
              exact absurd H (by simp)
            ·replace c47 := Bool.eq_false_iff.mpr c47
             subst c47
             have H1 : (none) = some r := by rw [if_neg (show ¬ (false = true) by decide)] at H; exact H
             clear H
             have H := H1
             clear H1
             exact absurd H (by simp)
           ·rw [if_neg c45] at H
            exact absurd H (by simp)
          ·rw [if_neg c43] at H
           exact absurd H (by simp)
         ·rw [if_neg c41] at H
          have c41b0 : (t303 == 0) = false := beq_eq_false_iff_ne.mpr c41
          have c41b1 : (t303 != 0) = true := bne_iff_ne.mpr c41
          obtain rfl := Option.some.inj H
          have hnb116 := NB297_298.out
          have hnc116 := NB298_297.out
          have hcz117_0 : wc.cell? ⟨gb297, 0, none⟩ = some (.int .u8 a0_0) := (blk_cell BK297.out 0).trans rfl
          have hcz117_1 : wc.cell? ⟨gb297, 1, none⟩ = some (.int .u32 a0_1) := (blk_cell BK297.out 1).trans rfl
          have hcz117_2 : wc.cell? ⟨gb297, 2, none⟩ = some (.slice A0_2 l0_2.length c0_2) := (blk_cell BK297.out 2).trans rfl
          have hcz117_3 : wc.cell? ⟨gb297, 3, none⟩ = some (.slice A0_3 l0_3.length c0_3) := (blk_cell BK297.out 3).trans rfl
          have hfz117_0 := blk_frozen BK297.out 0
          have hfz117_1 := blk_frozen BK297.out 1
          have hfz117_2 := blk_frozen BK297.out 2
          have hfz117_3 := blk_frozen BK297.out 3
          try go_wp2_with (first | ((with_reducible refine gate_callee (f := 16) rfl ?_); refine goesL_ (some 51) rfl rfl Try.func16 (by kernel_rfl) rfl #[.agg #[.int .u8 a0_0, .int .u32 a0_1, .slice A0_2 l0_2.length c0_2, .slice A0_3 l0_3.length c0_3]] rfl (by (try simp only [List.map_toArray, List.map_cons, List.map_nil]); first | done | rfl | (simp only [List.length_drop, List.length_take]; rfl)) ?_; (with_reducible refine (head_Head_Bytes.calls kj5 a0_0 a0_1 _ _ l0_2 _ _ l0_3 t300 t303 _ ?side1 ?side2 ?side3 ?side4 A28.out).mono ?_); (case side1 => repeat (first | exact (C_below HR0_2.out HB.out) | (with_reducible refine C_alloc ?_ _) | (with_reducible refine C_drewN ?_ _) | (with_reducible refine C_drew ?_))); (case side2 => exact HC0_2.out); (case side3 => repeat (first | exact (C_below HR0_3.out HB.out) | (with_reducible refine C_alloc ?_ _) | (with_reducible refine C_drewN ?_ _) | (with_reducible refine C_drew ?_))); (case side4 => exact HC0_3.out); rintro e w118 ⟨v301, rfl, ho0, hb⟩; refine ⟨_, rfl, ?_⟩; have n0_ := Aside0.mk (R_lower ho0 (below_size (by repeat (first | (with_reducible first | exact HB.out | apply below_alloc | apply pw_below_drewN | apply below_drew1 | refine below_set ?_ GE297.out | refine below_set ?_ GE298.out) | exact HB.out)))); have n1_ := Aside0.mk (blk_below (g := gb297) (o := .cells #[.int .u8 a0_0, .int .u32 a0_1, .slice A0_2 l0_2.length c0_2, .slice A0_3 l0_3.length c0_3] 27 (0, 0)) (by (with_reducible repeat (first | refine blk_drewN ?_ _ | refine blk_drew ?_ | refine blk_alloc ?_ _)); exact BK297.out) hb); have n2_ := Aside0.mk (blk_below (g := gb298) (o := .cells #[.int .u8 a1_0, .int .u32 a1_1, .slice A1_2 l1_2.length c1_2, .slice A1_3 l1_3.length c1_3] 27 (0, 0)) (by (with_reducible repeat (first | refine blk_drewN ?_ _ | refine blk_drew ?_ | refine blk_alloc ?_ _)); exact BK298.out) hb); have n3_ := Aside0.mk (below_step (by repeat (first | (with_reducible first | exact HB.out | apply below_alloc | apply pw_below_drewN | apply below_drew1 | refine below_set ?_ GE297.out | refine below_set ?_ GE298.out) | exact HB.out)) hb); clear BK297 BK298 HB; have HO302 := n0_; have BK297 := n1_; have BK298 := n2_; have HB := n3_; clear n0_ n1_ n2_ n3_; (try clear hb); (try clear hb2); (try clear hk); (try clear hi); (try clear ho0); have hcz119_0 : w118.cell? ⟨gb297, 0, none⟩ = some (.int .u8 a0_0) := (blk_cell BK297.out 0).trans rfl; have hcz119_1 : w118.cell? ⟨gb297, 1, none⟩ = some (.int .u32 a0_1) := (blk_cell BK297.out 1).trans rfl; have hcz119_2 : w118.cell? ⟨gb297, 2, none⟩ = some (.slice A0_2 l0_2.length c0_2) := (blk_cell BK297.out 2).trans rfl; have hcz119_3 : w118.cell? ⟨gb297, 3, none⟩ = some (.slice A0_3 l0_3.length c0_3) := (blk_cell BK297.out 3).trans rfl; have hfz119_0 := blk_frozen BK297.out 0; have hfz119_1 := blk_frozen BK297.out 1; have hfz119_2 := blk_frozen BK297.out 2; have hfz119_3 := blk_frozen BK297.out 3) | ((with_reducible refine gate_callee (f := 12) rfl ?_); refine goesL_ (some 56) rfl rfl Try.func12 (by kernel_rfl) rfl #[.agg #[.int .u8 a0_0, .int .u32 a0_1, .slice A0_2 l0_2.length c0_2, .slice A0_3 l0_3.length c0_3]] rfl (by (try simp only [List.map_toArray, List.map_cons, List.map_nil]); first | done | rfl | (simp only [List.length_drop, List.length_take]; rfl)) ?_; (with_reducible refine (crosswaylaw10_Of.calls a0_0 a0_1 _ _ l0_2 _ _ l0_3 t304 t305 t306 t309 _ ?side1 ?side2 ?side3 ?side4 A29.out).mono ?_); (case side1 => repeat (first | exact (C_below HR0_2.out HB.out) | (with_reducible refine C_alloc ?_ _) | (with_reducible refine C_drewN ?_ _) | (with_reducible refine C_drew ?_))); (case side2 => exact HC0_2.out); (case side3 => repeat (first | exact (C_below HR0_3.out HB.out) | (with_reducible refine C_alloc ?_ _) | (with_reducible refine C_drewN ?_ _) | (with_reducible refine C_drew ?_))); (case side4 => exact HC0_3.out); rintro e w120 ⟨v307, v310, rfl, ho0, ho1, hb⟩; refine ⟨_, rfl, ?_⟩; have n0_ := Aside0.mk (R_mono (R_told (R_told (R_old (by (with_reducible repeat (first | apply R_alloc | apply R_drewN | apply R_drew)); exact HO302.out) hb) (R_base ho0)) (R_base ho1)) (fun _ h_ => h_.1)); have n1_ := Aside0.mk (R_lower (R_new' ho0 (R_lt (by (with_reducible repeat (first | apply R_alloc | apply R_drewN | apply R_drew)); exact HO302.out))) (below_size (by repeat (first | (with_reducible first | exact HB.out | apply below_alloc | apply pw_below_drewN | apply below_drew1 | refine below_set ?_ GE297.out | refine below_set ?_ GE298.out) | exact HB.out)))); have n2_ := Aside0.mk (R_lower (R_new' ho1 (R_lt (by (with_reducible repeat (first | apply R_alloc | apply R_drewN | apply R_drew)); exact HO302.out))) (below_size (by repeat (first | (with_reducible first | exact HB.out | apply below_alloc | apply pw_below_drewN | apply below_drew1 | refine below_set ?_ GE297.out | refine below_set ?_ GE298.out) | exact HB.out)))); have n3_ := Aside0.mk (blk_below (g := gb297) (o := .cells #[.int .u8 a0_0, .int .u32 a0_1, .slice A0_2 l0_2.length c0_2, .slice A0_3 l0_3.length c0_3] 27 (0, 0)) (by (with_reducible repeat (first | refine blk_drewN ?_ _ | refine blk_drew ?_ | refine blk_alloc ?_ _)); exact BK297.out) hb); have n4_ := Aside0.mk (blk_below (g := gb298) (o := .cells #[.int .u8 a1_0, .int .u32 a1_1, .slice A1_2 l1_2.length c1_2, .slice A1_3 l1_3.length c1_3] 27 (0, 0)) (by (with_reducible repeat (first | refine blk_drewN ?_ _ | refine blk_drew ?_ | refine blk_alloc ?_ _)); exact BK298.out) hb); have n5_ := Aside0.mk (below_step (by repeat (first | (with_reducible first | exact HB.out | apply below_alloc | apply pw_below_drewN | apply below_drew1 | refine below_set ?_ GE297.out | refine below_set ?_ GE298.out) | exact HB.out)) hb); clear HO302 BK297 BK298 HB; have HO302 := n0_; have HO308 := n1_; have HO311 := n2_; have BK297 := n3_; have BK298 := n4_; have HB := n5_; clear n0_ n1_ n2_ n3_ n4_ n5_; (try clear hb); (try clear hb2); (try clear hk); (try clear hi); (try clear ho0); (try clear ho1); obtain ⟨Ao121, co121, eo121⟩ := R_slice HO308.out; subst eo121; obtain ⟨Ao122, co122, eo122⟩ := R_slice HO311.out; subst eo122) | ((with_reducible refine gate_callee (f := 17) rfl ?_); refine goesL_ (some 57) rfl rfl Try.func17 (by kernel_rfl) rfl #[.agg #[.int .u8 t304, .int .u32 t305, .slice Ao121 t306.length co121, .slice Ao122 t309.length co122]] rfl (by (try simp only [List.map_toArray, List.map_cons, List.map_nil]); first | done | rfl | (simp only [List.length_drop, List.length_take]; rfl)) ?_; (with_reducible refine (crosswayref10_Bytes.calls t304 t305 _ _ t306 _ _ t309 t312 t315 _ ?side1 ?side2 ?side3 ?side4 A30.out).mono ?_); (case side1 => repeat (first | exact (R_reads' HO308.out).2.2 | (with_reducible refine C_alloc ?_ _) | (with_reducible refine C_drewN ?_ _) | (with_reducible refine C_drew ?_))); (case side2 => exact (R_reads' HO308.out).2.1); (case side3 => repeat (first | exact (R_reads' HO311.out).2.2 | (with_reducible refine C_alloc ?_ _) | (with_reducible refine C_drewN ?_ _) | (with_reducible refine C_drew ?_))); (case side4 => exact (R_reads' HO311.out).2.1); rintro e w123 ⟨v313, rfl, ho0, hb⟩; refine ⟨_, rfl, ?_⟩; have n0_ := Aside0.mk (R_elder' (by (with_reducible repeat (first | apply R_alloc | apply R_drewN | apply R_drew)); exact HO302.out) (R_base ho0) hb); have n1_ := Aside0.mk (R_elder' (by (with_reducible repeat (first | apply R_alloc | apply R_drewN | apply R_drew)); exact HO308.out) (R_base ho0) hb); have n2_ := Aside0.mk (R_elder' (by (with_reducible repeat (first | apply R_alloc | apply R_drewN | apply R_drew)); exact HO311.out) (R_base ho0) hb); have n3_ := Aside0.mk (R_lower (R_new' (R_new' (R_new' ho0 (R_lt (by (with_reducible repeat (first | apply R_alloc | apply R_drewN | apply R_drew)); exact HO302.out))) (R_lt (by (with_reducible repeat (first | apply R_alloc | apply R_drewN | apply R_drew)); exact HO308.out))) (R_lt (by (with_reducible repeat (first | apply R_alloc | apply R_drewN | apply R_drew)); exact HO311.out))) (below_size (by repeat (first | (with_reducible first | exact HB.out | apply below_alloc | apply pw_below_drewN | apply below_drew1 | refine below_set ?_ GE297.out | refine below_set ?_ GE298.out) | exact HB.out)))); have n4_ := Aside0.mk (blk_below (g := gb297) (o := .cells #[.int .u8 a0_0, .int .u32 a0_1, .slice A0_2 l0_2.length c0_2, .slice A0_3 l0_3.length c0_3] 27 (0, 0)) (by (with_reducible repeat (first | refine blk_drewN ?_ _ | refine blk_drew ?_ | refine blk_alloc ?_ _)); exact BK297.out) hb); have n5_ := Aside0.mk (blk_below (g := gb298) (o := .cells #[.int .u8 a1_0, .int .u32 a1_1, .slice A1_2 l1_2.length c1_2, .slice A1_3 l1_3.length c1_3] 27 (0, 0)) (by (with_reducible repeat (first | refine blk_drewN ?_ _ | refine blk_drew ?_ | refine blk_alloc ?_ _)); exact BK298.out) hb); have n6_ := Aside0.mk (below_step (by repeat (first | (with_reducible first | exact HB.out | apply below_alloc | apply pw_below_drewN | apply below_drew1 | refine below_set ?_ GE297.out | refine below_set ?_ GE298.out) | exact HB.out)) hb); clear HO302 HO308 HO311 BK297 BK298 HB; have HO302 := n0_; have HO308 := n1_; have HO311 := n2_; have HO314 := n3_; have BK297 := n4_; have BK298 := n5_; have HB := n6_; clear n0_ n1_ n2_ n3_ n4_ n5_ n6_; (try clear hb); (try clear hb2); (try clear hk); (try clear hi); (try clear ho0)))
          have n0_ := Aside0.mk (R_drew HO302.out)
          have n1_ := Aside0.mk (R_drew HO308.out)
          have n2_ := Aside0.mk (R_drew HO311.out)
          have n3_ := Aside0.mk (R_drew HO314.out)
          have n4_ := Aside0.mk (blk_drew BK297.out)
          have n5_ := Aside0.mk (blk_drew BK298.out)
          have n6_ := Aside0.mk (below_drew1 HB.out)
          clear HO302
          clear HO308
          clear HO311
          clear HO314
          clear BK297
          clear BK298
          clear HB
          have HO302 := n0_
          have HO308 := n1_
          have HO311 := n2_
          have HO314 := n3_
          have BK297 := n4_
          have BK298 := n5_
          have HB := n6_
          clear n0_ n1_ n2_ n3_ n4_ n5_ n6_
          obtain ⟨Ao125, co125, eo125⟩ := R_slice HO302.out
          (first | subst eo125 | (injection eo125 with f1_ f2_ f3_; have f4_ := f1_.symm; have f5_ := f3_.symm; clear f1_ f2_ f3_; subst f4_; subst f5_))
          obtain ⟨Ao126, co126, eo126⟩ := R_slice HO314.out
          (first | subst eo126 | (injection eo126 with f1_ f2_ f3_; have f4_ := f1_.symm; have f5_ := f3_.symm; clear f1_ f2_ f3_; subst f4_; subst f5_))
          refine start_ (n := 26) (S := fun w' => w'.cell? ⟨gb297, 0, none⟩ = some (.int .u8 a0_0) ∧ w'.cell? ⟨gb297, 1, none⟩ = some (.int .u32 a0_1) ∧ w'.cell? ⟨gb297, 2, none⟩ = some (.slice A0_2 l0_2.length c0_2) ∧ w'.cell? ⟨gb297, 3, none⟩ = some (.slice A0_3 l0_3.length c0_3) ∧ w'.cell? ⟨gb298, 0, none⟩ = some (.int .u8 a1_0) ∧ w'.cell? ⟨gb298, 1, none⟩ = some (.int .u32 a1_1) ∧ w'.cell? ⟨gb298, 2, none⟩ = some (.slice A1_2 l1_2.length c1_2) ∧ w'.cell? ⟨gb298, 3, none⟩ = some (.slice A1_3 l1_3.length c1_3)) (ds := []) #[false,false,false,false,false,false,false,false,false,false,false,false,false,false,false,false,false,false,false,false,false,false,false,false,false,false] (by kernel_rfl) rfl rfl ⟨(blk_cell BK297.out 0).trans rfl, (blk_cell BK297.out 1).trans rfl, (blk_cell BK297.out 2).trans rfl, (blk_cell BK297.out 3).trans rfl, (blk_cell BK298.out 0).trans rfl, (blk_cell BK298.out 1).trans rfl, (blk_cell BK298.out 2).trans rfl, (blk_cell BK298.out 3).trans rfl⟩ (fun hHeld => ?_); refine with_tabW crosswaylaw10_HeadWrites.tab7 crosswaylaw10_HeadWrites.bits7 (fun HT_ HW_ => ?_)
          generalize w123.drew = w124 at HO302 HO308 HO311 HO314 BK297 BK298 HB hHeld ⊢
          refine pure_ (i := 0) (N := some 60) (v := ?_) (a' := ?_) #[true,false,false,false,false,false,false,false,false,false,false,false,false,false,false,false,false,false,false,false,false,false,false,false,false,false] rfl rfl (any_of HT_.out (by kernel_rfl)) (fun _ _ _ h => h) (Or.inl ⟨by rfl, ?_⟩) ?_ ?_
          rotate_left
          ·intro w'; go_simp; with_reducible rfl
          rotate_left
          ·simp only [Act.put, sA, sB, sC, i64_w, i32_w]; rfl
          refine pure_ (i := 1) (N := some 61) (v := ?_) (a' := ?_) #[true,true,false,false,false,false,false,false,false,false,false,false,false,false,false,false,false,false,false,false,false,false,false,false,false,false] rfl rfl (any_of HT_.out (by kernel_rfl)) (fun _ _ _ h => h) (Or.inl ⟨by rfl, ?_⟩) ?_ ?_
          rotate_left
          ·intro w'; go_simp; with_reducible rfl
          rotate_left
          ·simp only [Act.put, sA, sB, sC, i64_w, i32_w]; rfl
          refine pure_ (i := 2) (N := some 62) (v := ?_) (a' := ?_) #[true,true,true,false,false,false,false,false,false,false,false,false,false,false,false,false,false,false,false,false,false,false,false,false,false,false] rfl rfl (any_of HT_.out (by kernel_rfl)) (fun _ _ _ h => h) (Or.inl ⟨by rfl, ?_⟩) ?_ ?_
          rotate_left
          ·intro w'; go_simp; with_reducible rfl
          rotate_left
          ·simp only [Act.put, sA, sB, sC, i64_w, i32_w]; rfl
          refine pure_ (i := 3) (N := some 63) (v := ?_) (a' := ?_) #[true,true,true,true,false,false,false,false,false,false,false,false,false,false,false,false,false,false,false,false,false,false,false,false,false,false] rfl rfl (any_of HT_.out (by kernel_rfl)) (fun _ _ _ h => h) (Or.inl ⟨by rfl, ?_⟩) ?_ ?_
          rotate_left
          ·intro w'; go_simp; with_reducible rfl
          rotate_left
          ·simp only [Act.put, sA, sB, sC, i64_w, i32_w]; rfl
          refine pure_ (i := 4) (N := some 64) (v := ?_) (a' := ?_) #[true,true,true,true,true,false,false,false,false,false,false,false,false,false,false,false,false,false,false,false,false,false,false,false,false,false] rfl rfl (any_of HT_.out (by kernel_rfl)) (fun _ _ _ h => h) (Or.inl ⟨by rfl, ?_⟩) ?_ ?_
          rotate_left
          ·intro w'; go_simp; with_reducible rfl
          rotate_left
          ·simp only [Act.put, sA, sB, sC, i64_w, i32_w]; rfl
          refine pure_ (i := 5) (N := some 65) (v := ?_) (a' := ?_) #[true,true,true,true,true,true,false,false,false,false,false,false,false,false,false,false,false,false,false,false,false,false,false,false,false,false] rfl rfl (any_of HT_.out (by kernel_rfl)) (fun _ _ _ h => h) (Or.inl ⟨by rfl, ?_⟩) ?_ ?_
          rotate_left
          ·intro w'; go_simp; with_reducible rfl
          rotate_left
          ·simp only [Act.put, sA, sB, sC, i64_w, i32_w]; rfl
          refine one_ (i := 6) (N := some 66) #[true,true,true,true,true,true,true,false,false,false,false,false,false,false,false,false,false,false,false,false,false,false,false,false,false,false] rfl rfl (one_of HT_.out (by kernel_rfl)) (by decide) (fun K hK => ?_)
          refine goes_ Try.func13 (by kernel_rfl) rfl #[.slice Ao125 t300.length co125, .slice Ao126 t312.length co126] (by rfl) rfl rfl (by (try simp only [List.map_toArray, List.map_cons, List.map_nil]); first | done | rfl | (simp only [List.length_drop, List.length_take]; rfl)) ?_
          with_reducible refine (crosswayref00_SameBytes.calls kj5 _ _ t300 _ _ t312 true _ ?side1 ?side2 ?side3 ?side4 A32.out).mono ?_
          (case side1 => repeat (first | exact (R_reads' HO302.out).2.2 | (with_reducible refine C_alloc ?_ _) | (with_reducible refine C_drewN ?_ _) | (with_reducible refine C_drew ?_)))
          (case side2 => exact (R_reads' HO302.out).2.1)
          (case side3 => repeat (first | exact (R_reads' HO314.out).2.2 | (with_reducible refine C_alloc ?_ _) | (with_reducible refine C_drewN ?_ _) | (with_reducible refine C_drew ?_)))
          (case side4 => exact (R_reads' HO314.out).2.1)
          rintro e w' ⟨rfl, ⟨nd, rfl⟩⟩
          refine ⟨_, rfl, ?_⟩
          refine hK.out _ _ ⟨(blk_cell BK297.out 0).trans rfl, (blk_cell BK297.out 1).trans rfl, (blk_cell BK297.out 2).trans rfl, (blk_cell BK297.out 3).trans rfl, (blk_cell BK298.out 0).trans rfl, (blk_cell BK298.out 1).trans rfl, (blk_cell BK298.out 2).trans rfl, (blk_cell BK298.out 3).trans rfl⟩ (fun hHeld => ?_)
          clear hK K
          refine norm_ (a' := ?_) ?_ ?_
          rotate_left
          ·show Act.put _ (some 66) _ = _
           simp only [Act.put, sA, sB, sC, i64_w, i32_w]
           rfl
          refine pure_ (i := 7) (N := some 67) (v := ?_) (a' := ?_) #[true,true,true,true,true,true,true,true,false,false,false,false,false,false,false,false,false,false,false,false,false,false,false,false,false,false] rfl rfl (any_of HT_.out (by kernel_rfl)) (fun _ _ _ h => h) (Or.inl ⟨by rfl, ?_⟩) ?_ ?_
          rotate_left
          ·intro w'; go_simp; with_reducible rfl
          rotate_left
          ·simp only [Act.put, sA, sB, sC, i64_w, i32_w]; rfl
          refine pure_ (i := 8) (N := some 68) (v := ?_) (a' := ?_) #[true,true,true,true,true,true,true,true,true,false,false,false,false,false,false,false,false,false,false,false,false,false,false,false,false,false] rfl rfl (any_of HT_.out (by kernel_rfl)) (fun _ _ _ h => h) (Or.inl ⟨by rfl, ?_⟩) ?_ ?_
          rotate_left
          ·intro w'; go_simp; with_reducible rfl
          rotate_left
          ·simp only [Act.put, sA, sB, sC, i64_w, i32_w]; rfl
          refine pure_ (i := 9) (N := some 69) (v := ?_) (a' := ?_) #[true,true,true,true,true,true,true,true,true,true,false,false,false,false,false,false,false,false,false,false,false,false,false,false,false,false] rfl rfl (any_of HT_.out (by kernel_rfl)) (fun _ _ _ h => h) (Or.inl ⟨by rfl, ?_⟩) ?_ ?_
          rotate_left
          ·intro w'; go_simp; with_reducible rfl
          rotate_left
          ·simp only [Act.put, sA, sB, sC, i64_w, i32_w]; rfl
          refine take_ (i := 10) (N := some 70) (v := ?_) (a' := ?_) #[true,true,true,true,true,true,true,true,true,true,true,false,false,false,false,false,false,false,false,false,false,false,false,false,false,false] rfl rfl (take_ofW HT_.out HW_.out (by kernel_rfl)) (fun _ _ _ h => h) (Or.inl ⟨by rfl, ?_⟩) hHeld ?_ ?_
          rotate_left
          ·rintro w' ⟨s0, s1, s2, s3, s4, s5, s6, s7⟩; go_simp; with_reducible rfl
          rotate_left
          ·simp only [Act.put, sA, sB, sC, i64_w, i32_w]; rfl
          refine take_ (i := 11) (N := some 71) (v := ?_) (a' := ?_) #[true,true,true,true,true,true,true,true,true,true,true,true,false,false,false,false,false,false,false,false,false,false,false,false,false,false] rfl rfl (take_ofW HT_.out HW_.out (by kernel_rfl)) (fun _ _ _ h => h) (Or.inl ⟨by rfl, ?_⟩) hHeld ?_ ?_
          rotate_left
          ·rintro w' ⟨s0, s1, s2, s3, s4, s5, s6, s7⟩; go_simp; with_reducible rfl
          rotate_left
          ·simp only [Act.put, sA, sB, sC, i64_w, i32_w]; rfl
          refine take_ (i := 13) (N := some 73) (v := ?_) (a' := ?_) #[true,true,true,true,true,true,true,true,true,true,true,true,false,true,false,false,false,false,false,false,false,false,false,false,false,false] rfl rfl (take_ofW HT_.out HW_.out (by kernel_rfl)) (fun _ _ _ h => h) (Or.inl ⟨by rfl, ?_⟩) hHeld ?_ ?_
          rotate_left
          ·rintro w' ⟨s0, s1, s2, s3, s4, s5, s6, s7⟩; go_simp; with_reducible rfl
          rotate_left
          ·simp only [Act.put, sA, sB, sC, i64_w, i32_w]; rfl
          refine take_ (i := 15) (N := some 75) (v := ?_) (a' := ?_) #[true,true,true,true,true,true,true,true,true,true,true,true,false,true,false,true,false,false,false,false,false,false,false,false,false,false] rfl rfl (take_ofW HT_.out HW_.out (by kernel_rfl)) (fun _ _ _ h => h) (Or.inl ⟨by rfl, ?_⟩) hHeld ?_ ?_
          rotate_left
          ·rintro w' ⟨s0, s1, s2, s3, s4, s5, s6, s7⟩; go_simp; with_reducible rfl
          rotate_left
          ·simp only [Act.put, sA, sB, sC, i64_w, i32_w]; rfl
          refine one_ (i := 12) (N := some 72) #[true,true,true,true,true,true,true,true,true,true,true,true,true,true,false,true,false,false,false,false,false,false,false,false,false,false] rfl rfl (one_of HT_.out (by kernel_rfl)) (by decide) (fun K hK => ?_)
          refine goes_ Try.func18 (by kernel_rfl) rfl #[.agg #[.int .u8 a0_0, .int .u32 a0_1, .slice A0_2 l0_2.length c0_2, .slice A0_3 l0_3.length c0_3], .agg #[.int .u8 a1_0, .int .u32 a1_1, .slice A1_2 l1_2.length c1_2, .slice A1_3 l1_3.length c1_3]] (by rfl) rfl rfl (by (try simp only [List.map_toArray, List.map_cons, List.map_nil]); first | done | rfl | (simp only [List.length_drop, List.length_take]; rfl)) ?_
          with_reducible refine (head_Same.calls a0_0 a0_1 _ _ l0_2 _ _ l0_3 a1_0 a1_1 _ _ l1_2 _ _ l1_3 t317 _ ?side1 ?side2 ?side3 ?side4 ?side5 ?side6 ?side7 ?side8 A34.out).mono ?_
          (case side1 => repeat (first | exact (C_below HR0_2.out (by repeat (first | (with_reducible first | exact HB.out | apply below_alloc | apply pw_below_drewN | apply below_drew1 | refine below_set ?_ GE297.out | refine below_set ?_ GE298.out) | exact HB.out))) | (with_reducible refine C_alloc ?_ _) | (with_reducible refine C_drewN ?_ _) | (with_reducible refine C_drew ?_)))
          (case side2 => exact HC0_2.out)
          (case side3 => repeat (first | exact (C_below HR0_3.out (by repeat (first | (with_reducible first | exact HB.out | apply below_alloc | apply pw_below_drewN | apply below_drew1 | refine below_set ?_ GE297.out | refine below_set ?_ GE298.out) | exact HB.out))) | (with_reducible refine C_alloc ?_ _) | (with_reducible refine C_drewN ?_ _) | (with_reducible refine C_drew ?_)))
          (case side4 => exact HC0_3.out)
          (case side5 => repeat (first | exact (C_below HR1_2.out (by repeat (first | (with_reducible first | exact HB.out | apply below_alloc | apply pw_below_drewN | apply below_drew1 | refine below_set ?_ GE297.out | refine below_set ?_ GE298.out) | exact HB.out))) | (with_reducible refine C_alloc ?_ _) | (with_reducible refine C_drewN ?_ _) | (with_reducible refine C_drew ?_)))
          (case side6 => exact HC1_2.out)
          (case side7 => repeat (first | exact (C_below HR1_3.out (by repeat (first | (with_reducible first | exact HB.out | apply below_alloc | apply pw_below_drewN | apply below_drew1 | refine below_set ?_ GE297.out | refine below_set ?_ GE298.out) | exact HB.out))) | (with_reducible refine C_alloc ?_ _) | (with_reducible refine C_drewN ?_ _) | (with_reducible refine C_drew ?_)))
          (case side8 => exact HC1_3.out)
          rintro e w127 ⟨rfl, hb⟩
          refine ⟨_, rfl, ?_⟩
          have n0_ := Aside0.mk (R_below (by (with_reducible repeat (first | apply R_alloc | apply R_drewN | apply R_drew)); exact HO302.out) hb)
          have n1_ := Aside0.mk (R_below (by (with_reducible repeat (first | apply R_alloc | apply R_drewN | apply R_drew)); exact HO308.out) hb)
          have n2_ := Aside0.mk (R_below (by (with_reducible repeat (first | apply R_alloc | apply R_drewN | apply R_drew)); exact HO311.out) hb)
          have n3_ := Aside0.mk (R_below (by (with_reducible repeat (first | apply R_alloc | apply R_drewN | apply R_drew)); exact HO314.out) hb)
          have n4_ := Aside0.mk (blk_below (g := gb297) (o := .cells #[.int .u8 a0_0, .int .u32 a0_1, .slice A0_2 l0_2.length c0_2, .slice A0_3 l0_3.length c0_3] 27 (0, 0)) (by (with_reducible repeat (first | refine blk_drewN ?_ _ | refine blk_drew ?_ | refine blk_alloc ?_ _)); exact BK297.out) hb)
          have n5_ := Aside0.mk (blk_below (g := gb298) (o := .cells #[.int .u8 a1_0, .int .u32 a1_1, .slice A1_2 l1_2.length c1_2, .slice A1_3 l1_3.length c1_3] 27 (0, 0)) (by (with_reducible repeat (first | refine blk_drewN ?_ _ | refine blk_drew ?_ | refine blk_alloc ?_ _)); exact BK298.out) hb)
          have n6_ := Aside0.mk (below_step (by repeat (first | (with_reducible first | exact HB.out | apply below_alloc | apply pw_below_drewN | apply below_drew1 | refine below_set ?_ GE297.out | refine below_set ?_ GE298.out) | exact HB.out)) hb)
          clear HO302
          clear HO308
          clear HO311
          clear HO314
          clear BK297
          clear BK298
          clear HB
          have HO302 := n0_
          have HO308 := n1_
          have HO311 := n2_
          have HO314 := n3_
          have BK297 := n4_
          have BK298 := n5_
          have HB := n6_
          clear n0_ n1_ n2_ n3_ n4_ n5_ n6_
          (try clear hb)
          (try clear hb2)
          (try clear hk)
          (try clear hi)
          refine hK.out _ _ ⟨(blk_cell BK297.out 0).trans rfl, (blk_cell BK297.out 1).trans rfl, (blk_cell BK297.out 2).trans rfl, (blk_cell BK297.out 3).trans rfl, (blk_cell BK298.out 0).trans rfl, (blk_cell BK298.out 1).trans rfl, (blk_cell BK298.out 2).trans rfl, (blk_cell BK298.out 3).trans rfl⟩ (fun hHeld => ?_)
          clear hK K
          refine norm_ (a' := ?_) ?_ ?_
          rotate_left
          ·show Act.put _ (some 72) _ = _
           simp only [Act.put, sA, sB, sC, i64_w, i32_w]
           rfl
          refine one_ (i := 14) (N := some 74) #[true,true,true,true,true,true,true,true,true,true,true,true,true,true,true,true,false,false,false,false,false,false,false,false,false,false] rfl rfl (one_of HT_.out (by kernel_rfl)) (by decide) (fun K hK => ?_)
          refine goes_ Try.func12 (by kernel_rfl) rfl #[.agg #[.int .u8 a0_0, .int .u32 a0_1, .slice A0_2 l0_2.length c0_2, .slice A0_3 l0_3.length c0_3]] (by rfl) rfl rfl (by (try simp only [List.map_toArray, List.map_cons, List.map_nil]); first | done | rfl | (simp only [List.length_drop, List.length_take]; rfl)) ?_
          with_reducible refine (crosswaylaw10_Of.calls a0_0 a0_1 _ _ l0_2 _ _ l0_3 t318 t319 t320 t323 _ ?side1 ?side2 ?side3 ?side4 A35.out).mono ?_
          (case side1 => repeat (first | exact (C_below HR0_2.out HB.out) | (with_reducible refine C_alloc ?_ _) | (with_reducible refine C_drewN ?_ _) | (with_reducible refine C_drew ?_)))
          (case side2 => exact HC0_2.out)
          (case side3 => repeat (first | exact (C_below HR0_3.out HB.out) | (with_reducible refine C_alloc ?_ _) | (with_reducible refine C_drewN ?_ _) | (with_reducible refine C_drew ?_)))
          (case side4 => exact HC0_3.out)
          rintro e w128 ⟨v321, v324, rfl, ho0, ho1, hb⟩
          refine ⟨_, rfl, ?_⟩
          have n0_ := Aside0.mk (R_mono (R_told (R_told (R_old (by (with_reducible repeat (first | apply R_alloc | apply R_drewN | apply R_drew)); exact HO302.out) hb) (R_base ho0)) (R_base ho1)) (fun _ h_ => h_.1))
          have n1_ := Aside0.mk (R_mono (R_told (R_told (R_old (by (with_reducible repeat (first | apply R_alloc | apply R_drewN | apply R_drew)); exact HO308.out) hb) (R_base ho0)) (R_base ho1)) (fun _ h_ => h_.1))
          have n2_ := Aside0.mk (R_mono (R_told (R_told (R_old (by (with_reducible repeat (first | apply R_alloc | apply R_drewN | apply R_drew)); exact HO311.out) hb) (R_base ho0)) (R_base ho1)) (fun _ h_ => h_.1))
          have n3_ := Aside0.mk (R_mono (R_told (R_told (R_old (by (with_reducible repeat (first | apply R_alloc | apply R_drewN | apply R_drew)); exact HO314.out) hb) (R_base ho0)) (R_base ho1)) (fun _ h_ => h_.1))
          have n4_ := Aside0.mk (R_lower (R_new' (R_new' (R_new' (R_new' ho0 (R_lt (by (with_reducible repeat (first | apply R_alloc | apply R_drewN | apply R_drew)); exact HO302.out))) (R_lt (by (with_reducible repeat (first | apply R_alloc | apply R_drewN | apply R_drew)); exact HO308.out))) (R_lt (by (with_reducible repeat (first | apply R_alloc | apply R_drewN | apply R_drew)); exact HO311.out))) (R_lt (by (with_reducible repeat (first | apply R_alloc | apply R_drewN | apply R_drew)); exact HO314.out))) (below_size (by repeat (first | (with_reducible first | exact HB.out | apply below_alloc | apply pw_below_drewN | apply below_drew1 | refine below_set ?_ GE297.out | refine below_set ?_ GE298.out) | exact HB.out))))
          have n5_ := Aside0.mk (R_lower (R_new' (R_new' (R_new' (R_new' ho1 (R_lt (by (with_reducible repeat (first | apply R_alloc | apply R_drewN | apply R_drew)); exact HO302.out))) (R_lt (by (with_reducible repeat (first | apply R_alloc | apply R_drewN | apply R_drew)); exact HO308.out))) (R_lt (by (with_reducible repeat (first | apply R_alloc | apply R_drewN | apply R_drew)); exact HO311.out))) (R_lt (by (with_reducible repeat (first | apply R_alloc | apply R_drewN | apply R_drew)); exact HO314.out))) (below_size (by repeat (first | (with_reducible first | exact HB.out | apply below_alloc | apply pw_below_drewN | apply below_drew1 | refine below_set ?_ GE297.out | refine below_set ?_ GE298.out) | exact HB.out))))
          have n6_ := Aside0.mk (blk_below (g := gb297) (o := .cells #[.int .u8 a0_0, .int .u32 a0_1, .slice A0_2 l0_2.length c0_2, .slice A0_3 l0_3.length c0_3] 27 (0, 0)) (by (with_reducible repeat (first | refine blk_drewN ?_ _ | refine blk_drew ?_ | refine blk_alloc ?_ _)); exact BK297.out) hb)
          have n7_ := Aside0.mk (blk_below (g := gb298) (o := .cells #[.int .u8 a1_0, .int .u32 a1_1, .slice A1_2 l1_2.length c1_2, .slice A1_3 l1_3.length c1_3] 27 (0, 0)) (by (with_reducible repeat (first | refine blk_drewN ?_ _ | refine blk_drew ?_ | refine blk_alloc ?_ _)); exact BK298.out) hb)
          have n8_ := Aside0.mk (below_step (by repeat (first | (with_reducible first | exact HB.out | apply below_alloc | apply pw_below_drewN | apply below_drew1 | refine below_set ?_ GE297.out | refine below_set ?_ GE298.out) | exact HB.out)) hb)
          clear HO302
          clear HO308
          clear HO311
          clear HO314
          clear BK297
          clear BK298
          clear HB
          have HO302 := n0_
          have HO308 := n1_
          have HO311 := n2_
          have HO314 := n3_
          have HO322 := n4_
          have HO325 := n5_
          have BK297 := n6_
          have BK298 := n7_
          have HB := n8_
          clear n0_ n1_ n2_ n3_ n4_ n5_ n6_ n7_ n8_
          (try clear hb)
          (try clear hb2)
          (try clear hk)
          (try clear hi)
          (try clear ho0)
          (try clear ho1)
          refine hK.out _ _ ⟨(blk_cell BK297.out 0).trans rfl, (blk_cell BK297.out 1).trans rfl, (blk_cell BK297.out 2).trans rfl, (blk_cell BK297.out 3).trans rfl, (blk_cell BK298.out 0).trans rfl, (blk_cell BK298.out 1).trans rfl, (blk_cell BK298.out 2).trans rfl, (blk_cell BK298.out 3).trans rfl⟩ (fun hHeld => ?_)
          clear hK K
          refine norm_ (a' := ?_) ?_ ?_
          rotate_left
          ·show Act.put _ (some 74) _ = _
           simp only [Act.put, sA, sB, sC, i64_w, i32_w]
           rfl
          refine one_ (i := 16) (N := some 76) #[true,true,true,true,true,true,true,true,true,true,true,true,true,true,true,true,true,false,false,false,false,false,false,false,false,false] rfl rfl (one_of HT_.out (by kernel_rfl)) (by decide) (fun K hK => ?_)
          refine goes_ Try.func12 (by kernel_rfl) rfl #[.agg #[.int .u8 a1_0, .int .u32 a1_1, .slice A1_2 l1_2.length c1_2, .slice A1_3 l1_3.length c1_3]] (by rfl) rfl rfl (by (try simp only [List.map_toArray, List.map_cons, List.map_nil]); first | done | rfl | (simp only [List.length_drop, List.length_take]; rfl)) ?_
          with_reducible refine (crosswaylaw10_Of.calls a1_0 a1_1 _ _ l1_2 _ _ l1_3 t326 t327 t328 t331 _ ?side1 ?side2 ?side3 ?side4 A36.out).mono ?_
          (case side1 => repeat (first | exact (C_below HR1_2.out HB.out) | (with_reducible refine C_alloc ?_ _) | (with_reducible refine C_drewN ?_ _) | (with_reducible refine C_drew ?_)))
          (case side2 => exact HC1_2.out)
          (case side3 => repeat (first | exact (C_below HR1_3.out HB.out) | (with_reducible refine C_alloc ?_ _) | (with_reducible refine C_drewN ?_ _) | (with_reducible refine C_drew ?_)))
          (case side4 => exact HC1_3.out)
          rintro e w129 ⟨v329, v332, rfl, ho0, ho1, hb⟩
          refine ⟨_, rfl, ?_⟩
          have n4_ := Aside0.mk (R_mono (R_told (R_told (R_old (by (with_reducible repeat (first | apply R_alloc | apply R_drewN | apply R_drew)); exact HO322.out) hb) (R_base ho0)) (R_base ho1)) (fun _ h_ => h_.1))
          have n5_ := Aside0.mk (R_mono (R_told (R_told (R_old (by (with_reducible repeat (first | apply R_alloc | apply R_drewN | apply R_drew)); exact HO325.out) hb) (R_base ho0)) (R_base ho1)) (fun _ h_ => h_.1))
          have n6_ := Aside0.mk (R_lower (R_new' (R_new' (R_new' (R_new' (R_new' (R_new' ho0 (R_lt (by (with_reducible repeat (first | apply R_alloc | apply R_drewN | apply R_drew)); exact HO302.out))) (R_lt (by (with_reducible repeat (first | apply R_alloc | apply R_drewN | apply R_drew)); exact HO308.out))) (R_lt (by (with_reducible repeat (first | apply R_alloc | apply R_drewN | apply R_drew)); exact HO311.out))) (R_lt (by (with_reducible repeat (first | apply R_alloc | apply R_drewN | apply R_drew)); exact HO314.out))) (R_lt (by (with_reducible repeat (first | apply R_alloc | apply R_drewN | apply R_drew)); exact HO322.out))) (R_lt (by (with_reducible repeat (first | apply R_alloc | apply R_drewN | apply R_drew)); exact HO325.out))) (below_size (by repeat (first | (with_reducible first | exact HB.out | apply below_alloc | apply pw_below_drewN | apply below_drew1 | refine below_set ?_ GE297.out | refine below_set ?_ GE298.out) | exact HB.out))))
          have n7_ := Aside0.mk (R_lower (R_new' (R_new' (R_new' (R_new' (R_new' (R_new' ho1 (R_lt (by (with_reducible repeat (first | apply R_alloc | apply R_drewN | apply R_drew)); exact HO302.out))) (R_lt (by (with_reducible repeat (first | apply R_alloc | apply R_drewN | apply R_drew)); exact HO308.out))) (R_lt (by (with_reducible repeat (first | apply R_alloc | apply R_drewN | apply R_drew)); exact HO311.out))) (R_lt (by (with_reducible repeat (first | apply R_alloc | apply R_drewN | apply R_drew)); exact HO314.out))) (R_lt (by (with_reducible repeat (first | apply R_alloc | apply R_drewN | apply R_drew)); exact HO322.out))) (R_lt (by (with_reducible repeat (first | apply R_alloc | apply R_drewN | apply R_drew)); exact HO325.out))) (below_size (by repeat (first | (with_reducible first | exact HB.out | apply below_alloc | apply pw_below_drewN | apply below_drew1 | refine below_set ?_ GE297.out | refine below_set ?_ GE298.out) | exact HB.out))))
          have n8_ := Aside0.mk (blk_below (g := gb297) (o := .cells #[.int .u8 a0_0, .int .u32 a0_1, .slice A0_2 l0_2.length c0_2, .slice A0_3 l0_3.length c0_3] 27 (0, 0)) (by (with_reducible repeat (first | refine blk_drewN ?_ _ | refine blk_drew ?_ | refine blk_alloc ?_ _)); exact BK297.out) hb)
          have n9_ := Aside0.mk (blk_below (g := gb298) (o := .cells #[.int .u8 a1_0, .int .u32 a1_1, .slice A1_2 l1_2.length c1_2, .slice A1_3 l1_3.length c1_3] 27 (0, 0)) (by (with_reducible repeat (first | refine blk_drewN ?_ _ | refine blk_drew ?_ | refine blk_alloc ?_ _)); exact BK298.out) hb)
          have n10_ := Aside0.mk (below_step (by repeat (first | (with_reducible first | exact HB.out | apply below_alloc | apply pw_below_drewN | apply below_drew1 | refine below_set ?_ GE297.out | refine below_set ?_ GE298.out) | exact HB.out)) hb)
          clear HO322
          clear HO325
          clear BK297
          clear BK298
          clear HB
          have HO322 := n4_
          have HO325 := n5_
          have HO330 := n6_
          have HO333 := n7_
          have BK297 := n8_
          have BK298 := n9_
          have HB := n10_
          clear n4_ n5_ n6_ n7_ n8_ n9_ n10_
          (try clear hb)
          (try clear hb2)
          (try clear hk)
          (try clear hi)
          (try clear ho0)
          (try clear ho1)
          obtain ⟨Ao130, co130, eo130⟩ := R_slice HO322.out
          (first | subst eo130 | (injection eo130 with f1_ f2_ f3_; have f4_ := f1_.symm; have f5_ := f3_.symm; clear f1_ f2_ f3_; subst f4_; subst f5_))
          obtain ⟨Ao131, co131, eo131⟩ := R_slice HO325.out
          (first | subst eo131 | (injection eo131 with f1_ f2_ f3_; have f4_ := f1_.symm; have f5_ := f3_.symm; clear f1_ f2_ f3_; subst f4_; subst f5_))
          obtain ⟨Ao132, co132, eo132⟩ := R_slice HO330.out
          (first | subst eo132 | (injection eo132 with f1_ f2_ f3_; have f4_ := f1_.symm; have f5_ := f3_.symm; clear f1_ f2_ f3_; subst f4_; subst f5_))
          obtain ⟨Ao133, co133, eo133⟩ := R_slice HO333.out
          (first | subst eo133 | (injection eo133 with f1_ f2_ f3_; have f4_ := f1_.symm; have f5_ := f3_.symm; clear f1_ f2_ f3_; subst f4_; subst f5_))
          refine hK.out _ _ ⟨(blk_cell BK297.out 0).trans rfl, (blk_cell BK297.out 1).trans rfl, (blk_cell BK297.out 2).trans rfl, (blk_cell BK297.out 3).trans rfl, (blk_cell BK298.out 0).trans rfl, (blk_cell BK298.out 1).trans rfl, (blk_cell BK298.out 2).trans rfl, (blk_cell BK298.out 3).trans rfl⟩ (fun hHeld => ?_)
          clear hK K
          refine norm_ (a' := ?_) ?_ ?_
          rotate_left
          ·show Act.put _ (some 76) _ = _
           simp only [Act.put, sA, sB, sC, i64_w, i32_w]
           rfl
          refine one_ (i := 17) (N := some 77) #[true,true,true,true,true,true,true,true,true,true,true,true,true,true,true,true,true,true,false,false,false,false,false,false,false,false] rfl rfl (one_of HT_.out (by kernel_rfl)) (by decide) (fun K hK => ?_)
          refine goes_ Try.func11 (by kernel_rfl) rfl #[.agg #[.int .u8 t318, .int .u32 t319, .slice Ao130 t320.length co130, .slice Ao131 t323.length co131], .agg #[.int .u8 t326, .int .u32 t327, .slice Ao132 t328.length co132, .slice Ao133 t331.length co133]] (by rfl) rfl rfl (by (try simp only [List.map_toArray, List.map_cons, List.map_nil]); first | done | rfl | (simp only [List.length_drop, List.length_take]; rfl)) ?_
          with_reducible refine (crosswayref10_Same.calls t318 t319 _ _ t320 _ _ t323 t326 t327 _ _ t328 _ _ t331 t334 _ ?side1 ?side2 ?side3 ?side4 ?side5 ?side6 ?side7 ?side8 A37.out).mono ?_
          (case side1 => repeat (first | exact (R_reads' HO322.out).2.2 | (with_reducible refine C_alloc ?_ _) | (with_reducible refine C_drewN ?_ _) | (with_reducible refine C_drew ?_)))
          (case side2 => exact (R_reads' HO322.out).2.1)
          (case side3 => repeat (first | exact (R_reads' HO325.out).2.2 | (with_reducible refine C_alloc ?_ _) | (with_reducible refine C_drewN ?_ _) | (with_reducible refine C_drew ?_)))
          (case side4 => exact (R_reads' HO325.out).2.1)
          (case side5 => repeat (first | exact (R_reads' HO330.out).2.2 | (with_reducible refine C_alloc ?_ _) | (with_reducible refine C_drewN ?_ _) | (with_reducible refine C_drew ?_)))
          (case side6 => exact (R_reads' HO330.out).2.1)
          (case side7 => repeat (first | exact (R_reads' HO333.out).2.2 | (with_reducible refine C_alloc ?_ _) | (with_reducible refine C_drewN ?_ _) | (with_reducible refine C_drew ?_)))
          (case side8 => exact (R_reads' HO333.out).2.1)
          rintro e w134 ⟨rfl, hb⟩
          refine ⟨_, rfl, ?_⟩
          have n8_ := Aside0.mk (blk_below (g := gb297) (o := .cells #[.int .u8 a0_0, .int .u32 a0_1, .slice A0_2 l0_2.length c0_2, .slice A0_3 l0_3.length c0_3] 27 (0, 0)) (by (with_reducible repeat (first | refine blk_drewN ?_ _ | refine blk_drew ?_ | refine blk_alloc ?_ _)); exact BK297.out) hb)
          have n9_ := Aside0.mk (blk_below (g := gb298) (o := .cells #[.int .u8 a1_0, .int .u32 a1_1, .slice A1_2 l1_2.length c1_2, .slice A1_3 l1_3.length c1_3] 27 (0, 0)) (by (with_reducible repeat (first | refine blk_drewN ?_ _ | refine blk_drew ?_ | refine blk_alloc ?_ _)); exact BK298.out) hb)
          have n10_ := Aside0.mk (below_step (by repeat (first | (with_reducible first | exact HB.out | apply below_alloc | apply pw_below_drewN | apply below_drew1 | refine below_set ?_ GE297.out | refine below_set ?_ GE298.out) | exact HB.out)) hb)
          clear BK297
          clear BK298
          clear HB
          have BK297 := n8_
          have BK298 := n9_
          have HB := n10_
          clear n8_ n9_ n10_
          (try clear hb)
          (try clear hb2)
          (try clear hk)
          (try clear hi)
          refine hK.out _ _ ⟨(blk_cell BK297.out 0).trans rfl, (blk_cell BK297.out 1).trans rfl, (blk_cell BK297.out 2).trans rfl, (blk_cell BK297.out 3).trans rfl, (blk_cell BK298.out 0).trans rfl, (blk_cell BK298.out 1).trans rfl, (blk_cell BK298.out 2).trans rfl, (blk_cell BK298.out 3).trans rfl⟩ (fun hHeld => ?_)
          clear hK K
          refine norm_ (a' := ?_) ?_ ?_
          rotate_left
          ·show Act.put _ (some 77) _ = _
           simp only [Act.put, sA, sB, sC, i64_w, i32_w]
           rfl
          refine pure_ (i := 18) (N := some 78) (v := ?_) (a' := ?_) #[true,true,true,true,true,true,true,true,true,true,true,true,true,true,true,true,true,true,true,false,false,false,false,false,false,false] rfl rfl (any_of HT_.out (by kernel_rfl)) (fun _ _ _ h => h) (Or.inl ⟨by rfl, ?_⟩) ?_ ?_
          rotate_left
          ·intro w'; go_simp; with_reducible rfl
          rotate_left
          ·simp only [Act.put, sA, sB, sC, i64_w, i32_w]; rfl
          refine pure_ (i := 19) (N := some 79) (v := ?_) (a' := ?_) #[true,true,true,true,true,true,true,true,true,true,true,true,true,true,true,true,true,true,true,true,false,false,false,false,false,false] rfl rfl (any_of HT_.out (by kernel_rfl)) (fun _ _ _ h => h) (Or.inl ⟨by rfl, ?_⟩) ?_ ?_
          rotate_left
          ·intro w'; go_simp; with_reducible rfl
          rotate_left
          ·simp only [Act.put, sA, sB, sC, i64_w, i32_w]; rfl
          refine pure_ (i := 20) (N := some 80) (v := ?_) (a' := ?_) #[true,true,true,true,true,true,true,true,true,true,true,true,true,true,true,true,true,true,true,true,true,false,false,false,false,false] rfl rfl (any_of HT_.out (by kernel_rfl)) (fun _ _ _ h => h) (Or.inl ⟨by rfl, ?_⟩) ?_ ?_
          rotate_left
          ·intro w'; go_simp; with_reducible rfl
          rotate_left
          ·simp only [Act.put, sA, sB, sC, i64_w, i32_w]; rfl
          refine take_ (i := 21) (N := some 81) (v := ?_) (a' := ?_) #[true,true,true,true,true,true,true,true,true,true,true,true,true,true,true,true,true,true,true,true,true,true,false,false,false,false] rfl rfl (take_ofW HT_.out HW_.out (by kernel_rfl)) (fun _ _ _ h => h) (Or.inl ⟨by rfl, ?_⟩) hHeld ?_ ?_
          rotate_left
          ·rintro w' ⟨s0, s1, s2, s3, s4, s5, s6, s7⟩; go_simp; with_reducible rfl
          rotate_left
          ·simp only [Act.put, sA, sB, sC, i64_w, i32_w]; rfl
          refine take_ (i := 22) (N := some 82) (v := ?_) (a' := ?_) #[true,true,true,true,true,true,true,true,true,true,true,true,true,true,true,true,true,true,true,true,true,true,true,false,false,false] rfl rfl (take_ofW HT_.out HW_.out (by kernel_rfl)) (fun _ _ _ h => h) (Or.inl ⟨by rfl, ?_⟩) hHeld ?_ ?_
          rotate_left
          ·rintro w' ⟨s0, s1, s2, s3, s4, s5, s6, s7⟩; go_simp; with_reducible rfl
          rotate_left
          ·simp only [Act.put, sA, sB, sC, i64_w, i32_w]; rfl
          refine one_ (i := 23) (N := some 83) #[true,true,true,true,true,true,true,true,true,true,true,true,true,true,true,true,true,true,true,true,true,true,true,true,false,false] rfl rfl (one_of HT_.out (by kernel_rfl)) (by decide) (fun K hK => ?_)
          refine goes_ Try.func18 (by kernel_rfl) rfl #[.agg #[.int .u8 a0_0, .int .u32 a0_1, .slice A0_2 l0_2.length c0_2, .slice A0_3 l0_3.length c0_3], .agg #[.int .u8 a0_0, .int .u32 a0_1, .slice A0_2 l0_2.length c0_2, .slice A0_3 l0_3.length c0_3]] (by rfl) rfl rfl (by (try simp only [List.map_toArray, List.map_cons, List.map_nil]); first | done | rfl | (simp only [List.length_drop, List.length_take]; rfl)) ?_
          with_reducible refine (head_Same.calls a0_0 a0_1 _ _ l0_2 _ _ l0_3 a0_0 a0_1 _ _ l0_2 _ _ l0_3 true _ ?side1 ?side2 ?side3 ?side4 ?side5 ?side6 ?side7 ?side8 A39.out).mono ?_
          (case side1 => repeat (first | exact (C_below HR0_2.out HB.out) | (with_reducible refine C_alloc ?_ _) | (with_reducible refine C_drewN ?_ _) | (with_reducible refine C_drew ?_)))
          (case side2 => exact HC0_2.out)
          (case side3 => repeat (first | exact (C_below HR0_3.out HB.out) | (with_reducible refine C_alloc ?_ _) | (with_reducible refine C_drewN ?_ _) | (with_reducible refine C_drew ?_)))
          (case side4 => exact HC0_3.out)
          (case side5 => repeat (first | exact (C_below HR0_2.out HB.out) | (with_reducible refine C_alloc ?_ _) | (with_reducible refine C_drewN ?_ _) | (with_reducible refine C_drew ?_)))
          (case side6 => exact HC0_2.out)
          (case side7 => repeat (first | exact (C_below HR0_3.out HB.out) | (with_reducible refine C_alloc ?_ _) | (with_reducible refine C_drewN ?_ _) | (with_reducible refine C_drew ?_)))
          (case side8 => exact HC0_3.out)
          rintro e w135 ⟨rfl, hb⟩
          refine ⟨_, rfl, ?_⟩
          have n8_ := Aside0.mk (blk_below (g := gb297) (o := .cells #[.int .u8 a0_0, .int .u32 a0_1, .slice A0_2 l0_2.length c0_2, .slice A0_3 l0_3.length c0_3] 27 (0, 0)) (by (with_reducible repeat (first | refine blk_drewN ?_ _ | refine blk_drew ?_ | refine blk_alloc ?_ _)); exact BK297.out) hb)
          have n9_ := Aside0.mk (blk_below (g := gb298) (o := .cells #[.int .u8 a1_0, .int .u32 a1_1, .slice A1_2 l1_2.length c1_2, .slice A1_3 l1_3.length c1_3] 27 (0, 0)) (by (with_reducible repeat (first | refine blk_drewN ?_ _ | refine blk_drew ?_ | refine blk_alloc ?_ _)); exact BK298.out) hb)
          have n10_ := Aside0.mk (below_step (by repeat (first | (with_reducible first | exact HB.out | apply below_alloc | apply pw_below_drewN | apply below_drew1 | refine below_set ?_ GE297.out | refine below_set ?_ GE298.out) | exact HB.out)) hb)
          clear BK297
          clear BK298
          clear HB
          have BK297 := n8_
          have BK298 := n9_
          have HB := n10_
          clear n8_ n9_ n10_
          (try clear hb)
          (try clear hb2)
          (try clear hk)
          (try clear hi)
          refine hK.out _ _ ⟨(blk_cell BK297.out 0).trans rfl, (blk_cell BK297.out 1).trans rfl, (blk_cell BK297.out 2).trans rfl, (blk_cell BK297.out 3).trans rfl, (blk_cell BK298.out 0).trans rfl, (blk_cell BK298.out 1).trans rfl, (blk_cell BK298.out 2).trans rfl, (blk_cell BK298.out 3).trans rfl⟩ (fun hHeld => ?_)
          clear hK K
          refine norm_ (a' := ?_) ?_ ?_
          rotate_left
          ·show Act.put _ (some 83) _ = _
           simp only [Act.put, sA, sB, sC, i64_w, i32_w]
           rfl
          refine pure_ (i := 24) (N := some 84) (v := ?_) (a' := ?_) #[true,true,true,true,true,true,true,true,true,true,true,true,true,true,true,true,true,true,true,true,true,true,true,true,true,false] rfl rfl (any_of HT_.out (by kernel_rfl)) (fun _ _ _ h => h) (Or.inl ⟨by rfl, ?_⟩) ?_ ?_
          rotate_left
          ·intro w'; go_simp; with_reducible rfl
          rotate_left
          ·simp only [Act.put, sA, sB, sC, i64_w, i32_w]; rfl
          refine pure_ (i := 25) (N := some 85) (v := ?_) (a' := ?_) #[true,true,true,true,true,true,true,true,true,true,true,true,true,true,true,true,true,true,true,true,true,true,true,true,true,true] rfl rfl (any_of HT_.out (by kernel_rfl)) (fun _ _ _ h => h) (Or.inl ⟨by rfl, ?_⟩) ?_ ?_
          rotate_left
          ·intro w'; go_simp; with_reducible rfl
          rotate_left
          ·simp only [Act.put, sA, sB, sC, i64_w, i32_w]; rfl
          refine done_ (done_of HT_.out (by kernel_rfl)) ?_
          try go_wp2
          go_ret
          exact ⟨by first | rfl | (simp [errW_none, errW_some] <;> rfl) | (simp [*, errW_none, errW_some] <;> rfl), by repeat (first | (with_reducible first | exact HB.out | apply below_alloc | apply pw_below_drewN | apply below_drew1 | refine below_set ?_ GE297.out | refine below_set ?_ GE298.out) | exact HB.out)⟩
        ·replace c40 := Bool.eq_false_iff.mpr c40
         subst c40
         have H1 : (none) = some r := by rw [if_neg (show ¬ (false = true) by decide)] at H; exact H
         clear H
         have H := H1
         clear H1
         exact absurd H (by simp)
      ·replace c33 := Bool.eq_false_iff.mpr c33
       subst c33
       have H1 : (none) = some r := by rw [if_neg (show ¬ (false = true) by decide)] at H; exact H
       clear H
       have H := H1
       clear H1
       exact absurd H (by simp)
     ·rw [if_neg c31] at H
      exact absurd H (by simp)
 ·replace c5 := Bool.eq_false_iff.mpr c5
  subst c5
  have H1 : (none) = some r := by rw [if_neg (show ¬ (false = true) by decide)] at H; exact H
  clear H
  have H := H1
  clear H1
  exact absurd H (by simp)

/-- The one pure statement of crosswaylaw10_HeadWrites. -/
def crosswaylaw10_HeadWrites.Pure : Prop := ∀ (a0_0 : Int) (a0_1 : Int) (l0_2 : List Int) (l0_3 : List Int) (a1_0 : Int) (a1_1 : Int) (l1_2 : List Int) (l1_3 : List Int) (l2 : List Int), (Lit.int .u8 a0_0).wf = true → (Lit.int .u32 a0_1).wf = true → l0_2.length ≤ maxLen → (∀ x ∈ l0_2, (Lit.int .u8 x).wf = true) → l0_3.length ≤ maxLen → (∀ x ∈ l0_3, (Lit.int .u8 x).wf = true) → (Lit.int .u8 a1_0).wf = true → (Lit.int .u32 a1_1).wf = true → l1_2.length ≤ maxLen → (∀ x ∈ l1_2, (Lit.int .u8 x).wf = true) → l1_3.length ≤ maxLen → (∀ x ∈ l1_3, (Lit.int .u8 x).wf = true) → l2.length ≤ maxLen → (∀ x ∈ l2, (Lit.int .u8 x).wf = true) → ∃ k, crosswaylaw10_HeadWrites.f k a0_0 a0_1 l0_2 l0_3 a1_0 a1_1 l1_2 l1_3 l2 = some true

end Go.Proofs.Ytnmhnihhlakinaa.M
