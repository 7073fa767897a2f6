/- Contracts of the Go functions that the laws reach, each as a plain Lean function: written by xprint.py, a program of this repo. -/
import Derived.Test.YtnmhnihhlakinaaM0
import Derived.Test.YtnmhnihhlakinaaM2
import Derived.Test.YtnmhnihhlakinaaM3
import Derived.Test.YtnmhnihhlakinaaM5
namespace Go.Proofs.Ytnmhnihhlakinaa.M
open Go.RowKit Go.Proofs.YtnmhnihhlakinaaW.PrintWords Go.Proofs.YtnmhnihhlakinaaW.PrintLast Go.Proofs.YtnmhnihhlakinaaW.PrintMore Go.Proofs.Ytnmhnihhlakinaa.X
attribute [local go_sem] max2_int min2_int max_two min_two max_three min_three max_four min_four   -- for this text's walks alone
set_option linter.unusedVariables false
set_option linter.unusedSimpArgs false

/-! ### crosswaylaw10_HeadApart: function 6 -/
mutual
def crosswaylaw10_HeadApart.j0 : Nat → List Int → List Int → Bool → Int → Int → List Int → List Int → Int → Int → List Int → List Int → Option (Bool)
  | 0, _, _, _, _, _, _, _, _, _, _, _ => none
  | k + 1, x2, x3, x52, x413000, x413001, x413002, x413003, x414000, x414001, x414002, x414003 => if x52 = true then (some true) else ((head_Head_Bytes.f k x413000 x413001 x413002 x413003).bind fun bt415 => ((head_Head_Bytes.f k x414000 x414001 x414002 x414003).bind fun bt419 => (if bt415.2 = 0 then (crosswaylaw10_HeadApart.j1 k x2 x3 bt415.1 bt415.2 bt419.1 bt419.2 (bt419.2 != 0) x413000 x413001 x413002 x413003 x414000 x414001 x414002 x414003) else (crosswaylaw10_HeadApart.j1 k x2 x3 bt415.1 bt415.2 bt419.1 bt419.2 true x413000 x413001 x413002 x413003 x414000 x414001 x414002 x414003))))
def crosswaylaw10_HeadApart.j1 : Nat → List Int → List Int → List Int → Int → List Int → Int → Bool → Int → Int → List Int → List Int → Int → Int → List Int → List Int → Option (Bool)
  | 0, _, _, _, _, _, _, _, _, _, _, _, _, _, _, _ => none
  | k + 1, x2, x3, x9, x10, x11, x12, x68, x413000, x413001, x413002, x413003, x414000, x414001, x414002, x414003 => if x68 = true then (if ((x10 == 14) == (decide (x413000 < 128))) = true then (some ((x12 == 14) == (decide (x414000 < 128)))) else (none)) else ((crosswayref00_SameBytes.f k x9 x11).bind fun t423 => ((head_Same.f x413000 x413001 x413002 x413003 x414000 x414001 x414002 x414003).bind fun t424 => (if (t423 != t424) = true then (none) else ((crosswayref00_CopyBytes.f x9).bind fun t425 => (if t425.length + x2.length < 140737488355328 then ((head_Parse.f k (t425 ++ x2)).bind fun bt431 => ((crosswayref00_CopyBytes.f x9).bind fun t444 => (if t444.length + x3.length < 140737488355328 then ((head_Parse.f k (t444 ++ x3)).bind fun bt450 => (if bt431.2.2.2.2.2 = 0 then (if bt450.2.2.2.2.2 = 0 then ((head_Same.f bt431.1 bt431.2.1 bt431.2.2.1 bt431.2.2.2.1 bt450.1 bt450.2.1 bt450.2.2.1 bt450.2.2.2.1).bind fun t463 => (if t463 = true then (if (bt431.2.2.2.2.1.length : Int) = (x2.length : Int) then (some ((bt450.2.2.2.2.1.length : Int) == (x3.length : Int))) else (none)) else (none))) else (none)) else (none))) else (none)))) else (none))))))
end
def crosswaylaw10_HeadApart.f (k : Nat) (a0_0 : Int) (a0_1 : Int) (l0_2 : List Int) (l0_3 : List Int) (a1_0 : Int) (a1_1 : Int) (l1_2 : List Int) (l1_3 : List Int) (l2 : List Int) (l3 : List Int) : Option (Bool) := (crosswaylaw10_alive.f k).bind fun t414 => (if t414 = true then (if (l0_2.length : Int) > 255 then (crosswaylaw10_HeadApart.j0 k l2 l3 true a0_0 a0_1 l0_2 l0_3 a1_0 a1_1 l1_2 l1_3) else (if (l0_3.length : Int) > 255 then (crosswaylaw10_HeadApart.j0 k l2 l3 true a0_0 a0_1 l0_2 l0_3 a1_0 a1_1 l1_2 l1_3) else (if (l1_2.length : Int) > 255 then (crosswaylaw10_HeadApart.j0 k l2 l3 true a0_0 a0_1 l0_2 l0_3 a1_0 a1_1 l1_2 l1_3) else (if (l1_3.length : Int) > 255 then (crosswaylaw10_HeadApart.j0 k l2 l3 true a0_0 a0_1 l0_2 l0_3 a1_0 a1_1 l1_2 l1_3) else (if (l2.length : Int) > 300 then (crosswaylaw10_HeadApart.j0 k l2 l3 true a0_0 a0_1 l0_2 l0_3 a1_0 a1_1 l1_2 l1_3) else (crosswaylaw10_HeadApart.j0 k l2 l3 (decide ((l3.length : Int) > 300)) a0_0 a0_1 l0_2 l0_3 a1_0 a1_1 l1_2 l1_3)))))) else (none))
theorem crosswaylaw10_HeadApart.mono_l : ∀ k, (∀ y0 y1 y2 y3 y4 y5 y6 y7 y8 y9 y10, LeO (crosswaylaw10_HeadApart.j0 k y0 y1 y2 y3 y4 y5 y6 y7 y8 y9 y10) (crosswaylaw10_HeadApart.j0 (k + 1) y0 y1 y2 y3 y4 y5 y6 y7 y8 y9 y10)) ∧ (∀ y0 y1 y2 y3 y4 y5 y6 y7 y8 y9 y10 y11 y12 y13 y14, LeO (crosswaylaw10_HeadApart.j1 k y0 y1 y2 y3 y4 y5 y6 y7 y8 y9 y10 y11 y12 y13 y14) (crosswaylaw10_HeadApart.j1 (k + 1) y0 y1 y2 y3 y4 y5 y6 y7 y8 y9 y10 y11 y12 y13 y14))
  | 0 => ⟨fun _ _ _ _ _ _ _ _ _ _ _ r h => by simp [crosswaylaw10_HeadApart.j0] at h, fun _ _ _ _ _ _ _ _ _ _ _ _ _ _ _ r h => by simp [crosswaylaw10_HeadApart.j1] at h⟩
  | k + 1 => by
    obtain ⟨ih0, ih1⟩ := crosswaylaw10_HeadApart.mono_l k
    refine ⟨?_, ?_⟩
    · intro y0 y1 y2 y3 y4 y5 y6 y7 y8 y9 y10
      unfold crosswaylaw10_HeadApart.j0
      repeat' first
      | (with_reducible exact ih0 _ _ _ _ _ _ _ _ _ _ _)
      | (with_reducible exact ih1 _ _ _ _ _ _ _ _ _ _ _ _ _ _ _)
      | (with_reducible exact crosswaylaw10_alive.mono _)
      | (with_reducible exact crosswayref00_SameBytes.mono _ _ _)
      | (with_reducible exact head_Head_Bytes.mono _ _ _ _ _)
      | (with_reducible exact head_Parse.mono _ _)
      | (with_reducible exact LeO.refl _)
      | (with_reducible exact LeO.none _)
      | (with_reducible refine LeO.ite ?_ ?_)
      | (with_reducible refine LeO.bind ?_ (fun _ => ?_))
      | exact ih0 _ _ _ _ _ _ _ _ _ _ _
      | exact ih1 _ _ _ _ _ _ _ _ _ _ _ _ _ _ _
      | exact crosswaylaw10_alive.mono _
      | exact crosswayref00_SameBytes.mono _ _ _
      | exact head_Head_Bytes.mono _ _ _ _ _
      | exact head_Parse.mono _ _
      | exact LeO.none _
      | refine LeO.ite ?_ ?_
      | refine LeO.bind ?_ (fun _ => ?_)
    · intro y0 y1 y2 y3 y4 y5 y6 y7 y8 y9 y10 y11 y12 y13 y14
      unfold crosswaylaw10_HeadApart.j1
      repeat' first
      | (with_reducible exact ih0 _ _ _ _ _ _ _ _ _ _ _)
      | (with_reducible exact ih1 _ _ _ _ _ _ _ _ _ _ _ _ _ _ _)
      | (with_reducible exact crosswaylaw10_alive.mono _)
      | (with_reducible exact crosswayref00_SameBytes.mono _ _ _)
      | (with_reducible exact head_Head_Bytes.mono _ _ _ _ _)
      | (with_reducible exact head_Parse.mono _ _)
      | (with_reducible exact LeO.refl _)
      | (with_reducible exact LeO.none _)
      | (with_reducible refine LeO.ite ?_ ?_)
      | (with_reducible refine LeO.bind ?_ (fun _ => ?_))
      | exact ih0 _ _ _ _ _ _ _ _ _ _ _
      | exact ih1 _ _ _ _ _ _ _ _ _ _ _ _ _ _ _
      | exact crosswaylaw10_alive.mono _
      | exact crosswayref00_SameBytes.mono _ _ _
      | exact head_Head_Bytes.mono _ _ _ _ _
      | exact head_Parse.mono _ _
      | exact LeO.none _
      | refine LeO.ite ?_ ?_
      | refine LeO.bind ?_ (fun _ => ?_)
theorem crosswaylaw10_HeadApart.mono : ∀ a0 a1 a2 a3 a4 a5 a6 a7 a8 a9 k, LeO (crosswaylaw10_HeadApart.f k a0 a1 a2 a3 a4 a5 a6 a7 a8 a9) (crosswaylaw10_HeadApart.f (k + 1) a0 a1 a2 a3 a4 a5 a6 a7 a8 a9) := by
  intro a0 a1 a2 a3 a4 a5 a6 a7 a8 a9 k
  obtain ⟨ih0, ih1⟩ := crosswaylaw10_HeadApart.mono_l k
  unfold crosswaylaw10_HeadApart.f
  repeat' first
      | (with_reducible exact ih0 _ _ _ _ _ _ _ _ _ _ _)
      | (with_reducible exact ih1 _ _ _ _ _ _ _ _ _ _ _ _ _ _ _)
      | (with_reducible exact crosswaylaw10_alive.mono _)
      | (with_reducible exact crosswayref00_SameBytes.mono _ _ _)
      | (with_reducible exact head_Head_Bytes.mono _ _ _ _ _)
      | (with_reducible exact head_Parse.mono _ _)
      | (with_reducible exact LeO.refl _)
      | (with_reducible exact LeO.none _)
      | (with_reducible refine LeO.ite ?_ ?_)
      | (with_reducible refine LeO.bind ?_ (fun _ => ?_))
      | exact ih0 _ _ _ _ _ _ _ _ _ _ _
      | exact ih1 _ _ _ _ _ _ _ _ _ _ _ _ _ _ _
      | exact crosswaylaw10_alive.mono _
      | exact crosswayref00_SameBytes.mono _ _ _
      | exact head_Head_Bytes.mono _ _ _ _ _
      | exact head_Parse.mono _ _
      | exact LeO.none _
      | refine LeO.ite ?_ ?_
      | refine LeO.bind ?_ (fun _ => ?_)
set_option maxHeartbeats 8000000 in
set_option maxRecDepth 100000 in
theorem crosswaylaw10_HeadApart.calls (k : Nat) (a0_0 : Int) (a0_1 : Int) (A0_2 : Option Addr) (c0_2 : Nat) (l0_2 : List Int) (A0_3 : Option Addr) (c0_3 : Nat) (l0_3 : List Int) (a1_0 : Int) (a1_1 : Int) (A1_2 : Option Addr) (c1_2 : Nat) (l1_2 : List Int) (A1_3 : Option Addr) (c1_3 : Nat) (l1_3 : List Int) (A2 : Option Addr) (c2 : Nat) (l2 : List Int) (A3 : Option Addr) (c3 : Nat) (l3 : List Int) (r : Bool) (w : World) (hr0_2 : Kd.C (Kd.int .u8) w A0_2 l0_2.length l0_2) (hc0_2 : l0_2.length ≤ c0_2) (hr0_3 : Kd.C (Kd.int .u8) w A0_3 l0_3.length l0_3) (hc0_3 : l0_3.length ≤ c0_3) (hr1_2 : Kd.C (Kd.int .u8) w A1_2 l1_2.length l1_2) (hc1_2 : l1_2.length ≤ c1_2) (hr1_3 : Kd.C (Kd.int .u8) w A1_3 l1_3.length l1_3) (hc1_3 : l1_3.length ≤ c1_3) (hr2 : Kd.C (Kd.int .u8) w A2 l2.length l2) (hc2 : l2.length ≤ c2) (hr3 : Kd.C (Kd.int .u8) w A3 l3.length l3) (hc3 : l3.length ≤ c3) (h : crosswaylaw10_HeadApart.f k a0_0 a0_1 l0_2 l0_3 a1_0 a1_1 l1_2 l1_3 l2 l3 = some r) :
    Calls Try.prog 6 #[.agg #[.int .u8 a0_0, .int .u32 a0_1, .slice A0_2 l0_2.length c0_2, .slice A0_3 l0_3.length c0_3], .agg #[.int .u8 a1_0, .int .u32 a1_1, .slice A1_2 l1_2.length c1_2, .slice A1_3 l1_3.length c1_3], .slice A2 l2.length c2, .slice A3 l3.length c3] w fun e w' => e = .returned (.bool r) ∧ Below w.heap.size w w' := by
  have hu27 := Try.underlying27
  have HR0_2 := Aside0.mk hr0_2
  have HC0_2 := Aside0.mk hc0_2
  clear hr0_2 hc0_2
  have HR0_3 := Aside0.mk hr0_3
  have HC0_3 := Aside0.mk hc0_3
  clear hr0_3 hc0_3
  have HR1_2 := Aside0.mk hr1_2
  have HC1_2 := Aside0.mk hc1_2
  clear hr1_2 hc1_2
  have HR1_3 := Aside0.mk hr1_3
  have HC1_3 := Aside0.mk hc1_3
  clear hr1_3 hc1_3
  have HR2 := Aside0.mk hr2
  have HC2 := Aside0.mk hc2
  clear hr2 hc2
  have HR3 := Aside0.mk hr3
  have HC3 := Aside0.mk hc3
  clear hr3 hc3
  have HB := Aside0.mk (Below.refl w.heap.size w)
  have H : ((crosswaylaw10_alive.f k).bind fun t414 => (if t414 = true then (if (l0_2.length : Int) > 255 then (crosswaylaw10_HeadApart.j0 k l2 l3 true a0_0 a0_1 l0_2 l0_3 a1_0 a1_1 l1_2 l1_3) else (if (l0_3.length : Int) > 255 then (crosswaylaw10_HeadApart.j0 k l2 l3 true a0_0 a0_1 l0_2 l0_3 a1_0 a1_1 l1_2 l1_3) else (if (l1_2.length : Int) > 255 then (crosswaylaw10_HeadApart.j0 k l2 l3 true a0_0 a0_1 l0_2 l0_3 a1_0 a1_1 l1_2 l1_3) else (if (l1_3.length : Int) > 255 then (crosswaylaw10_HeadApart.j0 k l2 l3 true a0_0 a0_1 l0_2 l0_3 a1_0 a1_1 l1_2 l1_3) else (if (l2.length : Int) > 300 then (crosswaylaw10_HeadApart.j0 k l2 l3 true a0_0 a0_1 l0_2 l0_3 a1_0 a1_1 l1_2 l1_3) else (crosswaylaw10_HeadApart.j0 k l2 l3 (decide ((l3.length : Int) > 300)) a0_0 a0_1 l0_2 l0_3 a1_0 a1_1 l1_2 l1_3)))))) else (none))) = some r := h
  clear h
  replace H := Option.bind_eq_some_iff.mp H
  obtain ⟨t414, A50, H⟩ := H
  replace H : (if t414 = true then (if (l0_2.length : Int) > 255 then (crosswaylaw10_HeadApart.j0 k l2 l3 true a0_0 a0_1 l0_2 l0_3 a1_0 a1_1 l1_2 l1_3) else (if (l0_3.length : Int) > 255 then (crosswaylaw10_HeadApart.j0 k l2 l3 true a0_0 a0_1 l0_2 l0_3 a1_0 a1_1 l1_2 l1_3) else (if (l1_2.length : Int) > 255 then (crosswaylaw10_HeadApart.j0 k l2 l3 true a0_0 a0_1 l0_2 l0_3 a1_0 a1_1 l1_2 l1_3) else (if (l1_3.length : Int) > 255 then (crosswaylaw10_HeadApart.j0 k l2 l3 true a0_0 a0_1 l0_2 l0_3 a1_0 a1_1 l1_2 l1_3) else (if (l2.length : Int) > 300 then (crosswaylaw10_HeadApart.j0 k l2 l3 true a0_0 a0_1 l0_2 l0_3 a1_0 a1_1 l1_2 l1_3) else (crosswaylaw10_HeadApart.j0 k l2 l3 (decide ((l3.length : Int) > 300)) a0_0 a0_1 l0_2 l0_3 a1_0 a1_1 l1_2 l1_3)))))) else (none)) = some r := H
  have A5 := Aside0.mk A50
  clear A50
  by_cases c6 : t414 = true
  · subst c6
    have H1 : (if (l0_2.length : Int) > 255 then (crosswaylaw10_HeadApart.j0 k l2 l3 true a0_0 a0_1 l0_2 l0_3 a1_0 a1_1 l1_2 l1_3) else (if (l0_3.length : Int) > 255 then (crosswaylaw10_HeadApart.j0 k l2 l3 true a0_0 a0_1 l0_2 l0_3 a1_0 a1_1 l1_2 l1_3) else (if (l1_2.length : Int) > 255 then (crosswaylaw10_HeadApart.j0 k l2 l3 true a0_0 a0_1 l0_2 l0_3 a1_0 a1_1 l1_2 l1_3) else (if (l1_3.length : Int) > 255 then (crosswaylaw10_HeadApart.j0 k l2 l3 true a0_0 a0_1 l0_2 l0_3 a1_0 a1_1 l1_2 l1_3) else (if (l2.length : Int) > 300 then (crosswaylaw10_HeadApart.j0 k l2 l3 true a0_0 a0_1 l0_2 l0_3 a1_0 a1_1 l1_2 l1_3) else (crosswaylaw10_HeadApart.j0 k l2 l3 (decide ((l3.length : Int) > 300)) a0_0 a0_1 l0_2 l0_3 a1_0 a1_1 l1_2 l1_3)))))) = some r := by rw [if_pos rfl] at H; exact H
    clear H
    have H := H1
    clear H1
    have HC7 := Aside0.mk H
    clear H
    go_enter Try.func6, Try.ntmps6
    go_upto_region 3 with (first | ((with_reducible refine gate_dst (N := 4) rfl ?_); (try (refine gate_guard (by rfl) ?_; dsimp only)); refine box_event ?hg (N := 4) ?hd (cs := #[.int .u8 a0_0, .int .u32 a0_1, .slice A0_2 l0_2.length c0_2, .slice A0_3 l0_3.length c0_3]) (t := 27) ?hr ?_; (case hd => rfl); (case hg => rfl); (case hr => first | (go_simp; done) | (go_simp; rfl)); intro gb412 hg w8 hbox hb; have n0_ := Aside0.mk (below_step (by repeat (first | (with_reducible first | exact HB.out | apply below_alloc | apply pw_below_drewN | apply below_drew1) | exact HB.out)) hb); have n1_ := Aside0.mk (hbox); have n2_ := Aside0.mk trivial; have n3_ := Aside0.mk ((by rw [hg]; exact (below_size (by repeat (first | (with_reducible first | exact HB.out | apply below_alloc | apply pw_below_drewN | apply below_drew1) | exact HB.out))) : w.heap.size ≤ gb412)); clear HB; have HB := n0_; have BK412 := n1_; have GW412 := n2_; have GE412 := n3_; clear n0_ n1_ n2_ n3_; clear hb hbox hg) | ((with_reducible refine gate_dst (N := 5) rfl ?_); (try (refine gate_guard (by rfl) ?_; dsimp only)); refine box_event ?hg (N := 5) ?hd (cs := #[.int .u8 a1_0, .int .u32 a1_1, .slice A1_2 l1_2.length c1_2, .slice A1_3 l1_3.length c1_3]) (t := 27) ?hr ?_; (case hd => rfl); (case hg => rfl); (case hr => first | (go_simp; done) | (go_simp; rfl)); intro gb413 hg w9 hbox hb; have n0_ := Aside0.mk (blk_below (g := gb412) (o := .cells #[.int .u8 a0_0, .int .u32 a0_1, .slice A0_2 l0_2.length c0_2, .slice A0_3 l0_3.length c0_3] 27 (0, 0)) (by (with_reducible repeat (first | refine blk_drewN ?_ _ | refine blk_drew ?_ | refine blk_alloc ?_ _)); exact BK412.out) hb); have n1_ := Aside0.mk (below_step (by repeat (first | (with_reducible first | exact HB.out | apply below_alloc | apply pw_below_drewN | apply below_drew1 | refine below_set ?_ GE412.out) | exact HB.out)) hb); have n2_ := Aside0.mk (hbox); have n3_ := Aside0.mk trivial; have n4_ := Aside0.mk ((by rw [hg]; exact (below_size (by repeat (first | (with_reducible first | exact HB.out | apply below_alloc | apply pw_below_drewN | apply below_drew1 | refine below_set ?_ GE412.out) | exact HB.out))) : w.heap.size ≤ gb413)); have n5_ := Aside0.mk ((by rw [hg]; exact Nat.ne_of_lt (blk_lt (g := gb412) (o := .cells #[.int .u8 a0_0, .int .u32 a0_1, .slice A0_2 l0_2.length c0_2, .slice A0_3 l0_3.length c0_3] 27 (0, 0)) (by (with_reducible repeat (first | refine blk_drewN ?_ _ | refine blk_drew ?_ | refine blk_alloc ?_ _)); exact BK412.out)) : gb412 ≠ gb413)); have n6_ := Aside0.mk ((by rw [hg]; exact Nat.ne_of_gt (blk_lt (g := gb412) (o := .cells #[.int .u8 a0_0, .int .u32 a0_1, .slice A0_2 l0_2.length c0_2, .slice A0_3 l0_3.length c0_3] 27 (0, 0)) (by (with_reducible repeat (first | refine blk_drewN ?_ _ | refine blk_drew ?_ | refine blk_alloc ?_ _)); exact BK412.out)) : gb413 ≠ gb412)); clear BK412; clear HB; have BK412 := n0_; have HB := n1_; have BK413 := n2_; have GW413 := n3_; have GE413 := n4_; have NB412_413 := n5_; have NB413_412 := n6_; clear n0_ n1_ n2_ n3_ n4_ n5_ n6_; clear hb hbox hg) | ((with_reducible refine gate_callee (f := 7) rfl ?_); refine goesL_ (some 19) rfl rfl Try.func7 (by kernel_rfl) rfl #[] rfl (by (try simp only [List.map_toArray, List.map_cons, List.map_nil]); first | done | rfl | (simp only [List.length_drop, List.length_take]; rfl)) ?_; (with_reducible refine (crosswaylaw10_alive.calls k  true _ A5.out).mono ?_); rintro e w10 ⟨rfl, hb⟩; refine ⟨_, rfl, ?_⟩; have n0_ := Aside0.mk (blk_below (g := gb412) (o := .cells #[.int .u8 a0_0, .int .u32 a0_1, .slice A0_2 l0_2.length c0_2, .slice A0_3 l0_3.length c0_3] 27 (0, 0)) (by (with_reducible repeat (first | refine blk_drewN ?_ _ | refine blk_drew ?_ | refine blk_alloc ?_ _)); exact BK412.out) hb); have n1_ := Aside0.mk (blk_below (g := gb413) (o := .cells #[.int .u8 a1_0, .int .u32 a1_1, .slice A1_2 l1_2.length c1_2, .slice A1_3 l1_3.length c1_3] 27 (0, 0)) (by (with_reducible repeat (first | refine blk_drewN ?_ _ | refine blk_drew ?_ | refine blk_alloc ?_ _)); exact BK413.out) hb); have n2_ := Aside0.mk (below_step (by repeat (first | (with_reducible first | exact HB.out | apply below_alloc | apply pw_below_drewN | apply below_drew1 | refine below_set ?_ GE412.out | refine below_set ?_ GE413.out) | exact HB.out)) hb); clear BK412; clear BK413; clear HB; have BK412 := n0_; have BK413 := n1_; have HB := n2_; clear n0_ n1_ n2_; (try clear hb); (try clear hb2); (try clear hk); (try clear hi)))
    (try simp only [Act.put, List.setIfInBounds_toArray, List.set_cons_zero, List.set_cons_succ])
    go_cut [52] (fun v52 wc => ∃ (kq : Nat) (x52_6 : Bool), v52 = .bool x52_6 ∧ Aside0 (crosswaylaw10_HeadApart.j0 kq l2 l3 x52_6 a0_0 a0_1 l0_2 l0_3 a1_0 a1_1 l1_2 l1_3 = some r) ∧ Aside0 (kq ≤ k) ∧ Aside0 (wc.heap[gb412]? = some (.cells #[.int .u8 a0_0, .int .u32 a0_1, (.slice A0_2 l0_2.length c0_2), (.slice A0_3 l0_3.length c0_3)] 27 (0, 0))) ∧ Aside0 (wc.heap[gb413]? = some (.cells #[.int .u8 a1_0, .int .u32 a1_1, (.slice A1_2 l1_2.length c1_2), (.slice A1_3 l1_3.length c1_3)] 27 (0, 0))) ∧ Aside0 (Below w.heap.size w wc))
    case first =>
      have H := HC7.out
      clear HC7
      by_cases c11 : (l0_2.length : Int) > 255
      · rw [if_pos c11] at H
        have c11b0 : decide (255 < (l0_2.length : Int)) = true := decide_eq_true c11
        have c11b1 : decide (255 < l0_2.length) = true := decide_eq_true (by omega)
        clear c11
        (first | rw [c11b0] | (simp only [i64_w, i32_w]; rw [c11b0]) | skip)
        have H' := Aside0.mk H
        clear H
        have hnb12 := NB412_413.out
        have hnc12 := NB413_412.out
        have hcz13_0 : w10.cell? ⟨gb412, 0, none⟩ = some (.int .u8 a0_0) := (blk_cell BK412.out 0).trans rfl
        have hcz13_1 : w10.cell? ⟨gb412, 1, none⟩ = some (.int .u32 a0_1) := (blk_cell BK412.out 1).trans rfl
        have hcz13_2 : w10.cell? ⟨gb412, 2, none⟩ = some (.slice A0_2 l0_2.length c0_2) := (blk_cell BK412.out 2).trans rfl
        have hcz13_3 : w10.cell? ⟨gb412, 3, none⟩ = some (.slice A0_3 l0_3.length c0_3) := (blk_cell BK412.out 3).trans rfl
        have hfz13_0 := blk_frozen BK412.out 0
        have hfz13_1 := blk_frozen BK412.out 1
        have hfz13_2 := blk_frozen BK412.out 2
        have hfz13_3 := blk_frozen BK412.out 3
        go_wp2
        go_meet
        case rel => exact ⟨_, (true), (by first | rfl | (simp; done) | (simp [*]; done) | (simp only [i64_w]; done) | (simp [i64_w]; done)), H', ⟨by first | omega | exact Nat.le_refl _⟩, ⟨by (with_reducible repeat (first | refine blk_drewN ?_ _ | refine blk_drew ?_ | refine blk_alloc ?_ _)); exact BK412.out⟩, ⟨by (with_reducible repeat (first | refine blk_drewN ?_ _ | refine blk_drew ?_ | refine blk_alloc ?_ _)); exact BK413.out⟩, ⟨by repeat (first | (with_reducible first | exact HB.out | apply below_alloc | apply pw_below_drewN | apply below_drew1 | refine below_set ?_ GE412.out | refine below_set ?_ GE413.out) | exact HB.out)⟩⟩
      · rw [if_neg c11] at H
        have c11b0 : decide (255 < (l0_2.length : Int)) = false := decide_eq_false c11
        have c11b1 : decide (255 < l0_2.length) = false := decide_eq_false (by omega)
        clear c11
        (first | rw [c11b0] | (simp only [i64_w, i32_w]; rw [c11b0]) | skip)
        by_cases c14 : (l0_3.length : Int) > 255
        · rw [if_pos c14] at H
          have c14b0 : decide (255 < (l0_3.length : Int)) = true := decide_eq_true c14
          have c14b1 : decide (255 < l0_3.length) = true := decide_eq_true (by omega)
          clear c14
          have H' := Aside0.mk H
          clear H
          have hnb15 := NB412_413.out
          have hnc15 := NB413_412.out
          have hcz16_0 : w10.cell? ⟨gb412, 0, none⟩ = some (.int .u8 a0_0) := (blk_cell BK412.out 0).trans rfl
          have hcz16_1 : w10.cell? ⟨gb412, 1, none⟩ = some (.int .u32 a0_1) := (blk_cell BK412.out 1).trans rfl
          have hcz16_2 : w10.cell? ⟨gb412, 2, none⟩ = some (.slice A0_2 l0_2.length c0_2) := (blk_cell BK412.out 2).trans rfl
          have hcz16_3 : w10.cell? ⟨gb412, 3, none⟩ = some (.slice A0_3 l0_3.length c0_3) := (blk_cell BK412.out 3).trans rfl
          have hfz16_0 := blk_frozen BK412.out 0
          have hfz16_1 := blk_frozen BK412.out 1
          have hfz16_2 := blk_frozen BK412.out 2
          have hfz16_3 := blk_frozen BK412.out 3
          go_wp2
          go_meet
          case rel => exact ⟨_, (true), (by first | rfl | (simp; done) | (simp [*]; done) | (simp only [i64_w]; done) | (simp [i64_w]; done)), H', ⟨by first | omega | exact Nat.le_refl _⟩, ⟨by (with_reducible repeat (first | refine blk_drewN ?_ _ | refine blk_drew ?_ | refine blk_alloc ?_ _)); exact BK412.out⟩, ⟨by (with_reducible repeat (first | refine blk_drewN ?_ _ | refine blk_drew ?_ | refine blk_alloc ?_ _)); exact BK413.out⟩, ⟨by repeat (first | (with_reducible first | exact HB.out | apply below_alloc | apply pw_below_drewN | apply below_drew1 | refine below_set ?_ GE412.out | refine below_set ?_ GE413.out) | exact HB.out)⟩⟩
        · rw [if_neg c14] at H
          have c14b0 : decide (255 < (l0_3.length : Int)) = false := decide_eq_false c14
          have c14b1 : decide (255 < l0_3.length) = false := decide_eq_false (by omega)
          clear c14
          by_cases c17 : (l1_2.length : Int) > 255
          · rw [if_pos c17] at H
            have c17b0 : decide (255 < (l1_2.length : Int)) = true := decide_eq_true c17
            have c17b1 : decide (255 < l1_2.length) = true := decide_eq_true (by omega)
            clear c17
            have H' := Aside0.mk H
            clear H
            have hnb18 := NB412_413.out
            have hnc18 := NB413_412.out
            have hcz19_0 : w10.cell? ⟨gb412, 0, none⟩ = some (.int .u8 a0_0) := (blk_cell BK412.out 0).trans rfl
            have hcz19_1 : w10.cell? ⟨gb412, 1, none⟩ = some (.int .u32 a0_1) := (blk_cell BK412.out 1).trans rfl
            have hcz19_2 : w10.cell? ⟨gb412, 2, none⟩ = some (.slice A0_2 l0_2.length c0_2) := (blk_cell BK412.out 2).trans rfl
            have hcz19_3 : w10.cell? ⟨gb412, 3, none⟩ = some (.slice A0_3 l0_3.length c0_3) := (blk_cell BK412.out 3).trans rfl
            have hfz19_0 := blk_frozen BK412.out 0
            have hfz19_1 := blk_frozen BK412.out 1
            have hfz19_2 := blk_frozen BK412.out 2
            have hfz19_3 := blk_frozen BK412.out 3
            have hcz20_0 : w10.cell? ⟨gb413, 0, none⟩ = some (.int .u8 a1_0) := (blk_cell BK413.out 0).trans rfl
            have hcz20_1 : w10.cell? ⟨gb413, 1, none⟩ = some (.int .u32 a1_1) := (blk_cell BK413.out 1).trans rfl
            have hcz20_2 : w10.cell? ⟨gb413, 2, none⟩ = some (.slice A1_2 l1_2.length c1_2) := (blk_cell BK413.out 2).trans rfl
            have hcz20_3 : w10.cell? ⟨gb413, 3, none⟩ = some (.slice A1_3 l1_3.length c1_3) := (blk_cell BK413.out 3).trans rfl
            have hfz20_0 := blk_frozen BK413.out 0
            have hfz20_1 := blk_frozen BK413.out 1
            have hfz20_2 := blk_frozen BK413.out 2
            have hfz20_3 := blk_frozen BK413.out 3
            go_wp2
            go_meet
            case rel => exact ⟨_, (true), (by first | rfl | (simp; done) | (simp [*]; done) | (simp only [i64_w]; done) | (simp [i64_w]; done)), H', ⟨by first | omega | exact Nat.le_refl _⟩, ⟨by (with_reducible repeat (first | refine blk_drewN ?_ _ | refine blk_drew ?_ | refine blk_alloc ?_ _)); exact BK412.out⟩, ⟨by (with_reducible repeat (first | refine blk_drewN ?_ _ | refine blk_drew ?_ | refine blk_alloc ?_ _)); exact BK413.out⟩, ⟨by repeat (first | (with_reducible first | exact HB.out | apply below_alloc | apply pw_below_drewN | apply below_drew1 | refine below_set ?_ GE412.out | refine below_set ?_ GE413.out) | exact HB.out)⟩⟩
          · rw [if_neg c17] at H
            have c17b0 : decide (255 < (l1_2.length : Int)) = false := decide_eq_false c17
            have c17b1 : decide (255 < l1_2.length) = false := decide_eq_false (by omega)
            clear c17
            by_cases c21 : (l1_3.length : Int) > 255
            · rw [if_pos c21] at H
              have c21b0 : decide (255 < (l1_3.length : Int)) = true := decide_eq_true c21
              have c21b1 : decide (255 < l1_3.length) = true := decide_eq_true (by omega)
              clear c21
              have H' := Aside0.mk H
              clear H
              have hnb22 := NB412_413.out
              have hnc22 := NB413_412.out
              have hcz23_0 : w10.cell? ⟨gb412, 0, none⟩ = some (.int .u8 a0_0) := (blk_cell BK412.out 0).trans rfl
              have hcz23_1 : w10.cell? ⟨gb412, 1, none⟩ = some (.int .u32 a0_1) := (blk_cell BK412.out 1).trans rfl
              have hcz23_2 : w10.cell? ⟨gb412, 2, none⟩ = some (.slice A0_2 l0_2.length c0_2) := (blk_cell BK412.out 2).trans rfl
              have hcz23_3 : w10.cell? ⟨gb412, 3, none⟩ = some (.slice A0_3 l0_3.length c0_3) := (blk_cell BK412.out 3).trans rfl
              have hfz23_0 := blk_frozen BK412.out 0
              have hfz23_1 := blk_frozen BK412.out 1
              have hfz23_2 := blk_frozen BK412.out 2
              have hfz23_3 := blk_frozen BK412.out 3
              have hcz24_0 : w10.cell? ⟨gb413, 0, none⟩ = some (.int .u8 a1_0) := (blk_cell BK413.out 0).trans rfl
              have hcz24_1 : w10.cell? ⟨gb413, 1, none⟩ = some (.int .u32 a1_1) := (blk_cell BK413.out 1).trans rfl
              have hcz24_2 : w10.cell? ⟨gb413, 2, none⟩ = some (.slice A1_2 l1_2.length c1_2) := (blk_cell BK413.out 2).trans rfl
              have hcz24_3 : w10.cell? ⟨gb413, 3, none⟩ = some (.slice A1_3 l1_3.length c1_3) := (blk_cell BK413.out 3).trans rfl
              have hfz24_0 := blk_frozen BK413.out 0
              have hfz24_1 := blk_frozen BK413.out 1
              have hfz24_2 := blk_frozen BK413.out 2
              have hfz24_3 := blk_frozen BK413.out 3
              go_wp2
              go_meet
              case rel => exact ⟨_, (true), (by first | rfl | (simp; done) | (simp [*]; done) | (simp only [i64_w]; done) | (simp [i64_w]; done)), H', ⟨by first | omega | exact Nat.le_refl _⟩, ⟨by (with_reducible repeat (first | refine blk_drewN ?_ _ | refine blk_drew ?_ | refine blk_alloc ?_ _)); exact BK412.out⟩, ⟨by (with_reducible repeat (first | refine blk_drewN ?_ _ | refine blk_drew ?_ | refine blk_alloc ?_ _)); exact BK413.out⟩, ⟨by repeat (first | (with_reducible first | exact HB.out | apply below_alloc | apply pw_below_drewN | apply below_drew1 | refine below_set ?_ GE412.out | refine below_set ?_ GE413.out) | exact HB.out)⟩⟩
            · rw [if_neg c21] at H
              have c21b0 : decide (255 < (l1_3.length : Int)) = false := decide_eq_false c21
              have c21b1 : decide (255 < l1_3.length) = false := decide_eq_false (by omega)
              clear c21
              by_cases c25 : (l2.length : Int) > 300
              · rw [if_pos c25] at H
                have c25b0 : decide (300 < (l2.length : Int)) = true := decide_eq_true c25
                have c25b1 : decide (300 < l2.length) = true := decide_eq_true (by omega)
                clear c25
                have H' := Aside0.mk H
                clear H
                have hnb26 := NB412_413.out
                have hnc26 := NB413_412.out
                have hcz27_0 : w10.cell? ⟨gb412, 0, none⟩ = some (.int .u8 a0_0) := (blk_cell BK412.out 0).trans rfl
                have hcz27_1 : w10.cell? ⟨gb412, 1, none⟩ = some (.int .u32 a0_1) := (blk_cell BK412.out 1).trans rfl
                have hcz27_2 : w10.cell? ⟨gb412, 2, none⟩ = some (.slice A0_2 l0_2.length c0_2) := (blk_cell BK412.out 2).trans rfl
                have hcz27_3 : w10.cell? ⟨gb412, 3, none⟩ = some (.slice A0_3 l0_3.length c0_3) := (blk_cell BK412.out 3).trans rfl
                have hfz27_0 := blk_frozen BK412.out 0
                have hfz27_1 := blk_frozen BK412.out 1
                have hfz27_2 := blk_frozen BK412.out 2
                have hfz27_3 := blk_frozen BK412.out 3
                have hcz28_0 : w10.cell? ⟨gb413, 0, none⟩ = some (.int .u8 a1_0) := (blk_cell BK413.out 0).trans rfl
                have hcz28_1 : w10.cell? ⟨gb413, 1, none⟩ = some (.int .u32 a1_1) := (blk_cell BK413.out 1).trans rfl
                have hcz28_2 : w10.cell? ⟨gb413, 2, none⟩ = some (.slice A1_2 l1_2.length c1_2) := (blk_cell BK413.out 2).trans rfl
                have hcz28_3 : w10.cell? ⟨gb413, 3, none⟩ = some (.slice A1_3 l1_3.length c1_3) := (blk_cell BK413.out 3).trans rfl
                have hfz28_0 := blk_frozen BK413.out 0
                have hfz28_1 := blk_frozen BK413.out 1
                have hfz28_2 := blk_frozen BK413.out 2
                have hfz28_3 := blk_frozen BK413.out 3
                go_wp2
                go_meet
                case rel => exact ⟨_, (true), (by first | rfl | (simp; done) | (simp [*]; done) | (simp only [i64_w]; done) | (simp [i64_w]; done)), H', ⟨by first | omega | exact Nat.le_refl _⟩, ⟨by (with_reducible repeat (first | refine blk_drewN ?_ _ | refine blk_drew ?_ | refine blk_alloc ?_ _)); exact BK412.out⟩, ⟨by (with_reducible repeat (first | refine blk_drewN ?_ _ | refine blk_drew ?_ | refine blk_alloc ?_ _)); exact BK413.out⟩, ⟨by repeat (first | (with_reducible first | exact HB.out | apply below_alloc | apply pw_below_drewN | apply below_drew1 | refine below_set ?_ GE412.out | refine below_set ?_ GE413.out) | exact HB.out)⟩⟩
              · rw [if_neg c25] at H
                have c25b0 : decide (300 < (l2.length : Int)) = false := decide_eq_false c25
                have c25b1 : decide (300 < l2.length) = false := decide_eq_false (by omega)
                clear c25
                have H' := Aside0.mk H
                clear H
                have hnb29 := NB412_413.out
                have hnc29 := NB413_412.out
                have hcz30_0 : w10.cell? ⟨gb412, 0, none⟩ = some (.int .u8 a0_0) := (blk_cell BK412.out 0).trans rfl
                have hcz30_1 : w10.cell? ⟨gb412, 1, none⟩ = some (.int .u32 a0_1) := (blk_cell BK412.out 1).trans rfl
                have hcz30_2 : w10.cell? ⟨gb412, 2, none⟩ = some (.slice A0_2 l0_2.length c0_2) := (blk_cell BK412.out 2).trans rfl
                have hcz30_3 : w10.cell? ⟨gb412, 3, none⟩ = some (.slice A0_3 l0_3.length c0_3) := (blk_cell BK412.out 3).trans rfl
                have hfz30_0 := blk_frozen BK412.out 0
                have hfz30_1 := blk_frozen BK412.out 1
                have hfz30_2 := blk_frozen BK412.out 2
                have hfz30_3 := blk_frozen BK412.out 3
                have hcz31_0 : w10.cell? ⟨gb413, 0, none⟩ = some (.int .u8 a1_0) := (blk_cell BK413.out 0).trans rfl
                have hcz31_1 : w10.cell? ⟨gb413, 1, none⟩ = some (.int .u32 a1_1) := (blk_cell BK413.out 1).trans rfl
                have hcz31_2 : w10.cell? ⟨gb413, 2, none⟩ = some (.slice A1_2 l1_2.length c1_2) := (blk_cell BK413.out 2).trans rfl
                have hcz31_3 : w10.cell? ⟨gb413, 3, none⟩ = some (.slice A1_3 l1_3.length c1_3) := (blk_cell BK413.out 3).trans rfl
                have hfz31_0 := blk_frozen BK413.out 0
                have hfz31_1 := blk_frozen BK413.out 1
                have hfz31_2 := blk_frozen BK413.out 2
                have hfz31_3 := blk_frozen BK413.out 3
                go_wp2
                go_meet
                case rel => exact ⟨_, (decide ((l3.length : Int) > 300)), (by first | rfl | (simp; done) | (simp [*]; done) | (simp only [i64_w]; done) | (simp [i64_w]; done)), H', ⟨by first | omega | exact Nat.le_refl _⟩, ⟨by (with_reducible repeat (first | refine blk_drewN ?_ _ | refine blk_drew ?_ | refine blk_alloc ?_ _)); exact BK412.out⟩, ⟨by (with_reducible repeat (first | refine blk_drewN ?_ _ | refine blk_drew ?_ | refine blk_alloc ?_ _)); exact BK413.out⟩, ⟨by repeat (first | (with_reducible first | exact HB.out | apply below_alloc | apply pw_below_drewN | apply below_drew1 | refine below_set ?_ GE412.out | refine below_set ?_ GE413.out) | exact HB.out)⟩⟩
    case rest =>
      clear HC7
      try clear c1
      try clear c2
      try clear p2
      try clear c3
      try clear c6
      try clear c7
      try clear c11
      try clear c11b0
      try clear c11b1
      try clear c12
      try clear c14
      try clear c14b0
      try clear c14b1
      try clear c15
      try clear c17
      try clear c17b0
      try clear c17b1
      try clear c18
      try clear c21
      try clear c21b0
      try clear c21b1
      try clear c22
      try clear c25
      try clear c25b0
      try clear c25b1
      try clear c26
      try clear c29
      try clear hcz13_0
      try clear hcz13_1
      try clear hcz13_2
      try clear hcz13_3
      try clear hcz16_0
      try clear hcz16_1
      try clear hcz16_2
      try clear hcz16_3
      try clear hcz19_0
      try clear hcz19_1
      try clear hcz19_2
      try clear hcz19_3
      try clear hcz20_0
      try clear hcz20_1
      try clear hcz20_2
      try clear hcz20_3
      try clear hcz23_0
      try clear hcz23_1
      try clear hcz23_2
      try clear hcz23_3
      try clear hcz24_0
      try clear hcz24_1
      try clear hcz24_2
      try clear hcz24_3
      try clear hcz27_0
      try clear hcz27_1
      try clear hcz27_2
      try clear hcz27_3
      try clear hcz28_0
      try clear hcz28_1
      try clear hcz28_2
      try clear hcz28_3
      try clear hcz30_0
      try clear hcz30_1
      try clear hcz30_2
      try clear hcz30_3
      try clear hcz31_0
      try clear hcz31_1
      try clear hcz31_2
      try clear hcz31_3
      try clear hfz13_0
      try clear hfz13_1
      try clear hfz13_2
      try clear hfz13_3
      try clear hfz16_0
      try clear hfz16_1
      try clear hfz16_2
      try clear hfz16_3
      try clear hfz19_0
      try clear hfz19_1
      try clear hfz19_2
      try clear hfz19_3
      try clear hfz20_0
      try clear hfz20_1
      try clear hfz20_2
      try clear hfz20_3
      try clear hfz23_0
      try clear hfz23_1
      try clear hfz23_2
      try clear hfz23_3
      try clear hfz24_0
      try clear hfz24_1
      try clear hfz24_2
      try clear hfz24_3
      try clear hfz27_0
      try clear hfz27_1
      try clear hfz27_2
      try clear hfz27_3
      try clear hfz28_0
      try clear hfz28_1
      try clear hfz28_2
      try clear hfz28_3
      try clear hfz30_0
      try clear hfz30_1
      try clear hfz30_2
      try clear hfz30_3
      try clear hfz31_0
      try clear hfz31_1
      try clear hfz31_2
      try clear hfz31_3
      obtain ⟨kq, x52_6, rfl, HA, HJ6, BK412, BK413, HB⟩ := hcut
      cases kq with
      | zero => exact absurd HA.out (by simp [crosswaylaw10_HeadApart.j0])
      | succ kj6 =>
        have H := HA.out
        clear HA
        simp only [crosswaylaw10_HeadApart.j0] at H
        by_cases c32 : x52_6 = true
        · subst c32
          have H1 : (some true) = some r := by rw [if_pos rfl] at H; exact H
          clear H
          have H := H1
          clear H1
          obtain rfl := Option.some.inj H
          go_wp2
          go_ret
          exact ⟨by first | rfl | (simp [errW_none, errW_some] <;> rfl) | (simp [*, errW_none, errW_some] <;> rfl), by repeat (first | (with_reducible first | exact HB.out | apply below_alloc | apply pw_below_drewN | apply below_drew1 | refine below_set ?_ GE412.out | refine below_set ?_ GE413.out) | exact HB.out)⟩
        · replace c32 := Bool.eq_false_iff.mpr c32
          subst c32
          have H1 : ((head_Head_Bytes.f kj6 a0_0 a0_1 l0_2 l0_3).bind fun bt415 => ((head_Head_Bytes.f kj6 a1_0 a1_1 l1_2 l1_3).bind fun bt419 => (if bt415.2 = 0 then (crosswaylaw10_HeadApart.j1 kj6 l2 l3 bt415.1 bt415.2 bt419.1 bt419.2 (bt419.2 != 0) a0_0 a0_1 l0_2 l0_3 a1_0 a1_1 l1_2 l1_3) else (crosswaylaw10_HeadApart.j1 kj6 l2 l3 bt415.1 bt415.2 bt419.1 bt419.2 true a0_0 a0_1 l0_2 l0_3 a1_0 a1_1 l1_2 l1_3)))) = some r := by rw [if_neg (show ¬ (false = true) by decide)] at H; exact H
          clear H
          have H := H1
          clear H1
          replace H := Option.bind_eq_some_iff.mp H
          obtain ⟨⟨t415, t418⟩, A330, H⟩ := H
          replace H : ((head_Head_Bytes.f kj6 a1_0 a1_1 l1_2 l1_3).bind fun bt419 => (if t418 = 0 then (crosswaylaw10_HeadApart.j1 kj6 l2 l3 t415 t418 bt419.1 bt419.2 (bt419.2 != 0) a0_0 a0_1 l0_2 l0_3 a1_0 a1_1 l1_2 l1_3) else (crosswaylaw10_HeadApart.j1 kj6 l2 l3 t415 t418 bt419.1 bt419.2 true a0_0 a0_1 l0_2 l0_3 a1_0 a1_1 l1_2 l1_3))) = some r := H
          have A33 := Aside0.mk A330
          clear A330
          replace H := Option.bind_eq_some_iff.mp H
          obtain ⟨⟨t419, t422⟩, A340, H⟩ := H
          replace H : (if t418 = 0 then (crosswaylaw10_HeadApart.j1 kj6 l2 l3 t415 t418 t419 t422 (t422 != 0) a0_0 a0_1 l0_2 l0_3 a1_0 a1_1 l1_2 l1_3) else (crosswaylaw10_HeadApart.j1 kj6 l2 l3 t415 t418 t419 t422 true a0_0 a0_1 l0_2 l0_3 a1_0 a1_1 l1_2 l1_3)) = some r := H
          have A34 := Aside0.mk A340
          clear A340
          have HC35 := Aside0.mk H
          clear H
          have hnb36 := NB412_413.out
          have hnc36 := NB413_412.out
          have hcz37_0 : wc.cell? ⟨gb412, 0, none⟩ = some (.int .u8 a0_0) := (blk_cell BK412.out 0).trans rfl
          have hcz37_1 : wc.cell? ⟨gb412, 1, none⟩ = some (.int .u32 a0_1) := (blk_cell BK412.out 1).trans rfl
          have hcz37_2 : wc.cell? ⟨gb412, 2, none⟩ = some (.slice A0_2 l0_2.length c0_2) := (blk_cell BK412.out 2).trans rfl
          have hcz37_3 : wc.cell? ⟨gb412, 3, none⟩ = some (.slice A0_3 l0_3.length c0_3) := (blk_cell BK412.out 3).trans rfl
          have hfz37_0 := blk_frozen BK412.out 0
          have hfz37_1 := blk_frozen BK412.out 1
          have hfz37_2 := blk_frozen BK412.out 2
          have hfz37_3 := blk_frozen BK412.out 3
          go_upto_region 7 with (first | ((with_reducible refine gate_callee (f := 16) rfl ?_); refine goesL_ (some 55) rfl rfl Try.func16 (by kernel_rfl) rfl #[.agg #[.int .u8 a0_0, .int .u32 a0_1, .slice A0_2 l0_2.length c0_2, .slice A0_3 l0_3.length c0_3]] rfl (by (try simp only [List.map_toArray, List.map_cons, List.map_nil]); first | done | rfl | (simp only [List.length_drop, List.length_take]; rfl)) ?_; (with_reducible refine (head_Head_Bytes.calls kj6 a0_0 a0_1 _ _ l0_2 _ _ l0_3 t415 t418 _ ?side1 ?side2 ?side3 ?side4 A33.out).mono ?_); (case side1 => repeat (first | exact (Kd.C_below HR0_2.out HB.out) | (with_reducible refine Kd.C_alloc ?_ _) | (with_reducible refine Kd.C_drewN ?_ _) | (with_reducible refine Kd.C_drew ?_))); (case side2 => exact HC0_2.out); (case side3 => repeat (first | exact (Kd.C_below HR0_3.out HB.out) | (with_reducible refine Kd.C_alloc ?_ _) | (with_reducible refine Kd.C_drewN ?_ _) | (with_reducible refine Kd.C_drew ?_))); (case side4 => exact HC0_3.out); rintro e w38 ⟨v416, rfl, ho0, hb⟩; refine ⟨_, rfl, ?_⟩; have n0_ := Aside0.mk (Kd.R_lower ho0 (below_size (by repeat (first | (with_reducible first | exact HB.out | apply below_alloc | apply pw_below_drewN | apply below_drew1 | refine below_set ?_ GE412.out | refine below_set ?_ GE413.out) | exact HB.out)))); have n1_ := Aside0.mk (blk_below (g := gb412) (o := .cells #[.int .u8 a0_0, .int .u32 a0_1, .slice A0_2 l0_2.length c0_2, .slice A0_3 l0_3.length c0_3] 27 (0, 0)) (by (with_reducible repeat (first | refine blk_drewN ?_ _ | refine blk_drew ?_ | refine blk_alloc ?_ _)); exact BK412.out) hb); have n2_ := Aside0.mk (blk_below (g := gb413) (o := .cells #[.int .u8 a1_0, .int .u32 a1_1, .slice A1_2 l1_2.length c1_2, .slice A1_3 l1_3.length c1_3] 27 (0, 0)) (by (with_reducible repeat (first | refine blk_drewN ?_ _ | refine blk_drew ?_ | refine blk_alloc ?_ _)); exact BK413.out) hb); have n3_ := Aside0.mk (below_step (by repeat (first | (with_reducible first | exact HB.out | apply below_alloc | apply pw_below_drewN | apply below_drew1 | refine below_set ?_ GE412.out | refine below_set ?_ GE413.out) | exact HB.out)) hb); clear BK412; clear BK413; clear HB; have HO417 := n0_; have BK412 := n1_; have BK413 := n2_; have HB := n3_; clear n0_ n1_ n2_ n3_; (try clear hb); (try clear hb2); (try clear hk); (try clear hi); (try clear ho0); have hcz39_0 : w38.cell? ⟨gb413, 0, none⟩ = some (.int .u8 a1_0) := (blk_cell BK413.out 0).trans rfl; have hcz39_1 : w38.cell? ⟨gb413, 1, none⟩ = some (.int .u32 a1_1) := (blk_cell BK413.out 1).trans rfl; have hcz39_2 : w38.cell? ⟨gb413, 2, none⟩ = some (.slice A1_2 l1_2.length c1_2) := (blk_cell BK413.out 2).trans rfl; have hcz39_3 : w38.cell? ⟨gb413, 3, none⟩ = some (.slice A1_3 l1_3.length c1_3) := (blk_cell BK413.out 3).trans rfl; have hfz39_0 := blk_frozen BK413.out 0; have hfz39_1 := blk_frozen BK413.out 1; have hfz39_2 := blk_frozen BK413.out 2; have hfz39_3 := blk_frozen BK413.out 3) | ((with_reducible refine gate_callee (f := 16) rfl ?_); refine goesL_ (some 60) rfl rfl Try.func16 (by kernel_rfl) rfl #[.agg #[.int .u8 a1_0, .int .u32 a1_1, .slice A1_2 l1_2.length c1_2, .slice A1_3 l1_3.length c1_3]] rfl (by (try simp only [List.map_toArray, List.map_cons, List.map_nil]); first | done | rfl | (simp only [List.length_drop, List.length_take]; rfl)) ?_; (with_reducible refine (head_Head_Bytes.calls kj6 a1_0 a1_1 _ _ l1_2 _ _ l1_3 t419 t422 _ ?side1 ?side2 ?side3 ?side4 A34.out).mono ?_); (case side1 => repeat (first | exact (Kd.C_below HR1_2.out HB.out) | (with_reducible refine Kd.C_alloc ?_ _) | (with_reducible refine Kd.C_drewN ?_ _) | (with_reducible refine Kd.C_drew ?_))); (case side2 => exact HC1_2.out); (case side3 => repeat (first | exact (Kd.C_below HR1_3.out HB.out) | (with_reducible refine Kd.C_alloc ?_ _) | (with_reducible refine Kd.C_drewN ?_ _) | (with_reducible refine Kd.C_drew ?_))); (case side4 => exact HC1_3.out); rintro e w40 ⟨v420, rfl, ho0, hb⟩; refine ⟨_, rfl, ?_⟩; have n0_ := Aside0.mk (Kd.R_elder' (by (with_reducible repeat (first | apply Kd.R_alloc | apply Kd.R_drewN | apply Kd.R_drew)); exact HO417.out) (Kd.R_base ho0) hb); have n1_ := Aside0.mk (Kd.R_lower (Kd.R_new' ho0 (Kd.R_lt (by (with_reducible repeat (first | apply Kd.R_alloc | apply Kd.R_drewN | apply Kd.R_drew)); exact HO417.out))) (below_size (by repeat (first | (with_reducible first | exact HB.out | apply below_alloc | apply pw_below_drewN | apply below_drew1 | refine below_set ?_ GE412.out | refine below_set ?_ GE413.out) | exact HB.out)))); have n2_ := Aside0.mk (blk_below (g := gb412) (o := .cells #[.int .u8 a0_0, .int .u32 a0_1, .slice A0_2 l0_2.length c0_2, .slice A0_3 l0_3.length c0_3] 27 (0, 0)) (by (with_reducible repeat (first | refine blk_drewN ?_ _ | refine blk_drew ?_ | refine blk_alloc ?_ _)); exact BK412.out) hb); have n3_ := Aside0.mk (blk_below (g := gb413) (o := .cells #[.int .u8 a1_0, .int .u32 a1_1, .slice A1_2 l1_2.length c1_2, .slice A1_3 l1_3.length c1_3] 27 (0, 0)) (by (with_reducible repeat (first | refine blk_drewN ?_ _ | refine blk_drew ?_ | refine blk_alloc ?_ _)); exact BK413.out) hb); have n4_ := Aside0.mk (below_step (by repeat (first | (with_reducible first | exact HB.out | apply below_alloc | apply pw_below_drewN | apply below_drew1 | refine below_set ?_ GE412.out | refine below_set ?_ GE413.out) | exact HB.out)) hb); clear HO417; clear BK412; clear BK413; clear HB; have HO417 := n0_; have HO421 := n1_; have BK412 := n2_; have BK413 := n3_; have HB := n4_; clear n0_ n1_ n2_ n3_ n4_; (try clear hb); (try clear hb2); (try clear hk); (try clear hi); (try clear ho0)))
          (try simp only [Act.put, List.setIfInBounds_toArray, List.set_cons_zero, List.set_cons_succ])
          go_cut [68] (fun v68 wc => ∃ (kq : Nat) (x68_34 : Bool), v68 = .bool x68_34 ∧ Aside0 (crosswaylaw10_HeadApart.j1 kq l2 l3 t415 t418 t419 t422 x68_34 a0_0 a0_1 l0_2 l0_3 a1_0 a1_1 l1_2 l1_3 = some r) ∧ Aside0 (kq ≤ kj6) ∧ Aside0 (Kd.R (Kd.int .u8) 5 wc w.heap.size (fun k_ => some k_ ≠ (v420 : Value).ownBlock) v416 t415) ∧ Aside0 (Kd.R (Kd.int .u8) 5 wc w.heap.size (fun k_ => some k_ ≠ (v416 : Value).ownBlock) v420 t419) ∧ Aside0 (wc.heap[gb412]? = some (.cells #[.int .u8 a0_0, .int .u32 a0_1, (.slice A0_2 l0_2.length c0_2), (.slice A0_3 l0_3.length c0_3)] 27 (0, 0))) ∧ Aside0 (wc.heap[gb413]? = some (.cells #[.int .u8 a1_0, .int .u32 a1_1, (.slice A1_2 l1_2.length c1_2), (.slice A1_3 l1_3.length c1_3)] 27 (0, 0))) ∧ Aside0 (Below w.heap.size w wc))
          case first =>
            have H := HC35.out
            clear HC35
            by_cases c41 : t418 = 0
            · rw [if_pos c41] at H
              have c41b0 : (t418 == 0) = true := beq_iff_eq.mpr c41
              have c41b1 : (t418 != 0) = false := bne_eq_false_iff_eq.mpr c41
              clear c41
              (first | rw [c41b0] | (simp only [i64_w, i32_w]; rw [c41b0]) | skip)
              have H' := Aside0.mk H
              clear H
              go_wp2
              go_meet
              case rel => exact ⟨_, ((t422 != 0)), (by first | rfl | (simp; done) | (simp [*]; done) | (simp only [i64_w]; done) | (simp [i64_w]; done)), H', ⟨by have := HJ6.out; first | omega | exact Nat.le_refl _⟩, ⟨by (with_reducible repeat (first | apply Kd.R_alloc | apply Kd.R_drewN | apply Kd.R_drew)); exact Kd.R_mono HO417.out (fun _ hk => hk.2)⟩, ⟨by (with_reducible repeat (first | apply Kd.R_alloc | apply Kd.R_drewN | apply Kd.R_drew)); exact Kd.R_mono HO421.out (fun _ hk => hk.2)⟩, ⟨by (with_reducible repeat (first | refine blk_drewN ?_ _ | refine blk_drew ?_ | refine blk_alloc ?_ _)); exact BK412.out⟩, ⟨by (with_reducible repeat (first | refine blk_drewN ?_ _ | refine blk_drew ?_ | refine blk_alloc ?_ _)); exact BK413.out⟩, ⟨by repeat (first | (with_reducible first | exact HB.out | apply below_alloc | apply pw_below_drewN | apply below_drew1 | refine below_set ?_ GE412.out | refine below_set ?_ GE413.out) | exact HB.out)⟩⟩
            · rw [if_neg c41] at H
              have c41b0 : (t418 == 0) = false := beq_eq_false_iff_ne.mpr c41
              have c41b1 : (t418 != 0) = true := bne_iff_ne.mpr c41
              (first | rw [c41b0] | (simp only [i64_w, i32_w]; rw [c41b0]) | skip)
              have H' := Aside0.mk H
              clear H
              go_wp2
              go_meet
              case rel => exact ⟨_, (true), (by first | rfl | (simp; done) | (simp [*]; done) | (simp only [i64_w]; done) | (simp [i64_w]; done)), H', ⟨by have := HJ6.out; first | omega | exact Nat.le_refl _⟩, ⟨by (with_reducible repeat (first | apply Kd.R_alloc | apply Kd.R_drewN | apply Kd.R_drew)); exact Kd.R_mono HO417.out (fun _ hk => hk.2)⟩, ⟨by (with_reducible repeat (first | apply Kd.R_alloc | apply Kd.R_drewN | apply Kd.R_drew)); exact Kd.R_mono HO421.out (fun _ hk => hk.2)⟩, ⟨by (with_reducible repeat (first | refine blk_drewN ?_ _ | refine blk_drew ?_ | refine blk_alloc ?_ _)); exact BK412.out⟩, ⟨by (with_reducible repeat (first | refine blk_drewN ?_ _ | refine blk_drew ?_ | refine blk_alloc ?_ _)); exact BK413.out⟩, ⟨by repeat (first | (with_reducible first | exact HB.out | apply below_alloc | apply pw_below_drewN | apply below_drew1 | refine below_set ?_ GE412.out | refine below_set ?_ GE413.out) | exact HB.out)⟩⟩
          case rest =>
            clear HC35
            try clear c1
            try clear c2
            try clear p2
            try clear c3
            try clear c4
            try clear c6
            try clear c7
            try clear c11
            try clear c11b0
            try clear c11b1
            try clear c12
            try clear c14
            try clear c14b0
            try clear c14b1
            try clear c15
            try clear c16
            try clear c17
            try clear c17b0
            try clear c17b1
            try clear c18
            try clear c21
            try clear c21b0
            try clear c21b1
            try clear c22
            try clear c25
            try clear c25b0
            try clear c25b1
            try clear c26
            try clear c29
            try clear c32
            try clear c36
            try clear c41
            try clear c41b0
            try clear c41b1
            try clear hcz13_0
            try clear hcz13_1
            try clear hcz13_2
            try clear hcz13_3
            try clear hcz16_0
            try clear hcz16_1
            try clear hcz16_2
            try clear hcz16_3
            try clear hcz19_0
            try clear hcz19_1
            try clear hcz19_2
            try clear hcz19_3
            try clear hcz20_0
            try clear hcz20_1
            try clear hcz20_2
            try clear hcz20_3
            try clear hcz23_0
            try clear hcz23_1
            try clear hcz23_2
            try clear hcz23_3
            try clear hcz24_0
            try clear hcz24_1
            try clear hcz24_2
            try clear hcz24_3
            try clear hcz27_0
            try clear hcz27_1
            try clear hcz27_2
            try clear hcz27_3
            try clear hcz28_0
            try clear hcz28_1
            try clear hcz28_2
            try clear hcz28_3
            try clear hcz30_0
            try clear hcz30_1
            try clear hcz30_2
            try clear hcz30_3
            try clear hcz31_0
            try clear hcz31_1
            try clear hcz31_2
            try clear hcz31_3
            try clear hcz37_0
            try clear hcz37_1
            try clear hcz37_2
            try clear hcz37_3
            try clear hcz39_0
            try clear hcz39_1
            try clear hcz39_2
            try clear hcz39_3
            try clear hfz13_0
            try clear hfz13_1
            try clear hfz13_2
            try clear hfz13_3
            try clear hfz16_0
            try clear hfz16_1
            try clear hfz16_2
            try clear hfz16_3
            try clear hfz19_0
            try clear hfz19_1
            try clear hfz19_2
            try clear hfz19_3
            try clear hfz20_0
            try clear hfz20_1
            try clear hfz20_2
            try clear hfz20_3
            try clear hfz23_0
            try clear hfz23_1
            try clear hfz23_2
            try clear hfz23_3
            try clear hfz24_0
            try clear hfz24_1
            try clear hfz24_2
            try clear hfz24_3
            try clear hfz27_0
            try clear hfz27_1
            try clear hfz27_2
            try clear hfz27_3
            try clear hfz28_0
            try clear hfz28_1
            try clear hfz28_2
            try clear hfz28_3
            try clear hfz30_0
            try clear hfz30_1
            try clear hfz30_2
            try clear hfz30_3
            try clear hfz31_0
            try clear hfz31_1
            try clear hfz31_2
            try clear hfz31_3
            try clear hfz37_0
            try clear hfz37_1
            try clear hfz37_2
            try clear hfz37_3
            try clear hfz39_0
            try clear hfz39_1
            try clear hfz39_2
            try clear hfz39_3
            try clear p2
            obtain ⟨kq, x68_34, rfl, HA, HJ34, HO_9, HO_11, BK412, BK413, HB⟩ := hcut
            cases kq with
            | zero => exact absurd HA.out (by simp [crosswaylaw10_HeadApart.j1])
            | succ kj34 =>
              have H := HA.out
              clear HA
              simp only [crosswaylaw10_HeadApart.j1] at H
              by_cases c42 : x68_34 = true
              · subst c42
                have H1 : (if ((t418 == 14) == (decide (a0_0 < 128))) = true then (some ((t422 == 14) == (decide (a1_0 < 128)))) else (none)) = some r := by rw [if_pos rfl] at H; exact H
                clear H
                have H := H1
                clear H1
                by_cases c43 : ((t418 == 14) == (decide (a0_0 < 128))) = true
                · rw [if_pos c43] at H
                  have c43b0 : ((t418 == 14) == (decide (a0_0 < 128))) = true := c43
                  (try (have c43b1 : decide ((t418 == 14) = (decide (a0_0 < 128))) = true := by simpa using c43))
                  (try (have c43b2 : ((t418 == 14) == (decide (a0_0 < 128))) = true := by simpa using c43))
                  clear c43
                  obtain rfl := Option.some.inj H
                  have hnb44 := NB412_413.out
                  have hnc44 := NB413_412.out
                  have hcz45_0 : wc.cell? ⟨gb412, 0, none⟩ = some (.int .u8 a0_0) := (blk_cell BK412.out 0).trans rfl
                  have hcz45_1 : wc.cell? ⟨gb412, 1, none⟩ = some (.int .u32 a0_1) := (blk_cell BK412.out 1).trans rfl
                  have hcz45_2 : wc.cell? ⟨gb412, 2, none⟩ = some (.slice A0_2 l0_2.length c0_2) := (blk_cell BK412.out 2).trans rfl
                  have hcz45_3 : wc.cell? ⟨gb412, 3, none⟩ = some (.slice A0_3 l0_3.length c0_3) := (blk_cell BK412.out 3).trans rfl
                  have hfz45_0 := blk_frozen BK412.out 0
                  have hfz45_1 := blk_frozen BK412.out 1
                  have hfz45_2 := blk_frozen BK412.out 2
                  have hfz45_3 := blk_frozen BK412.out 3
                  have hcz46_0 : wc.cell? ⟨gb413, 0, none⟩ = some (.int .u8 a1_0) := (blk_cell BK413.out 0).trans rfl
                  have hcz46_1 : wc.cell? ⟨gb413, 1, none⟩ = some (.int .u32 a1_1) := (blk_cell BK413.out 1).trans rfl
                  have hcz46_2 : wc.cell? ⟨gb413, 2, none⟩ = some (.slice A1_2 l1_2.length c1_2) := (blk_cell BK413.out 2).trans rfl
                  have hcz46_3 : wc.cell? ⟨gb413, 3, none⟩ = some (.slice A1_3 l1_3.length c1_3) := (blk_cell BK413.out 3).trans rfl
                  have hfz46_0 := blk_frozen BK413.out 0
                  have hfz46_1 := blk_frozen BK413.out 1
                  have hfz46_2 := blk_frozen BK413.out 2
                  have hfz46_3 := blk_frozen BK413.out 3
                  go_wp2
                  go_ret
                  exact ⟨by first | rfl | (simp [errW_none, errW_some] <;> rfl) | (simp [*, errW_none, errW_some] <;> rfl), by repeat (first | (with_reducible first | exact HB.out | apply below_alloc | apply pw_below_drewN | apply below_drew1 | refine below_set ?_ GE412.out | refine below_set ?_ GE413.out) | exact HB.out)⟩
                · rw [if_neg c43] at H
                  exact absurd H (by simp)
              · replace c42 := Bool.eq_false_iff.mpr c42
                subst c42
                have H1 : ((crosswayref00_SameBytes.f kj34 t415 t419).bind fun t423 => ((head_Same.f a0_0 a0_1 l0_2 l0_3 a1_0 a1_1 l1_2 l1_3).bind fun t424 => (if (t423 != t424) = true then (none) else ((crosswayref00_CopyBytes.f t415).bind fun t425 => (if t425.length + l2.length < 140737488355328 then ((head_Parse.f kj34 (t425 ++ l2)).bind fun bt431 => ((crosswayref00_CopyBytes.f t415).bind fun t444 => (if t444.length + l3.length < 140737488355328 then ((head_Parse.f kj34 (t444 ++ l3)).bind fun bt450 => (if bt431.2.2.2.2.2 = 0 then (if bt450.2.2.2.2.2 = 0 then ((head_Same.f bt431.1 bt431.2.1 bt431.2.2.1 bt431.2.2.2.1 bt450.1 bt450.2.1 bt450.2.2.1 bt450.2.2.2.1).bind fun t463 => (if t463 = true then (if (bt431.2.2.2.2.1.length : Int) = (l2.length : Int) then (some ((bt450.2.2.2.2.1.length : Int) == (l3.length : Int))) else (none)) else (none))) else (none)) else (none))) else (none)))) else (none)))))) = some r := by rw [if_neg (show ¬ (false = true) by decide)] at H; exact H
                clear H
                have H := H1
                clear H1
                replace H := Option.bind_eq_some_iff.mp H
                obtain ⟨t423, A470, H⟩ := H
                replace H : ((head_Same.f a0_0 a0_1 l0_2 l0_3 a1_0 a1_1 l1_2 l1_3).bind fun t424 => (if (t423 != t424) = true then (none) else ((crosswayref00_CopyBytes.f t415).bind fun t425 => (if t425.length + l2.length < 140737488355328 then ((head_Parse.f kj34 (t425 ++ l2)).bind fun bt431 => ((crosswayref00_CopyBytes.f t415).bind fun t444 => (if t444.length + l3.length < 140737488355328 then ((head_Parse.f kj34 (t444 ++ l3)).bind fun bt450 => (if bt431.2.2.2.2.2 = 0 then (if bt450.2.2.2.2.2 = 0 then ((head_Same.f bt431.1 bt431.2.1 bt431.2.2.1 bt431.2.2.2.1 bt450.1 bt450.2.1 bt450.2.2.1 bt450.2.2.2.1).bind fun t463 => (if t463 = true then (if (bt431.2.2.2.2.1.length : Int) = (l2.length : Int) then (some ((bt450.2.2.2.2.1.length : Int) == (l3.length : Int))) else (none)) else (none))) else (none)) else (none))) else (none)))) else (none))))) = some r := H
                have A47 := Aside0.mk A470
                clear A470
                replace H := Option.bind_eq_some_iff.mp H
                obtain ⟨t424, A480, H⟩ := H
                replace H : (if (t423 != t424) = true then (none) else ((crosswayref00_CopyBytes.f t415).bind fun t425 => (if t425.length + l2.length < 140737488355328 then ((head_Parse.f kj34 (t425 ++ l2)).bind fun bt431 => ((crosswayref00_CopyBytes.f t415).bind fun t444 => (if t444.length + l3.length < 140737488355328 then ((head_Parse.f kj34 (t444 ++ l3)).bind fun bt450 => (if bt431.2.2.2.2.2 = 0 then (if bt450.2.2.2.2.2 = 0 then ((head_Same.f bt431.1 bt431.2.1 bt431.2.2.1 bt431.2.2.2.1 bt450.1 bt450.2.1 bt450.2.2.1 bt450.2.2.2.1).bind fun t463 => (if t463 = true then (if (bt431.2.2.2.2.1.length : Int) = (l2.length : Int) then (some ((bt450.2.2.2.2.1.length : Int) == (l3.length : Int))) else (none)) else (none))) else (none)) else (none))) else (none)))) else (none)))) = some r := H
                have A48 := Aside0.mk A480
                clear A480
                by_cases c49 : (t423 != t424) = true
                · rw [if_pos c49] at H
                  exact absurd H (by simp)
                · rw [if_neg c49] at H
                  have c49b0 : (t423 != t424) = false := by simpa using c49
                  (try (have c49b1 : decide (t423 = t424) = true := by simpa using c49))
                  (try (have c49b2 : (t423 == t424) = true := by simpa using c49))
                  clear c49
                  replace H := Option.bind_eq_some_iff.mp H
                  obtain ⟨t425, A500, H⟩ := H
                  replace H : (if t425.length + l2.length < 140737488355328 then ((head_Parse.f kj34 (t425 ++ l2)).bind fun bt431 => ((crosswayref00_CopyBytes.f t415).bind fun t444 => (if t444.length + l3.length < 140737488355328 then ((head_Parse.f kj34 (t444 ++ l3)).bind fun bt450 => (if bt431.2.2.2.2.2 = 0 then (if bt450.2.2.2.2.2 = 0 then ((head_Same.f bt431.1 bt431.2.1 bt431.2.2.1 bt431.2.2.2.1 bt450.1 bt450.2.1 bt450.2.2.1 bt450.2.2.2.1).bind fun t463 => (if t463 = true then (if (bt431.2.2.2.2.1.length : Int) = (l2.length : Int) then (some ((bt450.2.2.2.2.1.length : Int) == (l3.length : Int))) else (none)) else (none))) else (none)) else (none))) else (none)))) else (none)) = some r := H
                  have A50 := Aside0.mk A500
                  clear A500
                  by_cases c51 : t425.length + l2.length < 140737488355328
                  · rw [if_pos c51] at H
                    have LMc51 := Aside0.mk c51
                    clear c51
                    obtain ⟨y428, hy428⟩ : ∃ y_ : List Int, y_ = (t425 ++ l2) := ⟨_, rfl⟩
                    replace H : ((head_Parse.f kj34 y428).bind fun bt431 => ((crosswayref00_CopyBytes.f t415).bind fun t444 => (if t444.length + l3.length < 140737488355328 then ((head_Parse.f kj34 (t444 ++ l3)).bind fun bt450 => (if bt431.2.2.2.2.2 = 0 then (if bt450.2.2.2.2.2 = 0 then ((head_Same.f bt431.1 bt431.2.1 bt431.2.2.1 bt431.2.2.2.1 bt450.1 bt450.2.1 bt450.2.2.1 bt450.2.2.2.1).bind fun t463 => (if t463 = true then (if (bt431.2.2.2.2.1.length : Int) = (l2.length : Int) then (some ((bt450.2.2.2.2.1.length : Int) == (l3.length : Int))) else (none)) else (none))) else (none)) else (none))) else (none)))) = some r := by first | (rw [hy428]; with_reducible exact H) | (have H2_ := (Option.bind_some _ _).symm.trans H; rw [hy428]; with_reducible exact H2_) | (have H2_ := (Option.bind_some _ _).symm.trans H; with_reducible exact H2_) | with_reducible exact H | (rw [hy428]; exact H) | exact H
                    have Ny428 := Aside0.mk hy428
                    clear hy428
                    replace H := Option.bind_eq_some_iff.mp H
                    obtain ⟨⟨t431, t432, t433, t436, t439, t442⟩, A520, H⟩ := H
                    replace H : ((crosswayref00_CopyBytes.f t415).bind fun t444 => (if t444.length + l3.length < 140737488355328 then ((head_Parse.f kj34 (t444 ++ l3)).bind fun bt450 => (if t442 = 0 then (if bt450.2.2.2.2.2 = 0 then ((head_Same.f t431 t432 t433 t436 bt450.1 bt450.2.1 bt450.2.2.1 bt450.2.2.2.1).bind fun t463 => (if t463 = true then (if (t439.length : Int) = (l2.length : Int) then (some ((bt450.2.2.2.2.1.length : Int) == (l3.length : Int))) else (none)) else (none))) else (none)) else (none))) else (none))) = some r := H
                    have A52 := Aside0.mk A520
                    clear A520
                    replace H := Option.bind_eq_some_iff.mp H
                    obtain ⟨t444, A530, H⟩ := H
                    replace H : (if t444.length + l3.length < 140737488355328 then ((head_Parse.f kj34 (t444 ++ l3)).bind fun bt450 => (if t442 = 0 then (if bt450.2.2.2.2.2 = 0 then ((head_Same.f t431 t432 t433 t436 bt450.1 bt450.2.1 bt450.2.2.1 bt450.2.2.2.1).bind fun t463 => (if t463 = true then (if (t439.length : Int) = (l2.length : Int) then (some ((bt450.2.2.2.2.1.length : Int) == (l3.length : Int))) else (none)) else (none))) else (none)) else (none))) else (none)) = some r := H
                    have A53 := Aside0.mk A530
                    clear A530
                    by_cases c54 : t444.length + l3.length < 140737488355328
                    · rw [if_pos c54] at H
                      have LMc54 := Aside0.mk c54
                      clear c54
                      obtain ⟨y447, hy447⟩ : ∃ y_ : List Int, y_ = (t444 ++ l3) := ⟨_, rfl⟩
                      replace H : ((head_Parse.f kj34 y447).bind fun bt450 => (if t442 = 0 then (if bt450.2.2.2.2.2 = 0 then ((head_Same.f t431 t432 t433 t436 bt450.1 bt450.2.1 bt450.2.2.1 bt450.2.2.2.1).bind fun t463 => (if t463 = true then (if (t439.length : Int) = (l2.length : Int) then (some ((bt450.2.2.2.2.1.length : Int) == (l3.length : Int))) else (none)) else (none))) else (none)) else (none))) = some r := by first | (rw [hy447]; with_reducible exact H) | (have H2_ := (Option.bind_some _ _).symm.trans H; rw [hy447]; with_reducible exact H2_) | (have H2_ := (Option.bind_some _ _).symm.trans H; with_reducible exact H2_) | with_reducible exact H | (rw [hy447]; exact H) | exact H
                      have Ny447 := Aside0.mk hy447
                      clear hy447
                      replace H := Option.bind_eq_some_iff.mp H
                      obtain ⟨⟨t450, t451, t452, t455, t458, t461⟩, A550, H⟩ := H
                      replace H : (if t442 = 0 then (if t461 = 0 then ((head_Same.f t431 t432 t433 t436 t450 t451 t452 t455).bind fun t463 => (if t463 = true then (if (t439.length : Int) = (l2.length : Int) then (some ((t458.length : Int) == (l3.length : Int))) else (none)) else (none))) else (none)) else (none)) = some r := H
                      have A55 := Aside0.mk A550
                      clear A550
                      by_cases c56 : t442 = 0
                      · rw [if_pos c56] at H
                        have c56b0 : (t442 == 0) = true := beq_iff_eq.mpr c56
                        have c56b1 : (t442 != 0) = false := bne_eq_false_iff_eq.mpr c56
                        clear c56
                        by_cases c57 : t461 = 0
                        · rw [if_pos c57] at H
                          have c57b0 : (t461 == 0) = true := beq_iff_eq.mpr c57
                          have c57b1 : (t461 != 0) = false := bne_eq_false_iff_eq.mpr c57
                          clear c57
                          replace H := Option.bind_eq_some_iff.mp H
                          obtain ⟨t463, A580, H⟩ := H
                          replace H : (if t463 = true then (if (t439.length : Int) = (l2.length : Int) then (some ((t458.length : Int) == (l3.length : Int))) else (none)) else (none)) = some r := H
                          have A58 := Aside0.mk A580
                          clear A580
                          by_cases c59 : t463 = true
                          · subst c59
                            have H1 : (if (t439.length : Int) = (l2.length : Int) then (some ((t458.length : Int) == (l3.length : Int))) else (none)) = some r := by rw [if_pos rfl] at H; exact H
                            clear H
                            have H := H1
                            clear H1
                            by_cases c60 : (t439.length : Int) = (l2.length : Int)
                            · rw [if_pos c60] at H
                              have c60b0 : ((t439.length : Int) == (l2.length : Int)) = true := beq_iff_eq.mpr c60
                              have c60b1 : ((t439.length : Int) != (l2.length : Int)) = false := bne_eq_false_iff_eq.mpr c60
                              have c60b2 : (t439.length == l2.length) = true := by first | simpa using c60 | (simp at c60 ⊢; omega)
                              clear c60
                              obtain rfl := Option.some.inj H
                              try go_wp2
                              have n0_ := Aside0.mk (Kd.R_drew HO_9.out)
                              have n1_ := Aside0.mk (Kd.R_drew HO_11.out)
                              have n2_ := Aside0.mk (blk_drew BK412.out)
                              have n3_ := Aside0.mk (blk_drew BK413.out)
                              have n4_ := Aside0.mk (below_drew1 HB.out)
                              clear HO_9
                              clear HO_11
                              clear BK412
                              clear BK413
                              clear HB
                              have HO_9 := n0_
                              have HO_11 := n1_
                              have BK412 := n2_
                              have BK413 := n3_
                              have HB := n4_
                              clear n0_ n1_ n2_ n3_ n4_
                              obtain ⟨Ao62, co62, eo62⟩ := Kd.R_slice HO_9.out
                              (first | subst eo62 | (injection eo62 with f1_ f2_ f3_; have f4_ := f1_.symm; have f5_ := f3_.symm; clear f1_ f2_ f3_; subst f4_; subst f5_))
                              obtain ⟨Ao63, co63, eo63⟩ := Kd.R_slice HO_11.out
                              (first | subst eo63 | (injection eo63 with f1_ f2_ f3_; have f4_ := f1_.symm; have f5_ := f3_.symm; clear f1_ f2_ f3_; subst f4_; subst f5_))
                              refine start_ (n := 7) (S := fun w' => w'.cell? ⟨gb412, 0, none⟩ = some (.int .u8 a0_0) ∧ w'.cell? ⟨gb412, 1, none⟩ = some (.int .u32 a0_1) ∧ w'.cell? ⟨gb412, 2, none⟩ = some (.slice A0_2 l0_2.length c0_2) ∧ w'.cell? ⟨gb412, 3, none⟩ = some (.slice A0_3 l0_3.length c0_3) ∧ w'.cell? ⟨gb413, 0, none⟩ = some (.int .u8 a1_0) ∧ w'.cell? ⟨gb413, 1, none⟩ = some (.int .u32 a1_1) ∧ w'.cell? ⟨gb413, 2, none⟩ = some (.slice A1_2 l1_2.length c1_2) ∧ w'.cell? ⟨gb413, 3, none⟩ = some (.slice A1_3 l1_3.length c1_3)) (ds := []) #[false, false, false, false, false, false, false] (by kernel_rfl) rfl rfl ⟨(blk_cell BK412.out 0).trans rfl, (blk_cell BK412.out 1).trans rfl, (blk_cell BK412.out 2).trans rfl, (blk_cell BK412.out 3).trans rfl, (blk_cell BK413.out 0).trans rfl, (blk_cell BK413.out 1).trans rfl, (blk_cell BK413.out 2).trans rfl, (blk_cell BK413.out 3).trans rfl⟩ (fun hHeld => ?_)
                              generalize wc.drew = w61 at HO_9 HO_11 BK412 BK413 HB hHeld ⊢
                              refine pure_ (i := 0) (N := some 83) (v := ?_) (a' := ?_) #[true, false, false, false, false, false, false] rfl rfl (by kernel_rfl) (fun _ _ _ h => h) (Or.inl ⟨by rfl, ?_⟩) ?_ ?_
                              rotate_left
                              · intro w'
                                go_simp
                                with_reducible rfl
                              rotate_left
                              · simp only [Act.put, List.setIfInBounds_toArray, List.set_cons_zero, List.set_cons_succ, i64_w, i32_w]
                                rfl
                              refine pure_ (i := 1) (N := some 84) (v := ?_) (a' := ?_) #[true, true, false, false, false, false, false] rfl rfl (by kernel_rfl) (fun _ _ _ h => h) (Or.inl ⟨by rfl, ?_⟩) ?_ ?_
                              rotate_left
                              · intro w'
                                go_simp
                                with_reducible rfl
                              rotate_left
                              · simp only [Act.put, List.setIfInBounds_toArray, List.set_cons_zero, List.set_cons_succ, i64_w, i32_w]
                                rfl
                              refine take_ (i := 3) (N := some 86) (v := ?_) (a' := ?_) #[true, true, false, true, false, false, false] rfl rfl (by kernel_rfl) (fun _ _ _ h => h) (Or.inl ⟨by rfl, ?_⟩) hHeld ?_ ?_
                              rotate_left
                              · rintro w' ⟨s0, s1, s2, s3, s4, s5, s6, s7⟩
                                go_simp
                                with_reducible rfl
                              rotate_left
                              · simp only [Act.put, List.setIfInBounds_toArray, List.set_cons_zero, List.set_cons_succ, i64_w, i32_w]
                                rfl
                              refine take_ (i := 4) (N := some 87) (v := ?_) (a' := ?_) #[true, true, false, true, true, false, false] rfl rfl (by kernel_rfl) (fun _ _ _ h => h) (Or.inl ⟨by rfl, ?_⟩) hHeld ?_ ?_
                              rotate_left
                              · rintro w' ⟨s0, s1, s2, s3, s4, s5, s6, s7⟩
                                go_simp
                                with_reducible rfl
                              rotate_left
                              · simp only [Act.put, List.setIfInBounds_toArray, List.set_cons_zero, List.set_cons_succ, i64_w, i32_w]
                                rfl
                              refine one_ (i := 2) (N := some 85) #[true, true, true, true, true, false, false] rfl rfl (by kernel_rfl) (by decide) (fun K hK => ?_)
                              refine goes_ Try.func13 (by kernel_rfl) rfl #[.slice Ao62 t415.length co62, .slice Ao63 t419.length co63] (by rfl) rfl rfl (by (try simp only [List.map_toArray, List.map_cons, List.map_nil]); first | done | rfl | (simp only [List.length_drop, List.length_take]; rfl)) ?_
                              with_reducible refine (crosswayref00_SameBytes.calls kj34 _ _ t415 _ _ t419 t423 _ ?side1 ?side2 ?side3 ?side4 A47.out).mono ?_
                              (case side1 => repeat (first | exact (Kd.R_reads' HO_9.out).2.2 | (with_reducible refine Kd.C_alloc ?_ _) | (with_reducible refine Kd.C_drewN ?_ _) | (with_reducible refine Kd.C_drew ?_)))
                              (case side2 => exact (Kd.R_reads' HO_9.out).2.1)
                              (case side3 => repeat (first | exact (Kd.R_reads' HO_11.out).2.2 | (with_reducible refine Kd.C_alloc ?_ _) | (with_reducible refine Kd.C_drewN ?_ _) | (with_reducible refine Kd.C_drew ?_)))
                              (case side4 => exact (Kd.R_reads' HO_11.out).2.1)
                              rintro e w' ⟨rfl, ⟨nd, rfl⟩⟩
                              refine ⟨_, rfl, ?_⟩
                              refine hK.out _ _ ⟨(blk_cell BK412.out 0).trans rfl, (blk_cell BK412.out 1).trans rfl, (blk_cell BK412.out 2).trans rfl, (blk_cell BK412.out 3).trans rfl, (blk_cell BK413.out 0).trans rfl, (blk_cell BK413.out 1).trans rfl, (blk_cell BK413.out 2).trans rfl, (blk_cell BK413.out 3).trans rfl⟩ (fun hHeld => ?_)
                              clear hK K
                              refine norm_ (a' := ?_) ?_ ?_
                              rotate_left
                              · show Act.put _ (some 85) _ = _
                                simp only [Act.put, List.setIfInBounds_toArray, List.set_cons_zero, List.set_cons_succ, i64_w, i32_w]
                                rfl
                              refine one_ (i := 5) (N := some 88) #[true, true, true, true, true, true, false] rfl rfl (by kernel_rfl) (by decide) (fun K hK => ?_)
                              refine goes_ Try.func18 (by kernel_rfl) rfl #[.agg #[.int .u8 a0_0, .int .u32 a0_1, .slice A0_2 l0_2.length c0_2, .slice A0_3 l0_3.length c0_3], .agg #[.int .u8 a1_0, .int .u32 a1_1, .slice A1_2 l1_2.length c1_2, .slice A1_3 l1_3.length c1_3]] (by rfl) rfl rfl (by (try simp only [List.map_toArray, List.map_cons, List.map_nil]); first | done | rfl | (simp only [List.length_drop, List.length_take]; rfl)) ?_
                              with_reducible refine (head_Same.calls a0_0 a0_1 _ _ l0_2 _ _ l0_3 a1_0 a1_1 _ _ l1_2 _ _ l1_3 t424 _ ?side1 ?side2 ?side3 ?side4 ?side5 ?side6 ?side7 ?side8 A48.out).mono ?_
                              (case side1 => repeat (first | exact (Kd.C_below HR0_2.out (by repeat (first | (with_reducible first | exact HB.out | apply below_alloc | apply pw_below_drewN | apply below_drew1 | refine below_set ?_ GE412.out | refine below_set ?_ GE413.out) | exact HB.out))) | (with_reducible refine Kd.C_alloc ?_ _) | (with_reducible refine Kd.C_drewN ?_ _) | (with_reducible refine Kd.C_drew ?_)))
                              (case side2 => exact HC0_2.out)
                              (case side3 => repeat (first | exact (Kd.C_below HR0_3.out (by repeat (first | (with_reducible first | exact HB.out | apply below_alloc | apply pw_below_drewN | apply below_drew1 | refine below_set ?_ GE412.out | refine below_set ?_ GE413.out) | exact HB.out))) | (with_reducible refine Kd.C_alloc ?_ _) | (with_reducible refine Kd.C_drewN ?_ _) | (with_reducible refine Kd.C_drew ?_)))
                              (case side4 => exact HC0_3.out)
                              (case side5 => repeat (first | exact (Kd.C_below HR1_2.out (by repeat (first | (with_reducible first | exact HB.out | apply below_alloc | apply pw_below_drewN | apply below_drew1 | refine below_set ?_ GE412.out | refine below_set ?_ GE413.out) | exact HB.out))) | (with_reducible refine Kd.C_alloc ?_ _) | (with_reducible refine Kd.C_drewN ?_ _) | (with_reducible refine Kd.C_drew ?_)))
                              (case side6 => exact HC1_2.out)
                              (case side7 => repeat (first | exact (Kd.C_below HR1_3.out (by repeat (first | (with_reducible first | exact HB.out | apply below_alloc | apply pw_below_drewN | apply below_drew1 | refine below_set ?_ GE412.out | refine below_set ?_ GE413.out) | exact HB.out))) | (with_reducible refine Kd.C_alloc ?_ _) | (with_reducible refine Kd.C_drewN ?_ _) | (with_reducible refine Kd.C_drew ?_)))
                              (case side8 => exact HC1_3.out)
                              rintro e w64 ⟨rfl, hb⟩
                              refine ⟨_, rfl, ?_⟩
                              have n0_ := Aside0.mk (Kd.R_below (by (with_reducible repeat (first | apply Kd.R_alloc | apply Kd.R_drewN | apply Kd.R_drew)); exact HO_9.out) hb)
                              have n1_ := Aside0.mk (Kd.R_below (by (with_reducible repeat (first | apply Kd.R_alloc | apply Kd.R_drewN | apply Kd.R_drew)); exact HO_11.out) hb)
                              have n2_ := Aside0.mk (blk_below (g := gb412) (o := .cells #[.int .u8 a0_0, .int .u32 a0_1, .slice A0_2 l0_2.length c0_2, .slice A0_3 l0_3.length c0_3] 27 (0, 0)) (by (with_reducible repeat (first | refine blk_drewN ?_ _ | refine blk_drew ?_ | refine blk_alloc ?_ _)); exact BK412.out) hb)
                              have n3_ := Aside0.mk (blk_below (g := gb413) (o := .cells #[.int .u8 a1_0, .int .u32 a1_1, .slice A1_2 l1_2.length c1_2, .slice A1_3 l1_3.length c1_3] 27 (0, 0)) (by (with_reducible repeat (first | refine blk_drewN ?_ _ | refine blk_drew ?_ | refine blk_alloc ?_ _)); exact BK413.out) hb)
                              have n4_ := Aside0.mk (below_step (by repeat (first | (with_reducible first | exact HB.out | apply below_alloc | apply pw_below_drewN | apply below_drew1 | refine below_set ?_ GE412.out | refine below_set ?_ GE413.out) | exact HB.out)) hb)
                              clear HO_9
                              clear HO_11
                              clear BK412
                              clear BK413
                              clear HB
                              have HO_9 := n0_
                              have HO_11 := n1_
                              have BK412 := n2_
                              have BK413 := n3_
                              have HB := n4_
                              clear n0_ n1_ n2_ n3_ n4_
                              (try clear hb)
                              (try clear hb2)
                              (try clear hk)
                              (try clear hi)
                              refine hK.out _ _ ⟨(blk_cell BK412.out 0).trans rfl, (blk_cell BK412.out 1).trans rfl, (blk_cell BK412.out 2).trans rfl, (blk_cell BK412.out 3).trans rfl, (blk_cell BK413.out 0).trans rfl, (blk_cell BK413.out 1).trans rfl, (blk_cell BK413.out 2).trans rfl, (blk_cell BK413.out 3).trans rfl⟩ (fun hHeld => ?_)
                              clear hK K
                              refine norm_ (a' := ?_) ?_ ?_
                              rotate_left
                              · show Act.put _ (some 88) _ = _
                                simp only [Act.put, List.setIfInBounds_toArray, List.set_cons_zero, List.set_cons_succ, i64_w, i32_w]
                                rfl
                              refine pure_ (i := 6) (N := some 89) (v := ?_) (a' := ?_) #[true, true, true, true, true, true, true] rfl rfl (by kernel_rfl) (fun _ _ _ h => h) (Or.inl ⟨by rfl, ?_⟩) ?_ ?_
                              rotate_left
                              · intro w'
                                go_simp
                                with_reducible rfl
                              rotate_left
                              · simp only [Act.put, List.setIfInBounds_toArray, List.set_cons_zero, List.set_cons_succ, i64_w, i32_w]
                                rfl
                              refine done_ (by kernel_rfl) ?_
                              try go_wp2_with (first | ((with_reducible refine gate_callee (f := 8) rfl ?_); refine goesL_ (some 92) rfl rfl Try.func8 (by kernel_rfl) rfl #[.slice Ao62 t415.length co62] rfl (by (try simp only [List.map_toArray, List.map_cons, List.map_nil]); first | done | rfl | (simp only [List.length_drop, List.length_take]; rfl)) ?_; (with_reducible refine (crosswayref00_CopyBytes.calls _ _ t415 t425 _ ?side1 ?side2 A50.out).mono ?_); (case side1 => repeat (first | exact (Kd.R_reads' HO_9.out).2.2 | (with_reducible refine Kd.C_alloc ?_ _) | (with_reducible refine Kd.C_drewN ?_ _) | (with_reducible refine Kd.C_drew ?_))); (case side2 => exact (Kd.R_reads' HO_9.out).2.1); rintro e w65 ⟨v426, rfl, ho0, hb⟩; refine ⟨_, rfl, ?_⟩; have n0_ := Aside0.mk (Kd.R_elder' (by (with_reducible repeat (first | apply Kd.R_alloc | apply Kd.R_drewN | apply Kd.R_drew)); exact HO_9.out) (Kd.R_base ho0) hb); have n1_ := Aside0.mk (Kd.R_elder' (by (with_reducible repeat (first | apply Kd.R_alloc | apply Kd.R_drewN | apply Kd.R_drew)); exact HO_11.out) (Kd.R_base ho0) hb); have n2_ := Aside0.mk (Kd.R_lower (Kd.R_new' (Kd.R_new' ho0 (Kd.R_lt (by (with_reducible repeat (first | apply Kd.R_alloc | apply Kd.R_drewN | apply Kd.R_drew)); exact HO_9.out))) (Kd.R_lt (by (with_reducible repeat (first | apply Kd.R_alloc | apply Kd.R_drewN | apply Kd.R_drew)); exact HO_11.out))) (below_size (by repeat (first | (with_reducible first | exact HB.out | apply below_alloc | apply pw_below_drewN | apply below_drew1 | refine below_set ?_ GE412.out | refine below_set ?_ GE413.out) | exact HB.out)))); have n3_ := Aside0.mk (blk_below (g := gb412) (o := .cells #[.int .u8 a0_0, .int .u32 a0_1, .slice A0_2 l0_2.length c0_2, .slice A0_3 l0_3.length c0_3] 27 (0, 0)) (by (with_reducible repeat (first | refine blk_drewN ?_ _ | refine blk_drew ?_ | refine blk_alloc ?_ _)); exact BK412.out) hb); have n4_ := Aside0.mk (blk_below (g := gb413) (o := .cells #[.int .u8 a1_0, .int .u32 a1_1, .slice A1_2 l1_2.length c1_2, .slice A1_3 l1_3.length c1_3] 27 (0, 0)) (by (with_reducible repeat (first | refine blk_drewN ?_ _ | refine blk_drew ?_ | refine blk_alloc ?_ _)); exact BK413.out) hb); have n5_ := Aside0.mk (below_step (by repeat (first | (with_reducible first | exact HB.out | apply below_alloc | apply pw_below_drewN | apply below_drew1 | refine below_set ?_ GE412.out | refine below_set ?_ GE413.out) | exact HB.out)) hb); clear HO_9; clear HO_11; clear BK412; clear BK413; clear HB; have HO_9 := n0_; have HO_11 := n1_; have HO427 := n2_; have BK412 := n3_; have BK413 := n4_; have HB := n5_; clear n0_ n1_ n2_ n3_ n4_ n5_; (try clear hb); (try clear hb2); (try clear hk); (try clear hi); (try clear ho0)) | ((with_reducible refine gate_builtin (b := .append) (xs := #[.tmp 92, .tmp 93]) rfl ?_); (try (refine gate_guard (by rfl) ?_; dsimp only)); at_builtin; refine Kd.R_append_rows (Kd.int .u8) (w0 := w) w.heap.size rfl (.tmp 92) (.tmp 93) 22 5 (.int .u8 0) 1 rfl Try.underlying22 info5 rfl (by decide) (by omega) v426 t425 l2 _ _ _ (fun k_ => some k_ ≠ (.slice Ao62 t415.length co62 : Value).ownBlock ∧ some k_ ≠ (.slice Ao63 t419.length co63 : Value).ownBlock) (fun _ => False) rfl rfl ?aO ?aR (fun _ _ h => h) (fun _ h => h.elim) ?aF ?aB ?aS ?aL ?_; (case aR => repeat (first | exact (Kd.C_below HR2.out HB.out) | (with_reducible refine Kd.C_alloc ?_ _) | (with_reducible refine Kd.C_drewN ?_ _) | (with_reducible refine Kd.C_drew ?_))); (case aB => exact (by repeat (first | (with_reducible first | exact HB.out | apply below_alloc | apply pw_below_drewN | apply below_drew1 | refine below_set ?_ GE412.out | refine below_set ?_ GE413.out) | exact HB.out))); (case aF => exact (fun k_ hk => ⟨Kd.fresh' (Kd.R_lt (by (with_reducible repeat (first | apply Kd.R_alloc | apply Kd.R_drewN | apply Kd.R_drew)); exact HO_9.out)) k_ hk, Kd.fresh' (Kd.R_lt (by (with_reducible repeat (first | apply Kd.R_alloc | apply Kd.R_drewN | apply Kd.R_drew)); exact HO_11.out)) k_ hk⟩)); (case aO => exact (by (with_reducible repeat (first | apply Kd.R_alloc | apply Kd.R_drewN | apply Kd.R_drew)); exact Kd.R_mono HO427.out (fun _ hk => ⟨hk.1.2, hk.2⟩))); (case aS => exact (below_size (by repeat (first | (with_reducible first | exact HB.out | apply below_alloc | apply pw_below_drewN | apply below_drew1 | refine below_set ?_ GE412.out | refine below_set ?_ GE413.out) | exact HB.out)))); (case aL => have := LMc51.out; omega); intro v429 w66 ho hb hg hat; rw [← Ny428.out] at ho; have n0_ := Aside0.mk (Kd.R_after (ok := (fun k_ => some k_ ≠ (.slice Ao63 t419.length co63 : Value).ownBlock)) (by (with_reducible repeat (first | apply Kd.R_alloc | apply Kd.R_drewN | apply Kd.R_drew)); exact HO_9.out) hg hat); have n1_ := Aside0.mk (Kd.R_after (ok := (fun k_ => some k_ ≠ (.slice Ao62 t415.length co62 : Value).ownBlock)) (by (with_reducible repeat (first | apply Kd.R_alloc | apply Kd.R_drewN | apply Kd.R_drew)); exact HO_11.out) hg hat); have n2_ := Aside0.mk (blk_grown (g := gb412) (o := .cells #[.int .u8 a0_0, .int .u32 a0_1, .slice A0_2 l0_2.length c0_2, .slice A0_3 l0_3.length c0_3] 27 (0, 0)) (by (with_reducible repeat (first | refine blk_drewN ?_ _ | refine blk_drew ?_ | refine blk_alloc ?_ _)); exact BK412.out) hg (Kd.R_ne HO427.out BK412.out (by decide))); have n3_ := Aside0.mk (blk_grown (g := gb413) (o := .cells #[.int .u8 a1_0, .int .u32 a1_1, .slice A1_2 l1_2.length c1_2, .slice A1_3 l1_3.length c1_3] 27 (0, 0)) (by (with_reducible repeat (first | refine blk_drewN ?_ _ | refine blk_drew ?_ | refine blk_alloc ?_ _)); exact BK413.out) hg (Kd.R_ne HO427.out BK413.out (by decide))); have n4_ := Aside0.mk (hb); have n5_ := Aside0.mk (ho); clear HO_9; clear HO_11; clear BK412; clear BK413; clear HB; clear HO427; have HO_9 := n0_; have HO_11 := n1_; have BK412 := n2_; have BK413 := n3_; have HB := n4_; have HO430 := n5_; clear n0_ n1_ n2_ n3_ n4_ n5_; clear ho hb hg hat; obtain ⟨Ao67, co67, eo67⟩ := Kd.R_slice HO430.out; subst eo67) | ((with_reducible refine gate_callee (f := 9) rfl ?_); refine goesL_ (some 95) rfl rfl Try.func9 (by kernel_rfl) rfl #[.slice Ao67 y428.length co67] rfl (by (try simp only [List.map_toArray, List.map_cons, List.map_nil]); first | done | rfl | (simp only [List.length_drop, List.length_take]; rfl)) ?_; (with_reducible refine (head_Parse.calls kj34 _ _ y428 t431 t432 t433 t436 t439 t442 _ ?side1 ?side2 A52.out).mono ?_); (case side1 => repeat (first | exact (Kd.R_reads' HO430.out).2.2 | (with_reducible refine Kd.C_alloc ?_ _) | (with_reducible refine Kd.C_drewN ?_ _) | (with_reducible refine Kd.C_drew ?_))); (case side2 => exact (Kd.R_reads' HO430.out).2.1); rintro e w68 ⟨v434, v437, v440, rfl, ho0, ho1, ho2, hb⟩; refine ⟨_, rfl, ?_⟩; have n0_ := Aside0.mk (Kd.R_mono (Kd.R_told (Kd.R_told (Kd.R_told (Kd.R_old (by (with_reducible repeat (first | apply Kd.R_alloc | apply Kd.R_drewN | apply Kd.R_drew)); exact HO_9.out) hb) (Kd.R_base ho0)) (Kd.R_base ho1)) (Kd.R_base ho2)) (fun _ h_ => h_.1)); have n1_ := Aside0.mk (Kd.R_mono (Kd.R_told (Kd.R_told (Kd.R_told (Kd.R_old (by (with_reducible repeat (first | apply Kd.R_alloc | apply Kd.R_drewN | apply Kd.R_drew)); exact HO_11.out) hb) (Kd.R_base ho0)) (Kd.R_base ho1)) (Kd.R_base ho2)) (fun _ h_ => h_.1)); have n2_ := Aside0.mk (Kd.R_mono (Kd.R_told (Kd.R_told (Kd.R_told (Kd.R_old (by (with_reducible repeat (first | apply Kd.R_alloc | apply Kd.R_drewN | apply Kd.R_drew)); exact HO430.out) hb) (Kd.R_base ho0)) (Kd.R_base ho1)) (Kd.R_base ho2)) (fun _ h_ => h_.1)); have n3_ := Aside0.mk (Kd.R_lower (Kd.R_new' (Kd.R_new' (Kd.R_new' ho0 (Kd.R_lt (by (with_reducible repeat (first | apply Kd.R_alloc | apply Kd.R_drewN | apply Kd.R_drew)); exact HO_9.out))) (Kd.R_lt (by (with_reducible repeat (first | apply Kd.R_alloc | apply Kd.R_drewN | apply Kd.R_drew)); exact HO_11.out))) (Kd.R_lt (by (with_reducible repeat (first | apply Kd.R_alloc | apply Kd.R_drewN | apply Kd.R_drew)); exact HO430.out))) (below_size (by repeat (first | (with_reducible first | exact HB.out | apply below_alloc | apply pw_below_drewN | apply below_drew1 | refine below_set ?_ GE412.out | refine below_set ?_ GE413.out) | exact HB.out)))); have n4_ := Aside0.mk (Kd.R_lower (Kd.R_new' (Kd.R_new' (Kd.R_new' ho1 (Kd.R_lt (by (with_reducible repeat (first | apply Kd.R_alloc | apply Kd.R_drewN | apply Kd.R_drew)); exact HO_9.out))) (Kd.R_lt (by (with_reducible repeat (first | apply Kd.R_alloc | apply Kd.R_drewN | apply Kd.R_drew)); exact HO_11.out))) (Kd.R_lt (by (with_reducible repeat (first | apply Kd.R_alloc | apply Kd.R_drewN | apply Kd.R_drew)); exact HO430.out))) (below_size (by repeat (first | (with_reducible first | exact HB.out | apply below_alloc | apply pw_below_drewN | apply below_drew1 | refine below_set ?_ GE412.out | refine below_set ?_ GE413.out) | exact HB.out)))); have n5_ := Aside0.mk (Kd.R_lower (Kd.R_new' (Kd.R_new' (Kd.R_new' ho2 (Kd.R_lt (by (with_reducible repeat (first | apply Kd.R_alloc | apply Kd.R_drewN | apply Kd.R_drew)); exact HO_9.out))) (Kd.R_lt (by (with_reducible repeat (first | apply Kd.R_alloc | apply Kd.R_drewN | apply Kd.R_drew)); exact HO_11.out))) (Kd.R_lt (by (with_reducible repeat (first | apply Kd.R_alloc | apply Kd.R_drewN | apply Kd.R_drew)); exact HO430.out))) (below_size (by repeat (first | (with_reducible first | exact HB.out | apply below_alloc | apply pw_below_drewN | apply below_drew1 | refine below_set ?_ GE412.out | refine below_set ?_ GE413.out) | exact HB.out)))); have n6_ := Aside0.mk (blk_below (g := gb412) (o := .cells #[.int .u8 a0_0, .int .u32 a0_1, .slice A0_2 l0_2.length c0_2, .slice A0_3 l0_3.length c0_3] 27 (0, 0)) (by (with_reducible repeat (first | refine blk_drewN ?_ _ | refine blk_drew ?_ | refine blk_alloc ?_ _)); exact BK412.out) hb); have n7_ := Aside0.mk (blk_below (g := gb413) (o := .cells #[.int .u8 a1_0, .int .u32 a1_1, .slice A1_2 l1_2.length c1_2, .slice A1_3 l1_3.length c1_3] 27 (0, 0)) (by (with_reducible repeat (first | refine blk_drewN ?_ _ | refine blk_drew ?_ | refine blk_alloc ?_ _)); exact BK413.out) hb); have n8_ := Aside0.mk (below_step (by repeat (first | (with_reducible first | exact HB.out | apply below_alloc | apply pw_below_drewN | apply below_drew1 | refine below_set ?_ GE412.out | refine below_set ?_ GE413.out) | exact HB.out)) hb); clear HO_9; clear HO_11; clear HO430; clear BK412; clear BK413; clear HB; have HO_9 := n0_; have HO_11 := n1_; have HO430 := n2_; have HO435 := n3_; have HO438 := n4_; have HO441 := n5_; have BK412 := n6_; have BK413 := n7_; have HB := n8_; clear n0_ n1_ n2_ n3_ n4_ n5_ n6_ n7_ n8_; (try clear hb); (try clear hb2); (try clear hk); (try clear hi); (try clear ho0); (try clear ho1); (try clear ho2)) | ((with_reducible refine gate_dst (N := 13) rfl ?_); (try (refine gate_guard (by rfl) ?_; dsimp only)); refine box_event ?hg (N := 13) ?hd (cs := #[.int .u8 0, .int .u32 0, .slice none 0 0, .slice none 0 0]) (t := 27) ?hr ?_; (case hd => rfl); (case hg => rfl); (case hr => first | (go_simp; done) | (go_simp; rfl)); intro gb443 hg w69 hbox hb; have n0_ := Aside0.mk (Kd.R_below (by (with_reducible repeat (first | apply Kd.R_alloc | apply Kd.R_drewN | apply Kd.R_drew)); exact HO_9.out) hb); have n1_ := Aside0.mk (Kd.R_below (by (with_reducible repeat (first | apply Kd.R_alloc | apply Kd.R_drewN | apply Kd.R_drew)); exact HO_11.out) hb); have n2_ := Aside0.mk (Kd.R_below (by (with_reducible repeat (first | apply Kd.R_alloc | apply Kd.R_drewN | apply Kd.R_drew)); exact HO430.out) hb); have n3_ := Aside0.mk (Kd.R_below (by (with_reducible repeat (first | apply Kd.R_alloc | apply Kd.R_drewN | apply Kd.R_drew)); exact HO435.out) hb); have n4_ := Aside0.mk (Kd.R_below (by (with_reducible repeat (first | apply Kd.R_alloc | apply Kd.R_drewN | apply Kd.R_drew)); exact HO438.out) hb); have n5_ := Aside0.mk (Kd.R_below (by (with_reducible repeat (first | apply Kd.R_alloc | apply Kd.R_drewN | apply Kd.R_drew)); exact HO441.out) hb); have n6_ := Aside0.mk (blk_below (g := gb412) (o := .cells #[.int .u8 a0_0, .int .u32 a0_1, .slice A0_2 l0_2.length c0_2, .slice A0_3 l0_3.length c0_3] 27 (0, 0)) (by (with_reducible repeat (first | refine blk_drewN ?_ _ | refine blk_drew ?_ | refine blk_alloc ?_ _)); exact BK412.out) hb); have n7_ := Aside0.mk (blk_below (g := gb413) (o := .cells #[.int .u8 a1_0, .int .u32 a1_1, .slice A1_2 l1_2.length c1_2, .slice A1_3 l1_3.length c1_3] 27 (0, 0)) (by (with_reducible repeat (first | refine blk_drewN ?_ _ | refine blk_drew ?_ | refine blk_alloc ?_ _)); exact BK413.out) hb); have n8_ := Aside0.mk (below_step (by repeat (first | (with_reducible first | exact HB.out | apply below_alloc | apply pw_below_drewN | apply below_drew1 | refine below_set ?_ GE412.out | refine below_set ?_ GE413.out) | exact HB.out)) hb); have n9_ := Aside0.mk (hbox); have n10_ := Aside0.mk ((by rw [hg]; exact (below_size (by repeat (first | (with_reducible first | exact HB.out | apply below_alloc | apply pw_below_drewN | apply below_drew1 | refine below_set ?_ GE412.out | refine below_set ?_ GE413.out) | exact HB.out))) : w.heap.size ≤ gb443)); have n11_ := Aside0.mk ((by rw [hg]; exact (below_size (by repeat (first | (with_reducible first | exact HB.out | apply below_alloc | apply pw_below_drewN | apply below_drew1 | refine below_set ?_ GE412.out | refine below_set ?_ GE413.out) | exact HB.out))) : w.heap.size ≤ gb443)); have n12_ := Aside0.mk ((by rw [hg]; exact Nat.ne_of_lt (blk_lt (g := gb412) (o := .cells #[.int .u8 a0_0, .int .u32 a0_1, .slice A0_2 l0_2.length c0_2, .slice A0_3 l0_3.length c0_3] 27 (0, 0)) (by (with_reducible repeat (first | refine blk_drewN ?_ _ | refine blk_drew ?_ | refine blk_alloc ?_ _)); exact BK412.out)) : gb412 ≠ gb443)); have n13_ := Aside0.mk ((by rw [hg]; exact Nat.ne_of_gt (blk_lt (g := gb412) (o := .cells #[.int .u8 a0_0, .int .u32 a0_1, .slice A0_2 l0_2.length c0_2, .slice A0_3 l0_3.length c0_3] 27 (0, 0)) (by (with_reducible repeat (first | refine blk_drewN ?_ _ | refine blk_drew ?_ | refine blk_alloc ?_ _)); exact BK412.out)) : gb443 ≠ gb412)); have n14_ := Aside0.mk ((by rw [hg]; exact Nat.ne_of_lt (blk_lt (g := gb413) (o := .cells #[.int .u8 a1_0, .int .u32 a1_1, .slice A1_2 l1_2.length c1_2, .slice A1_3 l1_3.length c1_3] 27 (0, 0)) (by (with_reducible repeat (first | refine blk_drewN ?_ _ | refine blk_drew ?_ | refine blk_alloc ?_ _)); exact BK413.out)) : gb413 ≠ gb443)); have n15_ := Aside0.mk ((by rw [hg]; exact Nat.ne_of_gt (blk_lt (g := gb413) (o := .cells #[.int .u8 a1_0, .int .u32 a1_1, .slice A1_2 l1_2.length c1_2, .slice A1_3 l1_3.length c1_3] 27 (0, 0)) (by (with_reducible repeat (first | refine blk_drewN ?_ _ | refine blk_drew ?_ | refine blk_alloc ?_ _)); exact BK413.out)) : gb443 ≠ gb413)); clear HO_9; clear HO_11; clear HO430; clear HO435; clear HO438; clear HO441; clear BK412; clear BK413; clear HB; have HO_9 := n0_; have HO_11 := n1_; have HO430 := n2_; have HO435 := n3_; have HO438 := n4_; have HO441 := n5_; have BK412 := n6_; have BK413 := n7_; have HB := n8_; have BK443 := n9_; have GW443 := n10_; have GE443 := n11_; have NB412_443 := n12_; have NB443_412 := n13_; have NB413_443 := n14_; have NB443_413 := n15_; clear n0_ n1_ n2_ n3_ n4_ n5_ n6_ n7_ n8_ n9_ n10_ n11_ n12_ n13_ n14_ n15_; clear hb hbox hg; have hnb70 := NB443_412.out; have hnc70 := NB412_443.out; have hnb71 := NB443_413.out; have hnc71 := NB413_443.out; have hcz72_0 : w69.cell? ⟨gb443, 0, none⟩ = some (.int .u8 0) := (blk_cell BK443.out 0).trans rfl; have hcz72_1 : w69.cell? ⟨gb443, 1, none⟩ = some (.int .u32 0) := (blk_cell BK443.out 1).trans rfl; have hcz72_2 : w69.cell? ⟨gb443, 2, none⟩ = some (.slice none 0 0) := (blk_cell BK443.out 2).trans rfl; have hcz72_3 : w69.cell? ⟨gb443, 3, none⟩ = some (.slice none 0 0) := (blk_cell BK443.out 3).trans rfl; have hfz72_0 := blk_frozen BK443.out 0; have hfz72_1 := blk_frozen BK443.out 1; have hfz72_2 := blk_frozen BK443.out 2; have hfz72_3 := blk_frozen BK443.out 3; obtain ⟨Ao73, co73, eo73⟩ := Kd.R_slice HO435.out; subst eo73; obtain ⟨Ao74, co74, eo74⟩ := Kd.R_slice HO438.out; subst eo74) | ((with_reducible refine gate_callee (f := 8) rfl ?_); refine goesL_ (some 101) rfl rfl Try.func8 (by kernel_rfl) rfl #[.slice Ao62 t415.length co62] rfl (by (try simp only [List.map_toArray, List.map_cons, List.map_nil]); first | done | rfl | (simp only [List.length_drop, List.length_take]; rfl)) ?_; (with_reducible refine (crosswayref00_CopyBytes.calls _ _ t415 t444 _ ?side1 ?side2 A53.out).mono ?_); (case side1 => refine (Kd.R_reads' (e := 5) (base := w.heap.size) (ok := fun k_ => ((((some k_ ≠ (.slice Ao63 t419.length co63 : Value).ownBlock ∧ some k_ ≠ (.slice Ao67 y428.length co67 : Value).ownBlock) ∧ some k_ ≠ (.slice Ao73 t433.length co73 : Value).ownBlock) ∧ some k_ ≠ (.slice Ao74 t436.length co74 : Value).ownBlock) ∧ some k_ ≠ (v440 : Value).ownBlock)) (n := t415.length) (c := co62) ?_).2.2; exact (by (with_reducible repeat (first | apply Kd.R_alloc | apply Kd.R_drewN | apply Kd.R_drew)); exact (Kd.R_mono (Kd.R_far (p := ⟨gb443, 3, none⟩) (Kd.R_far (p := ⟨gb443, 2, none⟩) (Kd.R_far (p := ⟨gb443, 1, none⟩) (Kd.R_far (p := ⟨gb443, 0, none⟩) (Kd.R_types HO_9.out BK443.out (by decide)) (fun _ hk => hk.2) (.int .u8 t431)) (fun _ hk => hk.2) (.int .u32 t432)) (fun _ hk => hk.2) (.slice Ao73 t433.length co73)) (fun _ hk => hk.2) (.slice Ao74 t436.length co74)) (fun _ h_ => h_.1)))); (case side2 => exact (Kd.R_reads' HO_9.out).2.1); rintro e w75 ⟨v445, rfl, ho0, hb⟩; refine ⟨_, rfl, ?_⟩; have n0_ := Aside0.mk (Kd.R_elder' (by (with_reducible repeat (first | apply Kd.R_alloc | apply Kd.R_drewN | apply Kd.R_drew)); exact (Kd.R_mono (Kd.R_far (p := ⟨gb443, 3, none⟩) (Kd.R_far (p := ⟨gb443, 2, none⟩) (Kd.R_far (p := ⟨gb443, 1, none⟩) (Kd.R_far (p := ⟨gb443, 0, none⟩) (Kd.R_types HO_9.out BK443.out (by decide)) (fun _ hk => hk.2) (.int .u8 t431)) (fun _ hk => hk.2) (.int .u32 t432)) (fun _ hk => hk.2) (.slice Ao73 t433.length co73)) (fun _ hk => hk.2) (.slice Ao74 t436.length co74)) (fun _ h_ => h_.1))) (Kd.R_base ho0) hb); have n1_ := Aside0.mk (Kd.R_elder' (by (with_reducible repeat (first | apply Kd.R_alloc | apply Kd.R_drewN | apply Kd.R_drew)); exact (Kd.R_mono (Kd.R_far (p := ⟨gb443, 3, none⟩) (Kd.R_far (p := ⟨gb443, 2, none⟩) (Kd.R_far (p := ⟨gb443, 1, none⟩) (Kd.R_far (p := ⟨gb443, 0, none⟩) (Kd.R_types HO_11.out BK443.out (by decide)) (fun _ hk => hk.2) (.int .u8 t431)) (fun _ hk => hk.2) (.int .u32 t432)) (fun _ hk => hk.2) (.slice Ao73 t433.length co73)) (fun _ hk => hk.2) (.slice Ao74 t436.length co74)) (fun _ h_ => h_.1))) (Kd.R_base ho0) hb); have n2_ := Aside0.mk (Kd.R_elder' (by (with_reducible repeat (first | apply Kd.R_alloc | apply Kd.R_drewN | apply Kd.R_drew)); exact (Kd.R_mono (Kd.R_far (p := ⟨gb443, 3, none⟩) (Kd.R_far (p := ⟨gb443, 2, none⟩) (Kd.R_far (p := ⟨gb443, 1, none⟩) (Kd.R_far (p := ⟨gb443, 0, none⟩) (Kd.R_types HO430.out BK443.out (by decide)) (fun _ hk => hk.2) (.int .u8 t431)) (fun _ hk => hk.2) (.int .u32 t432)) (fun _ hk => hk.2) (.slice Ao73 t433.length co73)) (fun _ hk => hk.2) (.slice Ao74 t436.length co74)) (fun _ h_ => h_.1))) (Kd.R_base ho0) hb); have n3_ := Aside0.mk (Kd.R_elder' (by (with_reducible repeat (first | apply Kd.R_alloc | apply Kd.R_drewN | apply Kd.R_drew)); exact (Kd.R_mono (Kd.R_far (p := ⟨gb443, 3, none⟩) (Kd.R_far (p := ⟨gb443, 2, none⟩) (Kd.R_far (p := ⟨gb443, 1, none⟩) (Kd.R_far (p := ⟨gb443, 0, none⟩) (Kd.R_types HO435.out BK443.out (by decide)) (fun _ hk => hk.2) (.int .u8 t431)) (fun _ hk => hk.2) (.int .u32 t432)) (fun _ hk => hk.2) (.slice Ao73 t433.length co73)) (fun _ hk => hk.2) (.slice Ao74 t436.length co74)) (fun _ h_ => h_.1))) (Kd.R_base ho0) hb); have n4_ := Aside0.mk (Kd.R_elder' (by (with_reducible repeat (first | apply Kd.R_alloc | apply Kd.R_drewN | apply Kd.R_drew)); exact (Kd.R_mono (Kd.R_far (p := ⟨gb443, 3, none⟩) (Kd.R_far (p := ⟨gb443, 2, none⟩) (Kd.R_far (p := ⟨gb443, 1, none⟩) (Kd.R_far (p := ⟨gb443, 0, none⟩) (Kd.R_types HO438.out BK443.out (by decide)) (fun _ hk => hk.2) (.int .u8 t431)) (fun _ hk => hk.2) (.int .u32 t432)) (fun _ hk => hk.2) (.slice Ao73 t433.length co73)) (fun _ hk => hk.2) (.slice Ao74 t436.length co74)) (fun _ h_ => h_.1))) (Kd.R_base ho0) hb); have n5_ := Aside0.mk (Kd.R_elder' (by (with_reducible repeat (first | apply Kd.R_alloc | apply Kd.R_drewN | apply Kd.R_drew)); exact (Kd.R_mono (Kd.R_far (p := ⟨gb443, 3, none⟩) (Kd.R_far (p := ⟨gb443, 2, none⟩) (Kd.R_far (p := ⟨gb443, 1, none⟩) (Kd.R_far (p := ⟨gb443, 0, none⟩) (Kd.R_types HO441.out BK443.out (by decide)) (fun _ hk => hk.2) (.int .u8 t431)) (fun _ hk => hk.2) (.int .u32 t432)) (fun _ hk => hk.2) (.slice Ao73 t433.length co73)) (fun _ hk => hk.2) (.slice Ao74 t436.length co74)) (fun _ h_ => h_.1))) (Kd.R_base ho0) hb); have n6_ := Aside0.mk (Kd.R_lower (Kd.R_new' (Kd.R_new' (Kd.R_new' (Kd.R_new' (Kd.R_new' (Kd.R_new' ho0 (Kd.R_lt (by (with_reducible repeat (first | apply Kd.R_alloc | apply Kd.R_drewN | apply Kd.R_drew)); exact (Kd.R_mono (Kd.R_far (p := ⟨gb443, 3, none⟩) (Kd.R_far (p := ⟨gb443, 2, none⟩) (Kd.R_far (p := ⟨gb443, 1, none⟩) (Kd.R_far (p := ⟨gb443, 0, none⟩) (Kd.R_types HO_9.out BK443.out (by decide)) (fun _ hk => hk.2) (.int .u8 t431)) (fun _ hk => hk.2) (.int .u32 t432)) (fun _ hk => hk.2) (.slice Ao73 t433.length co73)) (fun _ hk => hk.2) (.slice Ao74 t436.length co74)) (fun _ h_ => h_.1))))) (Kd.R_lt (by (with_reducible repeat (first | apply Kd.R_alloc | apply Kd.R_drewN | apply Kd.R_drew)); exact (Kd.R_mono (Kd.R_far (p := ⟨gb443, 3, none⟩) (Kd.R_far (p := ⟨gb443, 2, none⟩) (Kd.R_far (p := ⟨gb443, 1, none⟩) (Kd.R_far (p := ⟨gb443, 0, none⟩) (Kd.R_types HO_11.out BK443.out (by decide)) (fun _ hk => hk.2) (.int .u8 t431)) (fun _ hk => hk.2) (.int .u32 t432)) (fun _ hk => hk.2) (.slice Ao73 t433.length co73)) (fun _ hk => hk.2) (.slice Ao74 t436.length co74)) (fun _ h_ => h_.1))))) (Kd.R_lt (by (with_reducible repeat (first | apply Kd.R_alloc | apply Kd.R_drewN | apply Kd.R_drew)); exact (Kd.R_mono (Kd.R_far (p := ⟨gb443, 3, none⟩) (Kd.R_far (p := ⟨gb443, 2, none⟩) (Kd.R_far (p := ⟨gb443, 1, none⟩) (Kd.R_far (p := ⟨gb443, 0, none⟩) (Kd.R_types HO430.out BK443.out (by decide)) (fun _ hk => hk.2) (.int .u8 t431)) (fun _ hk => hk.2) (.int .u32 t432)) (fun _ hk => hk.2) (.slice Ao73 t433.length co73)) (fun _ hk => hk.2) (.slice Ao74 t436.length co74)) (fun _ h_ => h_.1))))) (Kd.R_lt (by (with_reducible repeat (first | apply Kd.R_alloc | apply Kd.R_drewN | apply Kd.R_drew)); exact (Kd.R_mono (Kd.R_far (p := ⟨gb443, 3, none⟩) (Kd.R_far (p := ⟨gb443, 2, none⟩) (Kd.R_far (p := ⟨gb443, 1, none⟩) (Kd.R_far (p := ⟨gb443, 0, none⟩) (Kd.R_types HO435.out BK443.out (by decide)) (fun _ hk => hk.2) (.int .u8 t431)) (fun _ hk => hk.2) (.int .u32 t432)) (fun _ hk => hk.2) (.slice Ao73 t433.length co73)) (fun _ hk => hk.2) (.slice Ao74 t436.length co74)) (fun _ h_ => h_.1))))) (Kd.R_lt (by (with_reducible repeat (first | apply Kd.R_alloc | apply Kd.R_drewN | apply Kd.R_drew)); exact (Kd.R_mono (Kd.R_far (p := ⟨gb443, 3, none⟩) (Kd.R_far (p := ⟨gb443, 2, none⟩) (Kd.R_far (p := ⟨gb443, 1, none⟩) (Kd.R_far (p := ⟨gb443, 0, none⟩) (Kd.R_types HO438.out BK443.out (by decide)) (fun _ hk => hk.2) (.int .u8 t431)) (fun _ hk => hk.2) (.int .u32 t432)) (fun _ hk => hk.2) (.slice Ao73 t433.length co73)) (fun _ hk => hk.2) (.slice Ao74 t436.length co74)) (fun _ h_ => h_.1))))) (Kd.R_lt (by (with_reducible repeat (first | apply Kd.R_alloc | apply Kd.R_drewN | apply Kd.R_drew)); exact (Kd.R_mono (Kd.R_far (p := ⟨gb443, 3, none⟩) (Kd.R_far (p := ⟨gb443, 2, none⟩) (Kd.R_far (p := ⟨gb443, 1, none⟩) (Kd.R_far (p := ⟨gb443, 0, none⟩) (Kd.R_types HO441.out BK443.out (by decide)) (fun _ hk => hk.2) (.int .u8 t431)) (fun _ hk => hk.2) (.int .u32 t432)) (fun _ hk => hk.2) (.slice Ao73 t433.length co73)) (fun _ hk => hk.2) (.slice Ao74 t436.length co74)) (fun _ h_ => h_.1))))) (below_size (by repeat (first | (with_reducible first | exact HB.out | apply below_alloc | apply pw_below_drewN | apply below_drew1 | refine below_set ?_ GE412.out | refine below_set ?_ GE413.out | refine below_set ?_ GE443.out) | exact HB.out)))); have n7_ := Aside0.mk (blk_below (g := gb412) (o := .cells #[.int .u8 a0_0, .int .u32 a0_1, .slice A0_2 l0_2.length c0_2, .slice A0_3 l0_3.length c0_3] 27 (0, 0)) (by (with_reducible repeat (first | refine blk_drewN ?_ _ | refine blk_drew ?_ | refine blk_alloc ?_ _)); refine blk_far ?_ NB412_443.out _; (with_reducible repeat (first | refine blk_drewN ?_ _ | refine blk_drew ?_ | refine blk_alloc ?_ _)); refine blk_far ?_ NB412_443.out _; (with_reducible repeat (first | refine blk_drewN ?_ _ | refine blk_drew ?_ | refine blk_alloc ?_ _)); refine blk_far ?_ NB412_443.out _; (with_reducible repeat (first | refine blk_drewN ?_ _ | refine blk_drew ?_ | refine blk_alloc ?_ _)); refine blk_far ?_ NB412_443.out _; (with_reducible repeat (first | refine blk_drewN ?_ _ | refine blk_drew ?_ | refine blk_alloc ?_ _)); exact BK412.out) hb); have n8_ := Aside0.mk (blk_below (g := gb413) (o := .cells #[.int .u8 a1_0, .int .u32 a1_1, .slice A1_2 l1_2.length c1_2, .slice A1_3 l1_3.length c1_3] 27 (0, 0)) (by (with_reducible repeat (first | refine blk_drewN ?_ _ | refine blk_drew ?_ | refine blk_alloc ?_ _)); refine blk_far ?_ NB413_443.out _; (with_reducible repeat (first | refine blk_drewN ?_ _ | refine blk_drew ?_ | refine blk_alloc ?_ _)); refine blk_far ?_ NB413_443.out _; (with_reducible repeat (first | refine blk_drewN ?_ _ | refine blk_drew ?_ | refine blk_alloc ?_ _)); refine blk_far ?_ NB413_443.out _; (with_reducible repeat (first | refine blk_drewN ?_ _ | refine blk_drew ?_ | refine blk_alloc ?_ _)); refine blk_far ?_ NB413_443.out _; (with_reducible repeat (first | refine blk_drewN ?_ _ | refine blk_drew ?_ | refine blk_alloc ?_ _)); exact BK413.out) hb); have n9_ := Aside0.mk (blk_below (g := gb443) (o := .cells #[.int .u8 t431, .int .u32 t432, .slice Ao73 t433.length co73, .slice Ao74 t436.length co74] 27 (0, 0)) (by (with_reducible repeat (first | refine blk_drewN ?_ _ | refine blk_drew ?_ | refine blk_alloc ?_ _)); refine blk_put (cs := #[.int .u8 t431, .int .u32 t432, .slice Ao73 t433.length co73, .slice none 0 0]) ?_ 3 _ rfl; (with_reducible repeat (first | refine blk_drewN ?_ _ | refine blk_drew ?_ | refine blk_alloc ?_ _)); refine blk_put (cs := #[.int .u8 t431, .int .u32 t432, .slice none 0 0, .slice none 0 0]) ?_ 2 _ rfl; (with_reducible repeat (first | refine blk_drewN ?_ _ | refine blk_drew ?_ | refine blk_alloc ?_ _)); refine blk_put (cs := #[.int .u8 t431, .int .u32 0, .slice none 0 0, .slice none 0 0]) ?_ 1 _ rfl; (with_reducible repeat (first | refine blk_drewN ?_ _ | refine blk_drew ?_ | refine blk_alloc ?_ _)); refine blk_put (cs := #[.int .u8 0, .int .u32 0, .slice none 0 0, .slice none 0 0]) ?_ 0 _ rfl; (with_reducible repeat (first | refine blk_drewN ?_ _ | refine blk_drew ?_ | refine blk_alloc ?_ _)); exact BK443.out) hb); have n10_ := Aside0.mk (below_step (by repeat (first | (with_reducible first | exact HB.out | apply below_alloc | apply pw_below_drewN | apply below_drew1 | refine below_set ?_ GE412.out | refine below_set ?_ GE413.out | refine below_set ?_ GE443.out) | exact HB.out)) hb); clear HO_9; clear HO_11; clear HO430; clear HO435; clear HO438; clear HO441; clear BK412; clear BK413; clear BK443; clear HB; have HO_9 := n0_; have HO_11 := n1_; have HO430 := n2_; have HO435 := n3_; have HO438 := n4_; have HO441 := n5_; have HO446 := n6_; have BK412 := n7_; have BK413 := n8_; have BK443 := n9_; have HB := n10_; clear n0_ n1_ n2_ n3_ n4_ n5_ n6_ n7_ n8_ n9_ n10_; (try clear hb); (try clear hb2); (try clear hk); (try clear hi); (try clear ho0)) | ((with_reducible refine gate_builtin (b := .append) (xs := #[.tmp 101, .tmp 102]) rfl ?_); (try (refine gate_guard (by rfl) ?_; dsimp only)); at_builtin; refine Kd.R_append_rows (Kd.int .u8) (w0 := w) w.heap.size rfl (.tmp 101) (.tmp 102) 22 5 (.int .u8 0) 1 rfl Try.underlying22 info5 rfl (by decide) (by omega) v445 t444 l3 _ _ _ (fun k_ => some k_ ≠ (.slice Ao62 t415.length co62 : Value).ownBlock ∧ some k_ ≠ (.slice Ao63 t419.length co63 : Value).ownBlock ∧ some k_ ≠ (.slice Ao67 y428.length co67 : Value).ownBlock ∧ some k_ ≠ (.slice Ao73 t433.length co73 : Value).ownBlock ∧ some k_ ≠ (.slice Ao74 t436.length co74 : Value).ownBlock ∧ some k_ ≠ (v440 : Value).ownBlock) (fun _ => False) rfl rfl ?aO ?aR (fun _ _ h => h) (fun _ h => h.elim) ?aF ?aB ?aS ?aL ?_; (case aR => repeat (first | exact (Kd.C_below HR3.out HB.out) | (with_reducible refine Kd.C_alloc ?_ _) | (with_reducible refine Kd.C_drewN ?_ _) | (with_reducible refine Kd.C_drew ?_))); (case aB => exact (by repeat (first | (with_reducible first | exact HB.out | apply below_alloc | apply pw_below_drewN | apply below_drew1 | refine below_set ?_ GE412.out | refine below_set ?_ GE413.out | refine below_set ?_ GE443.out) | exact HB.out))); (case aF => exact (fun k_ hk => ⟨Kd.fresh' (Kd.R_lt (by (with_reducible repeat (first | apply Kd.R_alloc | apply Kd.R_drewN | apply Kd.R_drew)); exact HO_9.out)) k_ hk, Kd.fresh' (Kd.R_lt (by (with_reducible repeat (first | apply Kd.R_alloc | apply Kd.R_drewN | apply Kd.R_drew)); exact HO_11.out)) k_ hk, Kd.fresh' (Kd.R_lt (by (with_reducible repeat (first | apply Kd.R_alloc | apply Kd.R_drewN | apply Kd.R_drew)); exact HO430.out)) k_ hk, Kd.fresh' (Kd.R_lt (by (with_reducible repeat (first | apply Kd.R_alloc | apply Kd.R_drewN | apply Kd.R_drew)); exact HO435.out)) k_ hk, Kd.fresh' (Kd.R_lt (by (with_reducible repeat (first | apply Kd.R_alloc | apply Kd.R_drewN | apply Kd.R_drew)); exact HO438.out)) k_ hk, Kd.fresh' (Kd.R_lt (by (with_reducible repeat (first | apply Kd.R_alloc | apply Kd.R_drewN | apply Kd.R_drew)); exact HO441.out)) k_ hk⟩)); (case aO => exact (by (with_reducible repeat (first | apply Kd.R_alloc | apply Kd.R_drewN | apply Kd.R_drew)); exact Kd.R_mono HO446.out (fun _ hk => ⟨hk.1.1.1.1.1.2, ⟨hk.1.1.1.1.2, ⟨hk.1.1.1.2, ⟨hk.1.1.2, ⟨hk.1.2, hk.2⟩⟩⟩⟩⟩))); (case aS => exact (below_size (by repeat (first | (with_reducible first | exact HB.out | apply below_alloc | apply pw_below_drewN | apply below_drew1 | refine below_set ?_ GE412.out | refine below_set ?_ GE413.out | refine below_set ?_ GE443.out) | exact HB.out)))); (case aL => have := LMc54.out; omega); intro v448 w76 ho hb hg hat; rw [← Ny447.out] at ho; have n0_ := Aside0.mk (Kd.R_after (ok := (fun k_ => some k_ ≠ (.slice Ao63 t419.length co63 : Value).ownBlock ∧ some k_ ≠ (.slice Ao67 y428.length co67 : Value).ownBlock ∧ some k_ ≠ (.slice Ao73 t433.length co73 : Value).ownBlock ∧ some k_ ≠ (.slice Ao74 t436.length co74 : Value).ownBlock ∧ some k_ ≠ (v440 : Value).ownBlock)) (by (with_reducible repeat (first | apply Kd.R_alloc | apply Kd.R_drewN | apply Kd.R_drew)); exact Kd.R_mono HO_9.out (fun _ hk => ⟨⟨hk.1.1.1.1.1, ⟨hk.1.1.1.1.2, ⟨hk.1.1.1.2, ⟨hk.1.1.2, hk.1.2⟩⟩⟩⟩, hk.2⟩)) hg hat); have n1_ := Aside0.mk (Kd.R_after (ok := (fun k_ => some k_ ≠ (.slice Ao62 t415.length co62 : Value).ownBlock ∧ some k_ ≠ (.slice Ao67 y428.length co67 : Value).ownBlock ∧ some k_ ≠ (.slice Ao73 t433.length co73 : Value).ownBlock ∧ some k_ ≠ (.slice Ao74 t436.length co74 : Value).ownBlock ∧ some k_ ≠ (v440 : Value).ownBlock)) (by (with_reducible repeat (first | apply Kd.R_alloc | apply Kd.R_drewN | apply Kd.R_drew)); exact Kd.R_mono HO_11.out (fun _ hk => ⟨⟨hk.1.1.1.1.1, ⟨hk.1.1.1.1.2, ⟨hk.1.1.1.2, ⟨hk.1.1.2, hk.1.2⟩⟩⟩⟩, hk.2⟩)) hg hat); have n2_ := Aside0.mk (blk_grown (g := gb412) (o := .cells #[.int .u8 a0_0, .int .u32 a0_1, .slice A0_2 l0_2.length c0_2, .slice A0_3 l0_3.length c0_3] 27 (0, 0)) (by (with_reducible repeat (first | refine blk_drewN ?_ _ | refine blk_drew ?_ | refine blk_alloc ?_ _)); exact BK412.out) hg (Kd.R_ne HO446.out BK412.out (by decide))); have n3_ := Aside0.mk (blk_grown (g := gb413) (o := .cells #[.int .u8 a1_0, .int .u32 a1_1, .slice A1_2 l1_2.length c1_2, .slice A1_3 l1_3.length c1_3] 27 (0, 0)) (by (with_reducible repeat (first | refine blk_drewN ?_ _ | refine blk_drew ?_ | refine blk_alloc ?_ _)); exact BK413.out) hg (Kd.R_ne HO446.out BK413.out (by decide))); have n4_ := Aside0.mk (Kd.R_after (ok := (fun k_ => some k_ ≠ (.slice Ao62 t415.length co62 : Value).ownBlock ∧ some k_ ≠ (.slice Ao63 t419.length co63 : Value).ownBlock ∧ some k_ ≠ (.slice Ao73 t433.length co73 : Value).ownBlock ∧ some k_ ≠ (.slice Ao74 t436.length co74 : Value).ownBlock ∧ some k_ ≠ (v440 : Value).ownBlock)) (by (with_reducible repeat (first | apply Kd.R_alloc | apply Kd.R_drewN | apply Kd.R_drew)); exact Kd.R_mono HO430.out (fun _ hk => ⟨⟨hk.1.1.1.1.1, ⟨hk.1.1.1.1.2, ⟨hk.1.1.1.2, ⟨hk.1.1.2, hk.1.2⟩⟩⟩⟩, hk.2⟩)) hg hat); have n5_ := Aside0.mk (Kd.R_after (ok := (fun k_ => some k_ ≠ (.slice Ao62 t415.length co62 : Value).ownBlock ∧ some k_ ≠ (.slice Ao63 t419.length co63 : Value).ownBlock ∧ some k_ ≠ (.slice Ao67 y428.length co67 : Value).ownBlock ∧ some k_ ≠ (.slice Ao74 t436.length co74 : Value).ownBlock ∧ some k_ ≠ (v440 : Value).ownBlock)) (by (with_reducible repeat (first | apply Kd.R_alloc | apply Kd.R_drewN | apply Kd.R_drew)); exact Kd.R_mono HO435.out (fun _ hk => ⟨⟨hk.1.1.1.2, ⟨hk.1.1.2, ⟨hk.1.2, ⟨hk.1.1.1.1.1, hk.1.1.1.1.2⟩⟩⟩⟩, hk.2⟩)) hg hat); have n6_ := Aside0.mk (Kd.R_after (ok := (fun k_ => some k_ ≠ (.slice Ao62 t415.length co62 : Value).ownBlock ∧ some k_ ≠ (.slice Ao63 t419.length co63 : Value).ownBlock ∧ some k_ ≠ (.slice Ao67 y428.length co67 : Value).ownBlock ∧ some k_ ≠ (.slice Ao73 t433.length co73 : Value).ownBlock ∧ some k_ ≠ (v440 : Value).ownBlock)) (by (with_reducible repeat (first | apply Kd.R_alloc | apply Kd.R_drewN | apply Kd.R_drew)); exact Kd.R_mono HO438.out (fun _ hk => ⟨⟨hk.1.1.1.2, ⟨hk.1.1.2, ⟨hk.1.2, ⟨hk.1.1.1.1.1, hk.1.1.1.1.2⟩⟩⟩⟩, hk.2⟩)) hg hat); have n7_ := Aside0.mk (Kd.R_after (ok := (fun k_ => some k_ ≠ (.slice Ao62 t415.length co62 : Value).ownBlock ∧ some k_ ≠ (.slice Ao63 t419.length co63 : Value).ownBlock ∧ some k_ ≠ (.slice Ao67 y428.length co67 : Value).ownBlock ∧ some k_ ≠ (.slice Ao73 t433.length co73 : Value).ownBlock ∧ some k_ ≠ (.slice Ao74 t436.length co74 : Value).ownBlock)) (by (with_reducible repeat (first | apply Kd.R_alloc | apply Kd.R_drewN | apply Kd.R_drew)); exact Kd.R_mono HO441.out (fun _ hk => ⟨⟨hk.1.1.1.2, ⟨hk.1.1.2, ⟨hk.1.2, ⟨hk.1.1.1.1.1, hk.1.1.1.1.2⟩⟩⟩⟩, hk.2⟩)) hg hat); have n8_ := Aside0.mk (blk_grown (g := gb443) (o := .cells #[.int .u8 t431, .int .u32 t432, .slice Ao73 t433.length co73, .slice Ao74 t436.length co74] 27 (0, 0)) (by (with_reducible repeat (first | refine blk_drewN ?_ _ | refine blk_drew ?_ | refine blk_alloc ?_ _)); exact BK443.out) hg (Kd.R_ne HO446.out BK443.out (by decide))); have n9_ := Aside0.mk (hb); have n10_ := Aside0.mk (ho); clear HO_9; clear HO_11; clear BK412; clear BK413; clear HO430; clear HO435; clear HO438; clear HO441; clear BK443; clear HB; clear HO446; have HO_9 := n0_; have HO_11 := n1_; have BK412 := n2_; have BK413 := n3_; have HO430 := n4_; have HO435 := n5_; have HO438 := n6_; have HO441 := n7_; have BK443 := n8_; have HB := n9_; have HO449 := n10_; clear n0_ n1_ n2_ n3_ n4_ n5_ n6_ n7_ n8_ n9_ n10_; clear ho hb hg hat; obtain ⟨Ao77, co77, eo77⟩ := Kd.R_slice HO449.out; subst eo77) | ((with_reducible refine gate_callee (f := 9) rfl ?_); refine goesL_ (some 104) rfl rfl Try.func9 (by kernel_rfl) rfl #[.slice Ao77 y447.length co77] rfl (by (try simp only [List.map_toArray, List.map_cons, List.map_nil]); first | done | rfl | (simp only [List.length_drop, List.length_take]; rfl)) ?_; (with_reducible refine (head_Parse.calls kj34 _ _ y447 t450 t451 t452 t455 t458 t461 _ ?side1 ?side2 A55.out).mono ?_); (case side1 => repeat (first | exact (Kd.R_reads' HO449.out).2.2 | (with_reducible refine Kd.C_alloc ?_ _) | (with_reducible refine Kd.C_drewN ?_ _) | (with_reducible refine Kd.C_drew ?_))); (case side2 => exact (Kd.R_reads' HO449.out).2.1); rintro e w78 ⟨v453, v456, v459, rfl, ho0, ho1, ho2, hb⟩; refine ⟨_, rfl, ?_⟩; have n0_ := Aside0.mk (Kd.R_mono (Kd.R_told (Kd.R_told (Kd.R_told (Kd.R_old (by (with_reducible repeat (first | apply Kd.R_alloc | apply Kd.R_drewN | apply Kd.R_drew)); exact HO_9.out) hb) (Kd.R_base ho0)) (Kd.R_base ho1)) (Kd.R_base ho2)) (fun _ h_ => h_.1)); have n1_ := Aside0.mk (Kd.R_mono (Kd.R_told (Kd.R_told (Kd.R_told (Kd.R_old (by (with_reducible repeat (first | apply Kd.R_alloc | apply Kd.R_drewN | apply Kd.R_drew)); exact HO_11.out) hb) (Kd.R_base ho0)) (Kd.R_base ho1)) (Kd.R_base ho2)) (fun _ h_ => h_.1)); have n2_ := Aside0.mk (Kd.R_mono (Kd.R_told (Kd.R_told (Kd.R_told (Kd.R_old (by (with_reducible repeat (first | apply Kd.R_alloc | apply Kd.R_drewN | apply Kd.R_drew)); exact HO430.out) hb) (Kd.R_base ho0)) (Kd.R_base ho1)) (Kd.R_base ho2)) (fun _ h_ => h_.1)); have n3_ := Aside0.mk (Kd.R_mono (Kd.R_told (Kd.R_told (Kd.R_told (Kd.R_old (by (with_reducible repeat (first | apply Kd.R_alloc | apply Kd.R_drewN | apply Kd.R_drew)); exact HO435.out) hb) (Kd.R_base ho0)) (Kd.R_base ho1)) (Kd.R_base ho2)) (fun _ h_ => h_.1)); have n4_ := Aside0.mk (Kd.R_mono (Kd.R_told (Kd.R_told (Kd.R_told (Kd.R_old (by (with_reducible repeat (first | apply Kd.R_alloc | apply Kd.R_drewN | apply Kd.R_drew)); exact HO438.out) hb) (Kd.R_base ho0)) (Kd.R_base ho1)) (Kd.R_base ho2)) (fun _ h_ => h_.1)); have n5_ := Aside0.mk (Kd.R_mono (Kd.R_told (Kd.R_told (Kd.R_told (Kd.R_old (by (with_reducible repeat (first | apply Kd.R_alloc | apply Kd.R_drewN | apply Kd.R_drew)); exact HO441.out) hb) (Kd.R_base ho0)) (Kd.R_base ho1)) (Kd.R_base ho2)) (fun _ h_ => h_.1)); have n6_ := Aside0.mk (Kd.R_mono (Kd.R_told (Kd.R_told (Kd.R_told (Kd.R_old (by (with_reducible repeat (first | apply Kd.R_alloc | apply Kd.R_drewN | apply Kd.R_drew)); exact HO449.out) hb) (Kd.R_base ho0)) (Kd.R_base ho1)) (Kd.R_base ho2)) (fun _ h_ => h_.1)); have n7_ := Aside0.mk (Kd.R_lower (Kd.R_new' (Kd.R_new' (Kd.R_new' (Kd.R_new' (Kd.R_new' (Kd.R_new' (Kd.R_new' ho0 (Kd.R_lt (by (with_reducible repeat (first | apply Kd.R_alloc | apply Kd.R_drewN | apply Kd.R_drew)); exact HO_9.out))) (Kd.R_lt (by (with_reducible repeat (first | apply Kd.R_alloc | apply Kd.R_drewN | apply Kd.R_drew)); exact HO_11.out))) (Kd.R_lt (by (with_reducible repeat (first | apply Kd.R_alloc | apply Kd.R_drewN | apply Kd.R_drew)); exact HO430.out))) (Kd.R_lt (by (with_reducible repeat (first | apply Kd.R_alloc | apply Kd.R_drewN | apply Kd.R_drew)); exact HO435.out))) (Kd.R_lt (by (with_reducible repeat (first | apply Kd.R_alloc | apply Kd.R_drewN | apply Kd.R_drew)); exact HO438.out))) (Kd.R_lt (by (with_reducible repeat (first | apply Kd.R_alloc | apply Kd.R_drewN | apply Kd.R_drew)); exact HO441.out))) (Kd.R_lt (by (with_reducible repeat (first | apply Kd.R_alloc | apply Kd.R_drewN | apply Kd.R_drew)); exact HO449.out))) (below_size (by repeat (first | (with_reducible first | exact HB.out | apply below_alloc | apply pw_below_drewN | apply below_drew1 | refine below_set ?_ GE412.out | refine below_set ?_ GE413.out | refine below_set ?_ GE443.out) | exact HB.out)))); have n8_ := Aside0.mk (Kd.R_lower (Kd.R_new' (Kd.R_new' (Kd.R_new' (Kd.R_new' (Kd.R_new' (Kd.R_new' (Kd.R_new' ho1 (Kd.R_lt (by (with_reducible repeat (first | apply Kd.R_alloc | apply Kd.R_drewN | apply Kd.R_drew)); exact HO_9.out))) (Kd.R_lt (by (with_reducible repeat (first | apply Kd.R_alloc | apply Kd.R_drewN | apply Kd.R_drew)); exact HO_11.out))) (Kd.R_lt (by (with_reducible repeat (first | apply Kd.R_alloc | apply Kd.R_drewN | apply Kd.R_drew)); exact HO430.out))) (Kd.R_lt (by (with_reducible repeat (first | apply Kd.R_alloc | apply Kd.R_drewN | apply Kd.R_drew)); exact HO435.out))) (Kd.R_lt (by (with_reducible repeat (first | apply Kd.R_alloc | apply Kd.R_drewN | apply Kd.R_drew)); exact HO438.out))) (Kd.R_lt (by (with_reducible repeat (first | apply Kd.R_alloc | apply Kd.R_drewN | apply Kd.R_drew)); exact HO441.out))) (Kd.R_lt (by (with_reducible repeat (first | apply Kd.R_alloc | apply Kd.R_drewN | apply Kd.R_drew)); exact HO449.out))) (below_size (by repeat (first | (with_reducible first | exact HB.out | apply below_alloc | apply pw_below_drewN | apply below_drew1 | refine below_set ?_ GE412.out | refine below_set ?_ GE413.out | refine below_set ?_ GE443.out) | exact HB.out)))); have n9_ := Aside0.mk (Kd.R_lower (Kd.R_new' (Kd.R_new' (Kd.R_new' (Kd.R_new' (Kd.R_new' (Kd.R_new' (Kd.R_new' ho2 (Kd.R_lt (by (with_reducible repeat (first | apply Kd.R_alloc | apply Kd.R_drewN | apply Kd.R_drew)); exact HO_9.out))) (Kd.R_lt (by (with_reducible repeat (first | apply Kd.R_alloc | apply Kd.R_drewN | apply Kd.R_drew)); exact HO_11.out))) (Kd.R_lt (by (with_reducible repeat (first | apply Kd.R_alloc | apply Kd.R_drewN | apply Kd.R_drew)); exact HO430.out))) (Kd.R_lt (by (with_reducible repeat (first | apply Kd.R_alloc | apply Kd.R_drewN | apply Kd.R_drew)); exact HO435.out))) (Kd.R_lt (by (with_reducible repeat (first | apply Kd.R_alloc | apply Kd.R_drewN | apply Kd.R_drew)); exact HO438.out))) (Kd.R_lt (by (with_reducible repeat (first | apply Kd.R_alloc | apply Kd.R_drewN | apply Kd.R_drew)); exact HO441.out))) (Kd.R_lt (by (with_reducible repeat (first | apply Kd.R_alloc | apply Kd.R_drewN | apply Kd.R_drew)); exact HO449.out))) (below_size (by repeat (first | (with_reducible first | exact HB.out | apply below_alloc | apply pw_below_drewN | apply below_drew1 | refine below_set ?_ GE412.out | refine below_set ?_ GE413.out | refine below_set ?_ GE443.out) | exact HB.out)))); have n10_ := Aside0.mk (blk_below (g := gb412) (o := .cells #[.int .u8 a0_0, .int .u32 a0_1, .slice A0_2 l0_2.length c0_2, .slice A0_3 l0_3.length c0_3] 27 (0, 0)) (by (with_reducible repeat (first | refine blk_drewN ?_ _ | refine blk_drew ?_ | refine blk_alloc ?_ _)); exact BK412.out) hb); have n11_ := Aside0.mk (blk_below (g := gb413) (o := .cells #[.int .u8 a1_0, .int .u32 a1_1, .slice A1_2 l1_2.length c1_2, .slice A1_3 l1_3.length c1_3] 27 (0, 0)) (by (with_reducible repeat (first | refine blk_drewN ?_ _ | refine blk_drew ?_ | refine blk_alloc ?_ _)); exact BK413.out) hb); have n12_ := Aside0.mk (blk_below (g := gb443) (o := .cells #[.int .u8 t431, .int .u32 t432, .slice Ao73 t433.length co73, .slice Ao74 t436.length co74] 27 (0, 0)) (by (with_reducible repeat (first | refine blk_drewN ?_ _ | refine blk_drew ?_ | refine blk_alloc ?_ _)); exact BK443.out) hb); have n13_ := Aside0.mk (below_step (by repeat (first | (with_reducible first | exact HB.out | apply below_alloc | apply pw_below_drewN | apply below_drew1 | refine below_set ?_ GE412.out | refine below_set ?_ GE413.out | refine below_set ?_ GE443.out) | exact HB.out)) hb); clear HO_9; clear HO_11; clear HO430; clear HO435; clear HO438; clear HO441; clear HO449; clear BK412; clear BK413; clear BK443; clear HB; have HO_9 := n0_; have HO_11 := n1_; have HO430 := n2_; have HO435 := n3_; have HO438 := n4_; have HO441 := n5_; have HO449 := n6_; have HO454 := n7_; have HO457 := n8_; have HO460 := n9_; have BK412 := n10_; have BK413 := n11_; have BK443 := n12_; have HB := n13_; clear n0_ n1_ n2_ n3_ n4_ n5_ n6_ n7_ n8_ n9_ n10_ n11_ n12_ n13_; (try clear hb); (try clear hb2); (try clear hk); (try clear hi); (try clear ho0); (try clear ho1); (try clear ho2)) | ((with_reducible refine gate_dst (N := 16) rfl ?_); (try (refine gate_guard (by rfl) ?_; dsimp only)); refine box_event ?hg (N := 16) ?hd (cs := #[.int .u8 0, .int .u32 0, .slice none 0 0, .slice none 0 0]) (t := 27) ?hr ?_; (case hd => rfl); (case hg => rfl); (case hr => first | (go_simp; done) | (go_simp; rfl)); intro gb462 hg w79 hbox hb; have n0_ := Aside0.mk (Kd.R_below (by (with_reducible repeat (first | apply Kd.R_alloc | apply Kd.R_drewN | apply Kd.R_drew)); exact HO_9.out) hb); have n1_ := Aside0.mk (Kd.R_below (by (with_reducible repeat (first | apply Kd.R_alloc | apply Kd.R_drewN | apply Kd.R_drew)); exact HO_11.out) hb); have n2_ := Aside0.mk (Kd.R_below (by (with_reducible repeat (first | apply Kd.R_alloc | apply Kd.R_drewN | apply Kd.R_drew)); exact HO430.out) hb); have n3_ := Aside0.mk (Kd.R_below (by (with_reducible repeat (first | apply Kd.R_alloc | apply Kd.R_drewN | apply Kd.R_drew)); exact HO435.out) hb); have n4_ := Aside0.mk (Kd.R_below (by (with_reducible repeat (first | apply Kd.R_alloc | apply Kd.R_drewN | apply Kd.R_drew)); exact HO438.out) hb); have n5_ := Aside0.mk (Kd.R_below (by (with_reducible repeat (first | apply Kd.R_alloc | apply Kd.R_drewN | apply Kd.R_drew)); exact HO441.out) hb); have n6_ := Aside0.mk (Kd.R_below (by (with_reducible repeat (first | apply Kd.R_alloc | apply Kd.R_drewN | apply Kd.R_drew)); exact HO449.out) hb); have n7_ := Aside0.mk (Kd.R_below (by (with_reducible repeat (first | apply Kd.R_alloc | apply Kd.R_drewN | apply Kd.R_drew)); exact HO454.out) hb); have n8_ := Aside0.mk (Kd.R_below (by (with_reducible repeat (first | apply Kd.R_alloc | apply Kd.R_drewN | apply Kd.R_drew)); exact HO457.out) hb); have n9_ := Aside0.mk (Kd.R_below (by (with_reducible repeat (first | apply Kd.R_alloc | apply Kd.R_drewN | apply Kd.R_drew)); exact HO460.out) hb); have n10_ := Aside0.mk (blk_below (g := gb412) (o := .cells #[.int .u8 a0_0, .int .u32 a0_1, .slice A0_2 l0_2.length c0_2, .slice A0_3 l0_3.length c0_3] 27 (0, 0)) (by (with_reducible repeat (first | refine blk_drewN ?_ _ | refine blk_drew ?_ | refine blk_alloc ?_ _)); exact BK412.out) hb); have n11_ := Aside0.mk (blk_below (g := gb413) (o := .cells #[.int .u8 a1_0, .int .u32 a1_1, .slice A1_2 l1_2.length c1_2, .slice A1_3 l1_3.length c1_3] 27 (0, 0)) (by (with_reducible repeat (first | refine blk_drewN ?_ _ | refine blk_drew ?_ | refine blk_alloc ?_ _)); exact BK413.out) hb); have n12_ := Aside0.mk (blk_below (g := gb443) (o := .cells #[.int .u8 t431, .int .u32 t432, .slice Ao73 t433.length co73, .slice Ao74 t436.length co74] 27 (0, 0)) (by (with_reducible repeat (first | refine blk_drewN ?_ _ | refine blk_drew ?_ | refine blk_alloc ?_ _)); exact BK443.out) hb); have n13_ := Aside0.mk (below_step (by repeat (first | (with_reducible first | exact HB.out | apply below_alloc | apply pw_below_drewN | apply below_drew1 | refine below_set ?_ GE412.out | refine below_set ?_ GE413.out | refine below_set ?_ GE443.out) | exact HB.out)) hb); have n14_ := Aside0.mk (hbox); have n15_ := Aside0.mk ((by rw [hg]; exact (below_size (by repeat (first | (with_reducible first | exact HB.out | apply below_alloc | apply pw_below_drewN | apply below_drew1 | refine below_set ?_ GE412.out | refine below_set ?_ GE413.out | refine below_set ?_ GE443.out) | exact HB.out))) : w.heap.size ≤ gb462)); have n16_ := Aside0.mk ((by rw [hg]; exact (below_size (by repeat (first | (with_reducible first | exact HB.out | apply below_alloc | apply pw_below_drewN | apply below_drew1 | refine below_set ?_ GE412.out | refine below_set ?_ GE413.out | refine below_set ?_ GE443.out) | exact HB.out))) : w.heap.size ≤ gb462)); have n17_ := Aside0.mk ((by rw [hg]; exact Nat.ne_of_lt (blk_lt (g := gb412) (o := .cells #[.int .u8 a0_0, .int .u32 a0_1, .slice A0_2 l0_2.length c0_2, .slice A0_3 l0_3.length c0_3] 27 (0, 0)) (by (with_reducible repeat (first | refine blk_drewN ?_ _ | refine blk_drew ?_ | refine blk_alloc ?_ _)); exact BK412.out)) : gb412 ≠ gb462)); have n18_ := Aside0.mk ((by rw [hg]; exact Nat.ne_of_gt (blk_lt (g := gb412) (o := .cells #[.int .u8 a0_0, .int .u32 a0_1, .slice A0_2 l0_2.length c0_2, .slice A0_3 l0_3.length c0_3] 27 (0, 0)) (by (with_reducible repeat (first | refine blk_drewN ?_ _ | refine blk_drew ?_ | refine blk_alloc ?_ _)); exact BK412.out)) : gb462 ≠ gb412)); have n19_ := Aside0.mk ((by rw [hg]; exact Nat.ne_of_lt (blk_lt (g := gb413) (o := .cells #[.int .u8 a1_0, .int .u32 a1_1, .slice A1_2 l1_2.length c1_2, .slice A1_3 l1_3.length c1_3] 27 (0, 0)) (by (with_reducible repeat (first | refine blk_drewN ?_ _ | refine blk_drew ?_ | refine blk_alloc ?_ _)); exact BK413.out)) : gb413 ≠ gb462)); have n20_ := Aside0.mk ((by rw [hg]; exact Nat.ne_of_gt (blk_lt (g := gb413) (o := .cells #[.int .u8 a1_0, .int .u32 a1_1, .slice A1_2 l1_2.length c1_2, .slice A1_3 l1_3.length c1_3] 27 (0, 0)) (by (with_reducible repeat (first | refine blk_drewN ?_ _ | refine blk_drew ?_ | refine blk_alloc ?_ _)); exact BK413.out)) : gb462 ≠ gb413)); have n21_ := Aside0.mk ((by rw [hg]; exact Nat.ne_of_lt (blk_lt (g := gb443) (o := .cells #[.int .u8 t431, .int .u32 t432, .slice Ao73 t433.length co73, .slice Ao74 t436.length co74] 27 (0, 0)) (by (with_reducible repeat (first | refine blk_drewN ?_ _ | refine blk_drew ?_ | refine blk_alloc ?_ _)); exact BK443.out)) : gb443 ≠ gb462)); have n22_ := Aside0.mk ((by rw [hg]; exact Nat.ne_of_gt (blk_lt (g := gb443) (o := .cells #[.int .u8 t431, .int .u32 t432, .slice Ao73 t433.length co73, .slice Ao74 t436.length co74] 27 (0, 0)) (by (with_reducible repeat (first | refine blk_drewN ?_ _ | refine blk_drew ?_ | refine blk_alloc ?_ _)); exact BK443.out)) : gb462 ≠ gb443)); clear HO_9; clear HO_11; clear HO430; clear HO435; clear HO438; clear HO441; clear HO449; clear HO454; clear HO457; clear HO460; clear BK412; clear BK413; clear BK443; clear HB; have HO_9 := n0_; have HO_11 := n1_; have HO430 := n2_; have HO435 := n3_; have HO438 := n4_; have HO441 := n5_; have HO449 := n6_; have HO454 := n7_; have HO457 := n8_; have HO460 := n9_; have BK412 := n10_; have BK413 := n11_; have BK443 := n12_; have HB := n13_; have BK462 := n14_; have GW462 := n15_; have GE462 := n16_; have NB412_462 := n17_; have NB462_412 := n18_; have NB413_462 := n19_; have NB462_413 := n20_; have NB443_462 := n21_; have NB462_443 := n22_; clear n0_ n1_ n2_ n3_ n4_ n5_ n6_ n7_ n8_ n9_ n10_ n11_ n12_ n13_ n14_ n15_ n16_ n17_ n18_ n19_ n20_ n21_ n22_; clear hb hbox hg; have hnb80 := NB462_412.out; have hnc80 := NB412_462.out; have hnb81 := NB462_413.out; have hnc81 := NB413_462.out; have hnb82 := NB462_443.out; have hnc82 := NB443_462.out; have hcz83_0 : w79.cell? ⟨gb462, 0, none⟩ = some (.int .u8 0) := (blk_cell BK462.out 0).trans rfl; have hcz83_1 : w79.cell? ⟨gb462, 1, none⟩ = some (.int .u32 0) := (blk_cell BK462.out 1).trans rfl; have hcz83_2 : w79.cell? ⟨gb462, 2, none⟩ = some (.slice none 0 0) := (blk_cell BK462.out 2).trans rfl; have hcz83_3 : w79.cell? ⟨gb462, 3, none⟩ = some (.slice none 0 0) := (blk_cell BK462.out 3).trans rfl; have hfz83_0 := blk_frozen BK462.out 0; have hfz83_1 := blk_frozen BK462.out 1; have hfz83_2 := blk_frozen BK462.out 2; have hfz83_3 := blk_frozen BK462.out 3; obtain ⟨Ao84, co84, eo84⟩ := Kd.R_slice HO454.out; subst eo84; obtain ⟨Ao85, co85, eo85⟩ := Kd.R_slice HO457.out; subst eo85; have hcz86_0 : w79.cell? ⟨gb443, 0, none⟩ = some (.int .u8 t431) := (blk_cell BK443.out 0).trans rfl; have hcz86_1 : w79.cell? ⟨gb443, 1, none⟩ = some (.int .u32 t432) := (blk_cell BK443.out 1).trans rfl; have hcz86_2 : w79.cell? ⟨gb443, 2, none⟩ = some (.slice Ao73 t433.length co73) := (blk_cell BK443.out 2).trans rfl; have hcz86_3 : w79.cell? ⟨gb443, 3, none⟩ = some (.slice Ao74 t436.length co74) := (blk_cell BK443.out 3).trans rfl; have hfz86_0 := blk_frozen BK443.out 0; have hfz86_1 := blk_frozen BK443.out 1; have hfz86_2 := blk_frozen BK443.out 2; have hfz86_3 := blk_frozen BK443.out 3) | (go_at_call 18; (with_reducible refine (head_Same.calls t431 t432 _ _ t433 _ _ t436 t450 t451 _ _ t452 _ _ t455 true _ ?side1 ?side2 ?side3 ?side4 ?side5 ?side6 ?side7 ?side8 A58.out).mono ?_); (case side1 => refine (Kd.R_reads' (e := 5) (base := w.heap.size) (ok := fun k_ => (((((some k_ ≠ (.slice Ao62 t415.length co62 : Value).ownBlock ∧ (some k_ ≠ (.slice Ao63 t419.length co63 : Value).ownBlock ∧ (some k_ ≠ (.slice Ao67 y428.length co67 : Value).ownBlock ∧ (some k_ ≠ (.slice Ao74 t436.length co74 : Value).ownBlock ∧ some k_ ≠ (v440 : Value).ownBlock)))) ∧ some k_ ≠ (.slice Ao77 y447.length co77 : Value).ownBlock) ∧ some k_ ≠ (.slice Ao84 t452.length co84 : Value).ownBlock) ∧ some k_ ≠ (.slice Ao85 t455.length co85 : Value).ownBlock) ∧ some k_ ≠ (v459 : Value).ownBlock)) (n := t433.length) (c := co73) ?_).2.2; exact (by (with_reducible repeat (first | apply Kd.R_alloc | apply Kd.R_drewN | apply Kd.R_drew)); exact (Kd.R_mono (Kd.R_far (p := ⟨gb462, 3, none⟩) (Kd.R_far (p := ⟨gb462, 2, none⟩) (Kd.R_far (p := ⟨gb462, 1, none⟩) (Kd.R_far (p := ⟨gb462, 0, none⟩) (Kd.R_types HO435.out BK462.out (by decide)) (fun _ hk => hk.2) (.int .u8 t450)) (fun _ hk => hk.2) (.int .u32 t451)) (fun _ hk => hk.2) (.slice Ao84 t452.length co84)) (fun _ hk => hk.2) (.slice Ao85 t455.length co85)) (fun _ h_ => h_.1)))); (case side2 => exact (Kd.R_reads' HO435.out).2.1); (case side3 => refine (Kd.R_reads' (e := 5) (base := w.heap.size) (ok := fun k_ => (((((some k_ ≠ (.slice Ao62 t415.length co62 : Value).ownBlock ∧ (some k_ ≠ (.slice Ao63 t419.length co63 : Value).ownBlock ∧ (some k_ ≠ (.slice Ao67 y428.length co67 : Value).ownBlock ∧ (some k_ ≠ (.slice Ao73 t433.length co73 : Value).ownBlock ∧ some k_ ≠ (v440 : Value).ownBlock)))) ∧ some k_ ≠ (.slice Ao77 y447.length co77 : Value).ownBlock) ∧ some k_ ≠ (.slice Ao84 t452.length co84 : Value).ownBlock) ∧ some k_ ≠ (.slice Ao85 t455.length co85 : Value).ownBlock) ∧ some k_ ≠ (v459 : Value).ownBlock)) (n := t436.length) (c := co74) ?_).2.2; exact (by (with_reducible repeat (first | apply Kd.R_alloc | apply Kd.R_drewN | apply Kd.R_drew)); exact (Kd.R_mono (Kd.R_far (p := ⟨gb462, 3, none⟩) (Kd.R_far (p := ⟨gb462, 2, none⟩) (Kd.R_far (p := ⟨gb462, 1, none⟩) (Kd.R_far (p := ⟨gb462, 0, none⟩) (Kd.R_types HO438.out BK462.out (by decide)) (fun _ hk => hk.2) (.int .u8 t450)) (fun _ hk => hk.2) (.int .u32 t451)) (fun _ hk => hk.2) (.slice Ao84 t452.length co84)) (fun _ hk => hk.2) (.slice Ao85 t455.length co85)) (fun _ h_ => h_.1)))); (case side4 => exact (Kd.R_reads' HO438.out).2.1); (case side5 => refine (Kd.R_reads' (e := 5) (base := w.heap.size) (ok := fun k_ => ((((((((some k_ ≠ (.slice Ao85 t455.length co85 : Value).ownBlock ∧ some k_ ≠ (v459 : Value).ownBlock) ∧ some k_ ≠ (.slice Ao62 t415.length co62 : Value).ownBlock) ∧ some k_ ≠ (.slice Ao63 t419.length co63 : Value).ownBlock) ∧ some k_ ≠ (.slice Ao67 y428.length co67 : Value).ownBlock) ∧ some k_ ≠ (.slice Ao73 t433.length co73 : Value).ownBlock) ∧ some k_ ≠ (.slice Ao74 t436.length co74 : Value).ownBlock) ∧ some k_ ≠ (v440 : Value).ownBlock) ∧ some k_ ≠ (.slice Ao77 y447.length co77 : Value).ownBlock)) (n := t452.length) (c := co84) ?_).2.2; exact (by (with_reducible repeat (first | apply Kd.R_alloc | apply Kd.R_drewN | apply Kd.R_drew)); exact (Kd.R_mono (Kd.R_far (p := ⟨gb462, 3, none⟩) (Kd.R_far (p := ⟨gb462, 2, none⟩) (Kd.R_far (p := ⟨gb462, 1, none⟩) (Kd.R_far (p := ⟨gb462, 0, none⟩) (Kd.R_types HO454.out BK462.out (by decide)) (fun _ hk => hk.2) (.int .u8 t450)) (fun _ hk => hk.2) (.int .u32 t451)) (fun _ hk => hk.2) (.slice Ao84 t452.length co84)) (fun _ hk => hk.2) (.slice Ao85 t455.length co85)) (fun _ h_ => h_.1)))); (case side6 => exact (Kd.R_reads' HO454.out).2.1); (case side7 => refine (Kd.R_reads' (e := 5) (base := w.heap.size) (ok := fun k_ => ((((((((some k_ ≠ (.slice Ao84 t452.length co84 : Value).ownBlock ∧ some k_ ≠ (v459 : Value).ownBlock) ∧ some k_ ≠ (.slice Ao62 t415.length co62 : Value).ownBlock) ∧ some k_ ≠ (.slice Ao63 t419.length co63 : Value).ownBlock) ∧ some k_ ≠ (.slice Ao67 y428.length co67 : Value).ownBlock) ∧ some k_ ≠ (.slice Ao73 t433.length co73 : Value).ownBlock) ∧ some k_ ≠ (.slice Ao74 t436.length co74 : Value).ownBlock) ∧ some k_ ≠ (v440 : Value).ownBlock) ∧ some k_ ≠ (.slice Ao77 y447.length co77 : Value).ownBlock)) (n := t455.length) (c := co85) ?_).2.2; exact (by (with_reducible repeat (first | apply Kd.R_alloc | apply Kd.R_drewN | apply Kd.R_drew)); exact (Kd.R_mono (Kd.R_far (p := ⟨gb462, 3, none⟩) (Kd.R_far (p := ⟨gb462, 2, none⟩) (Kd.R_far (p := ⟨gb462, 1, none⟩) (Kd.R_far (p := ⟨gb462, 0, none⟩) (Kd.R_types HO457.out BK462.out (by decide)) (fun _ hk => hk.2) (.int .u8 t450)) (fun _ hk => hk.2) (.int .u32 t451)) (fun _ hk => hk.2) (.slice Ao84 t452.length co84)) (fun _ hk => hk.2) (.slice Ao85 t455.length co85)) (fun _ h_ => h_.1)))); (case side8 => exact (Kd.R_reads' HO457.out).2.1); rintro e w87 ⟨rfl, hb⟩; have n0_ := Aside0.mk (Kd.R_below (by (with_reducible repeat (first | apply Kd.R_alloc | apply Kd.R_drewN | apply Kd.R_drew)); exact (Kd.R_mono (Kd.R_far (p := ⟨gb462, 3, none⟩) (Kd.R_far (p := ⟨gb462, 2, none⟩) (Kd.R_far (p := ⟨gb462, 1, none⟩) (Kd.R_far (p := ⟨gb462, 0, none⟩) (Kd.R_types HO_9.out BK462.out (by decide)) (fun _ hk => hk.2) (.int .u8 t450)) (fun _ hk => hk.2) (.int .u32 t451)) (fun _ hk => hk.2) (.slice Ao84 t452.length co84)) (fun _ hk => hk.2) (.slice Ao85 t455.length co85)) (fun _ h_ => h_.1))) hb); have n1_ := Aside0.mk (Kd.R_below (by (with_reducible repeat (first | apply Kd.R_alloc | apply Kd.R_drewN | apply Kd.R_drew)); exact (Kd.R_mono (Kd.R_far (p := ⟨gb462, 3, none⟩) (Kd.R_far (p := ⟨gb462, 2, none⟩) (Kd.R_far (p := ⟨gb462, 1, none⟩) (Kd.R_far (p := ⟨gb462, 0, none⟩) (Kd.R_types HO_11.out BK462.out (by decide)) (fun _ hk => hk.2) (.int .u8 t450)) (fun _ hk => hk.2) (.int .u32 t451)) (fun _ hk => hk.2) (.slice Ao84 t452.length co84)) (fun _ hk => hk.2) (.slice Ao85 t455.length co85)) (fun _ h_ => h_.1))) hb); have n2_ := Aside0.mk (Kd.R_below (by (with_reducible repeat (first | apply Kd.R_alloc | apply Kd.R_drewN | apply Kd.R_drew)); exact (Kd.R_mono (Kd.R_far (p := ⟨gb462, 3, none⟩) (Kd.R_far (p := ⟨gb462, 2, none⟩) (Kd.R_far (p := ⟨gb462, 1, none⟩) (Kd.R_far (p := ⟨gb462, 0, none⟩) (Kd.R_types HO430.out BK462.out (by decide)) (fun _ hk => hk.2) (.int .u8 t450)) (fun _ hk => hk.2) (.int .u32 t451)) (fun _ hk => hk.2) (.slice Ao84 t452.length co84)) (fun _ hk => hk.2) (.slice Ao85 t455.length co85)) (fun _ h_ => h_.1))) hb); have n3_ := Aside0.mk (Kd.R_below (by (with_reducible repeat (first | apply Kd.R_alloc | apply Kd.R_drewN | apply Kd.R_drew)); exact (Kd.R_mono (Kd.R_far (p := ⟨gb462, 3, none⟩) (Kd.R_far (p := ⟨gb462, 2, none⟩) (Kd.R_far (p := ⟨gb462, 1, none⟩) (Kd.R_far (p := ⟨gb462, 0, none⟩) (Kd.R_types HO435.out BK462.out (by decide)) (fun _ hk => hk.2) (.int .u8 t450)) (fun _ hk => hk.2) (.int .u32 t451)) (fun _ hk => hk.2) (.slice Ao84 t452.length co84)) (fun _ hk => hk.2) (.slice Ao85 t455.length co85)) (fun _ h_ => h_.1))) hb); have n4_ := Aside0.mk (Kd.R_below (by (with_reducible repeat (first | apply Kd.R_alloc | apply Kd.R_drewN | apply Kd.R_drew)); exact (Kd.R_mono (Kd.R_far (p := ⟨gb462, 3, none⟩) (Kd.R_far (p := ⟨gb462, 2, none⟩) (Kd.R_far (p := ⟨gb462, 1, none⟩) (Kd.R_far (p := ⟨gb462, 0, none⟩) (Kd.R_types HO438.out BK462.out (by decide)) (fun _ hk => hk.2) (.int .u8 t450)) (fun _ hk => hk.2) (.int .u32 t451)) (fun _ hk => hk.2) (.slice Ao84 t452.length co84)) (fun _ hk => hk.2) (.slice Ao85 t455.length co85)) (fun _ h_ => h_.1))) hb); have n5_ := Aside0.mk (Kd.R_below (by (with_reducible repeat (first | apply Kd.R_alloc | apply Kd.R_drewN | apply Kd.R_drew)); exact (Kd.R_mono (Kd.R_far (p := ⟨gb462, 3, none⟩) (Kd.R_far (p := ⟨gb462, 2, none⟩) (Kd.R_far (p := ⟨gb462, 1, none⟩) (Kd.R_far (p := ⟨gb462, 0, none⟩) (Kd.R_types HO441.out BK462.out (by decide)) (fun _ hk => hk.2) (.int .u8 t450)) (fun _ hk => hk.2) (.int .u32 t451)) (fun _ hk => hk.2) (.slice Ao84 t452.length co84)) (fun _ hk => hk.2) (.slice Ao85 t455.length co85)) (fun _ h_ => h_.1))) hb); have n6_ := Aside0.mk (Kd.R_below (by (with_reducible repeat (first | apply Kd.R_alloc | apply Kd.R_drewN | apply Kd.R_drew)); exact (Kd.R_mono (Kd.R_far (p := ⟨gb462, 3, none⟩) (Kd.R_far (p := ⟨gb462, 2, none⟩) (Kd.R_far (p := ⟨gb462, 1, none⟩) (Kd.R_far (p := ⟨gb462, 0, none⟩) (Kd.R_types HO449.out BK462.out (by decide)) (fun _ hk => hk.2) (.int .u8 t450)) (fun _ hk => hk.2) (.int .u32 t451)) (fun _ hk => hk.2) (.slice Ao84 t452.length co84)) (fun _ hk => hk.2) (.slice Ao85 t455.length co85)) (fun _ h_ => h_.1))) hb); have n7_ := Aside0.mk (Kd.R_below (by (with_reducible repeat (first | apply Kd.R_alloc | apply Kd.R_drewN | apply Kd.R_drew)); exact (Kd.R_mono (Kd.R_far (p := ⟨gb462, 3, none⟩) (Kd.R_far (p := ⟨gb462, 2, none⟩) (Kd.R_far (p := ⟨gb462, 1, none⟩) (Kd.R_far (p := ⟨gb462, 0, none⟩) (Kd.R_types HO454.out BK462.out (by decide)) (fun _ hk => hk.2) (.int .u8 t450)) (fun _ hk => hk.2) (.int .u32 t451)) (fun _ hk => hk.2) (.slice Ao84 t452.length co84)) (fun _ hk => hk.2) (.slice Ao85 t455.length co85)) (fun _ h_ => h_.1))) hb); have n8_ := Aside0.mk (Kd.R_below (by (with_reducible repeat (first | apply Kd.R_alloc | apply Kd.R_drewN | apply Kd.R_drew)); exact (Kd.R_mono (Kd.R_far (p := ⟨gb462, 3, none⟩) (Kd.R_far (p := ⟨gb462, 2, none⟩) (Kd.R_far (p := ⟨gb462, 1, none⟩) (Kd.R_far (p := ⟨gb462, 0, none⟩) (Kd.R_types HO457.out BK462.out (by decide)) (fun _ hk => hk.2) (.int .u8 t450)) (fun _ hk => hk.2) (.int .u32 t451)) (fun _ hk => hk.2) (.slice Ao84 t452.length co84)) (fun _ hk => hk.2) (.slice Ao85 t455.length co85)) (fun _ h_ => h_.1))) hb); have n9_ := Aside0.mk (Kd.R_below (by (with_reducible repeat (first | apply Kd.R_alloc | apply Kd.R_drewN | apply Kd.R_drew)); exact (Kd.R_mono (Kd.R_far (p := ⟨gb462, 3, none⟩) (Kd.R_far (p := ⟨gb462, 2, none⟩) (Kd.R_far (p := ⟨gb462, 1, none⟩) (Kd.R_far (p := ⟨gb462, 0, none⟩) (Kd.R_types HO460.out BK462.out (by decide)) (fun _ hk => hk.2) (.int .u8 t450)) (fun _ hk => hk.2) (.int .u32 t451)) (fun _ hk => hk.2) (.slice Ao84 t452.length co84)) (fun _ hk => hk.2) (.slice Ao85 t455.length co85)) (fun _ h_ => h_.1))) hb); have n10_ := Aside0.mk (blk_below (g := gb412) (o := .cells #[.int .u8 a0_0, .int .u32 a0_1, .slice A0_2 l0_2.length c0_2, .slice A0_3 l0_3.length c0_3] 27 (0, 0)) (by (with_reducible repeat (first | refine blk_drewN ?_ _ | refine blk_drew ?_ | refine blk_alloc ?_ _)); refine blk_far ?_ NB412_462.out _; (with_reducible repeat (first | refine blk_drewN ?_ _ | refine blk_drew ?_ | refine blk_alloc ?_ _)); refine blk_far ?_ NB412_462.out _; (with_reducible repeat (first | refine blk_drewN ?_ _ | refine blk_drew ?_ | refine blk_alloc ?_ _)); refine blk_far ?_ NB412_462.out _; (with_reducible repeat (first | refine blk_drewN ?_ _ | refine blk_drew ?_ | refine blk_alloc ?_ _)); refine blk_far ?_ NB412_462.out _; (with_reducible repeat (first | refine blk_drewN ?_ _ | refine blk_drew ?_ | refine blk_alloc ?_ _)); exact BK412.out) hb); have n11_ := Aside0.mk (blk_below (g := gb413) (o := .cells #[.int .u8 a1_0, .int .u32 a1_1, .slice A1_2 l1_2.length c1_2, .slice A1_3 l1_3.length c1_3] 27 (0, 0)) (by (with_reducible repeat (first | refine blk_drewN ?_ _ | refine blk_drew ?_ | refine blk_alloc ?_ _)); refine blk_far ?_ NB413_462.out _; (with_reducible repeat (first | refine blk_drewN ?_ _ | refine blk_drew ?_ | refine blk_alloc ?_ _)); refine blk_far ?_ NB413_462.out _; (with_reducible repeat (first | refine blk_drewN ?_ _ | refine blk_drew ?_ | refine blk_alloc ?_ _)); refine blk_far ?_ NB413_462.out _; (with_reducible repeat (first | refine blk_drewN ?_ _ | refine blk_drew ?_ | refine blk_alloc ?_ _)); refine blk_far ?_ NB413_462.out _; (with_reducible repeat (first | refine blk_drewN ?_ _ | refine blk_drew ?_ | refine blk_alloc ?_ _)); exact BK413.out) hb); have n12_ := Aside0.mk (blk_below (g := gb443) (o := .cells #[.int .u8 t431, .int .u32 t432, .slice Ao73 t433.length co73, .slice Ao74 t436.length co74] 27 (0, 0)) (by (with_reducible repeat (first | refine blk_drewN ?_ _ | refine blk_drew ?_ | refine blk_alloc ?_ _)); refine blk_far ?_ NB443_462.out _; (with_reducible repeat (first | refine blk_drewN ?_ _ | refine blk_drew ?_ | refine blk_alloc ?_ _)); refine blk_far ?_ NB443_462.out _; (with_reducible repeat (first | refine blk_drewN ?_ _ | refine blk_drew ?_ | refine blk_alloc ?_ _)); refine blk_far ?_ NB443_462.out _; (with_reducible repeat (first | refine blk_drewN ?_ _ | refine blk_drew ?_ | refine blk_alloc ?_ _)); refine blk_far ?_ NB443_462.out _; (with_reducible repeat (first | refine blk_drewN ?_ _ | refine blk_drew ?_ | refine blk_alloc ?_ _)); exact BK443.out) hb); have n13_ := Aside0.mk (blk_below (g := gb462) (o := .cells #[.int .u8 t450, .int .u32 t451, .slice Ao84 t452.length co84, .slice Ao85 t455.length co85] 27 (0, 0)) (by (with_reducible repeat (first | refine blk_drewN ?_ _ | refine blk_drew ?_ | refine blk_alloc ?_ _)); refine blk_put (cs := #[.int .u8 t450, .int .u32 t451, .slice Ao84 t452.length co84, .slice none 0 0]) ?_ 3 _ rfl; (with_reducible repeat (first | refine blk_drewN ?_ _ | refine blk_drew ?_ | refine blk_alloc ?_ _)); refine blk_put (cs := #[.int .u8 t450, .int .u32 t451, .slice none 0 0, .slice none 0 0]) ?_ 2 _ rfl; (with_reducible repeat (first | refine blk_drewN ?_ _ | refine blk_drew ?_ | refine blk_alloc ?_ _)); refine blk_put (cs := #[.int .u8 t450, .int .u32 0, .slice none 0 0, .slice none 0 0]) ?_ 1 _ rfl; (with_reducible repeat (first | refine blk_drewN ?_ _ | refine blk_drew ?_ | refine blk_alloc ?_ _)); refine blk_put (cs := #[.int .u8 0, .int .u32 0, .slice none 0 0, .slice none 0 0]) ?_ 0 _ rfl; (with_reducible repeat (first | refine blk_drewN ?_ _ | refine blk_drew ?_ | refine blk_alloc ?_ _)); exact BK462.out) hb); have n14_ := Aside0.mk (below_step (by repeat (first | (with_reducible first | exact HB.out | apply below_alloc | apply pw_below_drewN | apply below_drew1 | refine below_set ?_ GE412.out | refine below_set ?_ GE413.out | refine below_set ?_ GE443.out | refine below_set ?_ GE462.out) | exact HB.out)) hb); clear HO_9; clear HO_11; clear HO430; clear HO435; clear HO438; clear HO441; clear HO449; clear HO454; clear HO457; clear HO460; clear BK412; clear BK413; clear BK443; clear BK462; clear HB; have HO_9 := n0_; have HO_11 := n1_; have HO430 := n2_; have HO435 := n3_; have HO438 := n4_; have HO441 := n5_; have HO449 := n6_; have HO454 := n7_; have HO457 := n8_; have HO460 := n9_; have BK412 := n10_; have BK413 := n11_; have BK443 := n12_; have BK462 := n13_; have HB := n14_; clear n0_ n1_ n2_ n3_ n4_ n5_ n6_ n7_ n8_ n9_ n10_ n11_ n12_ n13_ n14_; (try clear hb); (try clear hb2); (try clear hk); (try clear hi); obtain ⟨Ao88, co88, eo88⟩ := Kd.R_slice HO441.out; subst eo88; obtain ⟨Ao89, co89, eo89⟩ := Kd.R_slice HO460.out; subst eo89))
                              go_ret
                              exact ⟨by first | rfl | (simp [errW_none, errW_some] <;> rfl) | (simp [*, errW_none, errW_some] <;> rfl), by repeat (first | (with_reducible first | exact HB.out | apply below_alloc | apply pw_below_drewN | apply below_drew1 | refine below_set ?_ GE412.out | refine below_set ?_ GE413.out | refine below_set ?_ GE443.out | refine below_set ?_ GE462.out) | exact HB.out)⟩
                            · rw [if_neg c60] at H
                              exact absurd H (by simp)
                          · replace c59 := Bool.eq_false_iff.mpr c59
                            subst c59
                            have H1 : (none) = some r := by rw [if_neg (show ¬ (false = true) by decide)] at H; exact H
                            clear H
                            have H := H1
                            clear H1
                            exact absurd H (by simp)
                        · rw [if_neg c57] at H
                          exact absurd H (by simp)
                      · rw [if_neg c56] at H
                        exact absurd H (by simp)
                    · rw [if_neg c54] at H
                      exact absurd H (by simp)
                  · rw [if_neg c51] at H
                    exact absurd H (by simp)
  · replace c6 := Bool.eq_false_iff.mpr c6
    subst c6
    have H1 : (none) = some r := by rw [if_neg (show ¬ (false = true) by decide)] at H; exact H
    clear H
    have H := H1
    clear H1
    exact absurd H (by simp)

/-- The one pure statement of crosswaylaw10_HeadApart. -/
def crosswaylaw10_HeadApart.Pure : Prop := ∀ (a0_0 : Int) (a0_1 : Int) (l0_2 : List Int) (l0_3 : List Int) (a1_0 : Int) (a1_1 : Int) (l1_2 : List Int) (l1_3 : List Int) (l2 : List Int) (l3 : List Int), (Lit.int .u8 a0_0).wf = true → (Lit.int .u32 a0_1).wf = true → l0_2.length ≤ maxLen → (∀ x ∈ l0_2, (Lit.int .u8 x).wf = true) → l0_3.length ≤ maxLen → (∀ x ∈ l0_3, (Lit.int .u8 x).wf = true) → (Lit.int .u8 a1_0).wf = true → (Lit.int .u32 a1_1).wf = true → l1_2.length ≤ maxLen → (∀ x ∈ l1_2, (Lit.int .u8 x).wf = true) → l1_3.length ≤ maxLen → (∀ x ∈ l1_3, (Lit.int .u8 x).wf = true) → l2.length ≤ maxLen → (∀ x ∈ l2, (Lit.int .u8 x).wf = true) → l3.length ≤ maxLen → (∀ x ∈ l3, (Lit.int .u8 x).wf = true) → ∃ k, crosswaylaw10_HeadApart.f k a0_0 a0_1 l0_2 l0_3 a1_0 a1_1 l1_2 l1_3 l2 l3 = some true

end Go.Proofs.Ytnmhnihhlakinaa.M
