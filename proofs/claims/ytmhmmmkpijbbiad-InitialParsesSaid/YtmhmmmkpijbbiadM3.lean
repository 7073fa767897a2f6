/- Contracts of the Go functions that the laws reach, each as a plain Lean function: written by xprint.py, a program of this repo. -/
import Derived.Test.YtmhmmmkpijbbiadM0
import Derived.Test.YtmhmmmkpijbbiadM1
import Derived.Test.YtmhmmmkpijbbiadM2
namespace Go.Proofs.Ytmhmmmkpijbbiad.M
open Go.RowKit Go.Proofs.YtmhmmmkpijbbiadW.PrintWords Go.Proofs.YtmhmmmkpijbbiadW.PrintLast Go.Proofs.YtmhmmmkpijbbiadW.PrintMore Go.Proofs.Ytmhmmmkpijbbiad.X
attribute [local go_sem] max2_int min2_int max_two min_two max_three min_three max_four min_four   -- for this text's walks alone
set_option linter.unusedVariables false
set_option linter.unusedSimpArgs false

open Kd
/-! ### initial_check: function 19 -/
def initial_check.j0 : Nat → Bool → Int → Int → List Int → List Int → Option (Int)
 | 0, _, _, _, _, _ => none
 | k + 1, x3, x110000, x110001, x110002, x110003 => if x3 = true then (some 14) else (if (mx (x110002.length : Int) (x110003.length : Int)) > 20 then (some 15) else (some 0))
def initial_check.f (k : Nat) (a0_0 : Int) (a0_1 : Int) (l0_2 : List Int) (l0_3 : List Int) : Option (Int) := (head_Long.f (([a0_0] : List Int))).bind fun t113 => (if t113 = true then (if a0_1 = 1 then ((initial_Type.f a0_0).bind fun t114 => (initial_check.j0 k (t114 != 0) a0_0 a0_1 l0_2 l0_3)) else (initial_check.j0 k true a0_0 a0_1 l0_2 l0_3)) else (initial_check.j0 k true a0_0 a0_1 l0_2 l0_3))
theorem initial_check.mono_l : ∀ k, (∀ y0 y1 y2 y3 y4, LeO (initial_check.j0 k y0 y1 y2 y3 y4) (initial_check.j0 (k + 1) y0 y1 y2 y3 y4))
 | 0 => fun _ _ _ _ _ r h => by simp [initial_check.j0] at h
 | k + 1 => by
  have ih0 := initial_check.mono_l k
  ·intro y0 y1 y2 y3 y4
   unfold initial_check.j0
   repeat' first
   | (with_reducible exact ih0 _ _ _ _ _)
   | (with_reducible exact LeO.refl _)
   | (with_reducible exact LeO.none _)
   | (with_reducible refine LeO.ite ?_ ?_)
   | (with_reducible refine LeO.bind ?_ (fun _ => ?_))
   | exact ih0 _ _ _ _ _
   | exact LeO.none _
   | refine LeO.ite ?_ ?_
   | refine LeO.bind ?_ (fun _ => ?_)
theorem initial_check.mono : ∀ a0 a1 a2 a3 k, LeO (initial_check.f k a0 a1 a2 a3) (initial_check.f (k + 1) a0 a1 a2 a3) := by
 intro a0 a1 a2 a3 k
 have ih0 := initial_check.mono_l k
 unfold initial_check.f
 repeat' first
   | (with_reducible exact ih0 _ _ _ _ _)
   | (with_reducible exact LeO.refl _)
   | (with_reducible exact LeO.none _)
   | (with_reducible refine LeO.ite ?_ ?_)
   | (with_reducible refine LeO.bind ?_ (fun _ => ?_))
   | exact ih0 _ _ _ _ _
   | exact LeO.none _
   | refine LeO.ite ?_ ?_
   | refine LeO.bind ?_ (fun _ => ?_)
set_option maxHeartbeats 8000000 in
set_option maxRecDepth 100000 in
theorem initial_check.calls (k : Nat) (a0_0 : Int) (a0_1 : Int) (A0_2 : Option Addr) (c0_2 : Nat) (l0_2 : List Int) (A0_3 : Option Addr) (c0_3 : Nat) (l0_3 : List Int) (r : Int) (w : World) (hr0_2 : Kd.C (Kd.int .u8) w A0_2 l0_2.length l0_2) (hc0_2 : l0_2.length ≤ c0_2) (hr0_3 : Kd.C (Kd.int .u8) w A0_3 l0_3.length l0_3) (hc0_3 : l0_3.length ≤ c0_3) (h : initial_check.f k a0_0 a0_1 l0_2 l0_3 = some r) :
  Calls Try.prog 19 #[.agg #[.int .u8 a0_0, .int .u32 a0_1, .slice A0_2 l0_2.length c0_2, .slice A0_3 l0_3.length c0_3]] w fun e w' => e = .returned (.int .i64 r) ∧ Below w.heap.size w w' := by
 have hu27 := Try.underlying27
 have HR0_2 := Aside0.mk hr0_2
 have HC0_2 := Aside0.mk hc0_2
 clear hr0_2 hc0_2
 have HR0_3 := Aside0.mk hr0_3
 have HC0_3 := Aside0.mk hc0_3
 clear hr0_3 hc0_3
 have HB := Aside0.mk (Below.refl w.heap.size w)
 have H : ((head_Long.f (([a0_0] : List Int))).bind fun t113 => (if t113 = true then (if a0_1 = 1 then ((initial_Type.f a0_0).bind fun t114 => (initial_check.j0 k (t114 != 0) a0_0 a0_1 l0_2 l0_3)) else (initial_check.j0 k true a0_0 a0_1 l0_2 l0_3)) else (initial_check.j0 k true a0_0 a0_1 l0_2 l0_3))) = some r := h
 clear h
 have HC2 := Aside0.mk H
 clear H
 go_enter Try.func19, Try.ntmps19
 go_upto_region 1 with (first | ((with_reducible refine gate_dst (N := 1) rfl ?_); refine box_event ?hg (N := 1) ?hd (cs := #[.int .u8 a0_0, .int .u32 a0_1, .slice A0_2 l0_2.length c0_2, .slice A0_3 l0_3.length c0_3]) (t := 27) ?hr ?_; (case hd => rfl); (case hg => rfl); (case hr => first | (go_simp; done) | (go_simp; rfl)); intro gb109 hg w3 hbox hb; have n0_ := Aside0.mk (below_step (by repeat (first | (with_reducible first | exact HB.out | apply below_alloc | apply pw_below_drewN | apply below_drew1) | exact HB.out)) hb); have n1_ := Aside0.mk (hbox); have n2_ := Aside0.mk trivial; have n3_ := Aside0.mk ((by rw [hg]; exact (below_size (by repeat (first | (with_reducible first | exact HB.out | apply below_alloc | apply pw_below_drewN | apply below_drew1) | exact HB.out))) : w.heap.size ≤ gb109)); clear HB; have HB := n0_; have BK109 := n1_; have GW109 := n2_; have GE109 := n3_; clear n0_ n1_ n2_ n3_; clear hb hbox hg))
 (try simp only [Act.put, sA, sB, sC])
 go_cut [3] (fun v3 wc => ∃ (kq : Nat) (x3_1 : Bool), v3 = .bool x3_1 ∧ Aside0 (initial_check.j0 kq x3_1 a0_0 a0_1 l0_2 l0_3 = some r) ∧ Aside0 (kq ≤ k) ∧ Aside0 (wc.heap[gb109]? = some (.cells #[.int .u8 a0_0, .int .u32 a0_1, (.slice A0_2 l0_2.length c0_2), (.slice A0_3 l0_3.length c0_3)] 27 (0, 0))) ∧ Aside0 (Below w.heap.size w wc))
 case first =>
  have H := HC2.out
  clear HC2
  obtain ⟨y110, hy110⟩ : ∃ y_ : List Int, y_ = (([a0_0] : List Int)) := ⟨_, rfl⟩
  replace H : ((head_Long.f y110).bind fun t113 => (if t113 = true then (if a0_1 = 1 then ((initial_Type.f a0_0).bind fun t114 => (initial_check.j0 k (t114 != 0) a0_0 a0_1 l0_2 l0_3)) else (initial_check.j0 k true a0_0 a0_1 l0_2 l0_3)) else (initial_check.j0 k true a0_0 a0_1 l0_2 l0_3))) = some r := by first | (rw [hy110]; with_reducible exact H) | (have H2_ := (Option.bind_some _ _).symm.trans H; rw [hy110]; with_reducible exact H2_) | (have H2_ := (Option.bind_some _ _).symm.trans H; with_reducible exact H2_) | with_reducible exact H | (rw [hy110]; exact H) | exact H
  have Ny110 := Aside0.mk hy110
  clear hy110
  replace H := Option.bind_eq_some_iff.mp H
  obtain ⟨t113, A40, H⟩ := H
  try dsimp only at H
  have A4 := Aside0.mk A40
  clear A40
  by_cases c5 : t113 = true
  ·subst c5
   have H1 : (if a0_1 = 1 then ((initial_Type.f a0_0).bind fun t114 => (initial_check.j0 k (t114 != 0) a0_0 a0_1 l0_2 l0_3)) else (initial_check.j0 k true a0_0 a0_1 l0_2 l0_3)) = some r := by rw [if_pos rfl] at H; exact H
   clear H
   have H := H1
   clear H1
   by_cases c6 : a0_1 = 1
   ·rw [if_pos c6] at H
    have c6b0 : (a0_1 == 1) = true := beq_iff_eq.mpr c6
    have c6b1 : (a0_1 != 1) = false := bne_eq_false_iff_eq.mpr c6
    clear c6
    (first | rw [c6b0] | (simp only [i64_w, i32_w]; rw [c6b0]) | skip)
    replace H := Option.bind_eq_some_iff.mp H
    obtain ⟨t114, A70, H⟩ := H
    try dsimp only at H
    have A7 := Aside0.mk A70
    clear A70
    have H' := Aside0.mk H
    clear H
    have hcz8_0 : w3.cell? ⟨gb109, 0, none⟩ = some (.int .u8 a0_0) := (blk_cell BK109.out 0).trans rfl
    have hcz8_1 : w3.cell? ⟨gb109, 1, none⟩ = some (.int .u32 a0_1) := (blk_cell BK109.out 1).trans rfl
    have hcz8_2 : w3.cell? ⟨gb109, 2, none⟩ = some (.slice A0_2 l0_2.length c0_2) := (blk_cell BK109.out 2).trans rfl
    have hcz8_3 : w3.cell? ⟨gb109, 3, none⟩ = some (.slice A0_3 l0_3.length c0_3) := (blk_cell BK109.out 3).trans rfl
    have hfz8_0 := blk_frozen BK109.out 0
    have hfz8_1 := blk_frozen BK109.out 1
    have hfz8_2 := blk_frozen BK109.out 2
    have hfz8_3 := blk_frozen BK109.out 3
    go_wp2_with (first | ((with_reducible refine gate_dst (N := 6) rfl ?_); refine R_lit (Kd.int .u8) _ 5 ?hg (N := 6) ?hd (xs := ([a0_0] : List Int)) (inner := [.int .u8 a0_0]) (ok := fun _ => True) (okp := fun _ => True) ?hr ?hp (fun _ hk => hk) trivial (Below.refl _ _) (Nat.le_refl _) (by simp) ?_; (case hd => rfl); (case hg => rfl); (case hr => first | (go_simp; done) | (go_simp; rfl)); (case hp => exact (Reps.one (show Kd.M (Kd.int .u8) _ _ _ a0_0 [.int .u8 a0_0] from rfl) (Reps.none _ _))); intro v111 w9 ho10 hb hg_ hnew_; clear hg_ hnew_; (first | rw [← Ny110.out] at ho10 | (simp only [Int.reduceToNat] at ho10; rw [← Ny110.out] at ho10)); have n0_ := Aside0.mk (R_lower ho10 (below_size (by repeat (first | (with_reducible first | exact HB.out | apply below_alloc | apply pw_below_drewN | apply below_drew1 | refine below_set ?_ GE109.out) | exact HB.out)))); have n1_ := Aside0.mk (blk_below (g := gb109) (o := .cells #[.int .u8 a0_0, .int .u32 a0_1, .slice A0_2 l0_2.length c0_2, .slice A0_3 l0_3.length c0_3] 27 (0, 0)) (by (with_reducible repeat (first | refine blk_drewN ?_ _ | refine blk_drew ?_ | refine blk_alloc ?_ _)); exact BK109.out) hb); have n2_ := Aside0.mk (below_step (by repeat (first | (with_reducible first | exact HB.out | apply below_alloc | apply pw_below_drewN | apply below_drew1 | refine below_set ?_ GE109.out) | exact HB.out)) hb); clear BK109 HB; have HO112 := n0_; have BK109 := n1_; have HB := n2_; clear n0_ n1_ n2_; clear hb ho10; obtain ⟨Ao11, co11, eo11⟩ := R_slice HO112.out; subst eo11) | ((with_reducible refine gate_callee (f := 36) rfl ?_); refine goesL_ (some 7) rfl rfl Try.func36 (by kernel_rfl) rfl #[.slice Ao11 y110.length co11] rfl (by (try simp only [List.map_toArray, List.map_cons, List.map_nil]); first | done | rfl | (simp only [List.length_drop, List.length_take]; rfl)) ?_; (with_reducible refine (head_Long.calls _ _ y110 true _ ?side1 ?side2 A4.out).mono ?_); (case side1 => repeat (first | exact (R_reads' HO112.out).2.2 | (with_reducible refine C_alloc ?_ _) | (with_reducible refine C_drewN ?_ _) | (with_reducible refine C_drew ?_))); (case side2 => exact (R_reads' HO112.out).2.1); rintro e w' ⟨rfl, ⟨nd, rfl⟩⟩; refine ⟨_, rfl, ?_⟩; have hcz12_0 : w9.cell? ⟨gb109, 0, none⟩ = some (.int .u8 a0_0) := (blk_cell BK109.out 0).trans rfl; have hcz12_1 : w9.cell? ⟨gb109, 1, none⟩ = some (.int .u32 a0_1) := (blk_cell BK109.out 1).trans rfl; have hcz12_2 : w9.cell? ⟨gb109, 2, none⟩ = some (.slice A0_2 l0_2.length c0_2) := (blk_cell BK109.out 2).trans rfl; have hcz12_3 : w9.cell? ⟨gb109, 3, none⟩ = some (.slice A0_3 l0_3.length c0_3) := (blk_cell BK109.out 3).trans rfl; have hfz12_0 := blk_frozen BK109.out 0; have hfz12_1 := blk_frozen BK109.out 1; have hfz12_2 := blk_frozen BK109.out 2; have hfz12_3 := blk_frozen BK109.out 3) | (go_at_call 12; (with_reducible refine (initial_Type.calls a0_0 t114 _ A7.out).mono ?_); rintro e w' ⟨rfl, ⟨nd, rfl⟩⟩))
    go_meet
    case rel => exact ⟨_, ((t114 != 0)), (by first | rfl | (simp; done) | (simp [*]; done) | (simp only [i64_w]; done) | (simp [i64_w]; done)), H', ⟨by first | omega | exact Nat.le_refl _⟩, ⟨by (with_reducible repeat (first | refine blk_drewN ?_ _ | refine blk_drew ?_ | refine blk_alloc ?_ _)); exact BK109.out⟩, ⟨by repeat (first | (with_reducible first | exact HB.out | apply below_alloc | apply pw_below_drewN | apply below_drew1 | refine below_set ?_ GE109.out) | exact HB.out)⟩⟩
   ·rw [if_neg c6] at H
    have c6b0 : (a0_1 == 1) = false := beq_eq_false_iff_ne.mpr c6
    have c6b1 : (a0_1 != 1) = true := bne_iff_ne.mpr c6
    (first | rw [c6b0] | (simp only [i64_w, i32_w]; rw [c6b0]) | skip)
    have H' := Aside0.mk H
    clear H
    have hcz13_0 : w3.cell? ⟨gb109, 0, none⟩ = some (.int .u8 a0_0) := (blk_cell BK109.out 0).trans rfl
    have hcz13_1 : w3.cell? ⟨gb109, 1, none⟩ = some (.int .u32 a0_1) := (blk_cell BK109.out 1).trans rfl
    have hcz13_2 : w3.cell? ⟨gb109, 2, none⟩ = some (.slice A0_2 l0_2.length c0_2) := (blk_cell BK109.out 2).trans rfl
    have hcz13_3 : w3.cell? ⟨gb109, 3, none⟩ = some (.slice A0_3 l0_3.length c0_3) := (blk_cell BK109.out 3).trans rfl
    have hfz13_0 := blk_frozen BK109.out 0
    have hfz13_1 := blk_frozen BK109.out 1
    have hfz13_2 := blk_frozen BK109.out 2
    have hfz13_3 := blk_frozen BK109.out 3
    go_wp2_with (first | ((with_reducible refine gate_dst (N := 6) rfl ?_); refine R_lit (Kd.int .u8) _ 5 ?hg (N := 6) ?hd (xs := ([a0_0] : List Int)) (inner := [.int .u8 a0_0]) (ok := fun _ => True) (okp := fun _ => True) ?hr ?hp (fun _ hk => hk) trivial (Below.refl _ _) (Nat.le_refl _) (by simp) ?_; (case hd => rfl); (case hg => rfl); (case hr => first | (go_simp; done) | (go_simp; rfl)); (case hp => exact (Reps.one (show Kd.M (Kd.int .u8) _ _ _ a0_0 [.int .u8 a0_0] from rfl) (Reps.none _ _))); intro v111 w14 ho15 hb hg_ hnew_; clear hg_ hnew_; (first | rw [← Ny110.out] at ho15 | (simp only [Int.reduceToNat] at ho15; rw [← Ny110.out] at ho15)); have n0_ := Aside0.mk (R_lower ho15 (below_size (by repeat (first | (with_reducible first | exact HB.out | apply below_alloc | apply pw_below_drewN | apply below_drew1 | refine below_set ?_ GE109.out) | exact HB.out)))); have n1_ := Aside0.mk (blk_below (g := gb109) (o := .cells #[.int .u8 a0_0, .int .u32 a0_1, .slice A0_2 l0_2.length c0_2, .slice A0_3 l0_3.length c0_3] 27 (0, 0)) (by (with_reducible repeat (first | refine blk_drewN ?_ _ | refine blk_drew ?_ | refine blk_alloc ?_ _)); exact BK109.out) hb); have n2_ := Aside0.mk (below_step (by repeat (first | (with_reducible first | exact HB.out | apply below_alloc | apply pw_below_drewN | apply below_drew1 | refine below_set ?_ GE109.out) | exact HB.out)) hb); clear BK109 HB; have HO112 := n0_; have BK109 := n1_; have HB := n2_; clear n0_ n1_ n2_; clear hb ho15; obtain ⟨Ao16, co16, eo16⟩ := R_slice HO112.out; subst eo16) | ((with_reducible refine gate_callee (f := 36) rfl ?_); refine goesL_ (some 7) rfl rfl Try.func36 (by kernel_rfl) rfl #[.slice Ao16 y110.length co16] rfl (by (try simp only [List.map_toArray, List.map_cons, List.map_nil]); first | done | rfl | (simp only [List.length_drop, List.length_take]; rfl)) ?_; (with_reducible refine (head_Long.calls _ _ y110 true _ ?side1 ?side2 A4.out).mono ?_); (case side1 => repeat (first | exact (R_reads' HO112.out).2.2 | (with_reducible refine C_alloc ?_ _) | (with_reducible refine C_drewN ?_ _) | (with_reducible refine C_drew ?_))); (case side2 => exact (R_reads' HO112.out).2.1); rintro e w' ⟨rfl, ⟨nd, rfl⟩⟩; refine ⟨_, rfl, ?_⟩; have hcz17_0 : w14.cell? ⟨gb109, 0, none⟩ = some (.int .u8 a0_0) := (blk_cell BK109.out 0).trans rfl; have hcz17_1 : w14.cell? ⟨gb109, 1, none⟩ = some (.int .u32 a0_1) := (blk_cell BK109.out 1).trans rfl; have hcz17_2 : w14.cell? ⟨gb109, 2, none⟩ = some (.slice A0_2 l0_2.length c0_2) := (blk_cell BK109.out 2).trans rfl; have hcz17_3 : w14.cell? ⟨gb109, 3, none⟩ = some (.slice A0_3 l0_3.length c0_3) := (blk_cell BK109.out 3).trans rfl; have hfz17_0 := blk_frozen BK109.out 0; have hfz17_1 := blk_frozen BK109.out 1; have hfz17_2 := blk_frozen BK109.out 2; have hfz17_3 := blk_frozen BK109.out 3))
    go_meet
    case rel => exact ⟨_, (true), (by first | rfl | (simp; done) | (simp [*]; done) | (simp only [i64_w]; done) | (simp [i64_w]; done)), H', ⟨by first | omega | exact Nat.le_refl _⟩, ⟨by (with_reducible repeat (first | refine blk_drewN ?_ _ | refine blk_drew ?_ | refine blk_alloc ?_ _)); exact BK109.out⟩, ⟨by repeat (first | (with_reducible first | exact HB.out | apply below_alloc | apply pw_below_drewN | apply below_drew1 | refine below_set ?_ GE109.out) | exact HB.out)⟩⟩
  ·replace c5 := Bool.eq_false_iff.mpr c5
   subst c5
   have H1 : (initial_check.j0 k true a0_0 a0_1 l0_2 l0_3) = some r := by rw [if_neg (show ¬ (false = true) by decide)] at H; exact H
   clear H
   have H := H1
   clear H1
   have H' := Aside0.mk H
   clear H
   have hcz18_0 : w3.cell? ⟨gb109, 0, none⟩ = some (.int .u8 a0_0) := (blk_cell BK109.out 0).trans rfl
   have hcz18_1 : w3.cell? ⟨gb109, 1, none⟩ = some (.int .u32 a0_1) := (blk_cell BK109.out 1).trans rfl
   have hcz18_2 : w3.cell? ⟨gb109, 2, none⟩ = some (.slice A0_2 l0_2.length c0_2) := (blk_cell BK109.out 2).trans rfl
   have hcz18_3 : w3.cell? ⟨gb109, 3, none⟩ = some (.slice A0_3 l0_3.length c0_3) := (blk_cell BK109.out 3).trans rfl
   have hfz18_0 := blk_frozen BK109.out 0
   have hfz18_1 := blk_frozen BK109.out 1
   have hfz18_2 := blk_frozen BK109.out 2
   have hfz18_3 := blk_frozen BK109.out 3
   go_wp2_with (first | ((with_reducible refine gate_dst (N := 6) rfl ?_); refine R_lit (Kd.int .u8) _ 5 ?hg (N := 6) ?hd (xs := ([a0_0] : List Int)) (inner := [.int .u8 a0_0]) (ok := fun _ => True) (okp := fun _ => True) ?hr ?hp (fun _ hk => hk) trivial (Below.refl _ _) (Nat.le_refl _) (by simp) ?_; (case hd => rfl); (case hg => rfl); (case hr => first | (go_simp; done) | (go_simp; rfl)); (case hp => exact (Reps.one (show Kd.M (Kd.int .u8) _ _ _ a0_0 [.int .u8 a0_0] from rfl) (Reps.none _ _))); intro v111 w19 ho20 hb hg_ hnew_; clear hg_ hnew_; (first | rw [← Ny110.out] at ho20 | (simp only [Int.reduceToNat] at ho20; rw [← Ny110.out] at ho20)); have n0_ := Aside0.mk (R_lower ho20 (below_size (by repeat (first | (with_reducible first | exact HB.out | apply below_alloc | apply pw_below_drewN | apply below_drew1 | refine below_set ?_ GE109.out) | exact HB.out)))); have n1_ := Aside0.mk (blk_below (g := gb109) (o := .cells #[.int .u8 a0_0, .int .u32 a0_1, .slice A0_2 l0_2.length c0_2, .slice A0_3 l0_3.length c0_3] 27 (0, 0)) (by (with_reducible repeat (first | refine blk_drewN ?_ _ | refine blk_drew ?_ | refine blk_alloc ?_ _)); exact BK109.out) hb); have n2_ := Aside0.mk (below_step (by repeat (first | (with_reducible first | exact HB.out | apply below_alloc | apply pw_below_drewN | apply below_drew1 | refine below_set ?_ GE109.out) | exact HB.out)) hb); clear BK109 HB; have HO112 := n0_; have BK109 := n1_; have HB := n2_; clear n0_ n1_ n2_; clear hb ho20; obtain ⟨Ao21, co21, eo21⟩ := R_slice HO112.out; subst eo21) | ((with_reducible refine gate_callee (f := 36) rfl ?_); refine goesL_ (some 7) rfl rfl Try.func36 (by kernel_rfl) rfl #[.slice Ao21 y110.length co21] rfl (by (try simp only [List.map_toArray, List.map_cons, List.map_nil]); first | done | rfl | (simp only [List.length_drop, List.length_take]; rfl)) ?_; (with_reducible refine (head_Long.calls _ _ y110 false _ ?side1 ?side2 A4.out).mono ?_); (case side1 => repeat (first | exact (R_reads' HO112.out).2.2 | (with_reducible refine C_alloc ?_ _) | (with_reducible refine C_drewN ?_ _) | (with_reducible refine C_drew ?_))); (case side2 => exact (R_reads' HO112.out).2.1); rintro e w' ⟨rfl, ⟨nd, rfl⟩⟩; refine ⟨_, rfl, ?_⟩))
   go_meet
   case rel => exact ⟨_, (true), (by first | rfl | (simp; done) | (simp [*]; done) | (simp only [i64_w]; done) | (simp [i64_w]; done)), H', ⟨by first | omega | exact Nat.le_refl _⟩, ⟨by (with_reducible repeat (first | refine blk_drewN ?_ _ | refine blk_drew ?_ | refine blk_alloc ?_ _)); exact BK109.out⟩, ⟨by repeat (first | (with_reducible first | exact HB.out | apply below_alloc | apply pw_below_drewN | apply below_drew1 | refine below_set ?_ GE109.out) | exact HB.out)⟩⟩
 case rest =>
  clear HC2
  try clear c1; try clear p2; try clear c3; try clear c5; try clear c6; try clear c6b0; try clear c6b1; try clear c19; try clear hcz12_0; try clear hcz12_1; try clear hcz12_2; try clear hcz12_3; try clear hcz13_0; try clear hcz13_1; try clear hcz13_2; try clear hcz13_3; try clear hcz17_0; try clear hcz17_1; try clear hcz17_2; try clear hcz17_3; try clear hcz18_0; try clear hcz18_1; try clear hcz18_2; try clear hcz18_3; try clear hcz8_0; try clear hcz8_1; try clear hcz8_2; try clear hcz8_3; try clear hfz12_0; try clear hfz12_1; try clear hfz12_2; try clear hfz12_3; try clear hfz13_0; try clear hfz13_1; try clear hfz13_2; try clear hfz13_3; try clear hfz17_0; try clear hfz17_1; try clear hfz17_2; try clear hfz17_3; try clear hfz18_0; try clear hfz18_1; try clear hfz18_2; try clear hfz18_3; try clear hfz8_0; try clear hfz8_1; try clear hfz8_2; try clear hfz8_3
  obtain ⟨kq, x3_1, rfl, HA, HJ1, BK109, HB⟩ := hcut
  cases kq with
  | zero => exact absurd HA.out (by simp [initial_check.j0])
  | succ kj1 =>
   have H := HA.out
   clear HA
   simp only [initial_check.j0] at H
   by_cases c22 : x3_1 = true
   ·subst c22
    have H1 : (some 14) = some r := by rw [if_pos rfl] at H; exact H
    clear H
    have H := H1
    clear H1
    obtain rfl := Option.some.inj H
    go_wp2
    go_ret
    exact ⟨by first | rfl | (simp [errW_none, errW_some] <;> rfl) | (simp [*, errW_none, errW_some] <;> rfl), by repeat (first | (with_reducible first | exact HB.out | apply below_alloc | apply pw_below_drewN | apply below_drew1 | refine below_set ?_ GE109.out) | exact HB.out)⟩
   ·replace c22 := Bool.eq_false_iff.mpr c22
    subst c22
    have H1 : (if (mx (l0_2.length : Int) (l0_3.length : Int)) > 20 then (some 15) else (some 0)) = some r := by rw [if_neg (show ¬ (false = true) by decide)] at H; exact H
    clear H
    have H := H1
    clear H1
    obtain ⟨ji23, hji23⟩ : ∃ j_ : Int, (mx (l0_2.length : Int) (l0_3.length : Int)) = j_ := ⟨_, rfl⟩
    replace H : (if (ji23) > 20 then (some 15) else (some 0)) = some r := by first | (rw [hji23] at H; exact H) | (simp only [hji23] at H ⊢; exact H)
    have hji23_ : (if (l0_2.length : Int) < (l0_3.length : Int) then (l0_3.length : Int) else (l0_2.length : Int)) = ji23 := hji23
    have hji23n : (if l0_2.length < l0_3.length then (l0_3.length : Int) else (l0_2.length : Int)) = ji23 := by rw [← hji23_]; by_cases hlt_ : l0_2.length < l0_3.length; rw [if_pos hlt_, if_pos (by omega)]; rw [if_neg hlt_, if_neg (by omega)]
    by_cases c24 : (ji23) > 20
    ·rw [if_pos c24] at H
     have c24b0 : decide (20 < (ji23)) = true := decide_eq_true c24
     clear c24
     obtain rfl := Option.some.inj H
     have hcz25_0 : wc.cell? ⟨gb109, 0, none⟩ = some (.int .u8 a0_0) := (blk_cell BK109.out 0).trans rfl
     have hcz25_1 : wc.cell? ⟨gb109, 1, none⟩ = some (.int .u32 a0_1) := (blk_cell BK109.out 1).trans rfl
     have hcz25_2 : wc.cell? ⟨gb109, 2, none⟩ = some (.slice A0_2 l0_2.length c0_2) := (blk_cell BK109.out 2).trans rfl
     have hcz25_3 : wc.cell? ⟨gb109, 3, none⟩ = some (.slice A0_3 l0_3.length c0_3) := (blk_cell BK109.out 3).trans rfl
     have hfz25_0 := blk_frozen BK109.out 0
     have hfz25_1 := blk_frozen BK109.out 1
     have hfz25_2 := blk_frozen BK109.out 2
     have hfz25_3 := blk_frozen BK109.out 3
     go_wp2
     go_ret
     exact ⟨by first | rfl | (simp [errW_none, errW_some] <;> rfl) | (simp only [← hji23]; first | rfl | (simp [errW_none, errW_some] <;> rfl)) | (simp [*, errW_none, errW_some] <;> rfl), by repeat (first | (with_reducible first | exact HB.out | apply below_alloc | apply pw_below_drewN | apply below_drew1 | refine below_set ?_ GE109.out) | exact HB.out)⟩
    ·rw [if_neg c24] at H
     have c24b0 : decide (20 < (ji23)) = false := decide_eq_false c24
     clear c24
     obtain rfl := Option.some.inj H
     have hcz26_0 : wc.cell? ⟨gb109, 0, none⟩ = some (.int .u8 a0_0) := (blk_cell BK109.out 0).trans rfl
     have hcz26_1 : wc.cell? ⟨gb109, 1, none⟩ = some (.int .u32 a0_1) := (blk_cell BK109.out 1).trans rfl
     have hcz26_2 : wc.cell? ⟨gb109, 2, none⟩ = some (.slice A0_2 l0_2.length c0_2) := (blk_cell BK109.out 2).trans rfl
     have hcz26_3 : wc.cell? ⟨gb109, 3, none⟩ = some (.slice A0_3 l0_3.length c0_3) := (blk_cell BK109.out 3).trans rfl
     have hfz26_0 := blk_frozen BK109.out 0
     have hfz26_1 := blk_frozen BK109.out 1
     have hfz26_2 := blk_frozen BK109.out 2
     have hfz26_3 := blk_frozen BK109.out 3
     go_wp2
     go_ret
     exact ⟨by first | rfl | (simp [errW_none, errW_some] <;> rfl) | (simp only [← hji23]; first | rfl | (simp [errW_none, errW_some] <;> rfl)) | (simp [*, errW_none, errW_some] <;> rfl), by repeat (first | (with_reducible first | exact HB.out | apply below_alloc | apply pw_below_drewN | apply below_drew1 | refine below_set ?_ GE109.out) | exact HB.out)⟩

/-! ### vari_form_size: function 60 -/
def vari_form_size.f (a0 : Int) : Option (Int) := if 0 ≤ a0 then (some (shl .i64 1 a0)) else (none)
set_option maxHeartbeats 8000000 in
set_option maxRecDepth 100000 in
theorem vari_form_size.calls (a0 : Int) (r : Int) (w : World) (h : vari_form_size.f a0 = some r) :
    Calls Try.prog 60 #[.int .i64 a0] w fun e w' => e = .returned (.int .i64 r) ∧ Drawn0 w w' := by
  have H : (if 0 ≤ a0 then (some (shl .i64 1 a0)) else (none)) = some r := h
  clear h
  by_cases c2 : 0 ≤ a0
  · rw [if_pos c2] at H
    have c2b0 := eq_true c2
    have c2b1 : decide (0 ≤ a0) = true := decide_eq_true c2
    clear c2
    obtain ⟨ji3, hji3⟩ : ∃ j_ : Int, (shl .i64 1 a0) = j_ := ⟨_, rfl⟩
    replace H : (some ji3) = some r := by first | (rw [hji3] at H; exact H) | (simp only [hji3] at H ⊢; exact H)
    have hji3_ : (IntKind.i64.wrap (1 * 2 ^ min a0.toNat 64)) = ji3 := hji3
    have hji3z : a0 ≤ 64 → (IntKind.i64.wrap (1 * 2 ^ a0.toNat)) = ji3 := shl_small hji3
    have hji3u : (IntKind.i64.wrap (2 ^ min a0.toNat 64)) = ji3 := by have h_ := hji3_; rw [Int.one_mul] at h_; exact h_
    have hji3v : a0 ≤ 64 → (IntKind.i64.wrap (2 ^ a0.toNat)) = ji3 := fun hle_ => by have h_ := hji3z hle_; rw [Int.one_mul] at h_; exact h_
    have hji3y : (wrap64 (1 * 2 ^ min a0.toNat 64)) = ji3 := (i64_w _).symm.trans hji3_
    have hji3x : a0 ≤ 64 → (wrap64 (1 * 2 ^ a0.toNat)) = ji3 := fun h_ => (i64_w _).symm.trans (hji3z h_)
    obtain rfl := Option.some.inj H
    go_enter Try.func60, Try.ntmps60
    go_wp2
    go_ret
    exact ⟨by first | rfl | (simp; done) | (simp only [← hji3] <;> (first | rfl | simp)) | (simp [*]; done), by repeat (first | exact Drawn0.refl _ | apply Drawn0.step)⟩
  · rw [if_neg c2] at H
    exact absurd H (by simp)

/-! ### vari_form_room: function 61 -/
def vari_form_room.f (a0 : Int) : Option (Int) := (vari_form_size.f a0).bind fun t115 => (some (wrap64 ((wrap64 (8 * t115)) - 2)))
set_option maxHeartbeats 8000000 in
set_option maxRecDepth 100000 in
theorem vari_form_room.calls (a0 : Int) (r : Int) (w : World) (h : vari_form_room.f a0 = some r) :
    Calls Try.prog 61 #[.int .i64 a0] w fun e w' => e = .returned (.int .i64 r) ∧ Drawn0 w w' := by
  have H : ((vari_form_size.f a0).bind fun t115 => (some (wrap64 ((wrap64 (8 * t115)) - 2)))) = some r := h
  clear h
  replace H := Option.bind_eq_some_iff.mp H
  obtain ⟨t115, A20, H⟩ := H
  replace H : (some (wrap64 ((wrap64 (8 * t115)) - 2))) = some r := H
  have A2 := Aside0.mk A20
  clear A20
  obtain rfl := Option.some.inj H
  go_enter Try.func61, Try.ntmps61
  go_wp2_with (first | ((with_reducible refine gate_callee (f := 60) rfl ?_); refine goesL_ (some 4) rfl rfl Try.func60 (by kernel_rfl) rfl #[.int .i64 a0] rfl (by (try simp only [List.map_toArray, List.map_cons, List.map_nil]); first | done | rfl | (simp only [List.length_drop, List.length_take]; rfl)) ?_; (with_reducible refine (vari_form_size.calls a0 t115 _ A2.out).mono ?_); rintro e w' ⟨rfl, ⟨nd, rfl⟩⟩; refine ⟨_, rfl, ?_⟩))
  go_ret
  exact ⟨by first | rfl | (simp; done) | (simp [*]; done), by repeat (first | exact Drawn0.refl _ | apply Drawn0.step)⟩

open Kd
/-! ### vari_Take: function 56 -/
def vari_Take.f (k : Nat) (l0 : List Int) : Option (Int × Int × Int) := if (l0.length : Int) = 0 then (some (0, 0, 12)) else (if 0 < (l0.length : Int) then ((vari_form_size.f (wrap64 ((rd l0 0) / 64))).bind fun t117 => (if (l0.length : Int) < t117 then (some (0, 0, 12)) else (if 0 ≤ t117 then (if t117 ≤ (l0.length : Int) then ((octet_Num.f k (l0.take (t117 : Int).toNat)).bind fun bt119 => ((vari_form_room.f (wrap64 ((rd l0 0) / 64))).bind fun t121 => (if 0 ≤ t121 then (some (Go.bits .andNot .u64 bt119.1 (shl .u64 (IntKind.u64.wrap (wrap64 ((rd l0 0) / 64))) t121), t117, 0)) else (none)))) else (none)) else (none)))) else (none))
theorem vari_Take.mono : ∀ a0 k, LeO (vari_Take.f k a0) (vari_Take.f (k + 1) a0) := by
 intro a0 k
 unfold vari_Take.f
 repeat' first
   | (with_reducible exact octet_Num.mono _ _)
   | (with_reducible exact LeO.refl _)
   | (with_reducible exact LeO.none _)
   | (with_reducible refine LeO.ite ?_ ?_)
   | (with_reducible refine LeO.bind ?_ (fun _ => ?_))
   | exact octet_Num.mono _ _
   | exact LeO.none _
   | refine LeO.ite ?_ ?_
   | refine LeO.bind ?_ (fun _ => ?_)
set_option maxHeartbeats 8000000 in
set_option maxRecDepth 100000 in
theorem vari_Take.calls (k : Nat) (A0 : Option Addr) (c0 : Nat) (l0 : List Int) (r1 : Int) (r2 : Int) (r3 : Int) (w : World) (hr0 : Kd.C (Kd.int .u8) w A0 l0.length l0) (hc0 : l0.length ≤ c0) (h : vari_Take.f k l0 = some (r1, r2, r3)) :
  Calls Try.prog 56 #[.slice A0 l0.length c0] w fun e w' => e = .returned (.tuple #[.int .u64 r1, .int .i64 r2, .int .i64 r3]) ∧ Drawn0 w w' := by
 have HR0 := Aside0.mk hr0
 have HC0 := Aside0.mk hc0
 clear hr0 hc0
 have H : (if (l0.length : Int) = 0 then (some (0, 0, 12)) else (if 0 < (l0.length : Int) then ((vari_form_size.f (wrap64 ((rd l0 0) / 64))).bind fun t117 => (if (l0.length : Int) < t117 then (some (0, 0, 12)) else (if 0 ≤ t117 then (if t117 ≤ (l0.length : Int) then ((octet_Num.f k (l0.take (t117 : Int).toNat)).bind fun bt119 => ((vari_form_room.f (wrap64 ((rd l0 0) / 64))).bind fun t121 => (if 0 ≤ t121 then (some (Go.bits .andNot .u64 bt119.1 (shl .u64 (IntKind.u64.wrap (wrap64 ((rd l0 0) / 64))) t121), t117, 0)) else (none)))) else (none)) else (none)))) else (none))) = some (r1, r2, r3) := h
 clear h
 by_cases c2 : (l0.length : Int) = 0
 ·rw [if_pos c2] at H
  have c2b0 : ((l0.length : Int) == 0) = true := beq_iff_eq.mpr c2
  have c2b1 : ((l0.length : Int) != 0) = false := bne_eq_false_iff_eq.mpr c2
  clear c2
  simp only [Option.some.injEq, Prod.mk.injEq] at H
  obtain ⟨rfl, rfl, rfl⟩ := H
  go_enter Try.func56, Try.ntmps56
  go_wp2
  repeat (go_quiet (fail); try go_wp2)
  go_ret3
  exact ⟨by first | rfl | (simp; done) | (simp [*]; done), by repeat (first | exact Drawn0.refl _ | apply Drawn0.step)⟩
 ·rw [if_neg c2] at H
  have c2b0 : ((l0.length : Int) == 0) = false := beq_eq_false_iff_ne.mpr c2
  have c2b1 : ((l0.length : Int) != 0) = true := bne_iff_ne.mpr c2
  have c2b2 : ¬ (l0 = []) := fun h_ => c2 (by rw [h_]; rfl)
  by_cases c3 : 0 < (l0.length : Int)
  ·rw [if_pos c3] at H
   have c3b0 : decide (0 < (l0.length : Int)) = true := decide_eq_true c3
   have c3b1 : decide (0 < l0.length) = true := decide_eq_true (by omega)
   clear c3
   replace H := Option.bind_eq_some_iff.mp H
   obtain ⟨t117, A40, H⟩ := H
   try dsimp only at H
   have A4 := Aside0.mk A40
   clear A40
   by_cases c5 : (l0.length : Int) < t117
   ·rw [if_pos c5] at H
    have c5b0 : decide ((l0.length : Int) < t117) = true := decide_eq_true c5
    clear c5
    simp only [Option.some.injEq, Prod.mk.injEq] at H
    obtain ⟨rfl, rfl, rfl⟩ := H
    have p116 : 0 ≤ (0 : Int) := (by omega)
    have q116 : 0 < (l0.length : Int) := of_decide_eq_true (by first | (with_reducible assumption) | assumption)
    obtain ⟨ad116, e116, hx116_0⟩ := Kd.at_int HR0.out 0 p116 q116
    cases e116
    have qi116 : (0 < l0.length) = True := eq_true (by omega)
    (try rw [show ((0 : Int)).toNat = 0 from rfl] at hx116_0)
    (try rw [Addr.add_zero'] at hx116_0)
    replace p116 := eq_true p116
    replace q116 := eq_true q116
    go_enter Try.func56, Try.ntmps56
    go_wp2_with (first | (go_at_call 60; (with_reducible refine (vari_form_size.calls (wrap64 ((rd l0 0) / 64)) t117 _ A4.out).mono ?_); rintro e w' ⟨rfl, ⟨nd, rfl⟩⟩; (try first | exact ⟨rfl, _, World.drewN_drewN _ _ _⟩ | exact ⟨rfl, _, Eq.trans (World.drewN_drewN _ _ _) (congrArg (World.drewN _) (Nat.add_assoc _ _ _))⟩)))
    repeat (go_quiet (first | (go_at_call 60; (with_reducible refine (vari_form_size.calls (wrap64 ((rd l0 0) / 64)) t117 _ A4.out).mono ?_); rintro e w' ⟨rfl, ⟨nd, rfl⟩⟩; (try first | exact ⟨rfl, _, World.drewN_drewN _ _ _⟩ | exact ⟨rfl, _, Eq.trans (World.drewN_drewN _ _ _) (congrArg (World.drewN _) (Nat.add_assoc _ _ _))⟩))); try go_wp2_with (first | (go_at_call 60; (with_reducible refine (vari_form_size.calls (wrap64 ((rd l0 0) / 64)) t117 _ A4.out).mono ?_); rintro e w' ⟨rfl, ⟨nd, rfl⟩⟩; (try first | exact ⟨rfl, _, World.drewN_drewN _ _ _⟩ | exact ⟨rfl, _, Eq.trans (World.drewN_drewN _ _ _) (congrArg (World.drewN _) (Nat.add_assoc _ _ _))⟩))))
    go_ret3
    exact ⟨by first | rfl | (simp; done) | (simp [*]; done), by repeat (first | exact Drawn0.refl _ | apply Drawn0.step)⟩
   ·rw [if_neg c5] at H
    have c5b0 : decide ((l0.length : Int) < t117) = false := decide_eq_false c5
    clear c5
    by_cases c6 : 0 ≤ t117
    ·rw [if_pos c6] at H
     have c6b0 := eq_true c6
     have c6b1 : decide (0 ≤ t117) = true := decide_eq_true c6
     clear c6
     by_cases c7 : t117 ≤ (l0.length : Int)
     ·rw [if_pos c7] at H
      have c7b0 := eq_true c7
      have c7b1 : decide (t117 ≤ (l0.length : Int)) = true := decide_eq_true c7
      clear c7
      replace H := Option.bind_eq_some_iff.mp H
      obtain ⟨⟨t119, t120⟩, A80, H⟩ := H
      try dsimp only at H
      have A8 := Aside0.mk A80
      clear A80
      replace H := Option.bind_eq_some_iff.mp H
      obtain ⟨t121, A90, H⟩ := H
      try dsimp only at H
      have A9 := Aside0.mk A90
      clear A90
      by_cases c10 : 0 ≤ t121
      ·rw [if_pos c10] at H
       have c10b0 := eq_true c10
       have c10b1 : decide (0 ≤ t121) = true := decide_eq_true c10
       clear c10
       obtain ⟨ji11, hji11⟩ : ∃ j_ : Int, (shl .u64 (IntKind.u64.wrap (wrap64 ((rd l0 0) / 64))) t121) = j_ := ⟨_, rfl⟩
       replace H : (some (Go.bits .andNot .u64 t119 (ji11), t117, 0)) = some (r1, r2, r3) := by first | (rw [hji11] at H; exact H) | (simp only [hji11] at H ⊢; exact H)
       (try rw [hji11] at A4)
       (try rw [hji11] at A8)
       (try rw [hji11] at A9)
       have hji11_ : (IntKind.u64.wrap ((IntKind.u64.wrap (wrap64 ((rd l0 0) / 64))) * 2 ^ min t121.toNat 64)) = ji11 := hji11
       have hji11z : t121 ≤ 64 → (IntKind.u64.wrap ((IntKind.u64.wrap (wrap64 ((rd l0 0) / 64))) * 2 ^ t121.toNat)) = ji11 := shl_small hji11
       simp only [Option.some.injEq, Prod.mk.injEq] at H
       obtain ⟨rfl, rfl, rfl⟩ := H
       have p116 : 0 ≤ (0 : Int) := (by omega)
       have q116 : 0 < (l0.length : Int) := of_decide_eq_true (by first | (with_reducible assumption) | assumption)
       obtain ⟨ad116, e116, hx116_0⟩ := Kd.at_int HR0.out 0 p116 q116
       cases e116
       have qi116 : (0 < l0.length) = True := eq_true (by omega)
       (try rw [show ((0 : Int)).toNat = 0 from rfl] at hx116_0)
       (try rw [Addr.add_zero'] at hx116_0)
       replace p116 := eq_true p116
       replace q116 := eq_true q116
       go_enter Try.func56, Try.ntmps56
       go_wp2_with (first | (go_at_call 60; (with_reducible refine (vari_form_size.calls (wrap64 ((rd l0 0) / 64)) t117 _ A4.out).mono ?_); rintro e w' ⟨rfl, ⟨nd, rfl⟩⟩; (try first | exact ⟨rfl, _, World.drewN_drewN _ _ _⟩ | exact ⟨rfl, _, Eq.trans (World.drewN_drewN _ _ _) (congrArg (World.drewN _) (Nat.add_assoc _ _ _))⟩); obtain ⟨i012, hi012, _, hsz12, _⟩ := info_parts info5; obtain ⟨hcut12, hA12, hC12⟩ := print_take_of (P := Try.prog) (Value.int .u8) 0 22 5 .i64 Try.underlying22 hi012 hsz12 (some ad116) c0 l0 t117 (of_decide_eq_true (by first | (with_reducible assumption) | assumption)) (of_decide_eq_true (by first | (with_reducible assumption) | assumption)) HC0.out; have HR118 := Aside0.mk (C_of_reads (h1 := fun _ => rfl) (hA12 _ (Kd.reads_of_C HR0.out))); have HC118 := Aside0.mk hC12; clear hA12 hC12 hi012 hsz12) | (go_at_call 53; refine calls_of_args (args' := #[.slice (some ad116) (l0.take (t117 : Int).toNat).length c0]) (by first | rfl | (rw [show (l0.take (t117 : Int).toNat).length = t117.toNat from (by rw [List.length_take]; have h_ : (t117 : Int) ≤ (l0.length : Int) := of_decide_eq_true (by first | (with_reducible assumption) | assumption); omega)] <;> rfl) | fail) ?_; (with_reducible refine (octet_Num.calls k _ _ (l0.take (t117 : Int).toNat) t119 t120 _ ?side1 ?side2 A8.out).mono ?_); (case side1 => repeat (first | exact HR118.out | (with_reducible refine C_alloc ?_ _) | (with_reducible refine C_drewN ?_ _) | (with_reducible refine C_drew ?_))); (case side2 => exact HC118.out); rintro e w' ⟨rfl, ⟨nd, rfl⟩⟩; (try first | exact ⟨rfl, _, World.drewN_drewN _ _ _⟩ | exact ⟨rfl, _, Eq.trans (World.drewN_drewN _ _ _) (congrArg (World.drewN _) (Nat.add_assoc _ _ _))⟩)) | (go_at_call 61; (with_reducible refine (vari_form_room.calls (wrap64 ((rd l0 0) / 64)) t121 _ A9.out).mono ?_); rintro e w' ⟨rfl, ⟨nd, rfl⟩⟩; (try first | exact ⟨rfl, _, World.drewN_drewN _ _ _⟩ | exact ⟨rfl, _, Eq.trans (World.drewN_drewN _ _ _) (congrArg (World.drewN _) (Nat.add_assoc _ _ _))⟩)))
       repeat (go_quiet (first | (go_at_call 60; (with_reducible refine (vari_form_size.calls (wrap64 ((rd l0 0) / 64)) t117 _ A4.out).mono ?_); rintro e w' ⟨rfl, ⟨nd, rfl⟩⟩; (try first | exact ⟨rfl, _, World.drewN_drewN _ _ _⟩ | exact ⟨rfl, _, Eq.trans (World.drewN_drewN _ _ _) (congrArg (World.drewN _) (Nat.add_assoc _ _ _))⟩); obtain ⟨i012, hi012, _, hsz12, _⟩ := info_parts info5; obtain ⟨hcut12, hA12, hC12⟩ := print_take_of (P := Try.prog) (Value.int .u8) 0 22 5 .i64 Try.underlying22 hi012 hsz12 (some ad116) c0 l0 t117 (of_decide_eq_true (by first | (with_reducible assumption) | assumption)) (of_decide_eq_true (by first | (with_reducible assumption) | assumption)) HC0.out; have HR118 := Aside0.mk (C_of_reads (h1 := fun _ => rfl) (hA12 _ (Kd.reads_of_C HR0.out))); have HC118 := Aside0.mk hC12; clear hA12 hC12 hi012 hsz12) | (go_at_call 53; refine calls_of_args (args' := #[.slice (some ad116) (l0.take (t117 : Int).toNat).length c0]) (by first | rfl | (rw [show (l0.take (t117 : Int).toNat).length = t117.toNat from (by rw [List.length_take]; have h_ : (t117 : Int) ≤ (l0.length : Int) := of_decide_eq_true (by first | (with_reducible assumption) | assumption); omega)] <;> rfl) | fail) ?_; (with_reducible refine (octet_Num.calls k _ _ (l0.take (t117 : Int).toNat) t119 t120 _ ?side1 ?side2 A8.out).mono ?_); (case side1 => repeat (first | exact HR118.out | (with_reducible refine C_alloc ?_ _) | (with_reducible refine C_drewN ?_ _) | (with_reducible refine C_drew ?_))); (case side2 => exact HC118.out); rintro e w' ⟨rfl, ⟨nd, rfl⟩⟩; (try first | exact ⟨rfl, _, World.drewN_drewN _ _ _⟩ | exact ⟨rfl, _, Eq.trans (World.drewN_drewN _ _ _) (congrArg (World.drewN _) (Nat.add_assoc _ _ _))⟩)) | (go_at_call 61; (with_reducible refine (vari_form_room.calls (wrap64 ((rd l0 0) / 64)) t121 _ A9.out).mono ?_); rintro e w' ⟨rfl, ⟨nd, rfl⟩⟩; (try first | exact ⟨rfl, _, World.drewN_drewN _ _ _⟩ | exact ⟨rfl, _, Eq.trans (World.drewN_drewN _ _ _) (congrArg (World.drewN _) (Nat.add_assoc _ _ _))⟩))); try go_wp2_with (first | (go_at_call 60; (with_reducible refine (vari_form_size.calls (wrap64 ((rd l0 0) / 64)) t117 _ A4.out).mono ?_); rintro e w' ⟨rfl, ⟨nd, rfl⟩⟩; (try first | exact ⟨rfl, _, World.drewN_drewN _ _ _⟩ | exact ⟨rfl, _, Eq.trans (World.drewN_drewN _ _ _) (congrArg (World.drewN _) (Nat.add_assoc _ _ _))⟩); obtain ⟨i012, hi012, _, hsz12, _⟩ := info_parts info5; obtain ⟨hcut12, hA12, hC12⟩ := print_take_of (P := Try.prog) (Value.int .u8) 0 22 5 .i64 Try.underlying22 hi012 hsz12 (some ad116) c0 l0 t117 (of_decide_eq_true (by first | (with_reducible assumption) | assumption)) (of_decide_eq_true (by first | (with_reducible assumption) | assumption)) HC0.out; have HR118 := Aside0.mk (C_of_reads (h1 := fun _ => rfl) (hA12 _ (Kd.reads_of_C HR0.out))); have HC118 := Aside0.mk hC12; clear hA12 hC12 hi012 hsz12) | (go_at_call 53; refine calls_of_args (args' := #[.slice (some ad116) (l0.take (t117 : Int).toNat).length c0]) (by first | rfl | (rw [show (l0.take (t117 : Int).toNat).length = t117.toNat from (by rw [List.length_take]; have h_ : (t117 : Int) ≤ (l0.length : Int) := of_decide_eq_true (by first | (with_reducible assumption) | assumption); omega)] <;> rfl) | fail) ?_; (with_reducible refine (octet_Num.calls k _ _ (l0.take (t117 : Int).toNat) t119 t120 _ ?side1 ?side2 A8.out).mono ?_); (case side1 => repeat (first | exact HR118.out | (with_reducible refine C_alloc ?_ _) | (with_reducible refine C_drewN ?_ _) | (with_reducible refine C_drew ?_))); (case side2 => exact HC118.out); rintro e w' ⟨rfl, ⟨nd, rfl⟩⟩; (try first | exact ⟨rfl, _, World.drewN_drewN _ _ _⟩ | exact ⟨rfl, _, Eq.trans (World.drewN_drewN _ _ _) (congrArg (World.drewN _) (Nat.add_assoc _ _ _))⟩)) | (go_at_call 61; (with_reducible refine (vari_form_room.calls (wrap64 ((rd l0 0) / 64)) t121 _ A9.out).mono ?_); rintro e w' ⟨rfl, ⟨nd, rfl⟩⟩; (try first | exact ⟨rfl, _, World.drewN_drewN _ _ _⟩ | exact ⟨rfl, _, Eq.trans (World.drewN_drewN _ _ _) (congrArg (World.drewN _) (Nat.add_assoc _ _ _))⟩))))
       go_ret3
       exact ⟨by first | rfl | (simp; done) | (simp only [← hji11] <;> (first | rfl | simp)) | (simp [*]; done), by repeat (first | exact Drawn0.refl _ | apply Drawn0.step)⟩
      ·rw [if_neg c10] at H
       exact absurd H (by simp)
     ·rw [if_neg c7] at H
      exact absurd H (by simp)
    ·rw [if_neg c6] at H
     exact absurd H (by simp)
  ·rw [if_neg c3] at H
   exact absurd H (by simp)

/-! ### scan_Reader_Vari: function 40, typed by hand -/
/-- What a reader's Vari tells. -/
def rdVari (k : Nat) (e : Int) (l : List Int) : Option (Int × Int × List Int) := (vari_Take.f k l).bind fun t => if (if e = 0 then t.2.2 else e) = 0 then (if 0 ≤ t.2.1 ∧ t.2.1 ≤ (l.length : Int) then some (t.1, 0, l.drop t.2.1.toNat) else none) else some (0, if e = 0 then t.2.2 else e, l)
theorem RdAt.drewN {W : World} {g : Nat} {P : Nat → Prop} {e : Int} {l : List Int} (h : RdAt W g P e l) (n : Nat) : RdAt (W.drewN n) g P e l := h.below (pw_below_drewN (Below.refl _ W) n)
set_option maxRecDepth 100000 in
set_option maxHeartbeats 1000000 in
theorem vari_calls (k : Nat) (W : World) (g : Nat) (P : Nat → Prop) (e v e2 : Int) (l l2 : List Int) (hR : RdAt W g P e l) (hl : l.length < 140737488355328) (h : rdVari k e l = some (v, e2, l2)) :
    Calls Try.prog 40 #[.pointer (some ⟨g, 0, none⟩)] W fun en W' => en = .returned (.int .u64 v) ∧ RdAt W' g P e2 l2 ∧ W.grownBy W' (some g) := by
  obtain ⟨A, c, hb, hc, hF, hg⟩ := hR.opens
  unfold rdVari at h
  obtain ⟨⟨v0, n, et⟩, qt, h⟩ := Option.bind_eq_some_iff.1 h
  dsimp only at h
  obtain ⟨e1, he1⟩ : ∃ e1, e1 = (if e = 0 then et else e) := ⟨_, rfl⟩
  rw [← he1] at h
  have hc1 := blk_cell hb 1
  have hf1 := blk_frozen hb 1
  simp at hc1
  have HTK := Aside0.mk (vari_Take.calls k A c l v0 n et W (Kd.F_now hF) hc qt)
  have HE := Aside0.mk he1
  have HB := Aside0.mk hb
  have HF := Aside0.mk hF
  have HC := Aside0.mk hc
  have HG := Aside0.mk hg
  by_cases hz : e1 = 0
  · rw [if_pos hz] at h
    split at h
    · rename_i hn
      obtain ⟨m, rfl⟩ := Int.eq_ofNat_of_zero_le hn.1
      rw [Int.toNat_natCast] at h
      simp only [Option.some.injEq, Prod.mk.injEq] at h
      obtain ⟨rfl, rfl, hl2⟩ := h
      have hm : m ≤ l.length := by omega
      obtain ⟨i0, hi0, _, hsz, _⟩ := info_parts info5
      have hzl : l2.length = l.length - m := by rw [← hl2, List.length_drop]
      have hcut2 := cut_from (P := Try.prog) 22 5 .i64 Try.underlying22 hi0 1 hsz A l.length c (m : Int) (by omega) (by omega)
      rw [Int.toNat_natCast] at hcut2
      have hFz := Kd.F_cut (m := m) (c := c) hF hm hc
      obtain ⟨A2, hA2⟩ : ∃ A2 : Option Addr, A2 = (if c = m then A else A.map (·.add (m * 1))) := ⟨_, rfl⟩
      obtain ⟨c2, hc2⟩ : ∃ c2 : Nat, c2 = c - m := ⟨_, rfl⟩
      have hFz2 : Kd.F (Kd.int .u8) W P A2 l2.length l2 := by rw [hA2, ← hl2]; exact hFz
      rw [← hA2, ← hzl, ← hc2] at hcut2
      have HZ := Aside0.mk hFz2
      have HZ2 := Aside0.mk (show l2.length ≤ c2 by omega)
      have hz' := hz
      clear hFz hFz2 hzl hA2 hc2 hm hl2 hi0 hsz hn hl hb hc hF hg qt he1 hR
      go_enter Try.func40, Try.ntmps40
      go_wp2_with fail
      (with_reducible refine HTK.out.mono ?_)
      rintro en w1 ⟨rfl, ⟨nd, rfl⟩⟩
      go_wp2_with fail
      (with_reducible refine (fail_calls (W.drewN nd) g e et e1 _ (blk_drewN HB.out nd) HE.out).mono ?_)
      rintro en w2 ⟨rfl, hb2, hg2⟩
      have hbz : (e1 != 0) = false := by rw [hz]; rfl
      rw [hbz]
      have hk1 := blk_cell hb2 1
      have hm1 := blk_frozen hb2 1
      simp at hk1
      have HB2 := Aside0.mk hb2
      have HG2 := Aside0.mk ((grown_of_below (pw_below_drewN (Below.refl _ W) nd) (some g)).trans hg2)
      clear hb2 hg2
      go_wp2_with fail
      go_ret
      have hgf := HG2.out.trans (setCell_grownBy w2 g 1 (.slice A2 l2.length c2))
      refine ⟨rfl, ⟨A2, c2, ?_, HZ2.out, Kd.F_grown HZ.out hgf (fun k hk e => HG.out (by cases e; exact hk)), HG.out⟩, hgf⟩
      have := blk_put (cs := #[.int .i64 e1, .slice A l.length c]) HB2.out 1 (.slice A2 l2.length c2) rfl
      rw [hz] at this
      exact this
    · cases h
  · rw [if_neg hz] at h
    simp only [Option.some.injEq, Prod.mk.injEq] at h
    obtain ⟨rfl, rfl, rfl⟩ := h
    have hbz : (e1 != 0) = true := bne_iff_ne.mpr hz
    clear hl hb hc hF hg qt he1 hR hz
    go_enter Try.func40, Try.ntmps40
    go_wp2_with fail
    (with_reducible refine HTK.out.mono ?_)
    rintro en w1 ⟨rfl, ⟨nd, rfl⟩⟩
    go_wp2_with fail
    (with_reducible refine (fail_calls (W.drewN nd) g e et e1 _ (blk_drewN HB.out nd) HE.out).mono ?_)
    rintro en w2 ⟨rfl, hb2, hg2⟩
    rw [hbz]
    have HB2 := Aside0.mk hb2
    have HG2 := Aside0.mk ((grown_of_below (pw_below_drewN (Below.refl _ W) nd) (some g)).trans hg2)
    clear hb2 hg2
    go_wp2_with fail
    go_ret
    exact ⟨rfl, ⟨A, c, HB2.out, HC.out, Kd.F_grown HF.out HG2.out (fun k hk e => HG.out (by cases e; exact hk)), HG.out⟩, HG2.out⟩
theorem rdVari_len {k : Nat} {e v e2 : Int} {l l2 : List Int} (h : rdVari k e l = some (v, e2, l2)) : l2.length ≤ l.length := by
  unfold rdVari at h
  obtain ⟨⟨v0, n, et⟩, _, h⟩ := Option.bind_eq_some_iff.1 h
  dsimp only at h
  by_cases hz : (if e = 0 then et else e) = 0
  · rw [if_pos hz] at h
    by_cases hn : 0 ≤ n ∧ n ≤ (l.length : Int)
    · rw [if_pos hn] at h
      simp only [Option.some.injEq, Prod.mk.injEq] at h
      rw [← h.2.2, List.length_drop]
      omega
    · rw [if_neg hn] at h
      cases h
  · rw [if_neg hz] at h
    simp only [Option.some.injEq, Prod.mk.injEq] at h
    rw [h.2.2]
    exact Nat.le_refl _


/-! ### scan_Reader_Long: function 21, typed by hand -/
/-- What a reader's Long tells. -/
def rdLong (k : Nat) (e : Int) (l : List Int) : Option (List Int × Int × List Int) := (rdVari k e l).bind fun n => if 0 ≤ n.1 then (if n.1 > (n.2.2.length : Int) then some ([], if n.2.1 = 0 then 12 else n.2.1, l) else if n.2.1 = 0 then some (n.2.2.take n.1.toNat, 0, n.2.2.drop n.1.toNat) else some ([], n.2.1, l)) else none
set_option maxRecDepth 100000 in
set_option maxHeartbeats 1000000 in
theorem countedV_calls (k : Nat) (W : World) (g : Nat) (P : Nat → Prop) (e e2 : Int) (l r l2 : List Int) (hR : RdAt W g P e l) (hl : l.length < 140737488355328)  (h : rdLong k e l = some (r, e2, l2)) :
    Calls Try.prog 39 #[.pointer (some ⟨g, 0, none⟩), .func (.func 40) #[.pointer (some ⟨g, 0, none⟩)] #[]] W fun en W' => ∃ v, en = .returned v ∧ Kd.R (Kd.int .u8) 5 W' W.heap.size (fun _ => True) v r ∧ RdAt W' g P e2 l2 ∧ W.grownBy W' (some g) := by
  unfold rdLong at h
  obtain ⟨⟨n, e1, l1⟩, hn, h⟩ := Option.bind_eq_some_iff.1 h
  dsimp only at h
  have HS := Aside0.mk (vari_calls k W g P e n e1 l l1 hR hl hn)
  obtain ⟨A, c, hbk, hc, hF, hg⟩ := hR.opens
  have hc1 := blk_cell hbk 1
  simp at hc1
  have HLL := Aside0.mk hl
  have HF := Aside0.mk hF
  have HC := Aside0.mk hc
  have HG := Aside0.mk hg
  have hl1 : l1.length ≤ l.length := rdVari_len hn
  have hl1b : l1.length < 140737488355328 := by omega
  have HL1 := Aside0.mk hl1b
  clear hn hR hbk hF hc hg hl hl1
  by_cases h0 : 0 ≤ n
  · rw [if_pos h0] at h
    by_cases hq : n > (l1.length : Int)
    · rw [if_pos hq] at h
      obtain ⟨e3, he3⟩ : ∃ e3, e3 = (if e1 = 0 then 12 else e1) := ⟨_, rfl⟩
      rw [← he3] at h
      simp only [Option.some.injEq, Prod.mk.injEq] at h
      obtain ⟨rfl, rfl, rfl⟩ := h
      have hz : (e3 != 0) = true := bne_iff_ne.mpr (by rw [he3]; split <;> omega)
      have H3 := Aside0.mk hz
      have HE := Aside0.mk he3
      clear hz he3
      go_enter Try.func39, Try.ntmps39
      go_wp2_with (first | (go_at_call 40; (with_reducible refine HS.out.mono ?_); rintro en w1 ⟨rfl, hr1, hg1⟩; obtain ⟨A1, c1, hb1, hc1, hF1, hgg⟩ := hr1.opens; have hd0 := blk_cell hb1 0; have hd1 := blk_cell hb1 1; have hf1 := blk_frozen hb1 1; have hf0 := blk_frozen hb1 0; simp at hd0 hd1; have HR1 := Aside0.mk hr1; have HG1 := Aside0.mk hg1; have HB1 := Aside0.mk hb1; clear hr1 hg1 hb1 hF1 hc1 hgg) | (go_at_call 51; (with_reducible refine (fail_calls w1 g e1 12 e3 (.slice A1 l1.length c1) HB1.out HE.out).mono ?_); rintro en w2 ⟨rfl, hb2, hg2⟩; have hk0 := blk_cell hb2 0; have hk1 := blk_cell hb2 1; have hm1 := blk_frozen hb2 1; simp at hk0 hk1; rw [H3.out]; have hz := H3.out; have HB2 := Aside0.mk hb2; have HG2 := Aside0.mk (HG1.out.trans hg2); clear hb2 hg2))
      go_ret
      have hgf := HG2.out.trans (setCell_grownBy w2 g 1 (.slice A l.length c))
      exact ⟨_, rfl, Kd.R_nil _ _ _ _ _, ⟨A, c, blk_put (cs := #[.int .i64 e3, .slice A1 l1.length c1]) HB2.out 1 _ rfl, HC.out, Kd.F_grown HF.out hgf (fun k hk e => HG.out (by cases e; exact hk)), HG.out⟩, hgf⟩
    · rw [if_neg hq] at h
      by_cases hz : e1 = 0
      · rw [if_pos hz] at h
        simp only [Option.some.injEq, Prod.mk.injEq] at h
        obtain ⟨hy, rfl, hl2⟩ := h
        obtain ⟨m, rfl⟩ := Int.eq_ofNat_of_zero_le h0
        rw [Int.toNat_natCast] at hy hl2
        have HY := Aside0.mk hy.symm
        have HZ := Aside0.mk hl2.symm
        have HM := Aside0.mk (show m ≤ l1.length by omega)
        subst hz
        clear hy hl2
        go_enter Try.func39, Try.ntmps39
        go_wp2_with (first | (go_at_call 40; (with_reducible refine HS.out.mono ?_); rintro en w1 ⟨rfl, hr1, hg1⟩; obtain ⟨A1, c1, hb1, hc1, hF1, hgg⟩ := hr1.opens; have hd0 := blk_cell hb1 0; have hd1 := blk_cell hb1 1; have hf1 := blk_frozen hb1 1; have hf0 := blk_frozen hb1 0; simp at hd0 hd1; have HR1 := Aside0.mk hr1; have HG1 := Aside0.mk hg1; have HB1 := Aside0.mk hb1; clear hr1 hg1 hb1 hF1 hc1 hgg) | (go_at_call 54; (with_reducible refine (cut_calls w1 g m P 0 l1 r l2 HY.out HZ.out HR1.out HM.out HL1.out).mono ?_); rintro en w2 ⟨vr, rfl, hv, hr2, hg2⟩; have HV := Aside0.mk hv; have HR2 := Aside0.mk hr2; have HG2 := Aside0.mk (HG1.out.trans hg2); clear hv hr2 hg2))
        go_ret
        exact ⟨_, rfl, Kd.R_lower HV.out HG1.out.size, HR2.out, HG2.out⟩
      · rw [if_neg hz] at h
        simp only [Option.some.injEq, Prod.mk.injEq] at h
        obtain ⟨rfl, rfl, rfl⟩ := h
        have hz2 : (e1 != 0) = true := bne_iff_ne.mpr hz
        clear hz
        go_enter Try.func39, Try.ntmps39
        go_wp2_with (go_at_call 40; (with_reducible refine HS.out.mono ?_); rintro en w1 ⟨rfl, hr1, hg1⟩; obtain ⟨A1, c1, hb1, hc1, hF1, hgg⟩ := hr1.opens; have hd0 := blk_cell hb1 0; have hd1 := blk_cell hb1 1; have hf1 := blk_frozen hb1 1; have hf0 := blk_frozen hb1 0; simp at hd0 hd1; have HR1 := Aside0.mk hr1; have HG1 := Aside0.mk hg1; have HB1 := Aside0.mk hb1; clear hr1 hg1 hb1 hF1 hc1 hgg)
        go_ret
        have hgf := HG1.out.trans (setCell_grownBy w1 g 1 (.slice A l.length c))
        exact ⟨_, rfl, Kd.R_nil _ _ _ _ _, ⟨A, c, blk_put (cs := #[.int .i64 e1, .slice A1 l1.length c1]) HB1.out 1 _ rfl, HC.out, Kd.F_grown HF.out hgf (fun k hk e => HG.out (by cases e; exact hk)), HG.out⟩, hgf⟩
  · rw [if_neg h0] at h
    cases h
set_option maxRecDepth 100000 in
set_option maxHeartbeats 1000000 in
theorem long_calls (k : Nat) (W : World) (g : Nat) (P : Nat → Prop) (e e2 : Int) (l r l2 : List Int) (hR : RdAt W g P e l) (hl : l.length < 140737488355328) (h : rdLong k e l = some (r, e2, l2)) :
    Calls Try.prog 21 #[.pointer (some ⟨g, 0, none⟩)] W fun en W' => ∃ v, en = .returned v ∧ Kd.R (Kd.int .u8) 5 W' W.heap.size (fun _ => True) v r ∧ RdAt W' g P e2 l2 ∧ W.grownBy W' (some g) := by
  have HS := Aside0.mk (countedV_calls k W g P e e2 l r l2 hR hl h)
  clear hR h hl
  go_enter Try.func21, Try.ntmps21
  go_wp2_with fail
  (with_reducible refine HS.out.mono ?_)
  rintro en w1 ⟨v, rfl, hv, hr1, hg1⟩
  have HV := Aside0.mk hv
  have HR1 := Aside0.mk hr1
  have HG1 := Aside0.mk hg1
  clear hv hr1 hg1
  go_wp2_with fail
  go_ret
  exact ⟨_, rfl, HV.out, HR1.out, HG1.out⟩
theorem rdLong_len {k : Nat} {e e2 : Int} {l r l2 : List Int} (h : rdLong k e l = some (r, e2, l2)) : l2.length ≤ l.length := by
  unfold rdLong at h
  obtain ⟨⟨n, e1, l1⟩, hn, h⟩ := Option.bind_eq_some_iff.1 h
  have := rdVari_len hn
  dsimp only at h
  split at h
  · split at h
    · simp only [Option.some.injEq, Prod.mk.injEq] at h
      rw [h.2.2]; exact Nat.le_refl _
    · split at h
      · simp only [Option.some.injEq, Prod.mk.injEq] at h
        rw [← h.2.2, List.length_drop]; omega
      · simp only [Option.some.injEq, Prod.mk.injEq] at h
        rw [h.2.2]; exact Nat.le_refl _
  · cases h


end Go.Proofs.Ytmhmmmkpijbbiad.M
