/- Contracts of the Go functions that the laws reach, each as a plain Lean function: written by xprint.py, a program of this repo. -/
import Derived.Test.YtmhmmmkpijbbiadM0
import Derived.Test.YtmhmmmkpijbbiadM10
namespace Go.Proofs.Ytmhmmmkpijbbiad.M
open Go.RowKit Go.Proofs.YtmhmmmkpijbbiadW.PrintWords Go.Proofs.YtmhmmmkpijbbiadW.PrintLast Go.Proofs.YtmhmmmkpijbbiadW.PrintMore Go.Proofs.Ytmhmmmkpijbbiad.X
attribute [local go_sem] max2_int min2_int max_two min_two max_three min_three max_four min_four   -- for this text's walks alone
set_option linter.unusedVariables false
set_option linter.unusedSimpArgs false

open Kd
/-! ### crosswayref11_wrong: function 25 -/
def crosswayref11_wrong.j0 : Nat → Bool → Int → Int → List Int → List Int → Option (Int)
 | 0, _, _, _, _, _ => none
 | k + 1, x16, x284000, x284001, x284002, x284003 => if x16 = true then (some 14) else (if (x284002.length : Int) > 20 then (some 15) else (if (x284003.length : Int) > 20 then (some 15) else (some 0)))
def crosswayref11_wrong.f (k : Nat) (a0_0 : Int) (a0_1 : Int) (l0_2 : List Int) (l0_3 : List Int) : Option (Int) := if a0_0 < 128 then (crosswayref11_wrong.j0 k true a0_0 a0_1 l0_2 l0_3) else (if a0_1 = 1 then ((crosswayref11_Type.f a0_0).bind fun t284 => (crosswayref11_wrong.j0 k (t284 != 0) a0_0 a0_1 l0_2 l0_3)) else (crosswayref11_wrong.j0 k true a0_0 a0_1 l0_2 l0_3))
theorem crosswayref11_wrong.mono_l : ∀ k, (∀ y0 y1 y2 y3 y4, LeO (crosswayref11_wrong.j0 k y0 y1 y2 y3 y4) (crosswayref11_wrong.j0 (k + 1) y0 y1 y2 y3 y4))
 | 0 => fun _ _ _ _ _ r h => by simp [crosswayref11_wrong.j0] at h
 | k + 1 => by
  have ih0 := crosswayref11_wrong.mono_l k
  ·intro y0 y1 y2 y3 y4
   unfold crosswayref11_wrong.j0
   repeat' first
   | (with_reducible exact ih0 _ _ _ _ _)
   | (with_reducible exact LeO.refl _)
   | (with_reducible exact LeO.none _)
   | (with_reducible refine LeO.ite ?_ ?_)
   | (with_reducible refine LeO.bind ?_ (fun _ => ?_))
   | exact ih0 _ _ _ _ _
   | exact LeO.none _
   | refine LeO.ite ?_ ?_
   | refine LeO.bind ?_ (fun _ => ?_)
theorem crosswayref11_wrong.mono : ∀ a0 a1 a2 a3 k, LeO (crosswayref11_wrong.f k a0 a1 a2 a3) (crosswayref11_wrong.f (k + 1) a0 a1 a2 a3) := by
 intro a0 a1 a2 a3 k
 have ih0 := crosswayref11_wrong.mono_l k
 unfold crosswayref11_wrong.f
 repeat' first
   | (with_reducible exact ih0 _ _ _ _ _)
   | (with_reducible exact LeO.refl _)
   | (with_reducible exact LeO.none _)
   | (with_reducible refine LeO.ite ?_ ?_)
   | (with_reducible refine LeO.bind ?_ (fun _ => ?_))
   | exact ih0 _ _ _ _ _
   | exact LeO.none _
   | refine LeO.ite ?_ ?_
   | refine LeO.bind ?_ (fun _ => ?_)
set_option maxHeartbeats 8000000 in
set_option maxRecDepth 100000 in
theorem crosswayref11_wrong.calls (k : Nat) (a0_0 : Int) (a0_1 : Int) (A0_2 : Option Addr) (c0_2 : Nat) (l0_2 : List Int) (A0_3 : Option Addr) (c0_3 : Nat) (l0_3 : List Int) (r : Int) (w : World) (hr0_2 : Kd.C (Kd.int .u8) w A0_2 l0_2.length l0_2) (hc0_2 : l0_2.length ≤ c0_2) (hr0_3 : Kd.C (Kd.int .u8) w A0_3 l0_3.length l0_3) (hc0_3 : l0_3.length ≤ c0_3) (h : crosswayref11_wrong.f k a0_0 a0_1 l0_2 l0_3 = some r) :
  Calls Try.prog 25 #[.agg #[.int .u8 a0_0, .int .u32 a0_1, .slice A0_2 l0_2.length c0_2, .slice A0_3 l0_3.length c0_3]] w fun e w' => e = .returned (.int .i64 r) ∧ Below w.heap.size w w' := by
 have hu33 := Try.underlying33
 have HR0_2 := Aside0.mk hr0_2
 have HC0_2 := Aside0.mk hc0_2
 clear hr0_2 hc0_2
 have HR0_3 := Aside0.mk hr0_3
 have HC0_3 := Aside0.mk hc0_3
 clear hr0_3 hc0_3
 have HB := Aside0.mk (Below.refl w.heap.size w)
 have H : (if a0_0 < 128 then (crosswayref11_wrong.j0 k true a0_0 a0_1 l0_2 l0_3) else (if a0_1 = 1 then ((crosswayref11_Type.f a0_0).bind fun t284 => (crosswayref11_wrong.j0 k (t284 != 0) a0_0 a0_1 l0_2 l0_3)) else (crosswayref11_wrong.j0 k true a0_0 a0_1 l0_2 l0_3))) = some r := h
 clear h
 have HC2 := Aside0.mk H
 clear H
 go_enter Try.func25, Try.ntmps25
 go_upto_region 1 with (first | ((with_reducible refine gate_dst (N := 1) rfl ?_); (try (refine gate_guard (by rfl) ?_; dsimp only)); refine box_event ?hg (N := 1) ?hd (cs := #[.int .u8 a0_0, .int .u32 a0_1, .slice A0_2 l0_2.length c0_2, .slice A0_3 l0_3.length c0_3]) (t := 33) ?hr ?_; (case hd => rfl); (case hg => rfl); (case hr => first | (go_simp; done) | (go_simp; rfl)); intro gb283 hg w3 hbox hb; have n0_ := Aside0.mk (below_step (by repeat (first | (with_reducible first | exact HB.out | apply below_alloc | apply pw_below_drewN | apply below_drew1) | exact HB.out)) hb); have n1_ := Aside0.mk (hbox); have n2_ := Aside0.mk trivial; have n3_ := Aside0.mk ((by rw [hg]; exact (below_size (by repeat (first | (with_reducible first | exact HB.out | apply below_alloc | apply pw_below_drewN | apply below_drew1) | exact HB.out))) : w.heap.size ≤ gb283)); clear HB; have HB := n0_; have BK283 := n1_; have GW283 := n2_; have GE283 := n3_; clear n0_ n1_ n2_ n3_; clear hb hbox hg))
 (try simp only [Act.put, sA, sB, sC])
 go_cut [16] (fun v16 wc => ∃ (kq : Nat) (x16_1 : Bool), v16 = .bool x16_1 ∧ Aside0 (crosswayref11_wrong.j0 kq x16_1 a0_0 a0_1 l0_2 l0_3 = some r) ∧ Aside0 (kq ≤ k) ∧ Aside0 (wc.heap[gb283]? = some (.cells #[.int .u8 a0_0, .int .u32 a0_1, (.slice A0_2 l0_2.length c0_2), (.slice A0_3 l0_3.length c0_3)] 33 (0, 0))) ∧ Aside0 (Below w.heap.size w wc))
 case first =>
  have H := HC2.out
  clear HC2
  by_cases c4 : a0_0 < 128
  ·rw [if_pos c4] at H
   have c4b0 : decide (a0_0 < 128) = true := decide_eq_true c4
   clear c4
   (first | rw [c4b0] | (simp only [i64_w, i32_w]; rw [c4b0]) | skip)
   have H' := Aside0.mk H
   clear H
   have hcz5_0 : w3.cell? ⟨gb283, 0, none⟩ = some (.int .u8 a0_0) := (blk_cell BK283.out 0).trans rfl
   have hcz5_1 : w3.cell? ⟨gb283, 1, none⟩ = some (.int .u32 a0_1) := (blk_cell BK283.out 1).trans rfl
   have hcz5_2 : w3.cell? ⟨gb283, 2, none⟩ = some (.slice A0_2 l0_2.length c0_2) := (blk_cell BK283.out 2).trans rfl
   have hcz5_3 : w3.cell? ⟨gb283, 3, none⟩ = some (.slice A0_3 l0_3.length c0_3) := (blk_cell BK283.out 3).trans rfl
   have hfz5_0 := blk_frozen BK283.out 0
   have hfz5_1 := blk_frozen BK283.out 1
   have hfz5_2 := blk_frozen BK283.out 2
   have hfz5_3 := blk_frozen BK283.out 3
   go_wp2
   go_meet
   case rel => exact ⟨_, (true), (by first | rfl | (simp; done) | (simp [*]; done) | (simp only [i64_w]; done) | (simp [i64_w]; done)), H', ⟨by first | omega | exact Nat.le_refl _⟩, ⟨by (with_reducible repeat (first | refine blk_drewN ?_ _ | refine blk_drew ?_ | refine blk_alloc ?_ _)); exact BK283.out⟩, ⟨by repeat (first | (with_reducible first | exact HB.out | apply below_alloc | apply pw_below_drewN | apply below_drew1 | refine below_set ?_ GE283.out) | exact HB.out)⟩⟩
  ·rw [if_neg c4] at H
   have c4b0 : decide (a0_0 < 128) = false := decide_eq_false c4
   clear c4
   (first | rw [c4b0] | (simp only [i64_w, i32_w]; rw [c4b0]) | skip)
   by_cases c6 : a0_1 = 1
   ·rw [if_pos c6] at H
    have c6b0 : (a0_1 == 1) = true := beq_iff_eq.mpr c6
    have c6b1 : (a0_1 != 1) = false := bne_eq_false_iff_eq.mpr c6
    clear c6
    replace H := Option.bind_eq_some_iff.mp H
    obtain ⟨t284, A70, H⟩ := H
    try dsimp only at H
    have A7 := Aside0.mk A70
    clear A70
    have H' := Aside0.mk H
    clear H
    have hcz8_0 : w3.cell? ⟨gb283, 0, none⟩ = some (.int .u8 a0_0) := (blk_cell BK283.out 0).trans rfl
    have hcz8_1 : w3.cell? ⟨gb283, 1, none⟩ = some (.int .u32 a0_1) := (blk_cell BK283.out 1).trans rfl
    have hcz8_2 : w3.cell? ⟨gb283, 2, none⟩ = some (.slice A0_2 l0_2.length c0_2) := (blk_cell BK283.out 2).trans rfl
    have hcz8_3 : w3.cell? ⟨gb283, 3, none⟩ = some (.slice A0_3 l0_3.length c0_3) := (blk_cell BK283.out 3).trans rfl
    have hfz8_0 := blk_frozen BK283.out 0
    have hfz8_1 := blk_frozen BK283.out 1
    have hfz8_2 := blk_frozen BK283.out 2
    have hfz8_3 := blk_frozen BK283.out 3
    go_wp2_with (first | (go_at_call 13; (with_reducible refine (crosswayref11_Type.calls a0_0 t284 _ A7.out).mono ?_); rintro e w' ⟨rfl, ⟨nd, rfl⟩⟩))
    go_meet
    case rel => exact ⟨_, ((t284 != 0)), (by first | rfl | (simp; done) | (simp [*]; done) | (simp only [i64_w]; done) | (simp [i64_w]; done)), H', ⟨by first | omega | exact Nat.le_refl _⟩, ⟨by (with_reducible repeat (first | refine blk_drewN ?_ _ | refine blk_drew ?_ | refine blk_alloc ?_ _)); exact BK283.out⟩, ⟨by repeat (first | (with_reducible first | exact HB.out | apply below_alloc | apply pw_below_drewN | apply below_drew1 | refine below_set ?_ GE283.out) | exact HB.out)⟩⟩
   ·rw [if_neg c6] at H
    have c6b0 : (a0_1 == 1) = false := beq_eq_false_iff_ne.mpr c6
    have c6b1 : (a0_1 != 1) = true := bne_iff_ne.mpr c6
    have H' := Aside0.mk H
    clear H
    have hcz9_0 : w3.cell? ⟨gb283, 0, none⟩ = some (.int .u8 a0_0) := (blk_cell BK283.out 0).trans rfl
    have hcz9_1 : w3.cell? ⟨gb283, 1, none⟩ = some (.int .u32 a0_1) := (blk_cell BK283.out 1).trans rfl
    have hcz9_2 : w3.cell? ⟨gb283, 2, none⟩ = some (.slice A0_2 l0_2.length c0_2) := (blk_cell BK283.out 2).trans rfl
    have hcz9_3 : w3.cell? ⟨gb283, 3, none⟩ = some (.slice A0_3 l0_3.length c0_3) := (blk_cell BK283.out 3).trans rfl
    have hfz9_0 := blk_frozen BK283.out 0
    have hfz9_1 := blk_frozen BK283.out 1
    have hfz9_2 := blk_frozen BK283.out 2
    have hfz9_3 := blk_frozen BK283.out 3
    go_wp2
    go_meet
    case rel => exact ⟨_, (true), (by first | rfl | (simp; done) | (simp [*]; done) | (simp only [i64_w]; done) | (simp [i64_w]; done)), H', ⟨by first | omega | exact Nat.le_refl _⟩, ⟨by (with_reducible repeat (first | refine blk_drewN ?_ _ | refine blk_drew ?_ | refine blk_alloc ?_ _)); exact BK283.out⟩, ⟨by repeat (first | (with_reducible first | exact HB.out | apply below_alloc | apply pw_below_drewN | apply below_drew1 | refine below_set ?_ GE283.out) | exact HB.out)⟩⟩
 case rest =>
  clear HC2
  try clear c2; try clear p2; try clear c4; try clear c4b0; try clear c6; try clear c6b0; try clear c6b1; try clear hcz5_0; try clear hcz5_1; try clear hcz5_2; try clear hcz5_3; try clear hcz8_0; try clear hcz8_1; try clear hcz8_2; try clear hcz8_3; try clear hcz9_0; try clear hcz9_1; try clear hcz9_2; try clear hcz9_3; try clear hfz5_0; try clear hfz5_1; try clear hfz5_2; try clear hfz5_3; try clear hfz8_0; try clear hfz8_1; try clear hfz8_2; try clear hfz8_3; try clear hfz9_0; try clear hfz9_1; try clear hfz9_2; try clear hfz9_3
  obtain ⟨kq, x16_1, rfl, HA, HJ1, BK283, HB⟩ := hcut
  cases kq with
  | zero => exact absurd HA.out (by simp [crosswayref11_wrong.j0])
  | succ kj1 =>
   have H := HA.out
   clear HA
   simp only [crosswayref11_wrong.j0] at H
   by_cases c10 : x16_1 = true
   ·subst c10
    have H1 : (some 14) = some r := by rw [if_pos rfl] at H; exact H
    clear H
    have H := H1
    clear H1
    obtain rfl := Option.some.inj H
    go_wp2
    go_ret
    exact ⟨by first | rfl | (simp [errW_none, errW_some] <;> rfl) | (simp [*, errW_none, errW_some] <;> rfl), by repeat (first | (with_reducible first | exact HB.out | apply below_alloc | apply pw_below_drewN | apply below_drew1 | refine below_set ?_ GE283.out) | exact HB.out)⟩
   ·replace c10 := Bool.eq_false_iff.mpr c10
    subst c10
    have H1 : (if (l0_2.length : Int) > 20 then (some 15) else (if (l0_3.length : Int) > 20 then (some 15) else (some 0))) = some r := by rw [if_neg (show ¬ (false = true) by decide)] at H; exact H
    clear H
    have H := H1
    clear H1
    by_cases c11 : (l0_2.length : Int) > 20
    ·rw [if_pos c11] at H
     have c11b0 : decide (20 < (l0_2.length : Int)) = true := decide_eq_true c11
     have c11b1 : decide (20 < l0_2.length) = true := decide_eq_true (by omega)
     clear c11
     obtain rfl := Option.some.inj H
     have hcz12_0 : wc.cell? ⟨gb283, 0, none⟩ = some (.int .u8 a0_0) := (blk_cell BK283.out 0).trans rfl
     have hcz12_1 : wc.cell? ⟨gb283, 1, none⟩ = some (.int .u32 a0_1) := (blk_cell BK283.out 1).trans rfl
     have hcz12_2 : wc.cell? ⟨gb283, 2, none⟩ = some (.slice A0_2 l0_2.length c0_2) := (blk_cell BK283.out 2).trans rfl
     have hcz12_3 : wc.cell? ⟨gb283, 3, none⟩ = some (.slice A0_3 l0_3.length c0_3) := (blk_cell BK283.out 3).trans rfl
     have hfz12_0 := blk_frozen BK283.out 0
     have hfz12_1 := blk_frozen BK283.out 1
     have hfz12_2 := blk_frozen BK283.out 2
     have hfz12_3 := blk_frozen BK283.out 3
     go_wp2
     go_ret
     exact ⟨by first | rfl | (simp [errW_none, errW_some] <;> rfl) | (simp [*, errW_none, errW_some] <;> rfl), by repeat (first | (with_reducible first | exact HB.out | apply below_alloc | apply pw_below_drewN | apply below_drew1 | refine below_set ?_ GE283.out) | exact HB.out)⟩
    ·rw [if_neg c11] at H
     have c11b0 : decide (20 < (l0_2.length : Int)) = false := decide_eq_false c11
     have c11b1 : decide (20 < l0_2.length) = false := decide_eq_false (by omega)
     clear c11
     by_cases c13 : (l0_3.length : Int) > 20
     ·rw [if_pos c13] at H
      have c13b0 : decide (20 < (l0_3.length : Int)) = true := decide_eq_true c13
      have c13b1 : decide (20 < l0_3.length) = true := decide_eq_true (by omega)
      clear c13
      obtain rfl := Option.some.inj H
      have hcz14_0 : wc.cell? ⟨gb283, 0, none⟩ = some (.int .u8 a0_0) := (blk_cell BK283.out 0).trans rfl
      have hcz14_1 : wc.cell? ⟨gb283, 1, none⟩ = some (.int .u32 a0_1) := (blk_cell BK283.out 1).trans rfl
      have hcz14_2 : wc.cell? ⟨gb283, 2, none⟩ = some (.slice A0_2 l0_2.length c0_2) := (blk_cell BK283.out 2).trans rfl
      have hcz14_3 : wc.cell? ⟨gb283, 3, none⟩ = some (.slice A0_3 l0_3.length c0_3) := (blk_cell BK283.out 3).trans rfl
      have hfz14_0 := blk_frozen BK283.out 0
      have hfz14_1 := blk_frozen BK283.out 1
      have hfz14_2 := blk_frozen BK283.out 2
      have hfz14_3 := blk_frozen BK283.out 3
      go_wp2
      go_ret
      exact ⟨by first | rfl | (simp [errW_none, errW_some] <;> rfl) | (simp [*, errW_none, errW_some] <;> rfl), by repeat (first | (with_reducible first | exact HB.out | apply below_alloc | apply pw_below_drewN | apply below_drew1 | refine below_set ?_ GE283.out) | exact HB.out)⟩
     ·rw [if_neg c13] at H
      have c13b0 : decide (20 < (l0_3.length : Int)) = false := decide_eq_false c13
      have c13b1 : decide (20 < l0_3.length) = false := decide_eq_false (by omega)
      clear c13
      obtain rfl := Option.some.inj H
      have hcz15_0 : wc.cell? ⟨gb283, 0, none⟩ = some (.int .u8 a0_0) := (blk_cell BK283.out 0).trans rfl
      have hcz15_1 : wc.cell? ⟨gb283, 1, none⟩ = some (.int .u32 a0_1) := (blk_cell BK283.out 1).trans rfl
      have hcz15_2 : wc.cell? ⟨gb283, 2, none⟩ = some (.slice A0_2 l0_2.length c0_2) := (blk_cell BK283.out 2).trans rfl
      have hcz15_3 : wc.cell? ⟨gb283, 3, none⟩ = some (.slice A0_3 l0_3.length c0_3) := (blk_cell BK283.out 3).trans rfl
      have hfz15_0 := blk_frozen BK283.out 0
      have hfz15_1 := blk_frozen BK283.out 1
      have hfz15_2 := blk_frozen BK283.out 2
      have hfz15_3 := blk_frozen BK283.out 3
      go_wp2
      go_ret
      exact ⟨by first | rfl | (simp [errW_none, errW_some] <;> rfl) | (simp [*, errW_none, errW_some] <;> rfl), by repeat (first | (with_reducible first | exact HB.out | apply below_alloc | apply pw_below_drewN | apply below_drew1 | refine below_set ?_ GE283.out) | exact HB.out)⟩

/-! ### crosswayref01_Num: function 43 -/
def crosswayref01_Num.l0 : Nat → List Int → Int → Int → Option (Int × Int)
  | 0, _, _, _ => none
  | k + 1, x0, x4, x5 => if x5 < (x0.length : Int) then (if 0 ≤ x5 then (crosswayref01_Num.l0 k x0 (IntKind.u64.wrap ((IntKind.u64.wrap (x4 * 256)) + (IntKind.u64.wrap (rd x0 x5)))) (wrap64 (x5 + 1))) else (none)) else (some (x4, 0))
def crosswayref01_Num.f (k : Nat) (l0 : List Int) : Option (Int × Int) := if (l0.length : Int) > 8 then (some (0, 11)) else (crosswayref01_Num.l0 k l0 0 0)
theorem crosswayref01_Num.mono_l : ∀ k, (∀ y0 y1 y2, LeO (crosswayref01_Num.l0 k y0 y1 y2) (crosswayref01_Num.l0 (k + 1) y0 y1 y2))
  | 0 => fun _ _ _ r h => by simp [crosswayref01_Num.l0] at h
  | k + 1 => by
    have ih0 := crosswayref01_Num.mono_l k
    · intro y0 y1 y2
      unfold crosswayref01_Num.l0
      repeat' first
      | (with_reducible exact ih0 _ _ _)
      | (with_reducible exact LeO.refl _)
      | (with_reducible exact LeO.none _)
      | (with_reducible refine LeO.ite ?_ ?_)
      | (with_reducible refine LeO.bind ?_ (fun _ => ?_))
      | exact ih0 _ _ _
      | exact LeO.none _
      | refine LeO.ite ?_ ?_
      | refine LeO.bind ?_ (fun _ => ?_)
theorem crosswayref01_Num.mono : ∀ a0 k, LeO (crosswayref01_Num.f k a0) (crosswayref01_Num.f (k + 1) a0) := by
  intro a0 k
  have ih0 := crosswayref01_Num.mono_l k
  unfold crosswayref01_Num.f
  repeat' first
      | (with_reducible exact ih0 _ _ _)
      | (with_reducible exact LeO.refl _)
      | (with_reducible exact LeO.none _)
      | (with_reducible refine LeO.ite ?_ ?_)
      | (with_reducible refine LeO.bind ?_ (fun _ => ?_))
      | exact ih0 _ _ _
      | exact LeO.none _
      | refine LeO.ite ?_ ?_
      | refine LeO.bind ?_ (fun _ => ?_)
set_option maxHeartbeats 8000000 in
set_option maxRecDepth 100000 in
theorem crosswayref01_Num.calls (k : Nat) (A0 : Option Addr) (c0 : Nat) (l0 : List Int) (r1 : Int) (r2 : Int) (w : World) (hr0 : Kd.C (Kd.int .u8) w A0 l0.length l0) (hc0 : l0.length ≤ c0) (h : crosswayref01_Num.f k l0 = some (r1, r2)) :
    Calls Try.prog 43 #[.slice A0 l0.length c0] w fun e w' => e = .returned (.tuple #[.int .u64 r1, .int .i64 r2]) ∧ Drawn0 w w' := by
  have HR0 := Aside0.mk hr0
  have HC0 := Aside0.mk hc0
  clear hr0 hc0
  have H : (if (l0.length : Int) > 8 then (some (0, 11)) else (crosswayref01_Num.l0 k l0 0 0)) = some (r1, r2) := h
  clear h
  by_cases c2 : (l0.length : Int) > 8
  · rw [if_pos c2] at H
    have c2b0 : decide (8 < (l0.length : Int)) = true := decide_eq_true c2
    have c2b1 : decide (8 < l0.length) = true := decide_eq_true (by omega)
    clear c2
    simp only [Option.some.injEq, Prod.mk.injEq] at H
    obtain ⟨rfl, rfl⟩ := H
    go_enter Try.func43, Try.ntmps43
    go_wp2
    go_ret2
    exact ⟨by first | rfl | (simp; done) | (simp [*]; done), by repeat (first | exact Drawn0.refl _ | apply Drawn0.step)⟩
  · rw [if_neg c2] at H
    have c2b0 : decide (8 < (l0.length : Int)) = false := decide_eq_false c2
    have c2b1 : decide (8 < l0.length) = false := decide_eq_false (by omega)
    clear c2
    have H' := Aside0.mk H
    clear H
    go_enter Try.func43, Try.ntmps43
    go_wp2
    go_loopg [4, 5] k (fun kq v4 v5 w' => ∃ (x4_1 : Int) (x5_1 : Int), v4 = .int .u64 x4_1 ∧ v5 = .int .i64 x5_1 ∧ Aside0 (crosswayref01_Num.l0 kq l0 x4_1 x5_1 = some (r1, r2)) ∧ Aside0 (kq ≤ k) ∧ Drawn0 w w')
    case atStart => exact ⟨(0), (0), (by first | rfl | (simp; done) | (simp [*]; done) | (simp only [i64_w]; done) | (simp [i64_w]; done)), (by first | rfl | (simp; done) | (simp [*]; done) | (simp only [i64_w]; done) | (simp [i64_w]; done)), H', ⟨Nat.le_refl _⟩, by repeat (first | exact Drawn0.refl _ | apply Drawn0.step)⟩
    case round =>
      clear H'
      try clear c2
      try clear c2b0
      try clear c2b1
      try clear p2
      obtain ⟨x4_1, x5_1, rfl, rfl, HA, HK1, ⟨m1, rfl⟩⟩ := hrel
      cases gk with
      | zero => exact absurd HA.out (by simp [crosswayref01_Num.l0])
      | succ k1 =>
        have H := HA.out
        clear HA
        simp only [crosswayref01_Num.l0] at H
        by_cases c3 : x5_1 < (l0.length : Int)
        · rw [if_pos c3] at H
          have c3b0 : decide (x5_1 < (l0.length : Int)) = true := decide_eq_true c3
          clear c3
          by_cases c4 : 0 ≤ x5_1
          · rw [if_pos c4] at H
            have c4b0 : decide (0 ≤ x5_1) = true := decide_eq_true c4
            clear c4
            have H' := Aside0.mk H
            clear H
            have p285 : 0 ≤ (x5_1 : Int) := of_decide_eq_true (by first | (with_reducible assumption) | assumption)
            have q285 : x5_1 < (l0.length : Int) := of_decide_eq_true (by first | (with_reducible assumption) | assumption)
            obtain ⟨ad285, e285, hx285_0⟩ := Kd.at_int HR0.out x5_1 p285 q285
            cases e285
            replace p285 := eq_true p285
            replace q285 := eq_true q285
            go_wp2
            go_roundg k1
            case measure => have := HK1.out; omega
            case rel => exact ⟨(IntKind.u64.wrap ((IntKind.u64.wrap (x4_1 * 256)) + (IntKind.u64.wrap (rd l0 x5_1)))), (wrap64 (x5_1 + 1)), (by first | rfl | (simp; done) | (simp [*]; done) | (simp only [i64_w]; done) | (simp [i64_w]; done)), (by first | rfl | (simp; done) | (simp [*]; done) | (simp only [i64_w]; done) | (simp [i64_w]; done)), H', ⟨by have := HK1.out; omega⟩, by repeat (first | exact Drawn0.refl _ | apply Drawn0.step)⟩
          · rw [if_neg c4] at H
            exact absurd H (by simp)
        · rw [if_neg c3] at H
          have c3b0 : decide (x5_1 < (l0.length : Int)) = false := decide_eq_false c3
          clear c3
          simp only [Option.some.injEq, Prod.mk.injEq] at H
          obtain ⟨rfl, rfl⟩ := H
          go_wp2
          go_ret2
          exact ⟨by first | rfl | (simp; done) | (simp [*]; done), by repeat (first | exact Drawn0.refl _ | apply Drawn0.step)⟩

/-! ### crosswayref08_limit: function 44 -/
def crosswayref08_limit.f (a0 : Int) : Option (Int) := if a0 = 1 then (some 64) else (if a0 = 2 then (some 16384) else (if a0 = 4 then (some 1073741824) else (if a0 = 8 then (some 4611686018427387904) else (some 0))))
set_option maxHeartbeats 8000000 in
set_option maxRecDepth 100000 in
theorem crosswayref08_limit.calls (a0 : Int) (r : Int) (w : World) (h : crosswayref08_limit.f a0 = some r) :
    Calls Try.prog 44 #[.int .i64 a0] w fun e w' => e = .returned (.int .u64 r) ∧ Drawn0 w w' := by
  have H : (if a0 = 1 then (some 64) else (if a0 = 2 then (some 16384) else (if a0 = 4 then (some 1073741824) else (if a0 = 8 then (some 4611686018427387904) else (some 0))))) = some r := h
  clear h
  by_cases c2 : a0 = 1
  · rw [if_pos c2] at H
    have c2b0 : (a0 == 1) = true := beq_iff_eq.mpr c2
    have c2b1 : (a0 != 1) = false := bne_eq_false_iff_eq.mpr c2
    clear c2
    obtain rfl := Option.some.inj H
    go_enter Try.func44, Try.ntmps44
    go_wp2
    go_ret
    exact ⟨by first | rfl | (simp; done) | (simp [*]; done), by repeat (first | exact Drawn0.refl _ | apply Drawn0.step)⟩
  · rw [if_neg c2] at H
    have c2b0 : (a0 == 1) = false := beq_eq_false_iff_ne.mpr c2
    have c2b1 : (a0 != 1) = true := bne_iff_ne.mpr c2
    by_cases c3 : a0 = 2
    · rw [if_pos c3] at H
      have c3b0 : (a0 == 2) = true := beq_iff_eq.mpr c3
      have c3b1 : (a0 != 2) = false := bne_eq_false_iff_eq.mpr c3
      clear c3
      obtain rfl := Option.some.inj H
      go_enter Try.func44, Try.ntmps44
      go_wp2
      go_ret
      exact ⟨by first | rfl | (simp; done) | (simp [*]; done), by repeat (first | exact Drawn0.refl _ | apply Drawn0.step)⟩
    · rw [if_neg c3] at H
      have c3b0 : (a0 == 2) = false := beq_eq_false_iff_ne.mpr c3
      have c3b1 : (a0 != 2) = true := bne_iff_ne.mpr c3
      by_cases c4 : a0 = 4
      · rw [if_pos c4] at H
        have c4b0 : (a0 == 4) = true := beq_iff_eq.mpr c4
        have c4b1 : (a0 != 4) = false := bne_eq_false_iff_eq.mpr c4
        clear c4
        obtain rfl := Option.some.inj H
        go_enter Try.func44, Try.ntmps44
        go_wp2
        go_ret
        exact ⟨by first | rfl | (simp; done) | (simp [*]; done), by repeat (first | exact Drawn0.refl _ | apply Drawn0.step)⟩
      · rw [if_neg c4] at H
        have c4b0 : (a0 == 4) = false := beq_eq_false_iff_ne.mpr c4
        have c4b1 : (a0 != 4) = true := bne_iff_ne.mpr c4
        by_cases c5 : a0 = 8
        · rw [if_pos c5] at H
          have c5b0 : (a0 == 8) = true := beq_iff_eq.mpr c5
          have c5b1 : (a0 != 8) = false := bne_eq_false_iff_eq.mpr c5
          clear c5
          obtain rfl := Option.some.inj H
          go_enter Try.func44, Try.ntmps44
          go_wp2
          go_ret
          exact ⟨by first | rfl | (simp; done) | (simp [*]; done), by repeat (first | exact Drawn0.refl _ | apply Drawn0.step)⟩
        · rw [if_neg c5] at H
          have c5b0 : (a0 == 8) = false := beq_eq_false_iff_ne.mpr c5
          have c5b1 : (a0 != 8) = true := bne_iff_ne.mpr c5
          obtain rfl := Option.some.inj H
          go_enter Try.func44, Try.ntmps44
          go_wp2
          go_ret
          exact ⟨by first | rfl | (simp; done) | (simp [*]; done), by repeat (first | exact Drawn0.refl _ | apply Drawn0.step)⟩

open Kd
/-! ### crosswayref08_Take: function 26 -/
def crosswayref08_Take.f (k : Nat) (l0 : List Int) : Option (Int × Int × Int) := if (l0.length : Int) = 0 then (some (0, 0, 12)) else ((some (([1, 2, 4, 8] : List Int) : List Int)).bind fun y286 => (if 0 < (l0.length : Int) then (if 0 ≤ ((Int.tdiv (rd l0 0) 64) % 256) then (if ((Int.tdiv (rd l0 0) 64) % 256) < (y286.length : Int) then (if (l0.length : Int) < (rd y286 ((Int.tdiv (rd l0 0) 64) % 256)) then (some (0, 0, 12)) else (if 0 ≤ (rd y286 ((Int.tdiv (rd l0 0) 64) % 256)) then (if (rd y286 ((Int.tdiv (rd l0 0) 64) % 256)) ≤ (l0.length : Int) then ((crosswayref01_Num.f k (l0.take ((rd y286 ((Int.tdiv (rd l0 0) 64) % 256)) : Int).toNat)).bind fun bt292 => ((crosswayref08_limit.f (rd y286 ((Int.tdiv (rd l0 0) 64) % 256))).bind fun t294 => (if t294 = 0 then (none) else (some (Int.tmod bt292.1 t294, rd y286 ((Int.tdiv (rd l0 0) 64) % 256), 0))))) else (none)) else (none))) else (none)) else (none)) else (none)))
theorem crosswayref08_Take.mono : ∀ a0 k, LeO (crosswayref08_Take.f k a0) (crosswayref08_Take.f (k + 1) a0) := by
 intro a0 k
 unfold crosswayref08_Take.f
 repeat' first
   | (with_reducible exact crosswayref01_Num.mono _ _)
   | (with_reducible exact LeO.refl _)
   | (with_reducible exact LeO.none _)
   | (with_reducible refine LeO.ite ?_ ?_)
   | (with_reducible refine LeO.bind ?_ (fun _ => ?_))
   | exact crosswayref01_Num.mono _ _
   | exact LeO.none _
   | refine LeO.ite ?_ ?_
   | refine LeO.bind ?_ (fun _ => ?_)
set_option maxHeartbeats 8000000 in
set_option maxRecDepth 100000 in
theorem crosswayref08_Take.calls (k : Nat) (A0 : Option Addr) (c0 : Nat) (l0 : List Int) (r1 : Int) (r2 : Int) (r3 : Int) (w : World) (hr0 : Kd.C (Kd.int .u8) w A0 l0.length l0) (hc0 : l0.length ≤ c0) (h : crosswayref08_Take.f k l0 = some (r1, r2, r3)) :
  Calls Try.prog 26 #[.slice A0 l0.length c0] w fun e w' => e = .returned (.tuple #[.int .u64 r1, .int .i64 r2, .int .i64 r3]) ∧ Below w.heap.size w w' := by
 have HR0 := Aside0.mk hr0
 have HC0 := Aside0.mk hc0
 clear hr0 hc0
 have HB := Aside0.mk (Below.refl w.heap.size w)
 have H : (if (l0.length : Int) = 0 then (some (0, 0, 12)) else ((some (([1, 2, 4, 8] : List Int) : List Int)).bind fun y286 => (if 0 < (l0.length : Int) then (if 0 ≤ ((Int.tdiv (rd l0 0) 64) % 256) then (if ((Int.tdiv (rd l0 0) 64) % 256) < (y286.length : Int) then (if (l0.length : Int) < (rd y286 ((Int.tdiv (rd l0 0) 64) % 256)) then (some (0, 0, 12)) else (if 0 ≤ (rd y286 ((Int.tdiv (rd l0 0) 64) % 256)) then (if (rd y286 ((Int.tdiv (rd l0 0) 64) % 256)) ≤ (l0.length : Int) then ((crosswayref01_Num.f k (l0.take ((rd y286 ((Int.tdiv (rd l0 0) 64) % 256)) : Int).toNat)).bind fun bt292 => ((crosswayref08_limit.f (rd y286 ((Int.tdiv (rd l0 0) 64) % 256))).bind fun t294 => (if t294 = 0 then (none) else (some (Int.tmod bt292.1 t294, rd y286 ((Int.tdiv (rd l0 0) 64) % 256), 0))))) else (none)) else (none))) else (none)) else (none)) else (none)))) = some (r1, r2, r3) := h
 clear h
 by_cases c2 : (l0.length : Int) = 0
 ·rw [if_pos c2] at H
  have c2b0 : ((l0.length : Int) == 0) = true := beq_iff_eq.mpr c2
  have c2b1 : ((l0.length : Int) != 0) = false := bne_eq_false_iff_eq.mpr c2
  clear c2
  simp only [Option.some.injEq, Prod.mk.injEq] at H
  obtain ⟨rfl, rfl, rfl⟩ := H
  go_enter Try.func26, Try.ntmps26
  go_wp2
  go_ret3
  exact ⟨by first | rfl | (simp [errW_none, errW_some] <;> rfl) | (simp [*, errW_none, errW_some] <;> rfl), by repeat (first | (with_reducible first | exact HB.out | apply below_alloc | apply pw_below_drewN | apply below_drew1) | exact HB.out)⟩
 ·rw [if_neg c2] at H
  have c2b0 : ((l0.length : Int) == 0) = false := beq_eq_false_iff_ne.mpr c2
  have c2b1 : ((l0.length : Int) != 0) = true := bne_iff_ne.mpr c2
  have c2b2 : ¬ (l0 = []) := fun h_ => c2 (by rw [h_]; rfl)
  obtain ⟨y286, hy286⟩ : ∃ y_ : List Int, y_ = (([1, 2, 4, 8] : List Int)) := ⟨_, rfl⟩
  replace H : (if 0 < (l0.length : Int) then (if 0 ≤ ((Int.tdiv (rd l0 0) 64) % 256) then (if ((Int.tdiv (rd l0 0) 64) % 256) < (y286.length : Int) then (if (l0.length : Int) < (rd y286 ((Int.tdiv (rd l0 0) 64) % 256)) then (some (0, 0, 12)) else (if 0 ≤ (rd y286 ((Int.tdiv (rd l0 0) 64) % 256)) then (if (rd y286 ((Int.tdiv (rd l0 0) 64) % 256)) ≤ (l0.length : Int) then ((crosswayref01_Num.f k (l0.take ((rd y286 ((Int.tdiv (rd l0 0) 64) % 256)) : Int).toNat)).bind fun bt292 => ((crosswayref08_limit.f (rd y286 ((Int.tdiv (rd l0 0) 64) % 256))).bind fun t294 => (if t294 = 0 then (none) else (some (Int.tmod bt292.1 t294, rd y286 ((Int.tdiv (rd l0 0) 64) % 256), 0))))) else (none)) else (none))) else (none)) else (none)) else (none)) = some (r1, r2, r3) := by first | (rw [hy286]; with_reducible exact H) | (have H2_ := (Option.bind_some _ _).symm.trans H; rw [hy286]; with_reducible exact H2_) | (have H2_ := (Option.bind_some _ _).symm.trans H; with_reducible exact H2_) | with_reducible exact H | (rw [hy286]; exact H) | exact H
  have Ny286 := Aside0.mk hy286
  clear hy286
  by_cases c3 : 0 < (l0.length : Int)
  ·rw [if_pos c3] at H
   have c3b0 : decide (0 < (l0.length : Int)) = true := decide_eq_true c3
   have c3b1 : decide (0 < l0.length) = true := decide_eq_true (by omega)
   clear c3
   obtain ⟨ji4, hji4⟩ : ∃ j_ : Int, ((Int.tdiv (rd l0 0) 64) % 256) = j_ := ⟨_, rfl⟩
   have hji4w : IntKind.u8.wrap (Int.tdiv (rd l0 0) 64) = ji4 := by rw [IntKind.wrap_u8]; exact hji4
   replace H : (if 0 ≤ (ji4) then (if (ji4) < (y286.length : Int) then (if (l0.length : Int) < (rd y286 (ji4)) then (some (0, 0, 12)) else (if 0 ≤ (rd y286 (ji4)) then (if (rd y286 (ji4)) ≤ (l0.length : Int) then ((crosswayref01_Num.f k (l0.take ((rd y286 (ji4)) : Int).toNat)).bind fun bt292 => ((crosswayref08_limit.f (rd y286 (ji4))).bind fun t294 => (if t294 = 0 then (none) else (some (Int.tmod bt292.1 t294, rd y286 (ji4), 0))))) else (none)) else (none))) else (none)) else (none)) = some (r1, r2, r3) := by first | (rw [hji4] at H; exact H) | (simp only [hji4] at H ⊢; exact H)
   by_cases c5 : 0 ≤ (ji4)
   ·rw [if_pos c5] at H
    have c5b0 : decide (0 ≤ (ji4)) = true := decide_eq_true c5
    clear c5
    by_cases c6 : (ji4) < (y286.length : Int)
    ·rw [if_pos c6] at H
     have c6b0 : decide ((ji4) < (y286.length : Int)) = true := decide_eq_true c6
     clear c6
     by_cases c7 : (l0.length : Int) < (rd y286 (ji4))
     ·rw [if_pos c7] at H
      have c7b0 : decide ((l0.length : Int) < (rd y286 (ji4))) = true := decide_eq_true c7
      clear c7
      simp only [Option.some.injEq, Prod.mk.injEq] at H
      obtain ⟨rfl, rfl, rfl⟩ := H
      go_enter Try.func26, Try.ntmps26
      go_wp2_with (first | ((with_reducible refine gate_dst (N := 11) rfl ?_); refine R_lit (Kd.int .i64) _ 3 ?hg (N := 11) ?hd (xs := ([1, 2, 4, 8] : List Int)) (inner := [.int .i64 1, .int .i64 2, .int .i64 4, .int .i64 8]) (ok := fun _ => True) (okp := fun _ => True) ?hr ?hp (fun _ hk => hk) trivial (Below.refl _ _) (Nat.le_refl _) (by simp) ?_; (case hd => rfl); (case hg => rfl); (case hr => first | (go_simp; done) | (go_simp; rfl)); (case hp => exact (Reps.one (show Kd.M (Kd.int .i64) _ _ _ 1 [.int .i64 1] from rfl) (Reps.one (show Kd.M (Kd.int .i64) _ _ _ 2 [.int .i64 2] from rfl) (Reps.one (show Kd.M (Kd.int .i64) _ _ _ 4 [.int .i64 4] from rfl) (Reps.one (show Kd.M (Kd.int .i64) _ _ _ 8 [.int .i64 8] from rfl) (Reps.none _ _)))))); intro v287 w8 ho9 hb hg_ hnew_; clear hg_ hnew_; (first | rw [← Ny286.out] at ho9 | (simp only [Int.reduceToNat] at ho9; rw [← Ny286.out] at ho9)); have n0_ := Aside0.mk (R_lower ho9 (below_size (by repeat (first | (with_reducible first | exact HB.out | apply below_alloc | apply pw_below_drewN | apply below_drew1) | exact HB.out)))); have n1_ := Aside0.mk (below_step (by repeat (first | (with_reducible first | exact HB.out | apply below_alloc | apply pw_below_drewN | apply below_drew1) | exact HB.out)) hb); clear HB; have HO288 := n0_; have HB := n1_; clear n0_ n1_; clear hb ho9; have p289 : 0 ≤ (0 : Int) := (by omega); have q289 : 0 < (l0.length : Int) := of_decide_eq_true (by first | (with_reducible assumption) | assumption); obtain ⟨ad289, e289, hx289_0⟩ := Kd.at_int HR0.out 0 p289 q289; cases e289; have qi289 : (0 < l0.length) = True := eq_true (by omega); (try rw [show ((0 : Int)).toNat = 0 from rfl] at hx289_0); (try rw [Addr.add_zero'] at hx289_0); replace hx289_0 := (HB.out.cell (World.block_lt_of_cell? w _ hx289_0)).trans hx289_0; replace p289 := eq_true p289; replace q289 := eq_true q289; obtain ⟨Ao10, co10, eo10⟩ := R_slice HO288.out; subst eo10; have p290 : 0 ≤ ((ji4) : Int) := of_decide_eq_true (by first | (with_reducible assumption) | assumption); have q290 : (ji4) < (y286.length : Int) := of_decide_eq_true (by first | (with_reducible assumption) | assumption); obtain ⟨ad290, e290, hx290_0⟩ := Kd.at_int (R_reads' HO288.out).2.2 (ji4) p290 q290; cases e290; replace p290 := eq_true p290; replace q290 := eq_true q290))
      go_ret3
      exact ⟨by first | rfl | (simp [errW_none, errW_some] <;> rfl) | (simp only [← hji4]; first | rfl | (simp [errW_none, errW_some] <;> rfl)) | (simp [*, errW_none, errW_some] <;> rfl), by repeat (first | (with_reducible first | exact HB.out | apply below_alloc | apply pw_below_drewN | apply below_drew1) | exact HB.out)⟩
     ·rw [if_neg c7] at H
      have c7b0 : decide ((l0.length : Int) < (rd y286 (ji4))) = false := decide_eq_false c7
      clear c7
      by_cases c11 : 0 ≤ (rd y286 (ji4))
      ·rw [if_pos c11] at H
       have c11b0 := eq_true c11
       have c11b1 : decide (0 ≤ (rd y286 (ji4))) = true := decide_eq_true c11
       clear c11
       by_cases c12 : (rd y286 (ji4)) ≤ (l0.length : Int)
       ·rw [if_pos c12] at H
        have c12b0 := eq_true c12
        have c12b1 : decide ((rd y286 (ji4)) ≤ (l0.length : Int)) = true := decide_eq_true c12
        clear c12
        replace H := Option.bind_eq_some_iff.mp H
        obtain ⟨⟨t292, t293⟩, A130, H⟩ := H
        try dsimp only at H
        have A13 := Aside0.mk A130
        clear A130
        replace H := Option.bind_eq_some_iff.mp H
        obtain ⟨t294, A140, H⟩ := H
        try dsimp only at H
        have A14 := Aside0.mk A140
        clear A140
        by_cases c15 : t294 = 0
        ·rw [if_pos c15] at H
         exact absurd H (by simp)
        ·rw [if_neg c15] at H
         have c15b0 : (t294 == 0) = false := beq_eq_false_iff_ne.mpr c15
         have c15b1 : (t294 != 0) = true := bne_iff_ne.mpr c15
         simp only [Option.some.injEq, Prod.mk.injEq] at H
         obtain ⟨rfl, rfl, rfl⟩ := H
         go_enter Try.func26, Try.ntmps26
         go_wp2_with (first | ((with_reducible refine gate_dst (N := 11) rfl ?_); refine R_lit (Kd.int .i64) _ 3 ?hg (N := 11) ?hd (xs := ([1, 2, 4, 8] : List Int)) (inner := [.int .i64 1, .int .i64 2, .int .i64 4, .int .i64 8]) (ok := fun _ => True) (okp := fun _ => True) ?hr ?hp (fun _ hk => hk) trivial (Below.refl _ _) (Nat.le_refl _) (by simp) ?_; (case hd => rfl); (case hg => rfl); (case hr => first | (go_simp; done) | (go_simp; rfl)); (case hp => exact (Reps.one (show Kd.M (Kd.int .i64) _ _ _ 1 [.int .i64 1] from rfl) (Reps.one (show Kd.M (Kd.int .i64) _ _ _ 2 [.int .i64 2] from rfl) (Reps.one (show Kd.M (Kd.int .i64) _ _ _ 4 [.int .i64 4] from rfl) (Reps.one (show Kd.M (Kd.int .i64) _ _ _ 8 [.int .i64 8] from rfl) (Reps.none _ _)))))); intro v287 w16 ho17 hb hg_ hnew_; clear hg_ hnew_; (first | rw [← Ny286.out] at ho17 | (simp only [Int.reduceToNat] at ho17; rw [← Ny286.out] at ho17)); have n0_ := Aside0.mk (R_lower ho17 (below_size (by repeat (first | (with_reducible first | exact HB.out | apply below_alloc | apply pw_below_drewN | apply below_drew1) | exact HB.out)))); have n1_ := Aside0.mk (below_step (by repeat (first | (with_reducible first | exact HB.out | apply below_alloc | apply pw_below_drewN | apply below_drew1) | exact HB.out)) hb); clear HB; have HO288 := n0_; have HB := n1_; clear n0_ n1_; clear hb ho17; have p289 : 0 ≤ (0 : Int) := (by omega); have q289 : 0 < (l0.length : Int) := of_decide_eq_true (by first | (with_reducible assumption) | assumption); obtain ⟨ad289, e289, hx289_0⟩ := Kd.at_int HR0.out 0 p289 q289; cases e289; have qi289 : (0 < l0.length) = True := eq_true (by omega); (try rw [show ((0 : Int)).toNat = 0 from rfl] at hx289_0); (try rw [Addr.add_zero'] at hx289_0); replace hx289_0 := (HB.out.cell (World.block_lt_of_cell? w _ hx289_0)).trans hx289_0; replace p289 := eq_true p289; replace q289 := eq_true q289; obtain ⟨Ao18, co18, eo18⟩ := R_slice HO288.out; subst eo18; have p290 : 0 ≤ ((ji4) : Int) := of_decide_eq_true (by first | (with_reducible assumption) | assumption); have q290 : (ji4) < (y286.length : Int) := of_decide_eq_true (by first | (with_reducible assumption) | assumption); obtain ⟨ad290, e290, hx290_0⟩ := Kd.at_int (R_reads' HO288.out).2.2 (ji4) p290 q290; cases e290; replace p290 := eq_true p290; replace q290 := eq_true q290; obtain ⟨i019, hi019, _, hsz19, _⟩ := info_parts info5; obtain ⟨hcut19, hA19, hC19⟩ := print_take_of (P := Try.prog) (Value.int .u8) 0 22 5 .i64 Try.underlying22 hi019 hsz19 (some ad289) c0 l0 (rd y286 (ji4)) (of_decide_eq_true (by first | (with_reducible assumption) | assumption)) (of_decide_eq_true (by first | (with_reducible assumption) | assumption)) HC0.out; have HR291 := Aside0.mk (C_of_reads (h1 := fun _ => rfl) (hA19 _ (Kd.reads_of_C HR0.out))); have HC291 := Aside0.mk hC19; clear hA19 hC19 hi019 hsz19) | ((with_reducible refine gate_callee (f := 43) rfl ?_); refine goesL_ (some 26) rfl rfl Try.func43 (by kernel_rfl) rfl #[.slice (some ad289) (l0.take ((rd y286 (ji4)) : Int).toNat).length c0] rfl (by (try simp only [List.map_toArray, List.map_cons, List.map_nil]); first | done | (rw [show (l0.take ((rd y286 (ji4)) : Int).toNat).length = (rd y286 (ji4)).toNat from (by rw [List.length_take]; have h_ : ((rd y286 (ji4)) : Int) ≤ (l0.length : Int) := of_decide_eq_true (by first | (with_reducible assumption) | assumption); omega)] <;> rfl) | (simp only [hji4]; rfl) | rfl | (simp only [List.length_drop, List.length_take]; rfl)) ?_; (with_reducible refine (crosswayref01_Num.calls k _ _ (l0.take ((rd y286 (ji4)) : Int).toNat) t292 t293 _ ?side1 ?side2 A13.out).mono ?_); (case side1 => repeat (first | exact (C_below HR291.out HB.out) | (with_reducible refine C_alloc ?_ _) | (with_reducible refine C_drewN ?_ _) | (with_reducible refine C_drew ?_))); (case side2 => exact HC291.out); rintro e w' ⟨rfl, ⟨nd, rfl⟩⟩; refine ⟨_, rfl, ?_⟩) | ((with_reducible refine gate_callee (f := 44) rfl ?_); refine goesL_ (some 31) rfl rfl Try.func44 (by kernel_rfl) rfl #[.int .i64 (rd y286 (ji4))] rfl (by (try simp only [List.map_toArray, List.map_cons, List.map_nil]); first | done | (simp only [hji4]; rfl) | rfl | (simp only [List.length_drop, List.length_take]; rfl)) ?_; (with_reducible refine (crosswayref08_limit.calls (rd y286 (ji4)) t294 _ A14.out).mono ?_); rintro e w' ⟨rfl, ⟨nd, rfl⟩⟩; refine ⟨_, rfl, ?_⟩))
         go_ret3
         exact ⟨by first | rfl | (simp [errW_none, errW_some] <;> rfl) | (simp only [← hji4]; first | rfl | (simp [errW_none, errW_some] <;> rfl)) | (simp [*, errW_none, errW_some] <;> rfl), by repeat (first | (with_reducible first | exact HB.out | apply below_alloc | apply pw_below_drewN | apply below_drew1) | exact HB.out)⟩
       ·rw [if_neg c12] at H
        exact absurd H (by simp)
      ·rw [if_neg c11] at H
       exact absurd H (by simp)
    ·rw [if_neg c6] at H
     exact absurd H (by simp)
   ·rw [if_neg c5] at H
    exact absurd H (by simp)
  ·rw [if_neg c3] at H
   exact absurd H (by simp)

end Go.Proofs.Ytmhmmmkpijbbiad.M
