/- Contracts of the Go functions that the laws reach, each as a plain Lean function: written by xprint.py, a program of this repo. -/
import Derived.Test.YtblllcmdnmjghaaM0
namespace Go.Proofs.Ytblllcmdnmjghaa.M
open Go.RowKit Go.Proofs.YtblllcmdnmjghaaW.PrintWords Go.Proofs.YtblllcmdnmjghaaW.PrintLast Go.Proofs.YtblllcmdnmjghaaW.PrintMore Go.Proofs.Ytblllcmdnmjghaa.X
attribute [local go_sem] max2_int min2_int max_two min_two max_three min_three max_four min_four   -- for this text's walks alone
set_option linter.unusedVariables false
set_option linter.unusedSimpArgs false

/-! ### poly_Elem_Next: function 10 -/
def poly_Elem_Next.f (a0_0 : Int) (a0_1 : Int) : Option (Int × Int) := if (Go.bits .and .u64 a0_1 1) = 0 then (some (a0_0 / 2, Go.bits .or .u64 (a0_1 / 2) (IntKind.u64.wrap (a0_0 * 9223372036854775808)))) else (some (Go.bits .xor .u64 (a0_0 / 2) 16212958658533785600, Go.bits .or .u64 (a0_1 / 2) (IntKind.u64.wrap (a0_0 * 9223372036854775808))))
set_option maxHeartbeats 8000000 in
set_option maxRecDepth 100000 in
theorem poly_Elem_Next.calls (a0_0 : Int) (a0_1 : Int) (r1 : Int) (r2 : Int) (w : World) (h : poly_Elem_Next.f a0_0 a0_1 = some (r1, r2)) :
    Calls Try.prog 10 #[.agg #[.int .u64 a0_0, .int .u64 a0_1]] w fun e w' => e = .returned (.agg #[.int .u64 r1, .int .u64 r2]) ∧ Below w.heap.size w w' := by
  have hu24 := Try.underlying24
  have HB := Aside0.mk (Below.refl w.heap.size w)
  have H : (if (Go.bits .and .u64 a0_1 1) = 0 then (some (a0_0 / 2, Go.bits .or .u64 (a0_1 / 2) (IntKind.u64.wrap (a0_0 * 9223372036854775808)))) else (some (Go.bits .xor .u64 (a0_0 / 2) 16212958658533785600, Go.bits .or .u64 (a0_1 / 2) (IntKind.u64.wrap (a0_0 * 9223372036854775808))))) = some (r1, r2) := h
  clear h
  by_cases c2 : (Go.bits .and .u64 a0_1 1) = 0
  · rw [if_pos c2] at H
    have c2b0 : ((Go.bits .and .u64 a0_1 1) == 0) = true := beq_iff_eq.mpr c2
    have c2b1 : ((Go.bits .and .u64 a0_1 1) != 0) = false := bne_eq_false_iff_eq.mpr c2
    clear c2
    simp only [Option.some.injEq, Prod.mk.injEq] at H
    obtain ⟨rfl, rfl⟩ := H
    go_enter Try.func10, Try.ntmps10
    go_wp2_with (first | ((with_reducible refine gate_dst (N := 1) rfl ?_); refine box_event ?hg (N := 1) ?hd (cs := #[.int .u64 a0_0, .int .u64 a0_1]) (t := 24) ?hr ?_; (case hd => rfl); (case hg => rfl); (case hr => first | (go_simp; done) | (go_simp; rfl)); intro gb101 hg w3 hbox hb; have n0_ := Aside0.mk (below_step (by repeat (first | (with_reducible first | exact HB.out | apply below_alloc | apply pw_below_drewN | apply below_drew1) | exact HB.out)) hb); have n1_ := Aside0.mk (hbox); have n2_ := Aside0.mk ((by rw [hg]; exact (below_size (by repeat (first | (with_reducible first | exact HB.out | apply below_alloc | apply pw_below_drewN | apply below_drew1) | exact HB.out))) : w.heap.size ≤ gb101)); have n3_ := Aside0.mk ((by rw [hg]; exact (below_size (by repeat (first | (with_reducible first | exact HB.out | apply below_alloc | apply pw_below_drewN | apply below_drew1) | exact HB.out))) : w.heap.size ≤ gb101)); clear HB; have HB := n0_; have BK101 := n1_; have GW101 := n2_; have GE101 := n3_; clear n0_ n1_ n2_ n3_; clear hb hbox hg) | ((with_reducible refine gate_dst (N := 2) rfl ?_); refine box_event ?hg (N := 2) ?hd (cs := #[.int .u64 0, .int .u64 0]) (t := 24) ?hr ?_; (case hd => rfl); (case hg => rfl); (case hr => first | (go_simp; done) | (go_simp; rfl)); intro gb102 hg w4 hbox hb; have n0_ := Aside0.mk (blk_below (g := gb101) (o := .cells #[.int .u64 a0_0, .int .u64 a0_1] 24 (0, 0)) (by (with_reducible repeat (first | refine blk_drewN ?_ _ | refine blk_drew ?_ | refine blk_alloc ?_ _)); exact BK101.out) hb); have n1_ := Aside0.mk (below_step (by repeat (first | (with_reducible first | exact HB.out | apply below_alloc | apply pw_below_drewN | apply below_drew1 | refine below_set ?_ GE101.out) | exact HB.out)) hb); have n2_ := Aside0.mk (hbox); have n3_ := Aside0.mk ((by rw [hg]; exact (below_size (by repeat (first | (with_reducible first | exact HB.out | apply below_alloc | apply pw_below_drewN | apply below_drew1 | refine below_set ?_ GE101.out) | exact HB.out))) : w.heap.size ≤ gb102)); have n4_ := Aside0.mk ((by rw [hg]; exact (below_size (by repeat (first | (with_reducible first | exact HB.out | apply below_alloc | apply pw_below_drewN | apply below_drew1 | refine below_set ?_ GE101.out) | exact HB.out))) : w.heap.size ≤ gb102)); have n5_ := Aside0.mk ((by rw [hg]; exact Nat.ne_of_lt (blk_lt (g := gb101) (o := .cells #[.int .u64 a0_0, .int .u64 a0_1] 24 (0, 0)) (by (with_reducible repeat (first | refine blk_drewN ?_ _ | refine blk_drew ?_ | refine blk_alloc ?_ _)); exact BK101.out)) : gb101 ≠ gb102)); have n6_ := Aside0.mk ((by rw [hg]; exact Nat.ne_of_gt (blk_lt (g := gb101) (o := .cells #[.int .u64 a0_0, .int .u64 a0_1] 24 (0, 0)) (by (with_reducible repeat (first | refine blk_drewN ?_ _ | refine blk_drew ?_ | refine blk_alloc ?_ _)); exact BK101.out)) : gb102 ≠ gb101)); clear BK101; clear HB; have BK101 := n0_; have HB := n1_; have BK102 := n2_; have GW102 := n3_; have GE102 := n4_; have NB101_102 := n5_; have NB102_101 := n6_; clear n0_ n1_ n2_ n3_ n4_ n5_ n6_; clear hb hbox hg; have hnb5 := NB101_102.out; have hnc5 := NB102_101.out; have hcz6_0 : w4.cell? ⟨gb101, 0, none⟩ = some (.int .u64 a0_0) := (blk_cell BK101.out 0).trans rfl; have hcz6_1 : w4.cell? ⟨gb101, 1, none⟩ = some (.int .u64 a0_1) := (blk_cell BK101.out 1).trans rfl; have hfz6_0 := blk_frozen BK101.out 0; have hfz6_1 := blk_frozen BK101.out 1) | ((with_reducible refine gate_dst (N := 3) rfl ?_); refine box_event ?hg (N := 3) ?hd (cs := #[.int .u64 0, .int .u64 0]) (t := 24) ?hr ?_; (case hd => rfl); (case hg => rfl); (case hr => first | (go_simp; done) | (go_simp; rfl)); intro gb103 hg w7 hbox hb; have n0_ := Aside0.mk (blk_below (g := gb101) (o := .cells #[.int .u64 a0_0, .int .u64 a0_1] 24 (0, 0)) (by (with_reducible repeat (first | refine blk_drewN ?_ _ | refine blk_drew ?_ | refine blk_alloc ?_ _)); exact BK101.out) hb); have n1_ := Aside0.mk (blk_below (g := gb102) (o := .cells #[.int .u64 0, .int .u64 0] 24 (0, 0)) (by (with_reducible repeat (first | refine blk_drewN ?_ _ | refine blk_drew ?_ | refine blk_alloc ?_ _)); exact BK102.out) hb); have n2_ := Aside0.mk (below_step (by repeat (first | (with_reducible first | exact HB.out | apply below_alloc | apply pw_below_drewN | apply below_drew1 | refine below_set ?_ GE101.out | refine below_set ?_ GE102.out) | exact HB.out)) hb); have n3_ := Aside0.mk (hbox); have n4_ := Aside0.mk ((by rw [hg]; exact (below_size (by repeat (first | (with_reducible first | exact HB.out | apply below_alloc | apply pw_below_drewN | apply below_drew1 | refine below_set ?_ GE101.out | refine below_set ?_ GE102.out) | exact HB.out))) : w.heap.size ≤ gb103)); have n5_ := Aside0.mk ((by rw [hg]; exact (below_size (by repeat (first | (with_reducible first | exact HB.out | apply below_alloc | apply pw_below_drewN | apply below_drew1 | refine below_set ?_ GE101.out | refine below_set ?_ GE102.out) | exact HB.out))) : w.heap.size ≤ gb103)); have n6_ := Aside0.mk ((by rw [hg]; exact Nat.ne_of_lt (blk_lt (g := gb101) (o := .cells #[.int .u64 a0_0, .int .u64 a0_1] 24 (0, 0)) (by (with_reducible repeat (first | refine blk_drewN ?_ _ | refine blk_drew ?_ | refine blk_alloc ?_ _)); exact BK101.out)) : gb101 ≠ gb103)); have n7_ := Aside0.mk ((by rw [hg]; exact Nat.ne_of_gt (blk_lt (g := gb101) (o := .cells #[.int .u64 a0_0, .int .u64 a0_1] 24 (0, 0)) (by (with_reducible repeat (first | refine blk_drewN ?_ _ | refine blk_drew ?_ | refine blk_alloc ?_ _)); exact BK101.out)) : gb103 ≠ gb101)); have n8_ := Aside0.mk ((by rw [hg]; exact Nat.ne_of_lt (blk_lt (g := gb102) (o := .cells #[.int .u64 0, .int .u64 0] 24 (0, 0)) (by (with_reducible repeat (first | refine blk_drewN ?_ _ | refine blk_drew ?_ | refine blk_alloc ?_ _)); exact BK102.out)) : gb102 ≠ gb103)); have n9_ := Aside0.mk ((by rw [hg]; exact Nat.ne_of_gt (blk_lt (g := gb102) (o := .cells #[.int .u64 0, .int .u64 0] 24 (0, 0)) (by (with_reducible repeat (first | refine blk_drewN ?_ _ | refine blk_drew ?_ | refine blk_alloc ?_ _)); exact BK102.out)) : gb103 ≠ gb102)); clear BK101; clear BK102; clear HB; have BK101 := n0_; have BK102 := n1_; have HB := n2_; have BK103 := n3_; have GW103 := n4_; have GE103 := n5_; have NB101_103 := n6_; have NB103_101 := n7_; have NB102_103 := n8_; have NB103_102 := n9_; clear n0_ n1_ n2_ n3_ n4_ n5_ n6_ n7_ n8_ n9_; clear hb hbox hg; have hnb8 := NB103_101.out; have hnc8 := NB101_103.out; have hnb9 := NB103_102.out; have hnc9 := NB102_103.out; have hcz10_0 : w7.cell? ⟨gb103, 0, none⟩ = some (.int .u64 0) := (blk_cell BK103.out 0).trans rfl; have hcz10_1 : w7.cell? ⟨gb103, 1, none⟩ = some (.int .u64 0) := (blk_cell BK103.out 1).trans rfl; have hfz10_0 := blk_frozen BK103.out 0; have hfz10_1 := blk_frozen BK103.out 1; have hcz11_0 : w7.cell? ⟨gb101, 0, none⟩ = some (.int .u64 a0_0) := (blk_cell BK101.out 0).trans rfl; have hcz11_1 : w7.cell? ⟨gb101, 1, none⟩ = some (.int .u64 a0_1) := (blk_cell BK101.out 1).trans rfl; have hfz11_0 := blk_frozen BK101.out 0; have hfz11_1 := blk_frozen BK101.out 1; have hcz12_0 : w7.cell? ⟨gb102, 0, none⟩ = some (.int .u64 0) := (blk_cell BK102.out 0).trans rfl; have hcz12_1 : w7.cell? ⟨gb102, 1, none⟩ = some (.int .u64 0) := (blk_cell BK102.out 1).trans rfl; have hfz12_0 := blk_frozen BK102.out 0; have hfz12_1 := blk_frozen BK102.out 1))
    refine bodyPost_ret (results_cell_row rfl _ _ gb102 24 #[.int .u64 (a0_0 / 2), .int .u64 (Go.bits .or .u64 (a0_1 / 2) (IntKind.u64.wrap (a0_0 * 9223372036854775808)))] (0, 0) _ rfl (by (with_reducible repeat (first | refine blk_drewN ?_ _ | refine blk_drew ?_ | refine blk_alloc ?_ _)); refine blk_put (cs := #[.int .u64 (a0_0 / 2), .int .u64 0]) ?_ 1 _ rfl; (with_reducible repeat (first | refine blk_drewN ?_ _ | refine blk_drew ?_ | refine blk_alloc ?_ _)); refine blk_put (cs := #[.int .u64 0, .int .u64 0]) ?_ 0 _ rfl; (with_reducible repeat (first | refine blk_drewN ?_ _ | refine blk_drew ?_ | refine blk_alloc ?_ _)); refine blk_far ?_ NB102_103.out _; (with_reducible repeat (first | refine blk_drewN ?_ _ | refine blk_drew ?_ | refine blk_alloc ?_ _)); refine blk_far ?_ NB102_103.out _; (with_reducible repeat (first | refine blk_drewN ?_ _ | refine blk_drew ?_ | refine blk_alloc ?_ _)); exact BK102.out) Try.underlying24 rfl (by kernel_rfl)) rfl ?_
    exact ⟨by first | rfl | (simp [errW_none, errW_some] <;> rfl) | (simp [*, errW_none, errW_some] <;> rfl), by repeat (first | (with_reducible first | exact HB.out | apply below_alloc | apply pw_below_drewN | apply below_drew1 | refine below_set ?_ GE101.out | refine below_set ?_ GE102.out | refine below_set ?_ GE103.out) | exact HB.out)⟩
  · rw [if_neg c2] at H
    have c2b0 : ((Go.bits .and .u64 a0_1 1) == 0) = false := beq_eq_false_iff_ne.mpr c2
    have c2b1 : ((Go.bits .and .u64 a0_1 1) != 0) = true := bne_iff_ne.mpr c2
    simp only [Option.some.injEq, Prod.mk.injEq] at H
    obtain ⟨rfl, rfl⟩ := H
    go_enter Try.func10, Try.ntmps10
    go_wp2_with (first | ((with_reducible refine gate_dst (N := 1) rfl ?_); refine box_event ?hg (N := 1) ?hd (cs := #[.int .u64 a0_0, .int .u64 a0_1]) (t := 24) ?hr ?_; (case hd => rfl); (case hg => rfl); (case hr => first | (go_simp; done) | (go_simp; rfl)); intro gb101 hg w13 hbox hb; have n0_ := Aside0.mk (below_step (by repeat (first | (with_reducible first | exact HB.out | apply below_alloc | apply pw_below_drewN | apply below_drew1) | exact HB.out)) hb); have n1_ := Aside0.mk (hbox); have n2_ := Aside0.mk ((by rw [hg]; exact (below_size (by repeat (first | (with_reducible first | exact HB.out | apply below_alloc | apply pw_below_drewN | apply below_drew1) | exact HB.out))) : w.heap.size ≤ gb101)); have n3_ := Aside0.mk ((by rw [hg]; exact (below_size (by repeat (first | (with_reducible first | exact HB.out | apply below_alloc | apply pw_below_drewN | apply below_drew1) | exact HB.out))) : w.heap.size ≤ gb101)); clear HB; have HB := n0_; have BK101 := n1_; have GW101 := n2_; have GE101 := n3_; clear n0_ n1_ n2_ n3_; clear hb hbox hg) | ((with_reducible refine gate_dst (N := 2) rfl ?_); refine box_event ?hg (N := 2) ?hd (cs := #[.int .u64 0, .int .u64 0]) (t := 24) ?hr ?_; (case hd => rfl); (case hg => rfl); (case hr => first | (go_simp; done) | (go_simp; rfl)); intro gb102 hg w14 hbox hb; have n0_ := Aside0.mk (blk_below (g := gb101) (o := .cells #[.int .u64 a0_0, .int .u64 a0_1] 24 (0, 0)) (by (with_reducible repeat (first | refine blk_drewN ?_ _ | refine blk_drew ?_ | refine blk_alloc ?_ _)); exact BK101.out) hb); have n1_ := Aside0.mk (below_step (by repeat (first | (with_reducible first | exact HB.out | apply below_alloc | apply pw_below_drewN | apply below_drew1 | refine below_set ?_ GE101.out) | exact HB.out)) hb); have n2_ := Aside0.mk (hbox); have n3_ := Aside0.mk ((by rw [hg]; exact (below_size (by repeat (first | (with_reducible first | exact HB.out | apply below_alloc | apply pw_below_drewN | apply below_drew1 | refine below_set ?_ GE101.out) | exact HB.out))) : w.heap.size ≤ gb102)); have n4_ := Aside0.mk ((by rw [hg]; exact (below_size (by repeat (first | (with_reducible first | exact HB.out | apply below_alloc | apply pw_below_drewN | apply below_drew1 | refine below_set ?_ GE101.out) | exact HB.out))) : w.heap.size ≤ gb102)); have n5_ := Aside0.mk ((by rw [hg]; exact Nat.ne_of_lt (blk_lt (g := gb101) (o := .cells #[.int .u64 a0_0, .int .u64 a0_1] 24 (0, 0)) (by (with_reducible repeat (first | refine blk_drewN ?_ _ | refine blk_drew ?_ | refine blk_alloc ?_ _)); exact BK101.out)) : gb101 ≠ gb102)); have n6_ := Aside0.mk ((by rw [hg]; exact Nat.ne_of_gt (blk_lt (g := gb101) (o := .cells #[.int .u64 a0_0, .int .u64 a0_1] 24 (0, 0)) (by (with_reducible repeat (first | refine blk_drewN ?_ _ | refine blk_drew ?_ | refine blk_alloc ?_ _)); exact BK101.out)) : gb102 ≠ gb101)); clear BK101; clear HB; have BK101 := n0_; have HB := n1_; have BK102 := n2_; have GW102 := n3_; have GE102 := n4_; have NB101_102 := n5_; have NB102_101 := n6_; clear n0_ n1_ n2_ n3_ n4_ n5_ n6_; clear hb hbox hg; have hnb15 := NB101_102.out; have hnc15 := NB102_101.out; have hcz16_0 : w14.cell? ⟨gb101, 0, none⟩ = some (.int .u64 a0_0) := (blk_cell BK101.out 0).trans rfl; have hcz16_1 : w14.cell? ⟨gb101, 1, none⟩ = some (.int .u64 a0_1) := (blk_cell BK101.out 1).trans rfl; have hfz16_0 := blk_frozen BK101.out 0; have hfz16_1 := blk_frozen BK101.out 1) | ((with_reducible refine gate_dst (N := 3) rfl ?_); refine box_event ?hg (N := 3) ?hd (cs := #[.int .u64 0, .int .u64 0]) (t := 24) ?hr ?_; (case hd => rfl); (case hg => rfl); (case hr => first | (go_simp; done) | (go_simp; rfl)); intro gb103 hg w17 hbox hb; have n0_ := Aside0.mk (blk_below (g := gb101) (o := .cells #[.int .u64 a0_0, .int .u64 a0_1] 24 (0, 0)) (by (with_reducible repeat (first | refine blk_drewN ?_ _ | refine blk_drew ?_ | refine blk_alloc ?_ _)); exact BK101.out) hb); have n1_ := Aside0.mk (blk_below (g := gb102) (o := .cells #[.int .u64 0, .int .u64 0] 24 (0, 0)) (by (with_reducible repeat (first | refine blk_drewN ?_ _ | refine blk_drew ?_ | refine blk_alloc ?_ _)); exact BK102.out) hb); have n2_ := Aside0.mk (below_step (by repeat (first | (with_reducible first | exact HB.out | apply below_alloc | apply pw_below_drewN | apply below_drew1 | refine below_set ?_ GE101.out | refine below_set ?_ GE102.out) | exact HB.out)) hb); have n3_ := Aside0.mk (hbox); have n4_ := Aside0.mk ((by rw [hg]; exact (below_size (by repeat (first | (with_reducible first | exact HB.out | apply below_alloc | apply pw_below_drewN | apply below_drew1 | refine below_set ?_ GE101.out | refine below_set ?_ GE102.out) | exact HB.out))) : w.heap.size ≤ gb103)); have n5_ := Aside0.mk ((by rw [hg]; exact (below_size (by repeat (first | (with_reducible first | exact HB.out | apply below_alloc | apply pw_below_drewN | apply below_drew1 | refine below_set ?_ GE101.out | refine below_set ?_ GE102.out) | exact HB.out))) : w.heap.size ≤ gb103)); have n6_ := Aside0.mk ((by rw [hg]; exact Nat.ne_of_lt (blk_lt (g := gb101) (o := .cells #[.int .u64 a0_0, .int .u64 a0_1] 24 (0, 0)) (by (with_reducible repeat (first | refine blk_drewN ?_ _ | refine blk_drew ?_ | refine blk_alloc ?_ _)); exact BK101.out)) : gb101 ≠ gb103)); have n7_ := Aside0.mk ((by rw [hg]; exact Nat.ne_of_gt (blk_lt (g := gb101) (o := .cells #[.int .u64 a0_0, .int .u64 a0_1] 24 (0, 0)) (by (with_reducible repeat (first | refine blk_drewN ?_ _ | refine blk_drew ?_ | refine blk_alloc ?_ _)); exact BK101.out)) : gb103 ≠ gb101)); have n8_ := Aside0.mk ((by rw [hg]; exact Nat.ne_of_lt (blk_lt (g := gb102) (o := .cells #[.int .u64 0, .int .u64 0] 24 (0, 0)) (by (with_reducible repeat (first | refine blk_drewN ?_ _ | refine blk_drew ?_ | refine blk_alloc ?_ _)); exact BK102.out)) : gb102 ≠ gb103)); have n9_ := Aside0.mk ((by rw [hg]; exact Nat.ne_of_gt (blk_lt (g := gb102) (o := .cells #[.int .u64 0, .int .u64 0] 24 (0, 0)) (by (with_reducible repeat (first | refine blk_drewN ?_ _ | refine blk_drew ?_ | refine blk_alloc ?_ _)); exact BK102.out)) : gb103 ≠ gb102)); clear BK101; clear BK102; clear HB; have BK101 := n0_; have BK102 := n1_; have HB := n2_; have BK103 := n3_; have GW103 := n4_; have GE103 := n5_; have NB101_103 := n6_; have NB103_101 := n7_; have NB102_103 := n8_; have NB103_102 := n9_; clear n0_ n1_ n2_ n3_ n4_ n5_ n6_ n7_ n8_ n9_; clear hb hbox hg; have hnb18 := NB103_101.out; have hnc18 := NB101_103.out; have hnb19 := NB103_102.out; have hnc19 := NB102_103.out; have hcz20_0 : w17.cell? ⟨gb103, 0, none⟩ = some (.int .u64 0) := (blk_cell BK103.out 0).trans rfl; have hcz20_1 : w17.cell? ⟨gb103, 1, none⟩ = some (.int .u64 0) := (blk_cell BK103.out 1).trans rfl; have hfz20_0 := blk_frozen BK103.out 0; have hfz20_1 := blk_frozen BK103.out 1; have hcz21_0 : w17.cell? ⟨gb101, 0, none⟩ = some (.int .u64 a0_0) := (blk_cell BK101.out 0).trans rfl; have hcz21_1 : w17.cell? ⟨gb101, 1, none⟩ = some (.int .u64 a0_1) := (blk_cell BK101.out 1).trans rfl; have hfz21_0 := blk_frozen BK101.out 0; have hfz21_1 := blk_frozen BK101.out 1; have hcz22_0 : w17.cell? ⟨gb102, 0, none⟩ = some (.int .u64 0) := (blk_cell BK102.out 0).trans rfl; have hcz22_1 : w17.cell? ⟨gb102, 1, none⟩ = some (.int .u64 0) := (blk_cell BK102.out 1).trans rfl; have hfz22_0 := blk_frozen BK102.out 0; have hfz22_1 := blk_frozen BK102.out 1))
    refine bodyPost_ret (results_cell_row rfl _ _ gb102 24 #[.int .u64 (Go.bits .xor .u64 (a0_0 / 2) 16212958658533785600), .int .u64 (Go.bits .or .u64 (a0_1 / 2) (IntKind.u64.wrap (a0_0 * 9223372036854775808)))] (0, 0) _ rfl (by (with_reducible repeat (first | refine blk_drewN ?_ _ | refine blk_drew ?_ | refine blk_alloc ?_ _)); refine blk_put (cs := #[.int .u64 (Go.bits .xor .u64 (a0_0 / 2) 16212958658533785600), .int .u64 0]) ?_ 1 _ rfl; (with_reducible repeat (first | refine blk_drewN ?_ _ | refine blk_drew ?_ | refine blk_alloc ?_ _)); refine blk_put (cs := #[.int .u64 0, .int .u64 0]) ?_ 0 _ rfl; (with_reducible repeat (first | refine blk_drewN ?_ _ | refine blk_drew ?_ | refine blk_alloc ?_ _)); refine blk_far ?_ NB102_103.out _; (with_reducible repeat (first | refine blk_drewN ?_ _ | refine blk_drew ?_ | refine blk_alloc ?_ _)); refine blk_far ?_ NB102_103.out _; (with_reducible repeat (first | refine blk_drewN ?_ _ | refine blk_drew ?_ | refine blk_alloc ?_ _)); refine blk_far ?_ NB102_103.out _; (with_reducible repeat (first | refine blk_drewN ?_ _ | refine blk_drew ?_ | refine blk_alloc ?_ _)); exact BK102.out) Try.underlying24 rfl (by kernel_rfl)) rfl ?_
    exact ⟨by first | rfl | (simp [errW_none, errW_some] <;> rfl) | (simp [*, errW_none, errW_some] <;> rfl), by repeat (first | (with_reducible first | exact HB.out | apply below_alloc | apply pw_below_drewN | apply below_drew1 | refine below_set ?_ GE101.out | refine below_set ?_ GE102.out | refine below_set ?_ GE103.out) | exact HB.out)⟩

/-! ### poly_Elem_plus: function 22 -/
def poly_Elem_plus.f (a0_0 : Int) (a0_1 : Int) (a1_0 : Int) (a1_1 : Int) : Option (Int × Int) := some (Go.bits .xor .u64 a0_0 a1_0, Go.bits .xor .u64 a0_1 a1_1)
set_option maxHeartbeats 8000000 in
set_option maxRecDepth 100000 in
theorem poly_Elem_plus.calls (a0_0 : Int) (a0_1 : Int) (a1_0 : Int) (a1_1 : Int) (r1 : Int) (r2 : Int) (w : World) (h : poly_Elem_plus.f a0_0 a0_1 a1_0 a1_1 = some (r1, r2)) :
    Calls Try.prog 22 #[.agg #[.int .u64 a0_0, .int .u64 a0_1], .agg #[.int .u64 a1_0, .int .u64 a1_1]] w fun e w' => e = .returned (.agg #[.int .u64 r1, .int .u64 r2]) ∧ Below w.heap.size w w' := by
  have hu24 := Try.underlying24
  have HB := Aside0.mk (Below.refl w.heap.size w)
  have H : (some (Go.bits .xor .u64 a0_0 a1_0, Go.bits .xor .u64 a0_1 a1_1)) = some (r1, r2) := h
  clear h
  simp only [Option.some.injEq, Prod.mk.injEq] at H
  obtain ⟨rfl, rfl⟩ := H
  go_enter Try.func22, Try.ntmps22
  go_wp2_with (first | ((with_reducible refine gate_dst (N := 2) rfl ?_); refine box_event ?hg (N := 2) ?hd (cs := #[.int .u64 a0_0, .int .u64 a0_1]) (t := 24) ?hr ?_; (case hd => rfl); (case hg => rfl); (case hr => first | (go_simp; done) | (go_simp; rfl)); intro gb104 hg w3 hbox hb; have n0_ := Aside0.mk (below_step (by repeat (first | (with_reducible first | exact HB.out | apply below_alloc | apply pw_below_drewN | apply below_drew1) | exact HB.out)) hb); have n1_ := Aside0.mk (hbox); have n2_ := Aside0.mk ((by rw [hg]; exact (below_size (by repeat (first | (with_reducible first | exact HB.out | apply below_alloc | apply pw_below_drewN | apply below_drew1) | exact HB.out))) : w.heap.size ≤ gb104)); have n3_ := Aside0.mk ((by rw [hg]; exact (below_size (by repeat (first | (with_reducible first | exact HB.out | apply below_alloc | apply pw_below_drewN | apply below_drew1) | exact HB.out))) : w.heap.size ≤ gb104)); clear HB; have HB := n0_; have BK104 := n1_; have GW104 := n2_; have GE104 := n3_; clear n0_ n1_ n2_ n3_; clear hb hbox hg) | ((with_reducible refine gate_dst (N := 3) rfl ?_); refine box_event ?hg (N := 3) ?hd (cs := #[.int .u64 a1_0, .int .u64 a1_1]) (t := 24) ?hr ?_; (case hd => rfl); (case hg => rfl); (case hr => first | (go_simp; done) | (go_simp; rfl)); intro gb105 hg w4 hbox hb; have n0_ := Aside0.mk (blk_below (g := gb104) (o := .cells #[.int .u64 a0_0, .int .u64 a0_1] 24 (0, 0)) (by (with_reducible repeat (first | refine blk_drewN ?_ _ | refine blk_drew ?_ | refine blk_alloc ?_ _)); exact BK104.out) hb); have n1_ := Aside0.mk (below_step (by repeat (first | (with_reducible first | exact HB.out | apply below_alloc | apply pw_below_drewN | apply below_drew1 | refine below_set ?_ GE104.out) | exact HB.out)) hb); have n2_ := Aside0.mk (hbox); have n3_ := Aside0.mk ((by rw [hg]; exact (below_size (by repeat (first | (with_reducible first | exact HB.out | apply below_alloc | apply pw_below_drewN | apply below_drew1 | refine below_set ?_ GE104.out) | exact HB.out))) : w.heap.size ≤ gb105)); have n4_ := Aside0.mk ((by rw [hg]; exact (below_size (by repeat (first | (with_reducible first | exact HB.out | apply below_alloc | apply pw_below_drewN | apply below_drew1 | refine below_set ?_ GE104.out) | exact HB.out))) : w.heap.size ≤ gb105)); have n5_ := Aside0.mk ((by rw [hg]; exact Nat.ne_of_lt (blk_lt (g := gb104) (o := .cells #[.int .u64 a0_0, .int .u64 a0_1] 24 (0, 0)) (by (with_reducible repeat (first | refine blk_drewN ?_ _ | refine blk_drew ?_ | refine blk_alloc ?_ _)); exact BK104.out)) : gb104 ≠ gb105)); have n6_ := Aside0.mk ((by rw [hg]; exact Nat.ne_of_gt (blk_lt (g := gb104) (o := .cells #[.int .u64 a0_0, .int .u64 a0_1] 24 (0, 0)) (by (with_reducible repeat (first | refine blk_drewN ?_ _ | refine blk_drew ?_ | refine blk_alloc ?_ _)); exact BK104.out)) : gb105 ≠ gb104)); clear BK104; clear HB; have BK104 := n0_; have HB := n1_; have BK105 := n2_; have GW105 := n3_; have GE105 := n4_; have NB104_105 := n5_; have NB105_104 := n6_; clear n0_ n1_ n2_ n3_ n4_ n5_ n6_; clear hb hbox hg) | ((with_reducible refine gate_dst (N := 4) rfl ?_); refine box_event ?hg (N := 4) ?hd (cs := #[.int .u64 0, .int .u64 0]) (t := 24) ?hr ?_; (case hd => rfl); (case hg => rfl); (case hr => first | (go_simp; done) | (go_simp; rfl)); intro gb106 hg w5 hbox hb; have n0_ := Aside0.mk (blk_below (g := gb104) (o := .cells #[.int .u64 a0_0, .int .u64 a0_1] 24 (0, 0)) (by (with_reducible repeat (first | refine blk_drewN ?_ _ | refine blk_drew ?_ | refine blk_alloc ?_ _)); exact BK104.out) hb); have n1_ := Aside0.mk (blk_below (g := gb105) (o := .cells #[.int .u64 a1_0, .int .u64 a1_1] 24 (0, 0)) (by (with_reducible repeat (first | refine blk_drewN ?_ _ | refine blk_drew ?_ | refine blk_alloc ?_ _)); exact BK105.out) hb); have n2_ := Aside0.mk (below_step (by repeat (first | (with_reducible first | exact HB.out | apply below_alloc | apply pw_below_drewN | apply below_drew1 | refine below_set ?_ GE104.out | refine below_set ?_ GE105.out) | exact HB.out)) hb); have n3_ := Aside0.mk (hbox); have n4_ := Aside0.mk ((by rw [hg]; exact (below_size (by repeat (first | (with_reducible first | exact HB.out | apply below_alloc | apply pw_below_drewN | apply below_drew1 | refine below_set ?_ GE104.out | refine below_set ?_ GE105.out) | exact HB.out))) : w.heap.size ≤ gb106)); have n5_ := Aside0.mk ((by rw [hg]; exact (below_size (by repeat (first | (with_reducible first | exact HB.out | apply below_alloc | apply pw_below_drewN | apply below_drew1 | refine below_set ?_ GE104.out | refine below_set ?_ GE105.out) | exact HB.out))) : w.heap.size ≤ gb106)); have n6_ := Aside0.mk ((by rw [hg]; exact Nat.ne_of_lt (blk_lt (g := gb104) (o := .cells #[.int .u64 a0_0, .int .u64 a0_1] 24 (0, 0)) (by (with_reducible repeat (first | refine blk_drewN ?_ _ | refine blk_drew ?_ | refine blk_alloc ?_ _)); exact BK104.out)) : gb104 ≠ gb106)); have n7_ := Aside0.mk ((by rw [hg]; exact Nat.ne_of_gt (blk_lt (g := gb104) (o := .cells #[.int .u64 a0_0, .int .u64 a0_1] 24 (0, 0)) (by (with_reducible repeat (first | refine blk_drewN ?_ _ | refine blk_drew ?_ | refine blk_alloc ?_ _)); exact BK104.out)) : gb106 ≠ gb104)); have n8_ := Aside0.mk ((by rw [hg]; exact Nat.ne_of_lt (blk_lt (g := gb105) (o := .cells #[.int .u64 a1_0, .int .u64 a1_1] 24 (0, 0)) (by (with_reducible repeat (first | refine blk_drewN ?_ _ | refine blk_drew ?_ | refine blk_alloc ?_ _)); exact BK105.out)) : gb105 ≠ gb106)); have n9_ := Aside0.mk ((by rw [hg]; exact Nat.ne_of_gt (blk_lt (g := gb105) (o := .cells #[.int .u64 a1_0, .int .u64 a1_1] 24 (0, 0)) (by (with_reducible repeat (first | refine blk_drewN ?_ _ | refine blk_drew ?_ | refine blk_alloc ?_ _)); exact BK105.out)) : gb106 ≠ gb105)); clear BK104; clear BK105; clear HB; have BK104 := n0_; have BK105 := n1_; have HB := n2_; have BK106 := n3_; have GW106 := n4_; have GE106 := n5_; have NB104_106 := n6_; have NB106_104 := n7_; have NB105_106 := n8_; have NB106_105 := n9_; clear n0_ n1_ n2_ n3_ n4_ n5_ n6_ n7_ n8_ n9_; clear hb hbox hg; have hnb6 := NB104_105.out; have hnc6 := NB105_104.out; have hnb7 := NB104_106.out; have hnc7 := NB106_104.out; have hcz8_0 : w5.cell? ⟨gb104, 0, none⟩ = some (.int .u64 a0_0) := (blk_cell BK104.out 0).trans rfl; have hcz8_1 : w5.cell? ⟨gb104, 1, none⟩ = some (.int .u64 a0_1) := (blk_cell BK104.out 1).trans rfl; have hfz8_0 := blk_frozen BK104.out 0; have hfz8_1 := blk_frozen BK104.out 1; have hnb9 := NB105_106.out; have hnc9 := NB106_105.out; have hcz10_0 : w5.cell? ⟨gb105, 0, none⟩ = some (.int .u64 a1_0) := (blk_cell BK105.out 0).trans rfl; have hcz10_1 : w5.cell? ⟨gb105, 1, none⟩ = some (.int .u64 a1_1) := (blk_cell BK105.out 1).trans rfl; have hfz10_0 := blk_frozen BK105.out 0; have hfz10_1 := blk_frozen BK105.out 1; have hcz11_0 : w5.cell? ⟨gb106, 0, none⟩ = some (.int .u64 0) := (blk_cell BK106.out 0).trans rfl; have hcz11_1 : w5.cell? ⟨gb106, 1, none⟩ = some (.int .u64 0) := (blk_cell BK106.out 1).trans rfl; have hfz11_0 := blk_frozen BK106.out 0; have hfz11_1 := blk_frozen BK106.out 1))
  refine bodyPost_ret (results_cell_row rfl _ _ gb106 24 #[.int .u64 (Go.bits .xor .u64 a0_0 a1_0), .int .u64 (Go.bits .xor .u64 a0_1 a1_1)] (0, 0) _ rfl (by (with_reducible repeat (first | refine blk_drewN ?_ _ | refine blk_drew ?_ | refine blk_alloc ?_ _)); refine blk_put (cs := #[.int .u64 (Go.bits .xor .u64 a0_0 a1_0), .int .u64 0]) ?_ 1 _ rfl; (with_reducible repeat (first | refine blk_drewN ?_ _ | refine blk_drew ?_ | refine blk_alloc ?_ _)); refine blk_put (cs := #[.int .u64 0, .int .u64 0]) ?_ 0 _ rfl; (with_reducible repeat (first | refine blk_drewN ?_ _ | refine blk_drew ?_ | refine blk_alloc ?_ _)); exact BK106.out) Try.underlying24 rfl (by kernel_rfl)) rfl ?_
  exact ⟨by first | rfl | (simp [errW_none, errW_some] <;> rfl) | (simp [*, errW_none, errW_some] <;> rfl), by repeat (first | (with_reducible first | exact HB.out | apply below_alloc | apply pw_below_drewN | apply below_drew1 | refine below_set ?_ GE104.out | refine below_set ?_ GE105.out | refine below_set ?_ GE106.out) | exact HB.out)⟩

/-! ### poly_Elem_Times: function 8, typed by hand -/
section
open Go.Shelf
attribute [local go_sem] Oper.semAt_some
def poly_Elem_Times.wv (w : Int) : Nat → Int
  | 0 => w
  | j + 1 => IntKind.u64.wrap (poly_Elem_Times.wv w j * 2)
def poly_Elem_Times.bitv (w : Int) (j : Nat) : Bool := Go.bits .and .u64 (poly_Elem_Times.wv w j) 9223372036854775808 != 0
def poly_Elem_Times.bitsOf (w : Int) (k : Nat) : List Bool := (List.range k).map (poly_Elem_Times.bitv w)
theorem poly_Elem_Times.bitsOf_length (w : Int) (k : Nat) : (poly_Elem_Times.bitsOf w k).length = k := by simp [poly_Elem_Times.bitsOf]
theorem poly_Elem_Times.bitsOf_succ (w : Int) (k : Nat) : poly_Elem_Times.bitsOf w (k + 1) = poly_Elem_Times.bitsOf w k ++ [poly_Elem_Times.bitv w k] := by simp [poly_Elem_Times.bitsOf, List.range_succ]
def poly_Elem_Times.pref (hi lo : Int) : Nat → List Bool
  | 0 => []
  | 1 => poly_Elem_Times.bitsOf hi 64
  | _ => poly_Elem_Times.bitsOf hi 64 ++ poly_Elem_Times.bitsOf lo 64
def poly_Elem_Times.word (hi lo : Int) (k : Nat) : Int := if k = 0 then hi else lo
theorem poly_Elem_Times.pref_succ (hi lo : Int) (k : Nat) (h : k < 2) : poly_Elem_Times.pref hi lo (k + 1) = poly_Elem_Times.pref hi lo k ++ poly_Elem_Times.bitsOf (poly_Elem_Times.word hi lo k) 64 := by
  have : k = 0 ∨ k = 1 := by omega
  rcases this with rfl | rfl <;> simp [poly_Elem_Times.pref, poly_Elem_Times.word]
theorem poly_Elem_Times.pref_length (hi lo : Int) (k : Nat) (h : k < 2) : (poly_Elem_Times.pref hi lo k).length + 64 ≤ 128 := by
  have : k = 0 ∨ k = 1 := by omega
  rcases this with rfl | rfl <;> simp [poly_Elem_Times.pref, poly_Elem_Times.bitsOf_length]
set_option maxRecDepth 100000 in
set_option maxHeartbeats 4000000 in
theorem poly_Elem_Times.bits1_in (n : Nat) (hn : 1 ≤ n) (l Bs n₀ : Nat) (hi lo : Int) (J Jx : List Bool → World → Prop)
    (hY : ∀ pre x W, J pre W → pre.length < 128 → YieldAt Fence.wide (n - 1) Try.prog l #[.bool x] W fun e W' =>
      (e = .returned (.bool true) ∧ J (pre ++ [x]) W' ∧ Below n₀ W W') ∨ (e = .returned (.bool false) ∧ Jx (pre ++ [x]) W'))
    (W : World) (hc0 : W.cell? ⟨Bs, 0, none⟩ = some (.int .u64 hi)) (hc1 : W.cell? ⟨Bs, 1, none⟩ = some (.int .u64 lo)) (h0 : J [] W) :
    CallsIn Fence.wide n Try.prog 26 #[.func (.yield l) #[] #[], .pointer (some ⟨Bs, 0, none⟩)] W fun e W' => (∃ v, e = .returned v) ∧
      ((∃ ys, ys = poly_Elem_Times.bitsOf hi 64 ++ poly_Elem_Times.bitsOf lo 64 ∧ J ys W') ∨ (∃ pre, True ∧ Jx pre W')) := by
  refine callsIn_of_wp Try.func26 rfl trivial ?_ rfl
  simp only [Try.ntmps26, List.size_toArray, List.length_cons, List.length_nil, Nat.reduceAdd, Nat.reduceSub, Array.replicate_succ, Array.replicate_zero, List.push_toArray, List.append_toArray, List.nil_append, List.cons_append]
  gi_wp2
  gi_loopw [4, 10, 12, 13, 14, 15, 16, 17, 18, 19, 20, 21, 22, 23] (fun _ i _ _ _ _ _ _ _ _ _ _ _ _ wr => ∃ k : Nat, k ≤ 2 ∧ i = .int .i64 k ∧ J (poly_Elem_Times.pref hi lo k) wr)
    (fun _ i _ _ _ _ _ _ _ _ _ _ _ _ _ => 2 - (intOf i).toNat)
  case atStart => exact ⟨0, Nat.zero_le _, rfl, h0⟩
  case round =>
    obtain ⟨k, hk, rfl, hJs⟩ := hrel
    have hix : k < 2 → ∀ w, (Instr.index 57 (.agg #[.int .u64 hi, .int .u64 lo]) (.int .i64 (k : Int))).run Try.prog w = .ok (.int .u64 (poly_Elem_Times.word hi lo k)) w := by
      intro h
      have : k = 0 ∨ k = 1 := by omega
      rcases this with rfl | rfl
      · exact fun w => by kernel_rfl
      · exact fun w => by kernel_rfl
    by_cases hlt : k < 2
    · have hix2 := hix hlt
      clear hix
      have HP := Aside0.mk (poly_Elem_Times.pref_succ hi lo k hlt)
      have HL := Aside0.mk (poly_Elem_Times.pref_length hi lo k hlt)
      have HJ := Aside0.mk hJs
      clear hJs h0 hc0 hc1
      gi_wp2
      obtain ⟨wo, hwo⟩ : ∃ wo : World, wo = wr := ⟨_, rfl⟩
      subst hwo
      generalize hxw : poly_Elem_Times.word hi lo k = xw
      have HX := Aside0.mk hxw
      rw [hxw] at HP
      clear hxw
      rw [show decide ((k : Int) < 2) = true from decide_eq_true (by omega)]
      gi_loopw [4, 13] (fun wv i wr => ∃ j : Nat, j ≤ 64 ∧ i = .int .i64 j ∧ wv = .int .u64 (poly_Elem_Times.wv xw j) ∧ Aside0 (J (poly_Elem_Times.pref hi lo k ++ poly_Elem_Times.bitsOf xw j) wr))
        (fun _ i _ => 64 - (intOf i).toNat)
      case atStart => exact ⟨0, by omega, rfl, rfl, ⟨by simpa [poly_Elem_Times.bitsOf] using HJ.out⟩⟩
      case round =>
        obtain ⟨j, hj, rfl, rfl, HI⟩ := hrel
        by_cases hlj : j < 64
        · obtain ⟨fn, tmps, assign, body, hy, hR⟩ := hY _ (poly_Elem_Times.bitv xw j) wr HI.out (by have := HL.out; rw [List.length_append, poly_Elem_Times.bitsOf_length]; omega)
          have HR := Aside0.mk hR
          clear hR
          dsimp only [poly_Elem_Times.bitv] at hy
          gi_wp2
          refine HR.out.mono ?_
          rintro e W3 (⟨rfl, hJ3, hk3⟩ | ⟨rfl, hJx3⟩)
          · gi_wp2
            go_roundw
            case rel => exact ⟨j + 1, by omega, by go_num, rfl, ⟨by rw [poly_Elem_Times.bitsOf_succ, ← List.append_assoc]; exact hJ3⟩⟩
            case measure => simp [intOf]; omega
          · gi_wp2
            refine bodyPost_ret (results_none rfl _ _ _) rfl ?_
            exact ⟨⟨_, rfl⟩, .inr ⟨_, trivial, hJx3⟩⟩
        · obtain rfl : j = 64 := by omega
          gi_wp2
          go_roundw
          case rel => exact ⟨k + 1, by omega, by go_num, by rw [HP.out]; exact HI.out⟩
          case measure => simp [intOf]; omega
    · obtain rfl : k = 2 := by omega
      gi_wp2
      go_end0
      exact ⟨⟨_, rfl⟩, .inl ⟨_, rfl, hJs⟩⟩

theorem poly_Elem_Times.bits_calls (hi lo : Int) (w : World) : Calls Try.prog 21 #[.agg #[.int .u64 hi, .int .u64 lo]] w fun e w' => e = .returned (.func (.func 26) #[] #[.pointer (some ⟨w.heap.size, 0, none⟩)]) ∧ w' = w.alloc (.cells #[.int .u64 hi, .int .u64 lo] 24) := by
  go_enter Try.func21, Try.ntmps21
  go_wp2
  go_ret
  exact ⟨rfl, rfl⟩
theorem poly_Elem_Times.stops (n : Nat) (hn : 1 ≤ n) (Bs n₀ : Nat) (hi lo : Int) (w : World) (hb : Bs < w.heap.size) (hc0 : w.cell? ⟨Bs, 0, none⟩ = some (.int .u64 hi)) (hc1 : w.cell? ⟨Bs, 1, none⟩ = some (.int .u64 lo)) :
    SeqStopsK Fence.wide n Try.prog 26 #[.pointer (some ⟨Bs, 0, none⟩)] (fun b : Bool => #[.bool b]) (Below n₀) (fun xs => xs = poly_Elem_Times.bitsOf hi 64 ++ poly_Elem_Times.bitsOf lo 64) (fun _ => True) 128 w := by
  intro l J Jx W hW hJ hJx hY h0
  exact poly_Elem_Times.bits1_in n hn l Bs n₀ hi lo J Jx hY W ((hW.cell (p := ⟨Bs, 0, none⟩) hb).trans hc0) ((hW.cell (p := ⟨Bs, 1, none⟩) hb).trans hc1) h0
def poly_Elem_Times.nxt (s : Int × Int) : Int × Int := if Go.bits .and .u64 s.2 1 = 0 then (s.1 / 2, Go.bits .or .u64 (s.2 / 2) (IntKind.u64.wrap (s.1 * 9223372036854775808))) else (Go.bits .xor .u64 (s.1 / 2) 16212958658533785600, Go.bits .or .u64 (s.2 / 2) (IntKind.u64.wrap (s.1 * 9223372036854775808)))
theorem poly_Elem_Times.nxt_eq (x y : Int) : poly_Elem_Next.f x y = some (poly_Elem_Times.nxt (x, y)) := by
  unfold poly_Elem_Next.f poly_Elem_Times.nxt
  split <;> rfl
def poly_Elem_Times.plus (s t : Int × Int) : Int × Int := (Go.bits .xor .u64 s.1 t.1, Go.bits .xor .u64 s.2 t.2)
def poly_Elem_Times.step (s : (Int × Int) × (Int × Int)) (b : Bool) : (Int × Int) × (Int × Int) := (if b then poly_Elem_Times.plus s.1 s.2 else s.1, poly_Elem_Times.nxt s.2)
def poly_Elem_Times.run (c0 c1 : Int) (l : List Bool) : (Int × Int) × (Int × Int) := l.foldl poly_Elem_Times.step ((0, 0), (c0, c1))
theorem poly_Elem_Times.run_snoc (c0 c1 : Int) (l : List Bool) (b : Bool) : poly_Elem_Times.run c0 c1 (l ++ [b]) = poly_Elem_Times.step (poly_Elem_Times.run c0 c1 l) b := by simp [poly_Elem_Times.run]
def poly_Elem_Times.f (a0_0 a0_1 a1_0 a1_1 : Int) : Option (Int × Int) := some (poly_Elem_Times.run a1_0 a1_1 (poly_Elem_Times.bitsOf a0_0 64 ++ poly_Elem_Times.bitsOf a0_1 64)).1
/-- A block of cells that is kept where no cells are turned. -/
theorem poly_Elem_Times.blk_kept {W W' : World} {row : Option Nat} {b t : Nat} {cs : Array Value} (h : W.heap[b]? = some (.cells cs t (0, 0))) (hg : W.grownBy W' row) (hr : ∀ r, row = some r → ∃ o : Obj, W.heap[r]? = some o ∧ o.isCells = false) : W'.heap[b]? = some (.cells cs t (0, 0)) := by
  refine (hg.block b (Array.getElem?_eq_some_iff.1 h).1 (fun e => ?_)).trans h
  obtain ⟨o, ho, hc⟩ := hr b e.symm
  rw [h] at ho
  cases ho
  cases hc
theorem poly_Elem_Times.blocks (w : World) (A B C D E : Obj) : (((((w.alloc A).alloc B).alloc C).alloc D).alloc E).heap[w.heap.size + 1]? = some B ∧ (((((w.alloc A).alloc B).alloc C).alloc D).alloc E).heap[w.heap.size + 1 + 1]? = some C ∧ (((((w.alloc A).alloc B).alloc C).alloc D).alloc E).heap[w.heap.size + 1 + 1 + 1]? = some D := by
  have h1 := heap_alloc_new (w.alloc A) B
  have h2 := heap_alloc_new ((w.alloc A).alloc B) C
  have h3 := heap_alloc_new (((w.alloc A).alloc B).alloc C) D
  simp only [World.size_alloc] at h1 h2 h3
  exact ⟨blk_alloc (blk_alloc (blk_alloc h1 _) _) _, blk_alloc (blk_alloc h2 _) _, blk_alloc h3 _⟩
theorem poly_Elem_Times.run_t (c0 c1 : Int) (l : List Bool) : poly_Elem_Times.run c0 c1 (l ++ [true]) = (poly_Elem_Times.plus (poly_Elem_Times.run c0 c1 l).1 (poly_Elem_Times.run c0 c1 l).2, poly_Elem_Times.nxt (poly_Elem_Times.run c0 c1 l).2) := by rw [poly_Elem_Times.run_snoc]; rfl
theorem poly_Elem_Times.run_f (c0 c1 : Int) (l : List Bool) : poly_Elem_Times.run c0 c1 (l ++ [false]) = ((poly_Elem_Times.run c0 c1 l).1, poly_Elem_Times.nxt (poly_Elem_Times.run c0 c1 l).2) := by rw [poly_Elem_Times.run_snoc]; rfl
set_option maxRecDepth 100000 in
set_option maxHeartbeats 4000000 in
theorem poly_Elem_Times.calls (a0_0 a0_1 a1_0 a1_1 r1 r2 : Int) (w : World) (h : poly_Elem_Times.f a0_0 a0_1 a1_0 a1_1 = some (r1, r2)) :
    Calls Try.prog 8 #[.agg #[.int .u64 a0_0, .int .u64 a0_1], .agg #[.int .u64 a1_0, .int .u64 a1_1]] w fun e w' => e = .returned (.agg #[.int .u64 r1, .int .u64 r2]) ∧ Below w.heap.size w w' := by
  have hro : Fence.wide.round = none := rfl
  refine (callsIn_wide (n := 3)).1 ?_
  refine callsIn_of_wp_marks Try.func8 rfl trivial ?_ hro
  simp only [Try.ntmps8, List.size_toArray, List.length_cons, List.length_nil, Nat.reduceAdd, Nat.reduceSub, Array.replicate_succ, Array.replicate_zero, List.push_toArray, List.append_toArray, List.nil_append, List.cons_append]
  gi_wp2_with (refine ⟨trivial, ?_⟩; gi_at_call 21; refine (callsIn_wide.2 (poly_Elem_Times.bits_calls _ _ _)).mono ?_; rintro e w' ⟨rfl, rfl⟩)
  have hB0 : Below w.heap.size w (((((w.alloc (.cells #[.int .u64 a0_0, .int .u64 a0_1] 24)).alloc (.cells #[.int .u64 a1_0, .int .u64 a1_1] 24)).alloc (.cells #[.int .u64 0, .int .u64 0] 24)).alloc (.cells #[.int .u64 0, .int .u64 0] 24)).alloc (.cells #[.int .u64 a0_0, .int .u64 a0_1] 24)) := ((((((Below.refl _ w).alloc (Nat.le_refl _) _).alloc (by simp) _).alloc (by simp; omega) _).alloc (by simp; omega) _).alloc (by simp; omega) _)
  obtain ⟨hi1, hi2, hi3⟩ := poly_Elem_Times.blocks w (.cells #[.int .u64 a0_0, .int .u64 a0_1] 24) (.cells #[.int .u64 a1_0, .int .u64 a1_1] 24) (.cells #[.int .u64 0, .int .u64 0] 24) (.cells #[.int .u64 0, .int .u64 0] 24) (.cells #[.int .u64 a0_0, .int .u64 a0_1] 24)
  refine wpIn_rangeFunc_ownF hro (by omega) (gf := 26) (lb := #[.pointer (some ⟨w.heap.size + 1 + 1 + 1 + 1, 0, none⟩)]) rfl trivial (enters_of Try.func26 (by kernel_rfl) rfl)
    (poly_Elem_Times.stops 2 (by omega) (w.heap.size + 1 + 1 + 1 + 1) w.heap.size a0_0 a0_1 _ (by simp) (by simp [go_sem]) (by simp [go_sem])) belowK_t (belowK_b (by simp; omega)) (Below.refl _ _) (fun _ => rfl)
    (fun pre W => (W.heap[w.heap.size + 1]? = some (.cells #[.int .u64 (poly_Elem_Times.run a1_0 a1_1 pre).2.1, .int .u64 (poly_Elem_Times.run a1_0 a1_1 pre).2.2] 24 (0, 0)) ∧ W.heap[w.heap.size + 1 + 1]? = some (.cells #[.int .u64 0, .int .u64 0] 24 (0, 0)) ∧ W.heap[w.heap.size + 1 + 1 + 1]? = some (.cells #[.int .u64 (poly_Elem_Times.run a1_0 a1_1 pre).1.1, .int .u64 (poly_Elem_Times.run a1_0 a1_1 pre).1.2] 24 (0, 0))) ∧ Below w.heap.size w W)
    (fun _ _ _ => False)
    (OwnFrom.and (Own.from (fun s A B row hs hg hr => ⟨poly_Elem_Times.blk_kept hs.1 hg hr, poly_Elem_Times.blk_kept hs.2.1 hg hr, poly_Elem_Times.blk_kept hs.2.2 hg hr⟩) _) (ownFrom_below (Nat.le_refl _) (by simp; omega)))
    (fun _ _ _ _ _ hs _ _ => hs)
    ⟨⟨hi1, hi2, hi3⟩, hB0⟩
    (fun x => { tmps := #[.agg #[.int .u64 a0_0, .int .u64 a0_1], .agg #[.int .u64 a1_0, .int .u64 a1_1], .pointer (some ⟨w.heap.size, 0, none⟩), .pointer (some ⟨w.heap.size + 1, 0, none⟩), .pointer (some ⟨w.heap.size + 1 + 1, 0, none⟩), .pointer (some ⟨w.heap.size + 1 + 1 + 1, 0, none⟩), .bool x, .agg #[.int .u64 a0_0, .int .u64 a0_1], .func (.func 26) #[] #[.pointer (some ⟨w.heap.size + 1 + 1 + 1 + 1, 0, none⟩)], .bool x, undef, undef, undef, undef, undef, undef, undef], defers := [] }) ?assign ?body ?done ?stop
  case assign =>
    intro l x W K hK
    gi_wp2
    exact hK
  case body =>
    rintro l pre x W ⟨⟨hbo, hbr, hbt⟩, hB⟩ _
    have HP := Aside0.mk (poly_Elem_Times.run_f a1_0 a1_1 pre)
    have HQ := Aside0.mk (poly_Elem_Times.run_t a1_0 a1_1 pre)
    generalize poly_Elem_Times.run a1_0 a1_1 pre = s at hbo hbt HP HQ
    obtain ⟨⟨t0, t1⟩, ⟨o0, o1⟩⟩ := s
    dsimp only at hbo hbt HP HQ
    have hn := poly_Elem_Times.nxt_eq o0 o1
    generalize poly_Elem_Times.nxt (o0, o1) = nx at hn HP HQ
    obtain ⟨n0, n1⟩ := nx
    have HN := Aside0.mk hn
    clear hn
    have hc0 := (blk_cell hbo 0)
    have hc1 := (blk_cell hbo 1)
    have hf0 := (blk_frozen hbo 0)
    have hf1 := (blk_frozen hbo 1)
    have ht0 := (blk_cell hbt 0)
    have ht1 := (blk_cell hbt 1)
    have hg0 := (blk_frozen hbt 0)
    have hg1 := (blk_frozen hbt 1)
    have HBO := Aside0.mk hbo
    have HBT := Aside0.mk hbt
    have HBR := Aside0.mk hbr
    have HBB := Aside0.mk hB
    clear hbo hbt hbr hB
    simp at hc0 hc1 ht0 ht1
    cases x with
    | false =>
      gi_wp2_with (refine ⟨trivial, ?_⟩; gi_at_call 10; refine (CallsIn.inRound l (callsIn_wide.2 (poly_Elem_Next.calls _ _ n0 n1 _ HN.out))).mono ?_; rintro e w2 ⟨rfl, hb⟩; have hbo := blk_below HBO.out hb; have hbt := blk_below HBT.out hb; have hbr := blk_below HBR.out hb; have hc0 := blk_cell hbo 0; have hc1 := blk_cell hbo 1; have hf0 := blk_frozen hbo 0; have hf1 := blk_frozen hbo 1; simp at hc0 hc1; have HBO2 := Aside0.mk hbo; have HBT2 := Aside0.mk hbt; have HBR2 := Aside0.mk hbr; have HB2 := Aside0.mk hb; clear hbo hbt hbr hb)
      have bk := ((HB2.out.mono HBB.out.size).setCell (p := ⟨w.heap.size + 1, 0, none⟩) (by simp) (.int .u64 n0)).setCell (p := ⟨w.heap.size + 1, 1, none⟩) (by simp) (.int .u64 n1)
      refine ⟨((KeepsOthers.of_grownBy (grown_of_below HB2.out none) (fun _ _ e => by cases e)).trans (KeepsOthers.setCell _ _ _)).trans (KeepsOthers.setCell _ _ _), bk, ⟨?_, ?_, ?_⟩, HBB.out.trans bk⟩
      · rw [HP.out]
        exact blk_put (cs := #[.int .u64 n0, .int .u64 o1]) (blk_put (cs := #[.int .u64 o0, .int .u64 o1]) HBO2.out 0 _ rfl) 1 _ rfl
      · exact blk_far (blk_far HBR2.out (by dsimp only; omega) _) (by dsimp only; omega) _
      · rw [HP.out]
        exact blk_far (blk_far HBT2.out (by dsimp only; omega) _) (by dsimp only; omega) _
    | true =>
      have hs := poly_Elem_plus.calls t0 t1 o0 o1 (Go.bits .xor .u64 t0 o0) (Go.bits .xor .u64 t1 o1) W rfl
      have HS := Aside0.mk hs
      clear hs
      gi_wp2_with (refine ⟨trivial, ?_⟩; gi_at_call 22; refine (CallsIn.inRound l (callsIn_wide.2 HS.out)).mono ?_; rintro e w2 ⟨rfl, hb⟩; have hbo := blk_below HBO.out hb; have hbt := blk_below HBT.out hb; have hbr := blk_below HBR.out hb; have hc0 := blk_cell hbo 0; have hc1 := blk_cell hbo 1; have ht0 := blk_cell hbt 0; have ht1 := blk_cell hbt 1; have hf0 := blk_frozen hbt 0; have hf1 := blk_frozen hbt 1; simp at hc0 hc1 ht0 ht1; have HBO2 := Aside0.mk hbo; have HBT2 := Aside0.mk hbt; have HBR2 := Aside0.mk hbr; have HB2 := Aside0.mk hb; clear hbo hbt hbr hb)
      have hbt2 := blk_put (cs := #[.int .u64 (Go.bits .xor .u64 t0 o0), .int .u64 t1]) (blk_put (cs := #[.int .u64 t0, .int .u64 t1]) HBT2.out 0 (.int .u64 (Go.bits .xor .u64 t0 o0)) rfl) 1 (.int .u64 (Go.bits .xor .u64 t1 o1)) rfl
      have hbo2 := blk_far (blk_far HBO2.out (p := ⟨w.heap.size + 1 + 1 + 1, 0, none⟩) (by dsimp only; omega) (.int .u64 (Go.bits .xor .u64 t0 o0))) (p := ⟨w.heap.size + 1 + 1 + 1, 1, none⟩) (by dsimp only; omega) (.int .u64 (Go.bits .xor .u64 t1 o1))
      have hbr2 := blk_far (blk_far HBR2.out (p := ⟨w.heap.size + 1 + 1 + 1, 0, none⟩) (by dsimp only; omega) (.int .u64 (Go.bits .xor .u64 t0 o0))) (p := ⟨w.heap.size + 1 + 1 + 1, 1, none⟩) (by dsimp only; omega) (.int .u64 (Go.bits .xor .u64 t1 o1))
      have bk2 := ((HB2.out.mono HBB.out.size).setCell (p := ⟨w.heap.size + 1 + 1 + 1, 0, none⟩) (by simp; omega) (.int .u64 (Go.bits .xor .u64 t0 o0))).setCell (p := ⟨w.heap.size + 1 + 1 + 1, 1, none⟩) (by simp; omega) (.int .u64 (Go.bits .xor .u64 t1 o1))
      have ko2 := ((KeepsOthers.of_grownBy (grown_of_below HB2.out none) (fun _ _ e => by cases e)).trans (KeepsOthers.setCell _ ⟨w.heap.size + 1 + 1 + 1, 0, none⟩ (.int .u64 (Go.bits .xor .u64 t0 o0)))).trans (KeepsOthers.setCell _ ⟨w.heap.size + 1 + 1 + 1, 1, none⟩ (.int .u64 (Go.bits .xor .u64 t1 o1)))
      generalize hW3 : (w2.setCell ⟨w.heap.size + 1 + 1 + 1, 0, none⟩ (.int .u64 (Go.bits .xor .u64 t0 o0))).setCell ⟨w.heap.size + 1 + 1 + 1, 1, none⟩ (.int .u64 (Go.bits .xor .u64 t1 o1)) = W3 at hbt2 hbo2 hbr2 bk2 ko2 ⊢
      clear hW3 hc0 hc1 ht0 ht1 hf0 hf1
      refine ⟨trivial, ?_⟩
      refine (CallsIn.inRound l (callsIn_wide.2 (poly_Elem_Next.calls _ _ n0 n1 _ HN.out))).mono ?_
      rintro e w4 ⟨rfl, hb⟩
      have hbo := blk_below hbo2 hb
      have hbt := blk_below hbt2 hb
      have hbr := blk_below hbr2 hb
      have hc0 := blk_cell hbo 0
      have hc1 := blk_cell hbo 1
      have hf0 := blk_frozen hbo 0
      have hf1 := blk_frozen hbo 1
      simp at hc0 hc1
      have bk := ((bk2.trans (hb.mono (Nat.le_trans HBB.out.size bk2.size))).setCell (p := ⟨w.heap.size + 1, 0, none⟩) (by simp) (.int .u64 n0)).setCell (p := ⟨w.heap.size + 1, 1, none⟩) (by simp) (.int .u64 n1)
      have ko := ((ko2.trans (KeepsOthers.of_grownBy (grown_of_below hb none) (fun _ _ e => by cases e))).trans (KeepsOthers.setCell _ ⟨w.heap.size + 1, 0, none⟩ (.int .u64 n0))).trans (KeepsOthers.setCell _ ⟨w.heap.size + 1, 1, none⟩ (.int .u64 n1))
      have HBO4 := Aside0.mk hbo
      have HBT4 := Aside0.mk hbt
      have HBR4 := Aside0.mk hbr
      have HBK := Aside0.mk bk
      have HKO := Aside0.mk ko
      clear hbo hbt hbr hbo2 hbt2 hbr2 bk bk2 ko ko2 hb
      gi_wp2
      refine ⟨HKO.out, HBK.out, ⟨?_, ?_, ?_⟩, HBB.out.trans HBK.out⟩
      · rw [HQ.out]
        exact blk_put (cs := #[.int .u64 n0, .int .u64 o1]) (blk_put (cs := #[.int .u64 o0, .int .u64 o1]) HBO4.out 0 _ rfl) 1 _ rfl
      · exact blk_far (blk_far HBR4.out (by dsimp only; omega) _) (by dsimp only; omega) _
      · rw [HQ.out]
        exact blk_far (blk_far HBT4.out (by dsimp only; omega) _) (by dsimp only; omega) _
  case done =>
    rintro D ys W hD rfl ⟨⟨hbo, hbr, hbt⟩, hB⟩ hK
    simp only [poly_Elem_Times.f, Option.some.injEq] at h
    rw [h] at hbt
    dsimp only at hbt
    have ht0 := blk_cell hbt 0
    have ht1 := blk_cell hbt 1
    have hr0 := blk_cell hbr 0
    have hr1 := blk_cell hbr 1
    have hf0 := blk_frozen hbr 0
    have hf1 := blk_frozen hbr 1
    have HBR := Aside0.mk hbr
    have HK := Aside0.mk hK
    have HB := Aside0.mk hB
    have HD := Aside0.mk hD
    clear hbo hbt hbr hK hB hD hi1 hi2 hi3 hB0 h
    simp at ht0 ht1 hr0 hr1
    gi_wp2
    have hK2 := (KeepsOthers.setCell _ ⟨w.heap.size + 1 + 1, 1, none⟩ (.int .u64 r2)).same D _ ((KeepsOthers.setCell W ⟨w.heap.size + 1 + 1, 0, none⟩ (.int .u64 r1)).same D _ HK.out rfl) rfl
    refine ⟨by simp, .inl ⟨_, _, rfl, run_takeDeferred hK2, ?_⟩⟩
    have hb2 := blk_put (cs := #[.int .u64 r1, .int .u64 0]) (blk_put (cs := #[.int .u64 0, .int .u64 0]) HBR.out 0 (.int .u64 r1) rfl) 1 (.int .u64 r2) rfl
    have hsz := HD.out
    simp only [World.size_alloc] at hsz
    refine ⟨.agg #[.int .u64 r1, .int .u64 r2], results_cell_row rfl _ _ (w.heap.size + 1 + 1) 24 #[.int .u64 r1, .int .u64 r2] (0, 0) _ rfl ((World.putObj_heap_other (by omega)).trans hb2) Try.underlying24 rfl (by kernel_rfl), rfl, ?_⟩
    exact ((HB.out.setCell (p := ⟨w.heap.size + 1 + 1, 0, none⟩) (by simp; omega) _).setCell (p := ⟨w.heap.size + 1 + 1, 1, none⟩) (by simp; omega) _).trans (belowK_b (w := w) (Nat.le_refl _) _ D _ _ (by omega) hK2 rfl rfl)
  case stop =>
    rintro D c pre W _ _ h _
    exact h.elim
end


/-! ### poly_Sum: function 11 -/
def poly_Sum.l0 : Nat → List (S24) → Int → Int → Int → Int → Option (Int × Int)
  | 0, _, _, _, _, _ => none
  | k + 1, x6, x7, x8, x109000, x109001 => if x8 < x7 then (if 0 ≤ x8 then (if x8 < (x6.length : Int) then ((poly_Elem_plus.f x109000 x109001 ((rd_T24 x6 x8).f0) ((rd_T24 x6 x8).f1)).bind fun bt111 => (poly_Sum.l0 k x6 x7 (wrap64 (x8 + 1)) bt111.1 bt111.2)) else (none)) else (none)) else (some (x109000, x109001))
def poly_Sum.f (k : Nat) (l0 : List (S24)) : Option (Int × Int) := poly_Sum.l0 k l0 (l0.length : Int) 0 0 0
theorem poly_Sum.mono_l : ∀ k, (∀ y0 y1 y2 y3 y4, LeO (poly_Sum.l0 k y0 y1 y2 y3 y4) (poly_Sum.l0 (k + 1) y0 y1 y2 y3 y4))
  | 0 => fun _ _ _ _ _ r h => by simp [poly_Sum.l0] at h
  | k + 1 => by
    have ih0 := poly_Sum.mono_l k
    · intro y0 y1 y2 y3 y4
      unfold poly_Sum.l0
      repeat' first
      | (with_reducible exact ih0 _ _ _ _ _)
      | (with_reducible exact LeO.refl _)
      | (with_reducible exact LeO.none _)
      | (with_reducible refine LeO.ite ?_ ?_)
      | (with_reducible refine LeO.bind ?_ (fun _ => ?_))
      | exact ih0 _ _ _ _ _
      | exact LeO.none _
      | refine LeO.ite ?_ ?_
      | refine LeO.bind ?_ (fun _ => ?_)
theorem poly_Sum.mono : ∀ a0 k, LeO (poly_Sum.f k a0) (poly_Sum.f (k + 1) a0) := by
  intro a0 k
  have ih0 := poly_Sum.mono_l k
  unfold poly_Sum.f
  repeat' first
      | (with_reducible exact ih0 _ _ _ _ _)
      | (with_reducible exact LeO.refl _)
      | (with_reducible exact LeO.none _)
      | (with_reducible refine LeO.ite ?_ ?_)
      | (with_reducible refine LeO.bind ?_ (fun _ => ?_))
      | exact ih0 _ _ _ _ _
      | exact LeO.none _
      | refine LeO.ite ?_ ?_
      | refine LeO.bind ?_ (fun _ => ?_)
set_option maxHeartbeats 8000000 in
set_option maxRecDepth 100000 in
theorem poly_Sum.calls (k : Nat) (A0 : Option Addr) (c0 : Nat) (l0 : List (S24)) (r1 : Int) (r2 : Int) (w : World) (hr0 : Kd.C k24 w A0 l0.length l0) (hc0 : l0.length ≤ c0) (h : poly_Sum.f k l0 = some (r1, r2)) :
    Calls Try.prog 11 #[.slice A0 l0.length c0] w fun e w' => e = .returned (.agg #[.int .u64 r1, .int .u64 r2]) ∧ Below w.heap.size w w' := by
  have hu24 := Try.underlying24
  have HR0 := Aside0.mk hr0
  have HC0 := Aside0.mk hc0
  clear hr0 hc0
  have HB := Aside0.mk (Below.refl w.heap.size w)
  have H : (poly_Sum.l0 k l0 (l0.length : Int) 0 0 0) = some (r1, r2) := h
  clear h
  have H' := Aside0.mk H
  clear H
  go_enter Try.func11, Try.ntmps11
  go_wp2_with (first | ((with_reducible refine gate_dst (N := 2) rfl ?_); refine box_event ?hg (N := 2) ?hd (cs := #[.int .u64 0, .int .u64 0]) (t := 24) ?hr ?_; (case hd => rfl); (case hg => rfl); (case hr => first | (go_simp; done) | (go_simp; rfl)); intro gb107 hg w2 hbox hb; have n0_ := Aside0.mk (below_step (by repeat (first | (with_reducible first | exact HB.out | apply below_alloc | apply pw_below_drewN | apply below_drew1) | exact HB.out)) hb); have n1_ := Aside0.mk (hbox); have n2_ := Aside0.mk ((by rw [hg]; exact (below_size (by repeat (first | (with_reducible first | exact HB.out | apply below_alloc | apply pw_below_drewN | apply below_drew1) | exact HB.out))) : w.heap.size ≤ gb107)); have n3_ := Aside0.mk ((by rw [hg]; exact (below_size (by repeat (first | (with_reducible first | exact HB.out | apply below_alloc | apply pw_below_drewN | apply below_drew1) | exact HB.out))) : w.heap.size ≤ gb107)); clear HB; have HB := n0_; have BK107 := n1_; have GW107 := n2_; have GE107 := n3_; clear n0_ n1_ n2_ n3_; clear hb hbox hg) | ((with_reducible refine gate_dst (N := 3) rfl ?_); refine box_event ?hg (N := 3) ?hd (cs := #[.int .u64 0, .int .u64 0]) (t := 24) ?hr ?_; (case hd => rfl); (case hg => rfl); (case hr => first | (go_simp; done) | (go_simp; rfl)); intro gb108 hg w3 hbox hb; have n0_ := Aside0.mk (blk_below (g := gb107) (o := .cells #[.int .u64 0, .int .u64 0] 24 (0, 0)) (by (with_reducible repeat (first | refine blk_drewN ?_ _ | refine blk_drew ?_ | refine blk_alloc ?_ _)); exact BK107.out) hb); have n1_ := Aside0.mk (below_step (by repeat (first | (with_reducible first | exact HB.out | apply below_alloc | apply pw_below_drewN | apply below_drew1 | refine below_set ?_ GE107.out) | exact HB.out)) hb); have n2_ := Aside0.mk (hbox); have n3_ := Aside0.mk ((by rw [hg]; exact (below_size (by repeat (first | (with_reducible first | exact HB.out | apply below_alloc | apply pw_below_drewN | apply below_drew1 | refine below_set ?_ GE107.out) | exact HB.out))) : w.heap.size ≤ gb108)); have n4_ := Aside0.mk ((by rw [hg]; exact (below_size (by repeat (first | (with_reducible first | exact HB.out | apply below_alloc | apply pw_below_drewN | apply below_drew1 | refine below_set ?_ GE107.out) | exact HB.out))) : w.heap.size ≤ gb108)); have n5_ := Aside0.mk ((by rw [hg]; exact Nat.ne_of_lt (blk_lt (g := gb107) (o := .cells #[.int .u64 0, .int .u64 0] 24 (0, 0)) (by (with_reducible repeat (first | refine blk_drewN ?_ _ | refine blk_drew ?_ | refine blk_alloc ?_ _)); exact BK107.out)) : gb107 ≠ gb108)); have n6_ := Aside0.mk ((by rw [hg]; exact Nat.ne_of_gt (blk_lt (g := gb107) (o := .cells #[.int .u64 0, .int .u64 0] 24 (0, 0)) (by (with_reducible repeat (first | refine blk_drewN ?_ _ | refine blk_drew ?_ | refine blk_alloc ?_ _)); exact BK107.out)) : gb108 ≠ gb107)); clear BK107; clear HB; have BK107 := n0_; have HB := n1_; have BK108 := n2_; have GW108 := n3_; have GE108 := n4_; have NB107_108 := n5_; have NB108_107 := n6_; clear n0_ n1_ n2_ n3_ n4_ n5_ n6_; clear hb hbox hg))
  go_loopg [8] k (fun kq v8 w' => ∃ (x8_1 : Int) (x109000_1 : Int) (x109001_1 : Int), v8 = .int .i64 x8_1 ∧ Aside0 (poly_Sum.l0 kq l0 (l0.length : Int) x8_1 x109000_1 x109001_1 = some (r1, r2)) ∧ Aside0 (kq ≤ k) ∧ Aside0 (w'.heap[gb107]? = some (.cells #[.int .u64 0, .int .u64 0] 24 (0, 0))) ∧ Aside0 (w'.heap[gb108]? = some (.cells #[.int .u64 x109000_1, .int .u64 x109001_1] 24 (0, 0))) ∧ Aside0 (Below w.heap.size w w'))
  case atStart => exact ⟨(0), (0), (0), (by first | rfl | (simp; done) | (simp [*]; done) | (simp only [i64_w]; done) | (simp [i64_w]; done)), H', ⟨Nat.le_refl _⟩, ⟨by (with_reducible repeat (first | refine blk_drewN ?_ _ | refine blk_drew ?_ | refine blk_alloc ?_ _)); exact BK107.out⟩, ⟨by (with_reducible repeat (first | refine blk_drewN ?_ _ | refine blk_drew ?_ | refine blk_alloc ?_ _)); exact BK108.out⟩, ⟨by repeat (first | (with_reducible first | exact HB.out | apply below_alloc | apply pw_below_drewN | apply below_drew1 | refine below_set ?_ GE107.out | refine below_set ?_ GE108.out) | exact HB.out)⟩⟩
  case round =>
    clear H'
    try clear c1
    try clear p2
    obtain ⟨x8_1, x109000_1, x109001_1, rfl, HA, HK1, BK107, BK108, HB⟩ := hrel
    cases gk with
    | zero => exact absurd HA.out (by simp [poly_Sum.l0])
    | succ k1 =>
      have H := HA.out
      clear HA
      simp only [poly_Sum.l0] at H
      by_cases c4 : x8_1 < (l0.length : Int)
      · rw [if_pos c4] at H
        have c4b0 : decide (x8_1 < (l0.length : Int)) = true := decide_eq_true c4
        clear c4
        by_cases c5 : 0 ≤ x8_1
        · rw [if_pos c5] at H
          have c5b0 : decide (0 ≤ x8_1) = true := decide_eq_true c5
          clear c5
          by_cases c6 : x8_1 < (l0.length : Int)
          · rw [if_pos c6] at H
            have c6b0 : decide (x8_1 < (l0.length : Int)) = true := decide_eq_true c6
            clear c6
            replace H := Option.bind_eq_some_iff.mp H
            obtain ⟨⟨t111, t112⟩, A70, H⟩ := H
            replace H : (poly_Sum.l0 k1 l0 (l0.length : Int) (wrap64 (x8_1 + 1)) t111 t112) = some (r1, r2) := H
            have A7 := Aside0.mk A70
            clear A70
            have H' := Aside0.mk H
            clear H
            have p109 : 0 ≤ (x8_1 : Int) := of_decide_eq_true (by first | (with_reducible assumption) | assumption)
            have q109 : x8_1 < (l0.length : Int) := of_decide_eq_true (by first | (with_reducible assumption) | assumption)
            obtain ⟨ad109, e109, hx109_0, hx109_1⟩ := at_T24 HR0.out x8_1 p109 q109
            cases e109
            replace hx109_0 := (HB.out.cell (World.block_lt_of_cell? w _ hx109_0)).trans hx109_0
            replace hx109_1 := (HB.out.cell (World.block_lt_of_cell? w _ hx109_1)).trans hx109_1
            replace p109 := eq_true p109
            replace q109 := eq_true q109
            go_wp2_with (first | ((with_reducible refine gate_dst (N := 5) rfl ?_); refine box_event ?hg (N := 5) ?hd (cs := #[.int .u64 0, .int .u64 0]) (t := 24) ?hr ?_; (case hd => rfl); (case hg => rfl); (case hr => first | (go_simp; done) | (go_simp; rfl)); intro gb110 hg w8 hbox hb; have n0_ := Aside0.mk (blk_below (g := gb107) (o := .cells #[.int .u64 0, .int .u64 0] 24 (0, 0)) (by (with_reducible repeat (first | refine blk_drewN ?_ _ | refine blk_drew ?_ | refine blk_alloc ?_ _)); exact BK107.out) hb); have n1_ := Aside0.mk (blk_below (g := gb108) (o := .cells #[.int .u64 x109000_1, .int .u64 x109001_1] 24 (0, 0)) (by (with_reducible repeat (first | refine blk_drewN ?_ _ | refine blk_drew ?_ | refine blk_alloc ?_ _)); exact BK108.out) hb); have n2_ := Aside0.mk (below_step (by repeat (first | (with_reducible first | exact HB.out | apply below_alloc | apply pw_below_drewN | apply below_drew1 | refine below_set ?_ GE107.out | refine below_set ?_ GE108.out) | exact HB.out)) hb); have n3_ := Aside0.mk (hbox); have n4_ := Aside0.mk ((by rw [hg]; exact (below_size (by repeat (first | (with_reducible first | exact HB.out | apply below_alloc | apply pw_below_drewN | apply below_drew1 | refine below_set ?_ GE107.out | refine below_set ?_ GE108.out) | exact HB.out))) : w.heap.size ≤ gb110)); have n5_ := Aside0.mk ((by rw [hg]; exact (below_size (by repeat (first | (with_reducible first | exact HB.out | apply below_alloc | apply pw_below_drewN | apply below_drew1 | refine below_set ?_ GE107.out | refine below_set ?_ GE108.out) | exact HB.out))) : w.heap.size ≤ gb110)); have n6_ := Aside0.mk ((by rw [hg]; exact Nat.ne_of_lt (blk_lt (g := gb107) (o := .cells #[.int .u64 0, .int .u64 0] 24 (0, 0)) (by (with_reducible repeat (first | refine blk_drewN ?_ _ | refine blk_drew ?_ | refine blk_alloc ?_ _)); exact BK107.out)) : gb107 ≠ gb110)); have n7_ := Aside0.mk ((by rw [hg]; exact Nat.ne_of_gt (blk_lt (g := gb107) (o := .cells #[.int .u64 0, .int .u64 0] 24 (0, 0)) (by (with_reducible repeat (first | refine blk_drewN ?_ _ | refine blk_drew ?_ | refine blk_alloc ?_ _)); exact BK107.out)) : gb110 ≠ gb107)); have n8_ := Aside0.mk ((by rw [hg]; exact Nat.ne_of_lt (blk_lt (g := gb108) (o := .cells #[.int .u64 x109000_1, .int .u64 x109001_1] 24 (0, 0)) (by (with_reducible repeat (first | refine blk_drewN ?_ _ | refine blk_drew ?_ | refine blk_alloc ?_ _)); exact BK108.out)) : gb108 ≠ gb110)); have n9_ := Aside0.mk ((by rw [hg]; exact Nat.ne_of_gt (blk_lt (g := gb108) (o := .cells #[.int .u64 x109000_1, .int .u64 x109001_1] 24 (0, 0)) (by (with_reducible repeat (first | refine blk_drewN ?_ _ | refine blk_drew ?_ | refine blk_alloc ?_ _)); exact BK108.out)) : gb110 ≠ gb108)); clear BK107; clear BK108; clear HB; have BK107 := n0_; have BK108 := n1_; have HB := n2_; have BK110 := n3_; have GW110 := n4_; have GE110 := n5_; have NB107_110 := n6_; have NB110_107 := n7_; have NB108_110 := n8_; have NB110_108 := n9_; clear n0_ n1_ n2_ n3_ n4_ n5_ n6_ n7_ n8_ n9_; clear hb hbox hg; have hnb9 := NB110_107.out; have hnc9 := NB107_110.out; have hnb10 := NB110_108.out; have hnc10 := NB108_110.out; have hcz11_0 : w8.cell? ⟨gb110, 0, none⟩ = some (.int .u64 0) := (blk_cell BK110.out 0).trans rfl; have hcz11_1 : w8.cell? ⟨gb110, 1, none⟩ = some (.int .u64 0) := (blk_cell BK110.out 1).trans rfl; have hfz11_0 := blk_frozen BK110.out 0; have hfz11_1 := blk_frozen BK110.out 1; have hnb12 := NB108_107.out; have hnc12 := NB107_108.out; have hcz13_0 : w8.cell? ⟨gb108, 0, none⟩ = some (.int .u64 x109000_1) := (blk_cell BK108.out 0).trans rfl; have hcz13_1 : w8.cell? ⟨gb108, 1, none⟩ = some (.int .u64 x109001_1) := (blk_cell BK108.out 1).trans rfl; have hfz13_0 := blk_frozen BK108.out 0; have hfz13_1 := blk_frozen BK108.out 1) | ((with_reducible refine gate_callee (f := 22) rfl ?_); refine goesL_ (some 14) rfl rfl Try.func22 (by kernel_rfl) rfl #[.agg #[.int .u64 x109000_1, .int .u64 x109001_1], .agg #[.int .u64 ((rd_T24 l0 x8_1).f0), .int .u64 ((rd_T24 l0 x8_1).f1)]] rfl (by (try simp only [List.map_toArray, List.map_cons, List.map_nil]); first | done | rfl | (simp only [List.length_drop, List.length_take]; rfl)) ?_; (with_reducible refine (poly_Elem_plus.calls x109000_1 x109001_1 ((rd_T24 l0 x8_1).f0) ((rd_T24 l0 x8_1).f1) t111 t112 _ A7.out).mono ?_); rintro e w14 ⟨rfl, hb⟩; refine ⟨_, rfl, ?_⟩; have n0_ := Aside0.mk (blk_below (g := gb107) (o := .cells #[.int .u64 0, .int .u64 0] 24 (0, 0)) (by (with_reducible repeat (first | refine blk_drewN ?_ _ | refine blk_drew ?_ | refine blk_alloc ?_ _)); refine blk_far ?_ NB107_110.out _; (with_reducible repeat (first | refine blk_drewN ?_ _ | refine blk_drew ?_ | refine blk_alloc ?_ _)); refine blk_far ?_ NB107_110.out _; (with_reducible repeat (first | refine blk_drewN ?_ _ | refine blk_drew ?_ | refine blk_alloc ?_ _)); exact BK107.out) hb); have n1_ := Aside0.mk (blk_below (g := gb108) (o := .cells #[.int .u64 x109000_1, .int .u64 x109001_1] 24 (0, 0)) (by (with_reducible repeat (first | refine blk_drewN ?_ _ | refine blk_drew ?_ | refine blk_alloc ?_ _)); refine blk_far ?_ NB108_110.out _; (with_reducible repeat (first | refine blk_drewN ?_ _ | refine blk_drew ?_ | refine blk_alloc ?_ _)); refine blk_far ?_ NB108_110.out _; (with_reducible repeat (first | refine blk_drewN ?_ _ | refine blk_drew ?_ | refine blk_alloc ?_ _)); exact BK108.out) hb); have n2_ := Aside0.mk (blk_below (g := gb110) (o := .cells #[.int .u64 ((rd_T24 l0 x8_1).f0), .int .u64 ((rd_T24 l0 x8_1).f1)] 24 (0, 0)) (by (with_reducible repeat (first | refine blk_drewN ?_ _ | refine blk_drew ?_ | refine blk_alloc ?_ _)); refine blk_put (cs := #[.int .u64 ((rd_T24 l0 x8_1).f0), .int .u64 0]) ?_ 1 _ rfl; (with_reducible repeat (first | refine blk_drewN ?_ _ | refine blk_drew ?_ | refine blk_alloc ?_ _)); refine blk_put (cs := #[.int .u64 0, .int .u64 0]) ?_ 0 _ rfl; (with_reducible repeat (first | refine blk_drewN ?_ _ | refine blk_drew ?_ | refine blk_alloc ?_ _)); exact BK110.out) hb); have n3_ := Aside0.mk (below_step (by repeat (first | (with_reducible first | exact HB.out | apply below_alloc | apply pw_below_drewN | apply below_drew1 | refine below_set ?_ GE107.out | refine below_set ?_ GE108.out | refine below_set ?_ GE110.out) | exact HB.out)) hb); clear BK107; clear BK108; clear BK110; clear HB; have BK107 := n0_; have BK108 := n1_; have BK110 := n2_; have HB := n3_; clear n0_ n1_ n2_ n3_; (try clear hb); (try clear hb2); (try clear hk); (try clear hi); have hcz15_0 : w14.cell? ⟨gb108, 0, none⟩ = some (.int .u64 x109000_1) := (blk_cell BK108.out 0).trans rfl; have hcz15_1 : w14.cell? ⟨gb108, 1, none⟩ = some (.int .u64 x109001_1) := (blk_cell BK108.out 1).trans rfl; have hfz15_0 := blk_frozen BK108.out 0; have hfz15_1 := blk_frozen BK108.out 1))
            go_roundg k1
            case measure => have := HK1.out; omega
            case rel => exact ⟨(wrap64 (x8_1 + 1)), (t111), (t112), (by first | rfl | (simp; done) | (simp [*]; done) | (simp only [i64_w]; done) | (simp [i64_w]; done)), H', ⟨by have := HK1.out; omega⟩, ⟨by (with_reducible repeat (first | refine blk_drewN ?_ _ | refine blk_drew ?_ | refine blk_alloc ?_ _)); refine blk_far ?_ NB107_108.out _; (with_reducible repeat (first | refine blk_drewN ?_ _ | refine blk_drew ?_ | refine blk_alloc ?_ _)); refine blk_far ?_ NB107_108.out _; (with_reducible repeat (first | refine blk_drewN ?_ _ | refine blk_drew ?_ | refine blk_alloc ?_ _)); exact BK107.out⟩, ⟨by (with_reducible repeat (first | refine blk_drewN ?_ _ | refine blk_drew ?_ | refine blk_alloc ?_ _)); refine blk_put (cs := #[.int .u64 t111, .int .u64 x109001_1]) ?_ 1 _ rfl; (with_reducible repeat (first | refine blk_drewN ?_ _ | refine blk_drew ?_ | refine blk_alloc ?_ _)); refine blk_put (cs := #[.int .u64 x109000_1, .int .u64 x109001_1]) ?_ 0 _ rfl; (with_reducible repeat (first | refine blk_drewN ?_ _ | refine blk_drew ?_ | refine blk_alloc ?_ _)); exact BK108.out⟩, ⟨by repeat (first | (with_reducible first | exact HB.out | apply below_alloc | apply pw_below_drewN | apply below_drew1 | refine below_set ?_ GE107.out | refine below_set ?_ GE108.out | refine below_set ?_ GE110.out) | exact HB.out)⟩⟩
          · rw [if_neg c6] at H
            exact absurd H (by simp)
        · rw [if_neg c5] at H
          exact absurd H (by simp)
      · rw [if_neg c4] at H
        have c4b0 : decide (x8_1 < (l0.length : Int)) = false := decide_eq_false c4
        clear c4
        simp only [Option.some.injEq, Prod.mk.injEq] at H
        obtain ⟨rfl, rfl⟩ := H
        have hnb16 := NB108_107.out
        have hnc16 := NB107_108.out
        have hcz17_0 : wr.cell? ⟨gb108, 0, none⟩ = some (.int .u64 x109000_1) := (blk_cell BK108.out 0).trans rfl
        have hcz17_1 : wr.cell? ⟨gb108, 1, none⟩ = some (.int .u64 x109001_1) := (blk_cell BK108.out 1).trans rfl
        have hfz17_0 := blk_frozen BK108.out 0
        have hfz17_1 := blk_frozen BK108.out 1
        have hcz18_0 : wr.cell? ⟨gb107, 0, none⟩ = some (.int .u64 0) := (blk_cell BK107.out 0).trans rfl
        have hcz18_1 : wr.cell? ⟨gb107, 1, none⟩ = some (.int .u64 0) := (blk_cell BK107.out 1).trans rfl
        have hfz18_0 := blk_frozen BK107.out 0
        have hfz18_1 := blk_frozen BK107.out 1
        go_wp2
        refine bodyPost_ret (results_cell_row rfl _ _ gb107 24 #[.int .u64 x109000_1, .int .u64 x109001_1] (0, 0) _ rfl (by (with_reducible repeat (first | refine blk_drewN ?_ _ | refine blk_drew ?_ | refine blk_alloc ?_ _)); refine blk_put (cs := #[.int .u64 x109000_1, .int .u64 0]) ?_ 1 _ rfl; (with_reducible repeat (first | refine blk_drewN ?_ _ | refine blk_drew ?_ | refine blk_alloc ?_ _)); refine blk_put (cs := #[.int .u64 0, .int .u64 0]) ?_ 0 _ rfl; (with_reducible repeat (first | refine blk_drewN ?_ _ | refine blk_drew ?_ | refine blk_alloc ?_ _)); exact BK107.out) Try.underlying24 rfl (by kernel_rfl)) rfl ?_
        exact ⟨by first | rfl | (simp [errW_none, errW_some] <;> rfl) | (simp [*, errW_none, errW_some] <;> rfl), by repeat (first | (with_reducible first | exact HB.out | apply below_alloc | apply pw_below_drewN | apply below_drew1 | refine below_set ?_ GE107.out | refine below_set ?_ GE108.out) | exact HB.out)⟩

end Go.Proofs.Ytblllcmdnmjghaa.M
