/- Contracts of the Go functions that the laws reach, each as a plain Lean function: written by xprint.py, a program of this repo. -/
import Derived.Test.YtnagjckjibfimabM0
import Derived.Test.YtnagjckjibfimabM1
import Derived.Test.YtnagjckjibfimabM2
import Derived.Test.YtnagjckjibfimabM4
import Derived.Test.YtnagjckjibfimabM5
namespace Go.Proofs.Ytnagjckjibfimab.M
open Go.RowKit Go.Proofs.YtnagjckjibfimabW.PrintWords Go.Proofs.YtnagjckjibfimabW.PrintLast Go.Proofs.YtnagjckjibfimabW.PrintMore Go.Proofs.Ytnagjckjibfimab.X
attribute [local go_sem] max2_int min2_int max_two min_two max_three min_three max_four min_four   -- for this text's walks alone
set_option linter.unusedVariables false
set_option linter.unusedSimpArgs false

attribute [local go_sem high] eqA24
/-! ### crosswaylaw04_PolyInverse: function 7 -/
def crosswaylaw04_PolyInverse.l0 : Nat → Int → Int → Int → Int → Int → Int → Int → Option (Bool)
  | 0, _, _, _, _, _, _, _ => none
  | k + 1, x5, x324000, x324001, x326000, x326001, x329000, x329001 => if x5 < 128 then ((poly_Elem_Times.f x326000 x326001 x326000 x326001).bind fun bt329 => ((poly_Elem_Times.f x329000 x329001 bt329.1 bt329.2).bind fun bt331 => (crosswaylaw04_PolyInverse.l0 k (wrap64 (x5 + 1)) x324000 x324001 bt329.1 bt329.2 bt331.1 bt331.2))) else (if (x324000 == 0 && (x324001 == 0)) = true then (some (x329000 == 0 && (x329001 == 0))) else ((poly_Elem_Times.f x329000 x329001 x324000 x324001).bind fun bt333 => ((poly_One.f).bind fun bt335 => (some (bt333.1 == bt335.1 && (bt333.2 == bt335.2))))))
def crosswaylaw04_PolyInverse.f (k : Nat) (a0_0 : Int) (a0_1 : Int) : Option (Bool) := (crosswaylaw04_alive.f k).bind fun t324 => (if t324 = true then ((poly_One.f).bind fun bt326 => (crosswaylaw04_PolyInverse.l0 k 1 a0_0 a0_1 a0_0 a0_1 bt326.1 bt326.2)) else (some false))
theorem crosswaylaw04_PolyInverse.mono_l : ∀ k, (∀ y0 y1 y2 y3 y4 y5 y6, LeO (crosswaylaw04_PolyInverse.l0 k y0 y1 y2 y3 y4 y5 y6) (crosswaylaw04_PolyInverse.l0 (k + 1) y0 y1 y2 y3 y4 y5 y6))
  | 0 => fun _ _ _ _ _ _ _ r h => by simp [crosswaylaw04_PolyInverse.l0] at h
  | k + 1 => by
    have ih0 := crosswaylaw04_PolyInverse.mono_l k
    · intro y0 y1 y2 y3 y4 y5 y6
      unfold crosswaylaw04_PolyInverse.l0
      repeat' first
      | (with_reducible exact ih0 _ _ _ _ _ _ _)
      | (with_reducible exact crosswaylaw04_alive.mono _)
      | (with_reducible exact LeO.refl _)
      | (with_reducible exact LeO.none _)
      | (with_reducible refine LeO.ite ?_ ?_)
      | (with_reducible refine LeO.bind ?_ (fun _ => ?_))
      | exact ih0 _ _ _ _ _ _ _
      | exact crosswaylaw04_alive.mono _
      | exact LeO.none _
      | refine LeO.ite ?_ ?_
      | refine LeO.bind ?_ (fun _ => ?_)
theorem crosswaylaw04_PolyInverse.mono : ∀ a0 a1 k, LeO (crosswaylaw04_PolyInverse.f k a0 a1) (crosswaylaw04_PolyInverse.f (k + 1) a0 a1) := by
  intro a0 a1 k
  have ih0 := crosswaylaw04_PolyInverse.mono_l k
  unfold crosswaylaw04_PolyInverse.f
  repeat' first
      | (with_reducible exact ih0 _ _ _ _ _ _ _)
      | (with_reducible exact crosswaylaw04_alive.mono _)
      | (with_reducible exact LeO.refl _)
      | (with_reducible exact LeO.none _)
      | (with_reducible refine LeO.ite ?_ ?_)
      | (with_reducible refine LeO.bind ?_ (fun _ => ?_))
      | exact ih0 _ _ _ _ _ _ _
      | exact crosswaylaw04_alive.mono _
      | exact LeO.none _
      | refine LeO.ite ?_ ?_
      | refine LeO.bind ?_ (fun _ => ?_)
set_option maxHeartbeats 8000000 in
set_option maxRecDepth 100000 in
theorem crosswaylaw04_PolyInverse.calls (k : Nat) (a0_0 : Int) (a0_1 : Int) (r : Bool) (w : World) (h : crosswaylaw04_PolyInverse.f k a0_0 a0_1 = some r) :
    Calls Try.prog 7 #[.agg #[.int .u64 a0_0, .int .u64 a0_1]] w fun e w' => e = .returned (.bool r) ∧ Below w.heap.size w w' := by
  have hu24 := Try.underlying24
  have HB := Aside0.mk (Below.refl w.heap.size w)
  have H : ((crosswaylaw04_alive.f k).bind fun t324 => (if t324 = true then ((poly_One.f).bind fun bt326 => (crosswaylaw04_PolyInverse.l0 k 1 a0_0 a0_1 a0_0 a0_1 bt326.1 bt326.2)) else (some false))) = some r := h
  clear h
  replace H := Option.bind_eq_some_iff.mp H
  obtain ⟨t324, A20, H⟩ := H
  replace H : (if t324 = true then ((poly_One.f).bind fun bt326 => (crosswaylaw04_PolyInverse.l0 k 1 a0_0 a0_1 a0_0 a0_1 bt326.1 bt326.2)) else (some false)) = some r := H
  have A2 := Aside0.mk A20
  clear A20
  by_cases c3 : t324 = true
  · subst c3
    have H1 : ((poly_One.f).bind fun bt326 => (crosswaylaw04_PolyInverse.l0 k 1 a0_0 a0_1 a0_0 a0_1 bt326.1 bt326.2)) = some r := by rw [if_pos rfl] at H; exact H
    clear H
    have H := H1
    clear H1
    replace H := Option.bind_eq_some_iff.mp H
    obtain ⟨⟨t326, t327⟩, A40, H⟩ := H
    replace H : (crosswaylaw04_PolyInverse.l0 k 1 a0_0 a0_1 a0_0 a0_1 t326 t327) = some r := H
    have A4 := Aside0.mk A40
    clear A40
    have H' := Aside0.mk H
    clear H
    go_enter Try.func7, Try.ntmps7
    go_wp2_with (first | ((with_reducible refine gate_dst (N := 1) rfl ?_); refine box_event ?hg (N := 1) ?hd (cs := #[.int .u64 a0_0, .int .u64 a0_1]) (t := 24) ?hr ?_; (case hd => rfl); (case hg => rfl); (case hr => first | (go_simp; done) | (go_simp; rfl)); intro gb323 hg w5 hbox hb; have n0_ := Aside0.mk (below_step (by repeat (first | (with_reducible first | exact HB.out | apply below_alloc | apply pw_below_drewN | apply below_drew1) | exact HB.out)) hb); have n1_ := Aside0.mk (hbox); have n2_ := Aside0.mk ((by rw [hg]; exact (below_size (by repeat (first | (with_reducible first | exact HB.out | apply below_alloc | apply pw_below_drewN | apply below_drew1) | exact HB.out))) : w.heap.size ≤ gb323)); have n3_ := Aside0.mk ((by rw [hg]; exact (below_size (by repeat (first | (with_reducible first | exact HB.out | apply below_alloc | apply pw_below_drewN | apply below_drew1) | exact HB.out))) : w.heap.size ≤ gb323)); clear HB; have HB := n0_; have BK323 := n1_; have GW323 := n2_; have GE323 := n3_; clear n0_ n1_ n2_ n3_; clear hb hbox hg) | ((with_reducible refine gate_callee (f := 8) rfl ?_); refine goesL_ (some 6) rfl rfl Try.func8 (by kernel_rfl) rfl #[] rfl (by (try simp only [List.map_toArray, List.map_cons, List.map_nil]); first | done | rfl | (simp only [List.length_drop, List.length_take]; rfl)) ?_; (with_reducible refine (crosswaylaw04_alive.calls k  true _ A2.out).mono ?_); rintro e w6 ⟨rfl, hb⟩; refine ⟨_, rfl, ?_⟩; have n0_ := Aside0.mk (blk_below (g := gb323) (o := .cells #[.int .u64 a0_0, .int .u64 a0_1] 24 (0, 0)) (by (with_reducible repeat (first | refine blk_drewN ?_ _ | refine blk_drew ?_ | refine blk_alloc ?_ _)); exact BK323.out) hb); have n1_ := Aside0.mk (below_step (by repeat (first | (with_reducible first | exact HB.out | apply below_alloc | apply pw_below_drewN | apply below_drew1 | refine below_set ?_ GE323.out) | exact HB.out)) hb); clear BK323; clear HB; have BK323 := n0_; have HB := n1_; clear n0_ n1_; (try clear hb); (try clear hb2); (try clear hk); (try clear hi); have hcz7_0 : w6.cell? ⟨gb323, 0, none⟩ = some (.int .u64 a0_0) := (blk_cell BK323.out 0).trans rfl; have hcz7_1 : w6.cell? ⟨gb323, 1, none⟩ = some (.int .u64 a0_1) := (blk_cell BK323.out 1).trans rfl; have hfz7_0 := blk_frozen BK323.out 0; have hfz7_1 := blk_frozen BK323.out 1) | ((with_reducible refine gate_dst (N := 3) rfl ?_); refine box_event ?hg (N := 3) ?hd (cs := #[.int .u64 0, .int .u64 0]) (t := 24) ?hr ?_; (case hd => rfl); (case hg => rfl); (case hr => first | (go_simp; done) | (go_simp; rfl)); intro gb325 hg w8 hbox hb; have n0_ := Aside0.mk (blk_below (g := gb323) (o := .cells #[.int .u64 a0_0, .int .u64 a0_1] 24 (0, 0)) (by (with_reducible repeat (first | refine blk_drewN ?_ _ | refine blk_drew ?_ | refine blk_alloc ?_ _)); exact BK323.out) hb); have n1_ := Aside0.mk (below_step (by repeat (first | (with_reducible first | exact HB.out | apply below_alloc | apply pw_below_drewN | apply below_drew1 | refine below_set ?_ GE323.out) | exact HB.out)) hb); have n2_ := Aside0.mk (hbox); have n3_ := Aside0.mk ((by rw [hg]; exact (below_size (by repeat (first | (with_reducible first | exact HB.out | apply below_alloc | apply pw_below_drewN | apply below_drew1 | refine below_set ?_ GE323.out) | exact HB.out))) : w.heap.size ≤ gb325)); have n4_ := Aside0.mk ((by rw [hg]; exact (below_size (by repeat (first | (with_reducible first | exact HB.out | apply below_alloc | apply pw_below_drewN | apply below_drew1 | refine below_set ?_ GE323.out) | exact HB.out))) : w.heap.size ≤ gb325)); have n5_ := Aside0.mk ((by rw [hg]; exact Nat.ne_of_lt (blk_lt (g := gb323) (o := .cells #[.int .u64 a0_0, .int .u64 a0_1] 24 (0, 0)) (by (with_reducible repeat (first | refine blk_drewN ?_ _ | refine blk_drew ?_ | refine blk_alloc ?_ _)); exact BK323.out)) : gb323 ≠ gb325)); have n6_ := Aside0.mk ((by rw [hg]; exact Nat.ne_of_gt (blk_lt (g := gb323) (o := .cells #[.int .u64 a0_0, .int .u64 a0_1] 24 (0, 0)) (by (with_reducible repeat (first | refine blk_drewN ?_ _ | refine blk_drew ?_ | refine blk_alloc ?_ _)); exact BK323.out)) : gb325 ≠ gb323)); clear BK323; clear HB; have BK323 := n0_; have HB := n1_; have BK325 := n2_; have GW325 := n3_; have GE325 := n4_; have NB323_325 := n5_; have NB325_323 := n6_; clear n0_ n1_ n2_ n3_ n4_ n5_ n6_; clear hb hbox hg; have hnb9 := NB325_323.out; have hnc9 := NB323_325.out; have hcz10_0 : w8.cell? ⟨gb325, 0, none⟩ = some (.int .u64 0) := (blk_cell BK325.out 0).trans rfl; have hcz10_1 : w8.cell? ⟨gb325, 1, none⟩ = some (.int .u64 0) := (blk_cell BK325.out 1).trans rfl; have hfz10_0 := blk_frozen BK325.out 0; have hfz10_1 := blk_frozen BK325.out 1) | ((with_reducible refine gate_callee (f := 22) rfl ?_); refine goesL_ (some 9) rfl rfl Try.func22 (by kernel_rfl) rfl #[] rfl (by (try simp only [List.map_toArray, List.map_cons, List.map_nil]); first | done | rfl | (simp only [List.length_drop, List.length_take]; rfl)) ?_; (with_reducible refine (poly_One.calls  t326 t327 _ A4.out).mono ?_); rintro e w11 ⟨rfl, hb⟩; refine ⟨_, rfl, ?_⟩; have n0_ := Aside0.mk (blk_below (g := gb323) (o := .cells #[.int .u64 a0_0, .int .u64 a0_1] 24 (0, 0)) (by (with_reducible repeat (first | refine blk_drewN ?_ _ | refine blk_drew ?_ | refine blk_alloc ?_ _)); refine blk_far ?_ NB323_325.out _; (with_reducible repeat (first | refine blk_drewN ?_ _ | refine blk_drew ?_ | refine blk_alloc ?_ _)); refine blk_far ?_ NB323_325.out _; (with_reducible repeat (first | refine blk_drewN ?_ _ | refine blk_drew ?_ | refine blk_alloc ?_ _)); exact BK323.out) hb); have n1_ := Aside0.mk (blk_below (g := gb325) (o := .cells #[.int .u64 a0_0, .int .u64 a0_1] 24 (0, 0)) (by (with_reducible repeat (first | refine blk_drewN ?_ _ | refine blk_drew ?_ | refine blk_alloc ?_ _)); refine blk_put (cs := #[.int .u64 a0_0, .int .u64 0]) ?_ 1 _ rfl; (with_reducible repeat (first | refine blk_drewN ?_ _ | refine blk_drew ?_ | refine blk_alloc ?_ _)); refine blk_put (cs := #[.int .u64 0, .int .u64 0]) ?_ 0 _ rfl; (with_reducible repeat (first | refine blk_drewN ?_ _ | refine blk_drew ?_ | refine blk_alloc ?_ _)); exact BK325.out) hb); have n2_ := Aside0.mk (below_step (by repeat (first | (with_reducible first | exact HB.out | apply below_alloc | apply pw_below_drewN | apply below_drew1 | refine below_set ?_ GE323.out | refine below_set ?_ GE325.out) | exact HB.out)) hb); clear BK323; clear BK325; clear HB; have BK323 := n0_; have BK325 := n1_; have HB := n2_; clear n0_ n1_ n2_; (try clear hb); (try clear hb2); (try clear hk); (try clear hi)) | ((with_reducible refine gate_dst (N := 4) rfl ?_); refine box_event ?hg (N := 4) ?hd (cs := #[.int .u64 0, .int .u64 0]) (t := 24) ?hr ?_; (case hd => rfl); (case hg => rfl); (case hr => first | (go_simp; done) | (go_simp; rfl)); intro gb328 hg w12 hbox hb; have n0_ := Aside0.mk (blk_below (g := gb323) (o := .cells #[.int .u64 a0_0, .int .u64 a0_1] 24 (0, 0)) (by (with_reducible repeat (first | refine blk_drewN ?_ _ | refine blk_drew ?_ | refine blk_alloc ?_ _)); exact BK323.out) hb); have n1_ := Aside0.mk (blk_below (g := gb325) (o := .cells #[.int .u64 a0_0, .int .u64 a0_1] 24 (0, 0)) (by (with_reducible repeat (first | refine blk_drewN ?_ _ | refine blk_drew ?_ | refine blk_alloc ?_ _)); exact BK325.out) hb); have n2_ := Aside0.mk (below_step (by repeat (first | (with_reducible first | exact HB.out | apply below_alloc | apply pw_below_drewN | apply below_drew1 | refine below_set ?_ GE323.out | refine below_set ?_ GE325.out) | exact HB.out)) hb); have n3_ := Aside0.mk (hbox); have n4_ := Aside0.mk ((by rw [hg]; exact (below_size (by repeat (first | (with_reducible first | exact HB.out | apply below_alloc | apply pw_below_drewN | apply below_drew1 | refine below_set ?_ GE323.out | refine below_set ?_ GE325.out) | exact HB.out))) : w.heap.size ≤ gb328)); have n5_ := Aside0.mk ((by rw [hg]; exact (below_size (by repeat (first | (with_reducible first | exact HB.out | apply below_alloc | apply pw_below_drewN | apply below_drew1 | refine below_set ?_ GE323.out | refine below_set ?_ GE325.out) | exact HB.out))) : w.heap.size ≤ gb328)); have n6_ := Aside0.mk ((by rw [hg]; exact Nat.ne_of_lt (blk_lt (g := gb323) (o := .cells #[.int .u64 a0_0, .int .u64 a0_1] 24 (0, 0)) (by (with_reducible repeat (first | refine blk_drewN ?_ _ | refine blk_drew ?_ | refine blk_alloc ?_ _)); exact BK323.out)) : gb323 ≠ gb328)); have n7_ := Aside0.mk ((by rw [hg]; exact Nat.ne_of_gt (blk_lt (g := gb323) (o := .cells #[.int .u64 a0_0, .int .u64 a0_1] 24 (0, 0)) (by (with_reducible repeat (first | refine blk_drewN ?_ _ | refine blk_drew ?_ | refine blk_alloc ?_ _)); exact BK323.out)) : gb328 ≠ gb323)); have n8_ := Aside0.mk ((by rw [hg]; exact Nat.ne_of_lt (blk_lt (g := gb325) (o := .cells #[.int .u64 a0_0, .int .u64 a0_1] 24 (0, 0)) (by (with_reducible repeat (first | refine blk_drewN ?_ _ | refine blk_drew ?_ | refine blk_alloc ?_ _)); exact BK325.out)) : gb325 ≠ gb328)); have n9_ := Aside0.mk ((by rw [hg]; exact Nat.ne_of_gt (blk_lt (g := gb325) (o := .cells #[.int .u64 a0_0, .int .u64 a0_1] 24 (0, 0)) (by (with_reducible repeat (first | refine blk_drewN ?_ _ | refine blk_drew ?_ | refine blk_alloc ?_ _)); exact BK325.out)) : gb328 ≠ gb325)); clear BK323; clear BK325; clear HB; have BK323 := n0_; have BK325 := n1_; have HB := n2_; have BK328 := n3_; have GW328 := n4_; have GE328 := n5_; have NB323_328 := n6_; have NB328_323 := n7_; have NB325_328 := n8_; have NB328_325 := n9_; clear n0_ n1_ n2_ n3_ n4_ n5_ n6_ n7_ n8_ n9_; clear hb hbox hg; have hnb13 := NB328_323.out; have hnc13 := NB323_328.out; have hnb14 := NB328_325.out; have hnc14 := NB325_328.out; have hcz15_0 : w12.cell? ⟨gb328, 0, none⟩ = some (.int .u64 0) := (blk_cell BK328.out 0).trans rfl; have hcz15_1 : w12.cell? ⟨gb328, 1, none⟩ = some (.int .u64 0) := (blk_cell BK328.out 1).trans rfl; have hfz15_0 := blk_frozen BK328.out 0; have hfz15_1 := blk_frozen BK328.out 1))
    go_loopg [5] k (fun kq v5 w' => ∃ (x5_1 : Int) (x326000_1 : Int) (x326001_1 : Int) (x329000_1 : Int) (x329001_1 : Int), v5 = .int .i64 x5_1 ∧ Aside0 (crosswaylaw04_PolyInverse.l0 kq x5_1 a0_0 a0_1 x326000_1 x326001_1 x329000_1 x329001_1 = some r) ∧ Aside0 (kq ≤ k) ∧ Aside0 (w'.heap[gb323]? = some (.cells #[.int .u64 a0_0, .int .u64 a0_1] 24 (0, 0))) ∧ Aside0 (w'.heap[gb325]? = some (.cells #[.int .u64 x326000_1, .int .u64 x326001_1] 24 (0, 0))) ∧ Aside0 (w'.heap[gb328]? = some (.cells #[.int .u64 x329000_1, .int .u64 x329001_1] 24 (0, 0))) ∧ Aside0 (Below w.heap.size w w'))
    case atStart => exact ⟨(1), (a0_0), (a0_1), (t326), (t327), (by first | rfl | (simp; done) | (simp [*]; done) | (simp only [i64_w]; done) | (simp [i64_w]; done)), H', ⟨Nat.le_refl _⟩, ⟨by (with_reducible repeat (first | refine blk_drewN ?_ _ | refine blk_drew ?_ | refine blk_alloc ?_ _)); refine blk_far ?_ NB323_328.out _; (with_reducible repeat (first | refine blk_drewN ?_ _ | refine blk_drew ?_ | refine blk_alloc ?_ _)); refine blk_far ?_ NB323_328.out _; (with_reducible repeat (first | refine blk_drewN ?_ _ | refine blk_drew ?_ | refine blk_alloc ?_ _)); exact BK323.out⟩, ⟨by (with_reducible repeat (first | refine blk_drewN ?_ _ | refine blk_drew ?_ | refine blk_alloc ?_ _)); refine blk_far ?_ NB325_328.out _; (with_reducible repeat (first | refine blk_drewN ?_ _ | refine blk_drew ?_ | refine blk_alloc ?_ _)); refine blk_far ?_ NB325_328.out _; (with_reducible repeat (first | refine blk_drewN ?_ _ | refine blk_drew ?_ | refine blk_alloc ?_ _)); exact BK325.out⟩, ⟨by (with_reducible repeat (first | refine blk_drewN ?_ _ | refine blk_drew ?_ | refine blk_alloc ?_ _)); refine blk_put (cs := #[.int .u64 t326, .int .u64 0]) ?_ 1 _ rfl; (with_reducible repeat (first | refine blk_drewN ?_ _ | refine blk_drew ?_ | refine blk_alloc ?_ _)); refine blk_put (cs := #[.int .u64 0, .int .u64 0]) ?_ 0 _ rfl; (with_reducible repeat (first | refine blk_drewN ?_ _ | refine blk_drew ?_ | refine blk_alloc ?_ _)); exact BK328.out⟩, ⟨by repeat (first | (with_reducible first | exact HB.out | apply below_alloc | apply pw_below_drewN | apply below_drew1 | refine below_set ?_ GE323.out | refine below_set ?_ GE325.out | refine below_set ?_ GE328.out) | exact HB.out)⟩⟩
    case round =>
      clear H'
      try clear c1
      try clear c2
      try clear p2
      try clear c3
      try clear c7
      try clear c8
      try clear c9
      try clear c13
      try clear c14
      try clear hcz10_0
      try clear hcz10_1
      try clear hcz15_0
      try clear hcz15_1
      try clear hcz7_0
      try clear hcz7_1
      try clear hfz10_0
      try clear hfz10_1
      try clear hfz15_0
      try clear hfz15_1
      try clear hfz7_0
      try clear hfz7_1
      obtain ⟨x5_1, x326000_1, x326001_1, x329000_1, x329001_1, rfl, HA, HK1, BK323, BK325, BK328, HB⟩ := hrel
      cases gk with
      | zero => exact absurd HA.out (by simp [crosswaylaw04_PolyInverse.l0])
      | succ k1 =>
        have H := HA.out
        clear HA
        simp only [crosswaylaw04_PolyInverse.l0] at H
        by_cases c16 : x5_1 < 128
        · rw [if_pos c16] at H
          have c16b0 : decide (x5_1 < 128) = true := decide_eq_true c16
          clear c16
          replace H := Option.bind_eq_some_iff.mp H
          obtain ⟨⟨t329, t330⟩, A170, H⟩ := H
          replace H : ((poly_Elem_Times.f x329000_1 x329001_1 t329 t330).bind fun bt331 => (crosswaylaw04_PolyInverse.l0 k1 (wrap64 (x5_1 + 1)) a0_0 a0_1 t329 t330 bt331.1 bt331.2)) = some r := H
          have A17 := Aside0.mk A170
          clear A170
          replace H := Option.bind_eq_some_iff.mp H
          obtain ⟨⟨t331, t332⟩, A180, H⟩ := H
          replace H : (crosswaylaw04_PolyInverse.l0 k1 (wrap64 (x5_1 + 1)) a0_0 a0_1 t329 t330 t331 t332) = some r := H
          have A18 := Aside0.mk A180
          clear A180
          have H' := Aside0.mk H
          clear H
          have hnb19 := NB325_323.out
          have hnc19 := NB323_325.out
          have hnb20 := NB325_328.out
          have hnc20 := NB328_325.out
          have hcz21_0 : wr.cell? ⟨gb325, 0, none⟩ = some (.int .u64 x326000_1) := (blk_cell BK325.out 0).trans rfl
          have hcz21_1 : wr.cell? ⟨gb325, 1, none⟩ = some (.int .u64 x326001_1) := (blk_cell BK325.out 1).trans rfl
          have hfz21_0 := blk_frozen BK325.out 0
          have hfz21_1 := blk_frozen BK325.out 1
          go_wp2_with (first | ((with_reducible refine gate_callee (f := 11) rfl ?_); refine goesL_ (some 16) rfl rfl Try.func11 (by kernel_rfl) rfl #[.agg #[.int .u64 x326000_1, .int .u64 x326001_1], .agg #[.int .u64 x326000_1, .int .u64 x326001_1]] rfl (by (try simp only [List.map_toArray, List.map_cons, List.map_nil]); first | done | rfl | (simp only [List.length_drop, List.length_take]; rfl)) ?_; (with_reducible refine (poly_Elem_Times.calls x326000_1 x326001_1 x326000_1 x326001_1 t329 t330 _ A17.out).mono ?_); rintro e w22 ⟨rfl, hb⟩; refine ⟨_, rfl, ?_⟩; have n0_ := Aside0.mk (blk_below (g := gb323) (o := .cells #[.int .u64 a0_0, .int .u64 a0_1] 24 (0, 0)) (by (with_reducible repeat (first | refine blk_drewN ?_ _ | refine blk_drew ?_ | refine blk_alloc ?_ _)); exact BK323.out) hb); have n1_ := Aside0.mk (blk_below (g := gb325) (o := .cells #[.int .u64 x326000_1, .int .u64 x326001_1] 24 (0, 0)) (by (with_reducible repeat (first | refine blk_drewN ?_ _ | refine blk_drew ?_ | refine blk_alloc ?_ _)); exact BK325.out) hb); have n2_ := Aside0.mk (blk_below (g := gb328) (o := .cells #[.int .u64 x329000_1, .int .u64 x329001_1] 24 (0, 0)) (by (with_reducible repeat (first | refine blk_drewN ?_ _ | refine blk_drew ?_ | refine blk_alloc ?_ _)); exact BK328.out) hb); have n3_ := Aside0.mk (below_step (by repeat (first | (with_reducible first | exact HB.out | apply below_alloc | apply pw_below_drewN | apply below_drew1 | refine below_set ?_ GE323.out | refine below_set ?_ GE325.out | refine below_set ?_ GE328.out) | exact HB.out)) hb); clear BK323; clear BK325; clear BK328; clear HB; have BK323 := n0_; have BK325 := n1_; have BK328 := n2_; have HB := n3_; clear n0_ n1_ n2_ n3_; (try clear hb); (try clear hb2); (try clear hk); (try clear hi); have hcz23_0 : w22.cell? ⟨gb325, 0, none⟩ = some (.int .u64 x326000_1) := (blk_cell BK325.out 0).trans rfl; have hcz23_1 : w22.cell? ⟨gb325, 1, none⟩ = some (.int .u64 x326001_1) := (blk_cell BK325.out 1).trans rfl; have hfz23_0 := blk_frozen BK325.out 0; have hfz23_1 := blk_frozen BK325.out 1; have hnb24 := NB328_323.out; have hnc24 := NB323_328.out; have hcz25_0 : w22.cell? ⟨gb328, 0, none⟩ = some (.int .u64 x329000_1) := (blk_cell BK328.out 0).trans rfl; have hcz25_1 : w22.cell? ⟨gb328, 1, none⟩ = some (.int .u64 x329001_1) := (blk_cell BK328.out 1).trans rfl; have hfz25_0 := blk_frozen BK328.out 0; have hfz25_1 := blk_frozen BK328.out 1) | ((with_reducible refine gate_callee (f := 11) rfl ?_); refine goesL_ (some 19) rfl rfl Try.func11 (by kernel_rfl) rfl #[.agg #[.int .u64 x329000_1, .int .u64 x329001_1], .agg #[.int .u64 t329, .int .u64 t330]] rfl (by (try simp only [List.map_toArray, List.map_cons, List.map_nil]); first | done | rfl | (simp only [List.length_drop, List.length_take]; rfl)) ?_; (with_reducible refine (poly_Elem_Times.calls x329000_1 x329001_1 t329 t330 t331 t332 _ A18.out).mono ?_); rintro e w26 ⟨rfl, hb⟩; refine ⟨_, rfl, ?_⟩; have n0_ := Aside0.mk (blk_below (g := gb323) (o := .cells #[.int .u64 a0_0, .int .u64 a0_1] 24 (0, 0)) (by (with_reducible repeat (first | refine blk_drewN ?_ _ | refine blk_drew ?_ | refine blk_alloc ?_ _)); refine blk_far ?_ NB323_325.out _; (with_reducible repeat (first | refine blk_drewN ?_ _ | refine blk_drew ?_ | refine blk_alloc ?_ _)); refine blk_far ?_ NB323_325.out _; (with_reducible repeat (first | refine blk_drewN ?_ _ | refine blk_drew ?_ | refine blk_alloc ?_ _)); exact BK323.out) hb); have n1_ := Aside0.mk (blk_below (g := gb325) (o := .cells #[.int .u64 t329, .int .u64 t330] 24 (0, 0)) (by (with_reducible repeat (first | refine blk_drewN ?_ _ | refine blk_drew ?_ | refine blk_alloc ?_ _)); refine blk_put (cs := #[.int .u64 t329, .int .u64 x326001_1]) ?_ 1 _ rfl; (with_reducible repeat (first | refine blk_drewN ?_ _ | refine blk_drew ?_ | refine blk_alloc ?_ _)); refine blk_put (cs := #[.int .u64 x326000_1, .int .u64 x326001_1]) ?_ 0 _ rfl; (with_reducible repeat (first | refine blk_drewN ?_ _ | refine blk_drew ?_ | refine blk_alloc ?_ _)); exact BK325.out) hb); have n2_ := Aside0.mk (blk_below (g := gb328) (o := .cells #[.int .u64 x329000_1, .int .u64 x329001_1] 24 (0, 0)) (by (with_reducible repeat (first | refine blk_drewN ?_ _ | refine blk_drew ?_ | refine blk_alloc ?_ _)); refine blk_far ?_ NB328_325.out _; (with_reducible repeat (first | refine blk_drewN ?_ _ | refine blk_drew ?_ | refine blk_alloc ?_ _)); refine blk_far ?_ NB328_325.out _; (with_reducible repeat (first | refine blk_drewN ?_ _ | refine blk_drew ?_ | refine blk_alloc ?_ _)); exact BK328.out) hb); have n3_ := Aside0.mk (below_step (by repeat (first | (with_reducible first | exact HB.out | apply below_alloc | apply pw_below_drewN | apply below_drew1 | refine below_set ?_ GE323.out | refine below_set ?_ GE325.out | refine below_set ?_ GE328.out) | exact HB.out)) hb); clear BK323; clear BK325; clear BK328; clear HB; have BK323 := n0_; have BK325 := n1_; have BK328 := n2_; have HB := n3_; clear n0_ n1_ n2_ n3_; (try clear hb); (try clear hb2); (try clear hk); (try clear hi); have hcz27_0 : w26.cell? ⟨gb328, 0, none⟩ = some (.int .u64 x329000_1) := (blk_cell BK328.out 0).trans rfl; have hcz27_1 : w26.cell? ⟨gb328, 1, none⟩ = some (.int .u64 x329001_1) := (blk_cell BK328.out 1).trans rfl; have hfz27_0 := blk_frozen BK328.out 0; have hfz27_1 := blk_frozen BK328.out 1))
          go_roundg k1
          case measure => have := HK1.out; omega
          case rel => exact ⟨(wrap64 (x5_1 + 1)), (t329), (t330), (t331), (t332), (by first | rfl | (simp; done) | (simp [*]; done) | (simp only [i64_w]; done) | (simp [i64_w]; done)), H', ⟨by have := HK1.out; omega⟩, ⟨by (with_reducible repeat (first | refine blk_drewN ?_ _ | refine blk_drew ?_ | refine blk_alloc ?_ _)); refine blk_far ?_ NB323_328.out _; (with_reducible repeat (first | refine blk_drewN ?_ _ | refine blk_drew ?_ | refine blk_alloc ?_ _)); refine blk_far ?_ NB323_328.out _; (with_reducible repeat (first | refine blk_drewN ?_ _ | refine blk_drew ?_ | refine blk_alloc ?_ _)); exact BK323.out⟩, ⟨by (with_reducible repeat (first | refine blk_drewN ?_ _ | refine blk_drew ?_ | refine blk_alloc ?_ _)); refine blk_far ?_ NB325_328.out _; (with_reducible repeat (first | refine blk_drewN ?_ _ | refine blk_drew ?_ | refine blk_alloc ?_ _)); refine blk_far ?_ NB325_328.out _; (with_reducible repeat (first | refine blk_drewN ?_ _ | refine blk_drew ?_ | refine blk_alloc ?_ _)); exact BK325.out⟩, ⟨by (with_reducible repeat (first | refine blk_drewN ?_ _ | refine blk_drew ?_ | refine blk_alloc ?_ _)); refine blk_put (cs := #[.int .u64 t331, .int .u64 x329001_1]) ?_ 1 _ rfl; (with_reducible repeat (first | refine blk_drewN ?_ _ | refine blk_drew ?_ | refine blk_alloc ?_ _)); refine blk_put (cs := #[.int .u64 x329000_1, .int .u64 x329001_1]) ?_ 0 _ rfl; (with_reducible repeat (first | refine blk_drewN ?_ _ | refine blk_drew ?_ | refine blk_alloc ?_ _)); exact BK328.out⟩, ⟨by repeat (first | (with_reducible first | exact HB.out | apply below_alloc | apply pw_below_drewN | apply below_drew1 | refine below_set ?_ GE323.out | refine below_set ?_ GE325.out | refine below_set ?_ GE328.out) | exact HB.out)⟩⟩
        · rw [if_neg c16] at H
          have c16b0 : decide (x5_1 < 128) = false := decide_eq_false c16
          clear c16
          by_cases c28 : (a0_0 == 0 && (a0_1 == 0)) = true
          · rw [if_pos c28] at H
            have c28b0 : (a0_0 == 0 && (a0_1 == 0)) = true := c28
            (try (have c28b1 : decide (a0_0 = 0 && (a0_1 == 0)) = true := by simpa using c28))
            (try (have c28b2 : (a0_0 == 0 && (a0_1 == 0)) = true := by simpa using c28))
            clear c28
            obtain rfl := Option.some.inj H
            have hnb29 := NB323_325.out
            have hnc29 := NB325_323.out
            have hnb30 := NB323_328.out
            have hnc30 := NB328_323.out
            have hcz31_0 : wr.cell? ⟨gb323, 0, none⟩ = some (.int .u64 a0_0) := (blk_cell BK323.out 0).trans rfl
            have hcz31_1 : wr.cell? ⟨gb323, 1, none⟩ = some (.int .u64 a0_1) := (blk_cell BK323.out 1).trans rfl
            have hfz31_0 := blk_frozen BK323.out 0
            have hfz31_1 := blk_frozen BK323.out 1
            have hnb32 := NB328_325.out
            have hnc32 := NB325_328.out
            have hcz33_0 : wr.cell? ⟨gb328, 0, none⟩ = some (.int .u64 x329000_1) := (blk_cell BK328.out 0).trans rfl
            have hcz33_1 : wr.cell? ⟨gb328, 1, none⟩ = some (.int .u64 x329001_1) := (blk_cell BK328.out 1).trans rfl
            have hfz33_0 := blk_frozen BK328.out 0
            have hfz33_1 := blk_frozen BK328.out 1
            go_wp2
            go_ret
            exact ⟨by first | rfl | (simp [errW_none, errW_some] <;> rfl) | (simp [*, errW_none, errW_some] <;> rfl), by repeat (first | (with_reducible first | exact HB.out | apply below_alloc | apply pw_below_drewN | apply below_drew1 | refine below_set ?_ GE323.out | refine below_set ?_ GE325.out | refine below_set ?_ GE328.out) | exact HB.out)⟩
          · rw [if_neg c28] at H
            have c28b0 : (a0_0 == 0 && (a0_1 == 0)) = false := by simpa using c28
            (try (have c28b1 : decide (a0_0 = 0 && (a0_1 == 0)) = false := by simpa using c28))
            (try (have c28b2 : (a0_0 == 0 && (a0_1 == 0)) = false := by simpa using c28))
            (try (have c28b3 : ¬ (a0_0 = 0 && (a0_1 == 0)) := by simpa using c28))
            clear c28
            replace H := Option.bind_eq_some_iff.mp H
            obtain ⟨⟨t333, t334⟩, A340, H⟩ := H
            replace H : ((poly_One.f).bind fun bt335 => (some (t333 == bt335.1 && (t334 == bt335.2)))) = some r := H
            have A34 := Aside0.mk A340
            clear A340
            replace H := Option.bind_eq_some_iff.mp H
            obtain ⟨⟨t335, t336⟩, A350, H⟩ := H
            replace H : (some (t333 == t335 && (t334 == t336))) = some r := H
            have A35 := Aside0.mk A350
            clear A350
            obtain rfl := Option.some.inj H
            have hnb36 := NB323_325.out
            have hnc36 := NB325_323.out
            have hnb37 := NB323_328.out
            have hnc37 := NB328_323.out
            have hcz38_0 : wr.cell? ⟨gb323, 0, none⟩ = some (.int .u64 a0_0) := (blk_cell BK323.out 0).trans rfl
            have hcz38_1 : wr.cell? ⟨gb323, 1, none⟩ = some (.int .u64 a0_1) := (blk_cell BK323.out 1).trans rfl
            have hfz38_0 := blk_frozen BK323.out 0
            have hfz38_1 := blk_frozen BK323.out 1
            have hnb39 := NB328_325.out
            have hnc39 := NB325_328.out
            have hcz40_0 : wr.cell? ⟨gb328, 0, none⟩ = some (.int .u64 x329000_1) := (blk_cell BK328.out 0).trans rfl
            have hcz40_1 : wr.cell? ⟨gb328, 1, none⟩ = some (.int .u64 x329001_1) := (blk_cell BK328.out 1).trans rfl
            have hfz40_0 := blk_frozen BK328.out 0
            have hfz40_1 := blk_frozen BK328.out 1
            go_wp2_with (first | ((with_reducible refine gate_callee (f := 11) rfl ?_); refine goesL_ (some 28) rfl rfl Try.func11 (by kernel_rfl) rfl #[.agg #[.int .u64 x329000_1, .int .u64 x329001_1], .agg #[.int .u64 a0_0, .int .u64 a0_1]] rfl (by (try simp only [List.map_toArray, List.map_cons, List.map_nil]); first | done | rfl | (simp only [List.length_drop, List.length_take]; rfl)) ?_; (with_reducible refine (poly_Elem_Times.calls x329000_1 x329001_1 a0_0 a0_1 t333 t334 _ A34.out).mono ?_); rintro e w41 ⟨rfl, hb⟩; refine ⟨_, rfl, ?_⟩; have n0_ := Aside0.mk (blk_below (g := gb323) (o := .cells #[.int .u64 a0_0, .int .u64 a0_1] 24 (0, 0)) (by (with_reducible repeat (first | refine blk_drewN ?_ _ | refine blk_drew ?_ | refine blk_alloc ?_ _)); exact BK323.out) hb); have n1_ := Aside0.mk (blk_below (g := gb325) (o := .cells #[.int .u64 x326000_1, .int .u64 x326001_1] 24 (0, 0)) (by (with_reducible repeat (first | refine blk_drewN ?_ _ | refine blk_drew ?_ | refine blk_alloc ?_ _)); exact BK325.out) hb); have n2_ := Aside0.mk (blk_below (g := gb328) (o := .cells #[.int .u64 x329000_1, .int .u64 x329001_1] 24 (0, 0)) (by (with_reducible repeat (first | refine blk_drewN ?_ _ | refine blk_drew ?_ | refine blk_alloc ?_ _)); exact BK328.out) hb); have n3_ := Aside0.mk (below_step (by repeat (first | (with_reducible first | exact HB.out | apply below_alloc | apply pw_below_drewN | apply below_drew1 | refine below_set ?_ GE323.out | refine below_set ?_ GE325.out | refine below_set ?_ GE328.out) | exact HB.out)) hb); clear BK323; clear BK325; clear BK328; clear HB; have BK323 := n0_; have BK325 := n1_; have BK328 := n2_; have HB := n3_; clear n0_ n1_ n2_ n3_; (try clear hb); (try clear hb2); (try clear hk); (try clear hi)) | ((with_reducible refine gate_callee (f := 22) rfl ?_); refine goesL_ (some 29) rfl rfl Try.func22 (by kernel_rfl) rfl #[] rfl (by (try simp only [List.map_toArray, List.map_cons, List.map_nil]); first | done | rfl | (simp only [List.length_drop, List.length_take]; rfl)) ?_; (with_reducible refine (poly_One.calls  t335 t336 _ A35.out).mono ?_); rintro e w42 ⟨rfl, hb⟩; refine ⟨_, rfl, ?_⟩; have n0_ := Aside0.mk (blk_below (g := gb323) (o := .cells #[.int .u64 a0_0, .int .u64 a0_1] 24 (0, 0)) (by (with_reducible repeat (first | refine blk_drewN ?_ _ | refine blk_drew ?_ | refine blk_alloc ?_ _)); exact BK323.out) hb); have n1_ := Aside0.mk (blk_below (g := gb325) (o := .cells #[.int .u64 x326000_1, .int .u64 x326001_1] 24 (0, 0)) (by (with_reducible repeat (first | refine blk_drewN ?_ _ | refine blk_drew ?_ | refine blk_alloc ?_ _)); exact BK325.out) hb); have n2_ := Aside0.mk (blk_below (g := gb328) (o := .cells #[.int .u64 x329000_1, .int .u64 x329001_1] 24 (0, 0)) (by (with_reducible repeat (first | refine blk_drewN ?_ _ | refine blk_drew ?_ | refine blk_alloc ?_ _)); exact BK328.out) hb); have n3_ := Aside0.mk (below_step (by repeat (first | (with_reducible first | exact HB.out | apply below_alloc | apply pw_below_drewN | apply below_drew1 | refine below_set ?_ GE323.out | refine below_set ?_ GE325.out | refine below_set ?_ GE328.out) | exact HB.out)) hb); clear BK323; clear BK325; clear BK328; clear HB; have BK323 := n0_; have BK325 := n1_; have BK328 := n2_; have HB := n3_; clear n0_ n1_ n2_ n3_; (try clear hb); (try clear hb2); (try clear hk); (try clear hi)))
            go_ret
            exact ⟨by first | rfl | (simp [errW_none, errW_some] <;> rfl) | (simp [*, errW_none, errW_some] <;> rfl), by repeat (first | (with_reducible first | exact HB.out | apply below_alloc | apply pw_below_drewN | apply below_drew1 | refine below_set ?_ GE323.out | refine below_set ?_ GE325.out | refine below_set ?_ GE328.out) | exact HB.out)⟩
  · replace c3 := Bool.eq_false_iff.mpr c3
    subst c3
    have H1 : (some false) = some r := by rw [if_neg (show ¬ (false = true) by decide)] at H; exact H
    clear H
    have H := H1
    clear H1
    obtain rfl := Option.some.inj H
    go_enter Try.func7, Try.ntmps7
    go_wp2_with (first | ((with_reducible refine gate_dst (N := 1) rfl ?_); refine box_event ?hg (N := 1) ?hd (cs := #[.int .u64 a0_0, .int .u64 a0_1]) (t := 24) ?hr ?_; (case hd => rfl); (case hg => rfl); (case hr => first | (go_simp; done) | (go_simp; rfl)); intro gb323 hg w43 hbox hb; have n0_ := Aside0.mk (below_step (by repeat (first | (with_reducible first | exact HB.out | apply below_alloc | apply pw_below_drewN | apply below_drew1) | exact HB.out)) hb); have n1_ := Aside0.mk (hbox); have n2_ := Aside0.mk ((by rw [hg]; exact (below_size (by repeat (first | (with_reducible first | exact HB.out | apply below_alloc | apply pw_below_drewN | apply below_drew1) | exact HB.out))) : w.heap.size ≤ gb323)); have n3_ := Aside0.mk ((by rw [hg]; exact (below_size (by repeat (first | (with_reducible first | exact HB.out | apply below_alloc | apply pw_below_drewN | apply below_drew1) | exact HB.out))) : w.heap.size ≤ gb323)); clear HB; have HB := n0_; have BK323 := n1_; have GW323 := n2_; have GE323 := n3_; clear n0_ n1_ n2_ n3_; clear hb hbox hg) | ((with_reducible refine gate_callee (f := 8) rfl ?_); refine goesL_ (some 6) rfl rfl Try.func8 (by kernel_rfl) rfl #[] rfl (by (try simp only [List.map_toArray, List.map_cons, List.map_nil]); first | done | rfl | (simp only [List.length_drop, List.length_take]; rfl)) ?_; (with_reducible refine (crosswaylaw04_alive.calls k  false _ A2.out).mono ?_); rintro e w44 ⟨rfl, hb⟩; refine ⟨_, rfl, ?_⟩; have n0_ := Aside0.mk (blk_below (g := gb323) (o := .cells #[.int .u64 a0_0, .int .u64 a0_1] 24 (0, 0)) (by (with_reducible repeat (first | refine blk_drewN ?_ _ | refine blk_drew ?_ | refine blk_alloc ?_ _)); exact BK323.out) hb); have n1_ := Aside0.mk (below_step (by repeat (first | (with_reducible first | exact HB.out | apply below_alloc | apply pw_below_drewN | apply below_drew1 | refine below_set ?_ GE323.out) | exact HB.out)) hb); clear BK323; clear HB; have BK323 := n0_; have HB := n1_; clear n0_ n1_; (try clear hb); (try clear hb2); (try clear hk); (try clear hi)))
    go_ret
    exact ⟨by first | rfl | (simp [errW_none, errW_some] <;> rfl) | (simp [*, errW_none, errW_some] <;> rfl), by repeat (first | (with_reducible first | exact HB.out | apply below_alloc | apply pw_below_drewN | apply below_drew1 | refine below_set ?_ GE323.out) | exact HB.out)⟩

/-- The one pure statement of crosswaylaw04_PolyInverse. -/
def crosswaylaw04_PolyInverse.Pure : Prop := ∀ (a0_0 : Int) (a0_1 : Int), (Lit.int .u64 a0_0).wf = true → (Lit.int .u64 a0_1).wf = true → ∃ k, crosswaylaw04_PolyInverse.f k a0_0 a0_1 = some true

end Go.Proofs.Ytnagjckjibfimab.M
