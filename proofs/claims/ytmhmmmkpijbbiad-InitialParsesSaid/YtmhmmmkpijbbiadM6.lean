/- Contracts of the Go functions that the laws reach, each as a plain Lean function: written by xprint.py, a program of this repo. -/
import Derived.Test.YtmhmmmkpijbbiadM0
import Derived.Test.YtmhmmmkpijbbiadM1
import Derived.Test.YtmhmmmkpijbbiadM3
import Derived.Test.YtmhmmmkpijbbiadM5
namespace Go.Proofs.Ytmhmmmkpijbbiad.M
open Go.RowKit Go.Proofs.YtmhmmmkpijbbiadW.PrintWords Go.Proofs.YtmhmmmkpijbbiadW.PrintLast Go.Proofs.YtmhmmmkpijbbiadW.PrintMore Go.Proofs.Ytmhmmmkpijbbiad.X
attribute [local go_sem] max2_int min2_int max_two min_two max_three min_three max_four min_four   -- for this text's walks alone
set_option linter.unusedVariables false
set_option linter.unusedSimpArgs false

open Kd
/-! ### slices_Concat_byte_byte: function 58 -/
mutual
def slices_Concat_byte_byte.l0 : Nat → List (List Int) → Int → List (List Int) → Int → Int → Option (List Int)
 | 0, _, _, _, _, _ => none
 | k + 1, x0, x3, x9, x10, x11 => if x11 < x10 then (if 0 ≤ x11 then (if x11 < (x9.length : Int) then (if (wrap64 (x3 + ((rd_L1 x9 x11).length : Int))) < 0 then (none) else (slices_Concat_byte_byte.l0 k x0 (wrap64 (x3 + ((rd_L1 x9 x11).length : Int))) x9 x10 (wrap64 (x11 + 1)))) else (none)) else (none)) else ((slices_Grow_byte_byte.f x3).bind fun t131 => (slices_Concat_byte_byte.l1 k t131 x0 (x0.length : Int) 0))
def slices_Concat_byte_byte.l1 : Nat → List Int → List (List Int) → Int → Int → Option (List Int)
 | 0, _, _, _, _ => none
 | k + 1, x6, x25, x26, x27 => if x27 < x26 then (if 0 ≤ x27 then (if x27 < (x25.length : Int) then (if x6.length + (rd_L1 x25 x27).length < 140737488355328 then (slices_Concat_byte_byte.l1 k (x6 ++ (rd_L1 x25 x27)) x25 x26 (wrap64 (x27 + 1))) else (none)) else (none)) else (none)) else (some x6)
end
def slices_Concat_byte_byte.f (k : Nat) (l0 : List (List Int)) : Option (List Int) := slices_Concat_byte_byte.l0 k l0 0 l0 (l0.length : Int) 0
theorem slices_Concat_byte_byte.mono_l : ∀ k, (∀ y0 y1 y2 y3 y4, LeO (slices_Concat_byte_byte.l0 k y0 y1 y2 y3 y4) (slices_Concat_byte_byte.l0 (k + 1) y0 y1 y2 y3 y4)) ∧ (∀ y0 y1 y2 y3, LeO (slices_Concat_byte_byte.l1 k y0 y1 y2 y3) (slices_Concat_byte_byte.l1 (k + 1) y0 y1 y2 y3))
 | 0 => ⟨fun _ _ _ _ _ r h => by simp [slices_Concat_byte_byte.l0] at h, fun _ _ _ _ r h => by simp [slices_Concat_byte_byte.l1] at h⟩
 | k + 1 => by
  obtain ⟨ih0, ih1⟩ := slices_Concat_byte_byte.mono_l k
  refine ⟨?_, ?_⟩
  ·intro y0 y1 y2 y3 y4
   unfold slices_Concat_byte_byte.l0
   repeat' first
   | (with_reducible exact ih0 _ _ _ _ _)
   | (with_reducible exact ih1 _ _ _ _)
   | (with_reducible exact LeO.refl _)
   | (with_reducible exact LeO.none _)
   | (with_reducible refine LeO.ite ?_ ?_)
   | (with_reducible refine LeO.bind ?_ (fun _ => ?_))
   | exact ih0 _ _ _ _ _
   | exact ih1 _ _ _ _
   | exact LeO.none _
   | refine LeO.ite ?_ ?_
   | refine LeO.bind ?_ (fun _ => ?_)
  ·intro y0 y1 y2 y3
   unfold slices_Concat_byte_byte.l1
   repeat' first
   | (with_reducible exact ih0 _ _ _ _ _)
   | (with_reducible exact ih1 _ _ _ _)
   | (with_reducible exact LeO.refl _)
   | (with_reducible exact LeO.none _)
   | (with_reducible refine LeO.ite ?_ ?_)
   | (with_reducible refine LeO.bind ?_ (fun _ => ?_))
   | exact ih0 _ _ _ _ _
   | exact ih1 _ _ _ _
   | exact LeO.none _
   | refine LeO.ite ?_ ?_
   | refine LeO.bind ?_ (fun _ => ?_)
theorem slices_Concat_byte_byte.mono : ∀ a0 k, LeO (slices_Concat_byte_byte.f k a0) (slices_Concat_byte_byte.f (k + 1) a0) := by
 intro a0 k
 obtain ⟨ih0, ih1⟩ := slices_Concat_byte_byte.mono_l k
 unfold slices_Concat_byte_byte.f
 repeat' first
   | (with_reducible exact ih0 _ _ _ _ _)
   | (with_reducible exact ih1 _ _ _ _)
   | (with_reducible exact LeO.refl _)
   | (with_reducible exact LeO.none _)
   | (with_reducible refine LeO.ite ?_ ?_)
   | (with_reducible refine LeO.bind ?_ (fun _ => ?_))
   | exact ih0 _ _ _ _ _
   | exact ih1 _ _ _ _
   | exact LeO.none _
   | refine LeO.ite ?_ ?_
   | refine LeO.bind ?_ (fun _ => ?_)
set_option maxHeartbeats 8000000 in
set_option maxRecDepth 100000 in
theorem slices_Concat_byte_byte.calls (k : Nat) (A0 : Option Addr) (c0 : Nat) (l0 : List (List Int)) (r : List Int) (w : World) (hr0 : Kd.C (Kd.slice 5 (Kd.int .u8)) w A0 l0.length l0) (hc0 : l0.length ≤ c0) (h : slices_Concat_byte_byte.f k l0 = some r) :
  Calls Try.prog 58 #[.slice A0 l0.length c0] w fun e w' => ∃ v0_ : Value, e = .returned (v0_) ∧ Kd.R (Kd.int .u8) 5 w' w.heap.size (fun _ => True) v0_ r ∧ Below w.heap.size w w' := by
 have HR0 := Aside0.mk hr0
 have HC0 := Aside0.mk hc0
 clear hr0 hc0
 have HB := Aside0.mk (Below.refl w.heap.size w)
 have H : (slices_Concat_byte_byte.l0 k l0 0 l0 (l0.length : Int) 0) = some r := h
 clear h
 have H' := Aside0.mk H
 clear H
 go_enter Try.func58, Try.ntmps58
 go_wp2
 go_loopg [3, 11] k (fun kq v3 v11 w' => ∃ (x3_1 : Int) (x11_1 : Int), v3 = .int .i64 x3_1 ∧ v11 = .int .i64 x11_1 ∧ Aside0 (slices_Concat_byte_byte.l0 kq l0 x3_1 l0 (l0.length : Int) x11_1 = some r) ∧ Aside0 (kq ≤ k) ∧ Aside0 (Below w.heap.size w w'))
 case atStart => exact ⟨(0), (0), (by first | rfl | (simp; done) | (simp [*]; done) | (simp only [i64_w]; done) | (simp [i64_w]; done)), (by first | rfl | (simp; done) | (simp [*]; done) | (simp only [i64_w]; done) | (simp [i64_w]; done)), H', ⟨Nat.le_refl _⟩, ⟨by repeat (first | (with_reducible first | exact HB.out | apply below_alloc | apply pw_below_drewN | apply below_drew1) | exact HB.out)⟩⟩
 case round =>
  clear H'
  obtain ⟨x3_1, x11_1, rfl, rfl, HA, HK1, HB⟩ := hrel
  cases gk with
  | zero => exact absurd HA.out (by simp [slices_Concat_byte_byte.l0])
  | succ k1 =>
   have H := HA.out
   clear HA
   simp only [slices_Concat_byte_byte.l0] at H
   by_cases c2 : x11_1 < (l0.length : Int)
   ·rw [if_pos c2] at H
    have c2b0 : decide (x11_1 < (l0.length : Int)) = true := decide_eq_true c2
    clear c2
    by_cases c3 : 0 ≤ x11_1
    ·rw [if_pos c3] at H
     have c3b0 : decide (0 ≤ x11_1) = true := decide_eq_true c3
     clear c3
     by_cases c4 : x11_1 < (l0.length : Int)
     ·rw [if_pos c4] at H
      have c4b0 : decide (x11_1 < (l0.length : Int)) = true := decide_eq_true c4
      clear c4
      by_cases c5 : (wrap64 (x3_1 + ((rd_L1 l0 x11_1).length : Int))) < 0
      ·rw [if_pos c5] at H
       exact absurd H (by simp)
      ·rw [if_neg c5] at H
       have c5b0 : decide ((wrap64 (x3_1 + ((rd_L1 l0 x11_1).length : Int))) < 0) = false := decide_eq_false c5
       clear c5
       have H' := Aside0.mk H
       clear H
       have p130 : 0 ≤ (x11_1 : Int) := of_decide_eq_true (by first | (with_reducible assumption) | assumption)
       have q130 : x11_1 < (l0.length : Int) := of_decide_eq_true (by first | (with_reducible assumption) | assumption)
       obtain ⟨ad130, A130_0, c130_0, e130, hx130_0, hl130_0, hi130_0⟩ := at_L1 HR0.out x11_1 p130 q130
       cases e130
       replace hx130_0 := (HB.out.cell (World.block_lt_of_cell? w _ hx130_0)).trans hx130_0
       have HR130_0 := Aside0.mk hi130_0
       have HC130_0 := Aside0.mk hl130_0
       clear hi130_0 hl130_0
       replace p130 := eq_true p130
       replace q130 := eq_true q130
       go_wp2
       go_roundg k1
       case measure => have := HK1.out; omega
       case rel => exact ⟨(wrap64 (x3_1 + ((rd_L1 l0 x11_1).length : Int))), (wrap64 (x11_1 + 1)), (by first | rfl | (simp; done) | (simp [*]; done) | (simp only [i64_w]; done) | (simp [i64_w]; done)), (by first | rfl | (simp; done) | (simp [*]; done) | (simp only [i64_w]; done) | (simp [i64_w]; done)), H', ⟨by have := HK1.out; omega⟩, ⟨by repeat (first | (with_reducible first | exact HB.out | apply below_alloc | apply pw_below_drewN | apply below_drew1) | exact HB.out)⟩⟩
     ·rw [if_neg c4] at H
      exact absurd H (by simp)
    ·rw [if_neg c3] at H
     exact absurd H (by simp)
   ·rw [if_neg c2] at H
    have c2b0 : decide (x11_1 < (l0.length : Int)) = false := decide_eq_false c2
    clear c2
    replace H := Option.bind_eq_some_iff.mp H
    obtain ⟨t131, A60, H⟩ := H
    try dsimp only at H
    have A6 := Aside0.mk A60
    clear A60
    have H' := Aside0.mk H
    clear H
    go_wp2_with (first | ((with_reducible refine gate_callee (f := 62) rfl ?_); refine goesL_ (some 24) rfl rfl Try.func62 (by kernel_rfl) rfl #[.slice none 0 0, .int .i64 x3_1] rfl (by (try simp only [List.map_toArray, List.map_cons, List.map_nil]); first | done | rfl | (simp only [List.length_drop, List.length_take]; rfl)) ?_; (with_reducible refine (slices_Grow_byte_byte.calls x3_1 t131 _ A6.out).mono ?_); rintro e w7 ⟨v132, rfl, ho0, hb⟩; refine ⟨_, rfl, ?_⟩; have n0_ := Aside0.mk (R_lower ho0 (below_size (by repeat (first | (with_reducible first | exact HB.out | apply below_alloc | apply pw_below_drewN | apply below_drew1) | exact HB.out)))); have n1_ := Aside0.mk (below_step (by repeat (first | (with_reducible first | exact HB.out | apply below_alloc | apply pw_below_drewN | apply below_drew1) | exact HB.out)) hb); clear HB; have HO133 := n0_; have HB := n1_; clear n0_ n1_; (try clear hb); (try clear hb2); (try clear hk); (try clear hi); (try clear ho0)))
    go_loopg [6, 27] k1 (fun kq v6 v27 w' => ∃ (x6_2 : List Int) (x27_2 : Int), v27 = .int .i64 x27_2 ∧ Aside0 (slices_Concat_byte_byte.l1 kq x6_2 l0 (l0.length : Int) x27_2 = some r) ∧ Aside0 (kq ≤ k1) ∧ Aside0 (Kd.R (Kd.int .u8) 5 w' w.heap.size (fun _ => True) v6 x6_2) ∧ Aside0 (Below w.heap.size w w'))
    case atStart => exact ⟨(t131), (0), (by first | rfl | (simp; done) | (simp [*]; done) | (simp only [i64_w]; done) | (simp [i64_w]; done)), H', ⟨Nat.le_refl _⟩, ⟨by (with_reducible repeat (first | apply R_alloc | apply R_drewN | apply R_drew)); exact HO133.out⟩, ⟨by repeat (first | (with_reducible first | exact HB.out | apply below_alloc | apply pw_below_drewN | apply below_drew1) | exact HB.out)⟩⟩
    case round =>
     clear H'
     try clear c1; try clear p1; try clear q1; try clear hx1; try clear c2; try clear c2b0; try clear p2; try clear c3; try clear c3b0; try clear c4; try clear c4b0; try clear c5; try clear c5b0; try clear p6; try clear hx130_0; try clear p130; try clear q130
     obtain ⟨x6_2, x27_2, rfl, HA, HK2, HO_6, HB⟩ := hrel
     cases gk with
     | zero => exact absurd HA.out (by simp [slices_Concat_byte_byte.l1])
     | succ k2 =>
      have H := HA.out
      clear HA
      simp only [slices_Concat_byte_byte.l1] at H
      by_cases c8 : x27_2 < (l0.length : Int)
      ·rw [if_pos c8] at H
       have c8b0 : decide (x27_2 < (l0.length : Int)) = true := decide_eq_true c8
       clear c8
       by_cases c9 : 0 ≤ x27_2
       ·rw [if_pos c9] at H
        have c9b0 : decide (0 ≤ x27_2) = true := decide_eq_true c9
        clear c9
        by_cases c10 : x27_2 < (l0.length : Int)
        ·rw [if_pos c10] at H
         have c10b0 : decide (x27_2 < (l0.length : Int)) = true := decide_eq_true c10
         clear c10
         by_cases c11 : x6_2.length + (rd_L1 l0 x27_2).length < 140737488355328
         ·rw [if_pos c11] at H
          have LMc11 := Aside0.mk c11
          clear c11
          obtain ⟨y135, hy135⟩ : ∃ y_ : List Int, y_ = (x6_2 ++ (rd_L1 l0 x27_2)) := ⟨_, rfl⟩
          replace H : (slices_Concat_byte_byte.l1 k2 y135 l0 (l0.length : Int) (wrap64 (x27_2 + 1))) = some r := by first | (rw [hy135]; with_reducible exact H) | (have H2_ := (Option.bind_some _ _).symm.trans H; rw [hy135]; with_reducible exact H2_) | (have H2_ := (Option.bind_some _ _).symm.trans H; with_reducible exact H2_) | with_reducible exact H | (rw [hy135]; exact H) | exact H
          have Ny135 := Aside0.mk hy135
          clear hy135
          have H' := Aside0.mk H
          clear H
          have p134 : 0 ≤ (x27_2 : Int) := of_decide_eq_true (by first | (with_reducible assumption) | assumption)
          have q134 : x27_2 < (l0.length : Int) := of_decide_eq_true (by first | (with_reducible assumption) | assumption)
          obtain ⟨ad134, A134_0, c134_0, e134, hx134_0, hl134_0, hi134_0⟩ := at_L1 HR0.out x27_2 p134 q134
          cases e134
          replace hx134_0 := (HB.out.cell (World.block_lt_of_cell? w _ hx134_0)).trans hx134_0
          have HR134_0 := Aside0.mk hi134_0
          have HC134_0 := Aside0.mk hl134_0
          clear hi134_0 hl134_0
          replace p134 := eq_true p134
          replace q134 := eq_true q134
          go_wp2_with (first | ((with_reducible refine gate_builtin (b := .append) (xs := #[.tmp 31, .tmp 32]) rfl ?_); at_builtin; refine R_append_rows (Kd.int .u8) (w0 := w) w.heap.size rfl (.tmp 31) (.tmp 32) 22 5 (.int .u8 0) 1 rfl Try.underlying22 info5 rfl (by decide) (by omega) u6 x6_2 (rd_L1 l0 x27_2) _ _ _ (fun _ => True) (fun _ => False) rfl rfl ?aO ?aR (fun _ _ h => h) (fun _ h => h.elim) ?aF ?aB ?aS ?aL ?_; (case aR => repeat (first | exact (C_below HR134_0.out HB.out) | (with_reducible refine C_alloc ?_ _) | (with_reducible refine C_drewN ?_ _) | (with_reducible refine C_drew ?_))); (case aB => exact (by repeat (first | (with_reducible first | exact HB.out | apply below_alloc | apply pw_below_drewN | apply below_drew1) | exact HB.out))); (case aF => exact (fun _ _ => trivial)); (case aO => exact (by (with_reducible repeat (first | apply R_alloc | apply R_drewN | apply R_drew)); exact HO_6.out)); (case aS => exact (below_size (by repeat (first | (with_reducible first | exact HB.out | apply below_alloc | apply pw_below_drewN | apply below_drew1) | exact HB.out)))); (case aL => have := LMc11.out; omega); intro v136 w12 ho hb hg hat; rw [← Ny135.out] at ho; have n0_ := Aside0.mk (hb); have n1_ := Aside0.mk (ho); clear HB HO_6; have HB := n0_; have HO137 := n1_; clear n0_ n1_; clear ho hb hg hat))
          go_roundg k2
          case measure => have := HK1.out; have := HK2.out; omega
          case rel => exact ⟨(y135), (wrap64 (x27_2 + 1)), (by first | rfl | (simp; done) | (simp [*]; done) | (simp only [i64_w]; done) | (simp [i64_w]; done)), H', ⟨by have := HK1.out; have := HK2.out; omega⟩, ⟨by (with_reducible repeat (first | apply R_alloc | apply R_drewN | apply R_drew)); exact HO137.out⟩, ⟨by repeat (first | (with_reducible first | exact HB.out | apply below_alloc | apply pw_below_drewN | apply below_drew1) | exact HB.out)⟩⟩
         ·rw [if_neg c11] at H
          exact absurd H (by simp)
        ·rw [if_neg c10] at H
         exact absurd H (by simp)
       ·rw [if_neg c9] at H
        exact absurd H (by simp)
      ·rw [if_neg c8] at H
       have c8b0 : decide (x27_2 < (l0.length : Int)) = false := decide_eq_false c8
       clear c8
       obtain rfl := Option.some.inj H
       go_wp2
       go_ret
       exact ⟨_, by first | rfl | (simp [errW_none, errW_some] <;> rfl) | (simp [*, errW_none, errW_some] <;> rfl), by (with_reducible repeat (first | apply R_alloc | apply R_drewN | apply R_drew)); exact HO_6.out, by repeat (first | (with_reducible first | exact HB.out | apply below_alloc | apply pw_below_drewN | apply below_drew1) | exact HB.out)⟩

/-! ### octet_Join: function 48 -/
def octet_Join.f (k : Nat) (l0 : List (List Int)) : Option (List Int) := (slices_Concat_byte_byte.f k l0).bind fun t138 => (some t138)
theorem octet_Join.mono : ∀ a0 k, LeO (octet_Join.f k a0) (octet_Join.f (k + 1) a0) := by
  intro a0 k
  unfold octet_Join.f
  repeat' first
      | (with_reducible exact slices_Concat_byte_byte.mono _ _)
      | (with_reducible exact LeO.refl _)
      | (with_reducible exact LeO.none _)
      | (with_reducible refine LeO.ite ?_ ?_)
      | (with_reducible refine LeO.bind ?_ (fun _ => ?_))
      | exact slices_Concat_byte_byte.mono _ _
      | exact LeO.none _
      | refine LeO.ite ?_ ?_
      | refine LeO.bind ?_ (fun _ => ?_)
set_option maxHeartbeats 8000000 in
set_option maxRecDepth 100000 in
theorem octet_Join.calls (k : Nat) (A0 : Option Addr) (c0 : Nat) (l0 : List (List Int)) (r : List Int) (w : World) (hr0 : Kd.C (Kd.slice 5 (Kd.int .u8)) w A0 l0.length l0) (hc0 : l0.length ≤ c0) (h : octet_Join.f k l0 = some r) :
    Calls Try.prog 48 #[.slice A0 l0.length c0] w fun e w' => ∃ v0_ : Value, e = .returned (v0_) ∧ Kd.R (Kd.int .u8) 5 w' w.heap.size (fun _ => True) v0_ r ∧ Below w.heap.size w w' := by
  have HR0 := Aside0.mk hr0
  have HC0 := Aside0.mk hc0
  clear hr0 hc0
  have HB := Aside0.mk (Below.refl w.heap.size w)
  have H : ((slices_Concat_byte_byte.f k l0).bind fun t138 => (some t138)) = some r := h
  clear h
  replace H := Option.bind_eq_some_iff.mp H
  obtain ⟨t138, A20, H⟩ := H
  replace H : (some t138) = some r := H
  have A2 := Aside0.mk A20
  clear A20
  obtain rfl := Option.some.inj H
  go_enter Try.func48, Try.ntmps48
  go_wp2_with (first | ((with_reducible refine gate_callee (f := 58) rfl ?_); refine goesL_ (some 4) rfl rfl Try.func58 (by kernel_rfl) rfl #[.slice A0 l0.length c0] rfl (by (try simp only [List.map_toArray, List.map_cons, List.map_nil]); first | done | rfl | (simp only [List.length_drop, List.length_take]; rfl)) ?_; (with_reducible refine (slices_Concat_byte_byte.calls k _ _ l0 t138 _ ?side1 ?side2 A2.out).mono ?_); (case side1 => repeat (first | exact HR0.out | (with_reducible refine Kd.C_alloc ?_ _) | (with_reducible refine Kd.C_drewN ?_ _) | (with_reducible refine Kd.C_drew ?_))); (case side2 => exact HC0.out); rintro e w3 ⟨v139, rfl, ho0, hb⟩; refine ⟨_, rfl, ?_⟩; have n0_ := Aside0.mk (Kd.R_lower ho0 (below_size (by repeat (first | (with_reducible first | exact HB.out | apply below_alloc | apply pw_below_drewN | apply below_drew1) | exact HB.out)))); have n1_ := Aside0.mk (below_step (by repeat (first | (with_reducible first | exact HB.out | apply below_alloc | apply pw_below_drewN | apply below_drew1) | exact HB.out)) hb); clear HB; have HO140 := n0_; have HB := n1_; clear n0_ n1_; (try clear hb); (try clear hb2); (try clear hk); (try clear hi); (try clear ho0)))
  go_ret
  exact ⟨_, by first | rfl | (simp [errW_none, errW_some] <;> rfl) | (simp [*, errW_none, errW_some] <;> rfl), by (with_reducible repeat (first | apply Kd.R_alloc | apply Kd.R_drewN | apply Kd.R_drew)); exact HO140.out, by repeat (first | (with_reducible first | exact HB.out | apply below_alloc | apply pw_below_drewN | apply below_drew1) | exact HB.out)⟩

/-! ### scan_Writer_Bytes: function 31, typed by hand -/
/-- What a writer's Bytes leaves, of one row. -/
def wrOne (k : Nat) (e : Int) (l ys : List Int) : Option (Int × List Int) := (octet_Join.f k [ys]).bind fun p => if l.length + p.length ≤ 140737488355328 then some (putS2 e 0 l p) else none
set_option maxRecDepth 100000 in
set_option maxHeartbeats 1000000 in
theorem wone_calls (k : Nat) (W : World) (g B : Nat) (e e2 : Int) (l l2 ys : List Int) (A : Option Addr) (c : Nat) (hW : WrAt W g B e l) (hA : Kd.C (Kd.slice 5 (Kd.int .u8)) W A 1 [ys]) (hc : 1 ≤ c) (h : wrOne k e l ys = some (e2, l2)) :
    Calls Try.prog 31 #[.pointer (some ⟨g, 0, none⟩), .slice A 1 c] W fun en W' => en = .returned (.pointer (some ⟨g, 0, none⟩)) ∧ WrAt W' g B e2 l2 ∧ Below B W W' := by
  obtain ⟨p1, hp, h⟩ := Option.bind_eq_some_iff.1 h
  by_cases hl : l.length + p1.length ≤ 140737488355328
  · rw [if_pos hl] at h
    have HP := Aside0.mk hp
    have HS := Aside0.mk (Option.some.inj h)
    have HL := Aside0.mk hl
    obtain ⟨v, hb, _, hg⟩ := id hW
    have HBB := Aside0.mk (Nat.le_trans hg (Nat.le_of_lt (blk_lt hb)))
    have HW := Aside0.mk hW
    have HA := Aside0.mk (show Kd.C (Kd.slice 5 (Kd.int .u8)) W A ([ys] : List (List Int)).length [ys] from hA)
    have HC := Aside0.mk hc
    clear hp h hl hb hg hW hA hc
    have hj := Aside0.mk (octet_Join.calls k A c [ys] p1 W HA.out HC.out HP.out)
    go_enter Try.func31, Try.ntmps31
    go_wp2_with fail
    refine hj.out.mono ?_
    rintro en w1 ⟨vp, rfl, hrp, hbp⟩
    obtain ⟨A1, c1, rfl, _, _⟩ := row_at hrp
    have HW1 := Aside0.mk (HW.out.below hbp)
    have HRP := Aside0.mk hrp
    have HB1 := Aside0.mk hbp
    clear hrp hbp
    go_wp2_with fail
    obtain ⟨v1, hb1, hR1, hg1⟩ := id HW1.out
    refine (put_calls w1 g B e 0 e2 l p1 l2 A1 c1 HW1.out (fun W2 hg2 => (Kd.R_reads' (Kd.R_grown2 HRP.out rfl hg2 (fun k e => by cases e; exact Kd.R_ne HRP.out hb1 (by decide)))).2.2) HL.out HS.out).mono ?_
    rintro en w2 ⟨rfl, hw2, hb2⟩
    clear hb1 hR1 hg1
    go_wp2_with fail
    go_ret
    exact ⟨rfl, hw2, (HB1.out.mono HBB.out).trans hb2⟩
  · rw [if_neg hl] at h
    cases h


/-! ### scan_Writer_Short: function 46, typed by hand -/
/-- What a writer's Short leaves. -/
def wrShort (k : Nat) (e : Int) (l ys : List Int) : Option (Int × List Int) := if (ys.length : Int) > 255 then (if l.length ≤ 140737488355328 then some (putS2 e 15 l []) else none) else (wrNum k e l (ys.length : Int) 1).bind fun q => wrOne k q.1 q.2 ys
set_option maxRecDepth 100000 in
set_option maxHeartbeats 1000000 in
theorem wshort_calls (k : Nat) (W : World) (g B : Nat) (e e2 : Int) (l l2 ys : List Int) (A : Option Addr) (c : Nat) (hW : WrAt W g B e l) (hC : ∀ W2, Below B W W2 → Kd.C (Kd.int .u8) W2 A ys.length ys) (hc : ys.length ≤ c) (h : wrShort k e l ys = some (e2, l2)) :
    Calls Try.prog 46 #[.pointer (some ⟨g, 0, none⟩), .slice A ys.length c] W fun en W' => en = .returned (.pointer (some ⟨g, 0, none⟩)) ∧ WrAt W' g B e2 l2 ∧ Below B W W' := by
  unfold wrShort at h
  obtain ⟨v, hb, _, hg⟩ := id hW
  have HBB := Aside0.mk (Nat.le_trans hg (Nat.le_of_lt (blk_lt hb)))
  have HW := Aside0.mk hW
  have HC := Aside0.mk hC
  have HCC := Aside0.mk hc
  clear hb hg hW hC hc
  by_cases hq : (ys.length : Int) > 255
  · rw [if_pos hq] at h
    by_cases hl : l.length ≤ 140737488355328
    · rw [if_pos hl] at h
      have HP := Aside0.mk (put_calls W g B e 15 e2 l [] l2 none 0 HW.out (fun W2 _ => Kd.C_nil _ _) (by simpa using hl) (Option.some.inj h))
      clear h hl
      go_enter Try.func46, Try.ntmps46
      go_wp2_with fail
      refine HP.out.mono ?_
      rintro en w2 ⟨rfl, hw2, hb2⟩
      go_wp2_with fail
      go_ret
      exact ⟨rfl, hw2, hb2⟩
    · rw [if_neg hl] at h
      cases h
  · rw [if_neg hq] at h
    obtain ⟨⟨e1, l1⟩, hn, ho⟩ := Option.bind_eq_some_iff.1 h
    dsimp only at ho
    have HN := Aside0.mk (wnum_calls k W g B e (ys.length : Int) 1 e1 l l1 HW.out hn)
    have HO := Aside0.mk ho
    clear hn ho h
    go_enter Try.func46, Try.ntmps46
    go_wp2_with fail
    refine HN.out.mono ?_
    rintro en w1 ⟨rfl, hw1, hb1⟩
    have HW1 := Aside0.mk hw1
    have HB1 := Aside0.mk hb1
    clear hw1 hb1
    go_wp2_with fail
    have hrow := Aside0.mk (one_row (t := 5) (u := 22) (HC.out w1 HB1.out) HCC.out)
    have hw2 := Aside0.mk (HW1.out.below (below_alloc (Below.refl _ w1) (.cells #[.slice A ys.length c] 22)))
    refine (wone_calls k _ g B e1 e2 l1 l2 ys _ 1 hw2.out hrow.out (Nat.le_refl _) HO.out).mono ?_
    rintro en w2 ⟨rfl, hw2, hb2⟩
    go_wp2_with fail
    go_ret
    exact ⟨rfl, hw2, (HB1.out.trans ((below_alloc (Below.refl _ w1) (.cells #[.slice A ys.length c] 22)).mono (Nat.le_trans HBB.out HB1.out.size))).trans hb2⟩


/-! ### head_Head_Bytes: function 29, typed by hand -/
theorem four_at {W : World} {b t : Nat} {x0 x1 x2 x3 : Value} (h : W.heap[b]? = some (.cells #[x0, x1, x2, x3] t (0, 0))) : W.cell? ⟨b, 0, none⟩ = some x0 ∧ W.cell? ⟨b, 1, none⟩ = some x1 ∧ W.cell? ⟨b, 2, none⟩ = some x2 ∧ W.cell? ⟨b, 3, none⟩ = some x3 := ⟨blk_cell h 0, blk_cell h 1, blk_cell h 2, blk_cell h 3⟩
set_option maxRecDepth 100000 in
set_option maxHeartbeats 4000000 in
theorem hb_straight (k : Nat) (a0 a1 : Int) (A2 A3 : Option Addr) (c2 c3 : Nat) (l2 l3 : List Int) (w : World) (hr2 : Kd.C (Kd.int .u8) w A2 l2.length l2) (hc2 : l2.length ≤ c2) (hr3 : Kd.C (Kd.int .u8) w A3 l3.length l3) (hc3 : l3.length ≤ c3)
    (h128 : (Go.bits .and .u8 a0 128 == 0) = false) (e1 e2 e3 e4 : Int) (m1 m2 m3 m4 : List Int)
    (q1 : wrNum k 0 [] (IntKind.u64.wrap a0) 1 = some (e1, m1)) (q2 : wrNum k e1 m1 (IntKind.u64.wrap a1) 4 = some (e2, m2)) (q3 : wrShort k e2 m2 l2 = some (e3, m3)) (q4 : wrShort k e3 m3 l3 = some (e4, m4)) (hl : m4.length < 140737488355328) (r : List Int) (hres : r = if e4 = 0 then m4 else []) :
    Calls Try.prog 29 #[.agg #[.int .u8 a0, .int .u32 a1, .slice A2 l2.length c2, .slice A3 l3.length c3]] w fun e w' => ∃ v0_ : Value, e = .returned (.tuple #[v0_, .int .i64 e4]) ∧ Kd.R (Kd.int .u8) 5 w' w.heap.size (fun _ => True) v0_ r ∧ Below w.heap.size w w' := by
  have HRES := Aside0.mk hres
  clear hres
  have Q1 := Aside0.mk q1
  have Q2 := Aside0.mk q2
  have Q3 := Aside0.mk q3
  have Q4 := Aside0.mk q4
  have HL := Aside0.mk hl
  have HC2 := Aside0.mk hc2
  have HC3 := Aside0.mk hc3
  have HR2 := Aside0.mk hr2
  have HR3 := Aside0.mk hr3
  clear q1 q2 q3 q4 hl hc2 hc3 hr2 hr3
  go_enter Try.func29, Try.ntmps29
  go_wp2_with fail
  have hbk := heap_alloc_new w (.cells #[.int .u8 a0, .int .u32 a1, .slice A2 l2.length c2, .slice A3 l3.length c3] 27)
  have hB := below_alloc (Below.refl _ w) (.cells #[.int .u8 a0, .int .u32 a1, .slice A2 l2.length c2, .slice A3 l3.length c3] 27)
  have hs : (w.alloc (.cells #[.int .u8 a0, .int .u32 a1, .slice A2 l2.length c2, .slice A3 l3.length c3] 27)).heap.size = w.heap.size + 1 := by simp
  generalize w.alloc (.cells #[.int .u8 a0, .int .u32 a1, .slice A2 l2.length c2, .slice A3 l3.length c3] 27) = w1 at hbk hB hs ⊢
  have k0 := blk_cell hbk 0
  have k1 := blk_cell hbk 1
  have k2 := blk_cell hbk 2
  have k3 := blk_cell hbk 3
  simp at k0 k1 k2 k3
  have HBK := Aside0.mk hbk
  have HB := Aside0.mk hB
  have HS := Aside0.mk hs
  clear hbk hB hs
  go_region_held3 (fun w' => w'.cell? ⟨w.heap.size, 0, none⟩ = some (.int .u8 a0) ∧ w'.cell? ⟨w.heap.size, 1, none⟩ = some (.int .u32 a1) ∧ w'.cell? ⟨w.heap.size, 2, none⟩ = some (.slice A2 l2.length c2) ∧ w'.cell? ⟨w.heap.size, 3, none⟩ = some (.slice A3 l3.length c3))
    (first
      | go_keep
      | exact HSk7.out
      | exact HSk6.out
      | exact HSk5.out
      | exact HSk4.out
      | exact HSk3.out
      | exact HSk2.out)
    (first
      | (go_at_call 30; refine (write_calls _).mono ?_; rintro en w2 ⟨rfl, hw2⟩; have hq : WrAt w2 w1.heap.size w1.heap.size 0 [] := (by rw [hw2]; exact write_at w1.drew w1.heap.size (Nat.le_refl _)); have HW2 := Aside0.mk hq; have hk2 : w2.heap[w.heap.size]? = some (.cells #[.int .u8 a0, .int .u32 a1, .slice A2 l2.length c2, .slice A3 l3.length c3] 27 (0, 0)) := (by rw [hw2]; exact blk_alloc (blk_drew HBK.out) _); have HK2 := Aside0.mk hk2; have HSk2 := Aside0.mk (four_at hk2); have hz2 : Below w.heap.size w w2 := (by rw [hw2]; exact below_alloc (below_drew HB.out) _); have HB2 := Aside0.mk hz2; clear hw2 hq hk2 hz2)
      | (go_at_call 45; (with_reducible refine (wnum_calls k _ _ _ _ _ _ _ _ _ HW2.out Q1.out).mono ?_); rintro en w3 ⟨rfl, hw3, hb3⟩; have HW3 := Aside0.mk hw3; have HK3 := Aside0.mk ((hb3.block _ (by have := HS.out; omega)).trans HK2.out); have HSk3 := Aside0.mk (four_at HK3.out); have HB3 := Aside0.mk (HB2.out.trans (hb3.mono (by have := HS.out; omega))); clear hw3 hb3 HW2)
      | (go_at_call 45; (with_reducible refine (wnum_calls k _ _ _ _ _ _ _ _ _ HW3.out Q2.out).mono ?_); rintro en w4 ⟨rfl, hw4, hb4⟩; have HW4 := Aside0.mk hw4; have HK4 := Aside0.mk ((hb4.block _ (by have := HS.out; omega)).trans HK3.out); have HSk4 := Aside0.mk (four_at HK4.out); have HB4 := Aside0.mk (HB3.out.trans (hb4.mono (by have := HS.out; omega))); clear hw4 hb4 HW3)
      | (go_at_call 46; (with_reducible refine (wshort_calls k _ _ _ _ _ _ _ _ _ _ HW4.out (fun W2 h2 => Kd.C_below HR2.out (HB4.out.trans (h2.mono (by have := HS.out; omega)))) HC2.out Q3.out).mono ?_); rintro en w5 ⟨rfl, hw5, hb5⟩; have HW5 := Aside0.mk hw5; have HK5 := Aside0.mk ((hb5.block _ (by have := HS.out; omega)).trans HK4.out); have HSk5 := Aside0.mk (four_at HK5.out); have HB5 := Aside0.mk (HB4.out.trans (hb5.mono (by have := HS.out; omega))); clear hw5 hb5 HW4)
      | (go_at_call 46; (with_reducible refine (wshort_calls k _ _ _ _ _ _ _ _ _ _ HW5.out (fun W2 h2 => Kd.C_below HR3.out (HB5.out.trans (h2.mono (by have := HS.out; omega)))) HC3.out Q4.out).mono ?_); rintro en w6 ⟨rfl, hw6, hb6⟩; have HW6 := Aside0.mk hw6; have HK6 := Aside0.mk ((hb6.block _ (by have := HS.out; omega)).trans HK5.out); have HSk6 := Aside0.mk (four_at HK6.out); have HB6 := Aside0.mk (HB5.out.trans (hb6.mono (by have := HS.out; omega))); clear hw6 hb6 HW5)
      | (go_at_call 33; (with_reducible refine (done_calls _ _ _ _ _ HW6.out HL.out).mono ?_); rintro en w7 ⟨v7, rfl, hr7, hb7⟩; have HR7 := Aside0.mk hr7; have HK7 := Aside0.mk (blk_below HK6.out hb7); have HSk7 := Aside0.mk (four_at HK7.out); have HB7 := Aside0.mk (HB6.out.trans (hb7.mono HB6.out.size)); have HZ7 := Aside0.mk HB6.out.size; clear hr7 hb7 HW6))
  go_wp2_with fail
  go_ret2
  exact ⟨v7, rfl, by rw [HRES.out]; exact Kd.R_lower HR7.out HZ7.out, HB7.out⟩
set_option maxRecDepth 100000 in
theorem hb_kind (a0 a1 : Int) (v2 v3 : Value) (h2 : v2.oneCell' = true) (h3 : v3.oneCell' = true) (w : World) (A2 A3 : Option Addr) (n2 n3 c2 c3 : Nat) (e2 : v2 = .slice A2 n2 c2) (e3 : v3 = .slice A3 n3 c3) (h128 : (Go.bits .and .u8 a0 128 == 0) = true) :
    Calls Try.prog 29 #[.agg #[.int .u8 a0, .int .u32 a1, v2, v3]] w fun e w' => e = .returned (.tuple #[.slice none 0 0, .int .i64 14]) ∧ Below w.heap.size w w' := by
  subst e2
  subst e3
  clear h2 h3
  go_enter Try.func29, Try.ntmps29
  go_wp2_with fail
  go_ret2
  exact ⟨rfl, below_alloc (Below.refl _ _) _⟩
theorem wrNum_mono (k : Nat) (e : Int) (l : List Int) (n size : Int) : LeO (wrNum k e l n size) (wrNum (k + 1) e l n size) := by
  unfold wrNum
  exact LeO.bind (octet_Put.mono _ _ k) (fun _ => LeO.refl _)
theorem wrOne_mono (k : Nat) (e : Int) (l ys : List Int) : LeO (wrOne k e l ys) (wrOne (k + 1) e l ys) := by
  unfold wrOne
  exact LeO.bind (octet_Join.mono _ k) (fun _ => LeO.refl _)
theorem wrShort_mono (k : Nat) (e : Int) (l ys : List Int) : LeO (wrShort k e l ys) (wrShort (k + 1) e l ys) := by
  unfold wrShort
  exact LeO.ite (LeO.refl _) (LeO.bind (wrNum_mono k _ _ _ _) (fun _ => wrOne_mono k _ _ _))
def head_Head_Bytes.f (k : Nat) (a0_0 : Int) (a0_1 : Int) (l0_2 : List Int) (l0_3 : List Int) : Option (List Int × Int) :=
  if (Go.bits .and .u8 a0_0 128 == 0) = true then some ([], 14) else
    (wrNum k 0 [] (IntKind.u64.wrap a0_0) 1).bind fun q1 => (wrNum k q1.1 q1.2 (IntKind.u64.wrap a0_1) 4).bind fun q2 => (wrShort k q2.1 q2.2 l0_2).bind fun q3 => (wrShort k q3.1 q3.2 l0_3).bind fun q4 =>
      if q4.2.length < 140737488355328 then some (if q4.1 = 0 then q4.2 else [], q4.1) else none
theorem head_Head_Bytes.mono : ∀ (a0_0 a0_1 : Int) (l0_2 l0_3 : List Int) (k : Nat), LeO (head_Head_Bytes.f k a0_0 a0_1 l0_2 l0_3) (head_Head_Bytes.f (k + 1) a0_0 a0_1 l0_2 l0_3) := by
  intro a b l m k
  unfold head_Head_Bytes.f
  exact LeO.ite (LeO.refl _) (LeO.bind (wrNum_mono k _ _ _ _) (fun _ => LeO.bind (wrNum_mono k _ _ _ _) (fun _ => LeO.bind (wrShort_mono k _ _ _) (fun _ => LeO.bind (wrShort_mono k _ _ _) (fun _ => LeO.refl _)))))
theorem head_Head_Bytes.calls (k : Nat) (a0_0 : Int) (a0_1 : Int) (A0_2 : Option Addr) (c0_2 : Nat) (l0_2 : List Int) (A0_3 : Option Addr) (c0_3 : Nat) (l0_3 : List Int) (r1 : List Int) (r2 : Int) (w : World) (hr0_2 : Kd.C (Kd.int .u8) w A0_2 l0_2.length l0_2) (hc0_2 : l0_2.length ≤ c0_2) (hr0_3 : Kd.C (Kd.int .u8) w A0_3 l0_3.length l0_3) (hc0_3 : l0_3.length ≤ c0_3) (h : head_Head_Bytes.f k a0_0 a0_1 l0_2 l0_3 = some (r1, r2)) :
    Calls Try.prog 29 #[.agg #[.int .u8 a0_0, .int .u32 a0_1, .slice A0_2 l0_2.length c0_2, .slice A0_3 l0_3.length c0_3]] w fun e w' => ∃ v0_ : Value, e = .returned (.tuple #[v0_, .int .i64 r2]) ∧ Kd.R (Kd.int .u8) 5 w' w.heap.size (fun _ => True) v0_ r1 ∧ Below w.heap.size w w' := by
  unfold head_Head_Bytes.f at h
  by_cases hk : (Go.bits .and .u8 a0_0 128 == 0) = true
  · rw [if_pos hk] at h
    simp only [Option.some.injEq, Prod.mk.injEq] at h
    obtain ⟨rfl, rfl⟩ := h
    exact (hb_kind a0_0 a0_1 _ _ rfl rfl w _ _ _ _ _ _ rfl rfl hk).mono fun e w' ⟨he, hB⟩ => ⟨_, he, Kd.R_nil _ _ _ _ _, hB⟩
  · rw [if_neg hk] at h
    obtain ⟨⟨e1, m1⟩, q1, h⟩ := Option.bind_eq_some_iff.1 h
    obtain ⟨⟨e2, m2⟩, q2, h⟩ := Option.bind_eq_some_iff.1 h
    obtain ⟨⟨e3, m3⟩, q3, h⟩ := Option.bind_eq_some_iff.1 h
    obtain ⟨⟨e4, m4⟩, q4, h⟩ := Option.bind_eq_some_iff.1 h
    dsimp only at q2 q3 q4 h
    by_cases hl : m4.length < 140737488355328
    · rw [if_pos hl] at h
      simp only [Option.some.injEq, Prod.mk.injEq] at h
      obtain ⟨rfl, rfl⟩ := h
      exact hb_straight k a0_0 a0_1 A0_2 A0_3 c0_2 c0_3 l0_2 l0_3 w hr0_2 hc0_2 hr0_3 hc0_3 (by simpa using hk) e1 e2 e3 e4 m1 m2 m3 m4 q1 q2 q3 q4 hl _ rfl
    · rw [if_neg hl] at h
      cases h


/-! ### vari_form_holds: function 66 -/
def vari_form_holds.f (a0 : Int) (a1 : Int) : Option (Bool) := (vari_form_room.f a0).bind fun t141 => (if 0 ≤ t141 then (some ((shr .u64 a1 t141) == 0)) else (none))
set_option maxHeartbeats 8000000 in
set_option maxRecDepth 100000 in
theorem vari_form_holds.calls (a0 : Int) (a1 : Int) (r : Bool) (w : World) (h : vari_form_holds.f a0 a1 = some r) :
    Calls Try.prog 66 #[.int .i64 a0, .int .u64 a1] w fun e w' => e = .returned (.bool r) ∧ Drawn0 w w' := by
  have H : ((vari_form_room.f a0).bind fun t141 => (if 0 ≤ t141 then (some ((shr .u64 a1 t141) == 0)) else (none))) = some r := h
  clear h
  replace H := Option.bind_eq_some_iff.mp H
  obtain ⟨t141, A30, H⟩ := H
  replace H : (if 0 ≤ t141 then (some ((shr .u64 a1 t141) == 0)) else (none)) = some r := H
  have A3 := Aside0.mk A30
  clear A30
  by_cases c4 : 0 ≤ t141
  · rw [if_pos c4] at H
    have c4b0 := eq_true c4
    have c4b1 : decide (0 ≤ t141) = true := decide_eq_true c4
    clear c4
    obtain ⟨ji5, hji5⟩ : ∃ j_ : Int, (shr .u64 a1 t141) = j_ := ⟨_, rfl⟩
    replace H : (some ((ji5) == 0)) = some r := by first | (rw [hji5] at H; exact H) | (simp only [hji5] at H ⊢; exact H)
    (try rw [hji5] at A3)
    have hji5_ : (a1 / 2 ^ min t141.toNat 64) = ji5 := hji5
    have hji5z : t141 ≤ 64 → (a1 / 2 ^ t141.toNat) = ji5 := shr_small hji5
    obtain rfl := Option.some.inj H
    go_enter Try.func66, Try.ntmps66
    go_wp2_with (first | ((with_reducible refine gate_callee (f := 61) rfl ?_); refine goesL_ (some 7) rfl rfl Try.func61 (by kernel_rfl) rfl #[.int .i64 a0] rfl (by (try simp only [List.map_toArray, List.map_cons, List.map_nil]); first | done | rfl | (simp only [List.length_drop, List.length_take]; rfl)) ?_; (with_reducible refine (vari_form_room.calls a0 t141 _ A3.out).mono ?_); rintro e w' ⟨rfl, ⟨nd, rfl⟩⟩; refine ⟨_, rfl, ?_⟩))
    go_ret
    exact ⟨by first | rfl | (simp; done) | (simp only [← hji5] <;> (first | rfl | simp)) | (simp [*]; done), by repeat (first | exact Drawn0.refl _ | apply Drawn0.step)⟩
  · rw [if_neg c4] at H
    exact absurd H (by simp)

/-! ### vari_least: function 64 -/
def vari_least.l0 : Nat → Int → Int → Option (Int × Bool)
  | 0, _, _ => none
  | k + 1, x0, x5 => if x5 < 4 then ((vari_form_holds.f x5 x0).bind fun t142 => (if t142 = true then (some (x5, true)) else (vari_least.l0 k x0 (wrap64 (x5 + 1))))) else (some (0, false))
def vari_least.f (k : Nat) (a0 : Int) : Option (Int × Bool) := vari_least.l0 k a0 0
theorem vari_least.mono_l : ∀ k, (∀ y0 y1, LeO (vari_least.l0 k y0 y1) (vari_least.l0 (k + 1) y0 y1))
  | 0 => fun _ _ r h => by simp [vari_least.l0] at h
  | k + 1 => by
    have ih0 := vari_least.mono_l k
    · intro y0 y1
      unfold vari_least.l0
      repeat' first
      | (with_reducible exact ih0 _ _)
      | (with_reducible exact LeO.refl _)
      | (with_reducible exact LeO.none _)
      | (with_reducible refine LeO.ite ?_ ?_)
      | (with_reducible refine LeO.bind ?_ (fun _ => ?_))
      | exact ih0 _ _
      | exact LeO.none _
      | refine LeO.ite ?_ ?_
      | refine LeO.bind ?_ (fun _ => ?_)
theorem vari_least.mono : ∀ a0 k, LeO (vari_least.f k a0) (vari_least.f (k + 1) a0) := by
  intro a0 k
  have ih0 := vari_least.mono_l k
  unfold vari_least.f
  repeat' first
      | (with_reducible exact ih0 _ _)
      | (with_reducible exact LeO.refl _)
      | (with_reducible exact LeO.none _)
      | (with_reducible refine LeO.ite ?_ ?_)
      | (with_reducible refine LeO.bind ?_ (fun _ => ?_))
      | exact ih0 _ _
      | exact LeO.none _
      | refine LeO.ite ?_ ?_
      | refine LeO.bind ?_ (fun _ => ?_)
set_option maxHeartbeats 8000000 in
set_option maxRecDepth 100000 in
theorem vari_least.calls (k : Nat) (a0 : Int) (r1 : Int) (r2 : Bool) (w : World) (h : vari_least.f k a0 = some (r1, r2)) :
    Calls Try.prog 64 #[.int .u64 a0] w fun e w' => e = .returned (.tuple #[.int .i64 r1, .bool r2]) ∧ Drawn0 w w' := by
  have H : (vari_least.l0 k a0 0) = some (r1, r2) := h
  clear h
  have H' := Aside0.mk H
  clear H
  go_enter Try.func64, Try.ntmps64
  go_wp2
  go_loopg [5] k (fun kq v5 w' => ∃ (x5_1 : Int), v5 = .int .i64 x5_1 ∧ Aside0 (vari_least.l0 kq a0 x5_1 = some (r1, r2)) ∧ Aside0 (kq ≤ k) ∧ Drawn0 w w')
  case atStart => exact ⟨(0), (by first | rfl | (simp; done) | (simp [*]; done) | (simp only [i64_w]; done) | (simp [i64_w]; done)), H', ⟨Nat.le_refl _⟩, by repeat (first | exact Drawn0.refl _ | apply Drawn0.step)⟩
  case round =>
    clear H'
    obtain ⟨x5_1, rfl, HA, HK1, ⟨m1, rfl⟩⟩ := hrel
    cases gk with
    | zero => exact absurd HA.out (by simp [vari_least.l0])
    | succ k1 =>
      have H := HA.out
      clear HA
      simp only [vari_least.l0] at H
      by_cases c2 : x5_1 < 4
      · rw [if_pos c2] at H
        have c2b0 : decide (x5_1 < 4) = true := decide_eq_true c2
        clear c2
        replace H := Option.bind_eq_some_iff.mp H
        obtain ⟨t142, A30, H⟩ := H
        replace H : (if t142 = true then (some (x5_1, true)) else (vari_least.l0 k1 a0 (wrap64 (x5_1 + 1)))) = some (r1, r2) := H
        have A3 := Aside0.mk A30
        clear A30
        by_cases c4 : t142 = true
        · subst c4
          have H1 : (some (x5_1, true)) = some (r1, r2) := by rw [if_pos rfl] at H; exact H
          clear H
          have H := H1
          clear H1
          simp only [Option.some.injEq, Prod.mk.injEq] at H
          obtain ⟨rfl, rfl⟩ := H
          go_wp2_with (first | ((with_reducible refine gate_callee (f := 66) rfl ?_); refine goesL_ (some 10) rfl rfl Try.func66 (by kernel_rfl) rfl #[.int .i64 x5_1, .int .u64 a0] rfl (by (try simp only [List.map_toArray, List.map_cons, List.map_nil]); first | done | rfl | (simp only [List.length_drop, List.length_take]; rfl)) ?_; (with_reducible refine (vari_form_holds.calls x5_1 a0 true _ A3.out).mono ?_); rintro e w' ⟨rfl, ⟨nd, rfl⟩⟩; refine ⟨_, rfl, ?_⟩))
          go_ret2
          exact ⟨by first | rfl | (simp; done) | (simp [*]; done), by repeat (first | exact Drawn0.refl _ | apply Drawn0.step)⟩
        · replace c4 := Bool.eq_false_iff.mpr c4
          subst c4
          have H1 : (vari_least.l0 k1 a0 (wrap64 (x5_1 + 1))) = some (r1, r2) := by rw [if_neg (show ¬ (false = true) by decide)] at H; exact H
          clear H
          have H := H1
          clear H1
          have H' := Aside0.mk H
          clear H
          go_wp2_with (first | ((with_reducible refine gate_callee (f := 66) rfl ?_); refine goesL_ (some 10) rfl rfl Try.func66 (by kernel_rfl) rfl #[.int .i64 x5_1, .int .u64 a0] rfl (by (try simp only [List.map_toArray, List.map_cons, List.map_nil]); first | done | rfl | (simp only [List.length_drop, List.length_take]; rfl)) ?_; (with_reducible refine (vari_form_holds.calls x5_1 a0 false _ A3.out).mono ?_); rintro e w' ⟨rfl, ⟨nd, rfl⟩⟩; refine ⟨_, rfl, ?_⟩))
          go_roundg k1
          case measure => have := HK1.out; omega
          case rel => exact ⟨(wrap64 (x5_1 + 1)), (by first | rfl | (simp; done) | (simp [*]; done) | (simp only [i64_w]; done) | (simp [i64_w]; done)), H', ⟨by have := HK1.out; omega⟩, by repeat (first | exact Drawn0.refl _ | apply Drawn0.step)⟩
      · rw [if_neg c2] at H
        have c2b0 : decide (x5_1 < 4) = false := decide_eq_false c2
        clear c2
        simp only [Option.some.injEq, Prod.mk.injEq] at H
        obtain ⟨rfl, rfl⟩ := H
        go_wp2
        go_ret2
        exact ⟨by first | rfl | (simp; done) | (simp [*]; done), by repeat (first | exact Drawn0.refl _ | apply Drawn0.step)⟩

end Go.Proofs.Ytmhmmmkpijbbiad.M
