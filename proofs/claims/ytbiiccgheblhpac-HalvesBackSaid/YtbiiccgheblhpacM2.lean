/- Contracts of the Go functions that the laws reach, each as a plain Lean function: written by xprint.py, a program of this repo. -/
import Derived.Test.YtbiiccgheblhpacM0
import Derived.Test.YtbiiccgheblhpacM1
namespace Go.Proofs.Ytbiiccgheblhpac.M
open Go.RowKit Go.Proofs.YtbiiccgheblhpacW.PrintWords Go.Proofs.YtbiiccgheblhpacW.PrintLast Go.Proofs.YtbiiccgheblhpacW.PrintMore Go.Proofs.Ytbiiccgheblhpac.X
attribute [local go_sem] max2_int min2_int max_two min_two max_three min_three max_four min_four   -- for this text's walks alone
set_option linter.unusedVariables false
set_option linter.unusedSimpArgs false

/-! ### slices_Concat_byte_byte: function 29 -/
mutual
def slices_Concat_byte_byte.l0 : Nat → List (List Int) → Int → List (List Int) → Int → Int → Option (List Int)
  | 0, _, _, _, _, _ => none
  | k + 1, x0, x3, x9, x10, x11 => if x11 < x10 then (if 0 ≤ x11 then (if x11 < (x9.length : Int) then (if (wrap64 (x3 + ((rd_L1 x9 x11).length : Int))) < 0 then (none) else (slices_Concat_byte_byte.l0 k x0 (wrap64 (x3 + ((rd_L1 x9 x11).length : Int))) x9 x10 (wrap64 (x11 + 1)))) else (none)) else (none)) else ((slices_Grow_byte_byte.f x3).bind fun t117 => (slices_Concat_byte_byte.l1 k t117 x0 (x0.length : Int) 0))
def slices_Concat_byte_byte.l1 : Nat → List Int → List (List Int) → Int → Int → Option (List Int)
  | 0, _, _, _, _ => none
  | k + 1, x6, x25, x26, x27 => if x27 < x26 then (if 0 ≤ x27 then (if x27 < (x25.length : Int) then (if x6.length + (rd_L1 x25 x27).length < 140737488355328 then (slices_Concat_byte_byte.l1 k (x6 ++ (rd_L1 x25 x27)) x25 x26 (wrap64 (x27 + 1))) else (none)) else (none)) else (none)) else (some x6)
end
def slices_Concat_byte_byte.f (k : Nat) (l0 : List (List Int)) : Option (List Int) := slices_Concat_byte_byte.l0 k l0 0 l0 (l0.length : Int) 0
theorem slices_Concat_byte_byte.mono_l : ∀ k, (∀ y0 y1 y2 y3 y4, LeO (slices_Concat_byte_byte.l0 k y0 y1 y2 y3 y4) (slices_Concat_byte_byte.l0 (k + 1) y0 y1 y2 y3 y4)) ∧ (∀ y0 y1 y2 y3, LeO (slices_Concat_byte_byte.l1 k y0 y1 y2 y3) (slices_Concat_byte_byte.l1 (k + 1) y0 y1 y2 y3))
  | 0 => ⟨fun _ _ _ _ _ r h => by simp [slices_Concat_byte_byte.l0] at h, fun _ _ _ _ r h => by simp [slices_Concat_byte_byte.l1] at h⟩
  | k + 1 => by
    obtain ⟨ih0, ih1⟩ := slices_Concat_byte_byte.mono_l k
    refine ⟨?_, ?_⟩
    · intro y0 y1 y2 y3 y4
      unfold slices_Concat_byte_byte.l0
      repeat' first
      | (with_reducible exact ih0 _ _ _ _ _)
      | (with_reducible exact ih1 _ _ _ _)
      | (with_reducible exact LeO.refl _)
      | (with_reducible exact LeO.none _)
      | (with_reducible refine LeO.ite ?_ ?_)
      | (with_reducible refine LeO.bind ?_ (fun _ => ?_))
      | exact ih0 _ _ _ _ _
      | exact ih1 _ _ _ _
      | exact LeO.none _
      | refine LeO.ite ?_ ?_
      | refine LeO.bind ?_ (fun _ => ?_)
    · intro y0 y1 y2 y3
      unfold slices_Concat_byte_byte.l1
      repeat' first
      | (with_reducible exact ih0 _ _ _ _ _)
      | (with_reducible exact ih1 _ _ _ _)
      | (with_reducible exact LeO.refl _)
      | (with_reducible exact LeO.none _)
      | (with_reducible refine LeO.ite ?_ ?_)
      | (with_reducible refine LeO.bind ?_ (fun _ => ?_))
      | exact ih0 _ _ _ _ _
      | exact ih1 _ _ _ _
      | exact LeO.none _
      | refine LeO.ite ?_ ?_
      | refine LeO.bind ?_ (fun _ => ?_)
theorem slices_Concat_byte_byte.mono : ∀ a0 k, LeO (slices_Concat_byte_byte.f k a0) (slices_Concat_byte_byte.f (k + 1) a0) := by
  intro a0 k
  obtain ⟨ih0, ih1⟩ := slices_Concat_byte_byte.mono_l k
  unfold slices_Concat_byte_byte.f
  repeat' first
      | (with_reducible exact ih0 _ _ _ _ _)
      | (with_reducible exact ih1 _ _ _ _)
      | (with_reducible exact LeO.refl _)
      | (with_reducible exact LeO.none _)
      | (with_reducible refine LeO.ite ?_ ?_)
      | (with_reducible refine LeO.bind ?_ (fun _ => ?_))
      | exact ih0 _ _ _ _ _
      | exact ih1 _ _ _ _
      | exact LeO.none _
      | refine LeO.ite ?_ ?_
      | refine LeO.bind ?_ (fun _ => ?_)
set_option maxHeartbeats 8000000 in
set_option maxRecDepth 100000 in
theorem slices_Concat_byte_byte.calls (k : Nat) (A0 : Option Addr) (c0 : Nat) (l0 : List (List Int)) (r : List Int) (w : World) (hr0 : Kd.C (Kd.slice 5 (Kd.int .u8)) w A0 l0.length l0) (hc0 : l0.length ≤ c0) (h : slices_Concat_byte_byte.f k l0 = some r) :
    Calls Try.prog 29 #[.slice A0 l0.length c0] w fun e w' => ∃ v0_ : Value, e = .returned (v0_) ∧ Kd.R (Kd.int .u8) 5 w' w.heap.size (fun _ => True) v0_ r ∧ Below w.heap.size w w' := by
  have HR0 := Aside0.mk hr0
  have HC0 := Aside0.mk hc0
  clear hr0 hc0
  have HB := Aside0.mk (Below.refl w.heap.size w)
  have H : (slices_Concat_byte_byte.l0 k l0 0 l0 (l0.length : Int) 0) = some r := h
  clear h
  have H' := Aside0.mk H
  clear H
  go_enter Try.func29, Try.ntmps29
  go_wp2
  go_loopg [3, 11] k (fun kq v3 v11 w' => ∃ (x3_1 : Int) (x11_1 : Int), v3 = .int .i64 x3_1 ∧ v11 = .int .i64 x11_1 ∧ Aside0 (slices_Concat_byte_byte.l0 kq l0 x3_1 l0 (l0.length : Int) x11_1 = some r) ∧ Aside0 (kq ≤ k) ∧ Aside0 (Below w.heap.size w w'))
  case atStart => exact ⟨(0), (0), (by first | rfl | (simp; done) | (simp [*]; done)), (by first | rfl | (simp; done) | (simp [*]; done)), H', ⟨Nat.le_refl _⟩, ⟨by repeat (first | (with_reducible first | exact HB.out | apply below_alloc | apply pw_below_drewN | apply below_drew1) | exact HB.out)⟩⟩
  case round =>
    clear H'
    obtain ⟨x3_1, x11_1, rfl, rfl, HA, HK1, HB⟩ := hrel
    cases gk with
    | zero => exact absurd HA.out (by simp [slices_Concat_byte_byte.l0])
    | succ k1 =>
      have H := HA.out
      clear HA
      simp only [slices_Concat_byte_byte.l0] at H
      by_cases c2 : x11_1 < (l0.length : Int)
      · rw [if_pos c2] at H
        have c2b0 : decide (x11_1 < (l0.length : Int)) = true := decide_eq_true c2
        clear c2
        by_cases c3 : 0 ≤ x11_1
        · rw [if_pos c3] at H
          have c3b0 : decide (0 ≤ x11_1) = true := decide_eq_true c3
          clear c3
          by_cases c4 : x11_1 < (l0.length : Int)
          · rw [if_pos c4] at H
            have c4b0 : decide (x11_1 < (l0.length : Int)) = true := decide_eq_true c4
            clear c4
            by_cases c5 : (wrap64 (x3_1 + ((rd_L1 l0 x11_1).length : Int))) < 0
            · rw [if_pos c5] at H
              exact absurd H (by simp)
            · rw [if_neg c5] at H
              have c5b0 : decide ((wrap64 (x3_1 + ((rd_L1 l0 x11_1).length : Int))) < 0) = false := decide_eq_false c5
              clear c5
              have H' := Aside0.mk H
              clear H
              have p116 : 0 ≤ (x11_1 : Int) := of_decide_eq_true (by first | (with_reducible assumption) | assumption)
              have q116 : x11_1 < (l0.length : Int) := of_decide_eq_true (by first | (with_reducible assumption) | assumption)
              obtain ⟨ad116, A116_0, c116_0, e116, hx116_0, hl116_0, hi116_0⟩ := at_L1 HR0.out x11_1 p116 q116
              cases e116
              replace hx116_0 := (HB.out.cell (World.block_lt_of_cell? w _ hx116_0)).trans hx116_0
              have HR116_0 := Aside0.mk hi116_0
              have HC116_0 := Aside0.mk hl116_0
              clear hi116_0 hl116_0
              replace p116 := eq_true p116
              replace q116 := eq_true q116
              go_wp2
              go_roundg k1
              case measure => have := HK1.out; omega
              case rel => exact ⟨(wrap64 (x3_1 + ((rd_L1 l0 x11_1).length : Int))), (wrap64 (x11_1 + 1)), (by first | rfl | (simp; done) | (simp [*]; done)), (by first | rfl | (simp; done) | (simp [*]; done)), H', ⟨by have := HK1.out; omega⟩, ⟨by repeat (first | (with_reducible first | exact HB.out | apply below_alloc | apply pw_below_drewN | apply below_drew1) | exact HB.out)⟩⟩
          · rw [if_neg c4] at H
            exact absurd H (by simp)
        · rw [if_neg c3] at H
          exact absurd H (by simp)
      · rw [if_neg c2] at H
        have c2b0 : decide (x11_1 < (l0.length : Int)) = false := decide_eq_false c2
        clear c2
        replace H := Option.bind_eq_some_iff.mp H
        obtain ⟨t117, A60, H⟩ := H
        replace H : (slices_Concat_byte_byte.l1 k1 t117 l0 (l0.length : Int) 0) = some r := H
        have A6 := Aside0.mk A60
        clear A60
        have H' := Aside0.mk H
        clear H
        go_wp2_with (first | ((with_reducible refine gate_callee (f := 31) rfl ?_); refine goesL_ (some 24) rfl rfl Try.func31 (by kernel_rfl) rfl #[.slice none 0 0, .int .i64 x3_1] rfl (by (try simp only [List.map_toArray, List.map_cons, List.map_nil]); first | done | rfl | (simp only [List.length_drop, List.length_take]; rfl)) ?_; (with_reducible refine (slices_Grow_byte_byte.calls x3_1 t117 _ A6.out).mono ?_); rintro e w7 ⟨v118, rfl, ho0, hb⟩; refine ⟨_, rfl, ?_⟩; have n0_ := Aside0.mk (Kd.R_lower ho0 (below_size (by repeat (first | (with_reducible first | exact HB.out | apply below_alloc | apply pw_below_drewN | apply below_drew1) | exact HB.out)))); have n1_ := Aside0.mk (below_step (by repeat (first | (with_reducible first | exact HB.out | apply below_alloc | apply pw_below_drewN | apply below_drew1) | exact HB.out)) hb); clear HB; have HO119 := n0_; have HB := n1_; clear n0_ n1_; (try clear hb); (try clear hb2); (try clear hk); (try clear hi); (try clear ho0)))
        go_loopg [6, 27] k1 (fun kq v6 v27 w' => ∃ (x6_2 : List Int) (x27_2 : Int), v27 = .int .i64 x27_2 ∧ Aside0 (slices_Concat_byte_byte.l1 kq x6_2 l0 (l0.length : Int) x27_2 = some r) ∧ Aside0 (kq ≤ k1) ∧ Aside0 (Kd.R (Kd.int .u8) 5 w' w.heap.size (fun _ => True) v6 x6_2) ∧ Aside0 (Below w.heap.size w w'))
        case atStart => exact ⟨(t117), (0), (by first | rfl | (simp; done) | (simp [*]; done)), H', ⟨Nat.le_refl _⟩, ⟨by (with_reducible repeat (first | apply Kd.R_alloc | apply Kd.R_drewN | apply Kd.R_drew)); exact HO119.out⟩, ⟨by repeat (first | (with_reducible first | exact HB.out | apply below_alloc | apply pw_below_drewN | apply below_drew1) | exact HB.out)⟩⟩
        case round =>
          clear H'
          try clear c1
          try clear p1
          try clear q1
          try clear hx1
          try clear c2
          try clear c2b0
          try clear p2
          try clear c3
          try clear c3b0
          try clear c4
          try clear c4b0
          try clear c5
          try clear c5b0
          try clear p6
          try clear hx116_0
          try clear p116
          try clear q116
          obtain ⟨x6_2, x27_2, rfl, HA, HK2, HO_6, HB⟩ := hrel
          cases gk with
          | zero => exact absurd HA.out (by simp [slices_Concat_byte_byte.l1])
          | succ k2 =>
            have H := HA.out
            clear HA
            simp only [slices_Concat_byte_byte.l1] at H
            by_cases c8 : x27_2 < (l0.length : Int)
            · rw [if_pos c8] at H
              have c8b0 : decide (x27_2 < (l0.length : Int)) = true := decide_eq_true c8
              clear c8
              by_cases c9 : 0 ≤ x27_2
              · rw [if_pos c9] at H
                have c9b0 : decide (0 ≤ x27_2) = true := decide_eq_true c9
                clear c9
                by_cases c10 : x27_2 < (l0.length : Int)
                · rw [if_pos c10] at H
                  have c10b0 : decide (x27_2 < (l0.length : Int)) = true := decide_eq_true c10
                  clear c10
                  by_cases c11 : x6_2.length + (rd_L1 l0 x27_2).length < 140737488355328
                  · rw [if_pos c11] at H
                    have LMc11 := Aside0.mk c11
                    clear c11
                    obtain ⟨y121, hy121⟩ : ∃ y_ : List Int, y_ = (x6_2 ++ (rd_L1 l0 x27_2)) := ⟨_, rfl⟩
                    replace H : (slices_Concat_byte_byte.l1 k2 y121 l0 (l0.length : Int) (wrap64 (x27_2 + 1))) = some r := by first | (rw [hy121]; with_reducible exact H) | (have H2_ := (Option.bind_some _ _).symm.trans H; rw [hy121]; with_reducible exact H2_) | (have H2_ := (Option.bind_some _ _).symm.trans H; with_reducible exact H2_) | with_reducible exact H | (rw [hy121]; exact H) | exact H
                    have Ny121 := Aside0.mk hy121
                    clear hy121
                    have H' := Aside0.mk H
                    clear H
                    have p120 : 0 ≤ (x27_2 : Int) := of_decide_eq_true (by first | (with_reducible assumption) | assumption)
                    have q120 : x27_2 < (l0.length : Int) := of_decide_eq_true (by first | (with_reducible assumption) | assumption)
                    obtain ⟨ad120, A120_0, c120_0, e120, hx120_0, hl120_0, hi120_0⟩ := at_L1 HR0.out x27_2 p120 q120
                    cases e120
                    replace hx120_0 := (HB.out.cell (World.block_lt_of_cell? w _ hx120_0)).trans hx120_0
                    have HR120_0 := Aside0.mk hi120_0
                    have HC120_0 := Aside0.mk hl120_0
                    clear hi120_0 hl120_0
                    replace p120 := eq_true p120
                    replace q120 := eq_true q120
                    go_wp2_with (first | ((with_reducible refine gate_builtin (b := .append) (xs := #[.tmp 31, .tmp 32]) rfl ?_); at_builtin; refine Kd.R_append_rows (Kd.int .u8) (w0 := w) w.heap.size rfl (.tmp 31) (.tmp 32) 22 5 (.int .u8 0) 1 rfl Try.underlying22 info5 rfl (by decide) (by omega) u6 x6_2 (rd_L1 l0 x27_2) _ _ _ (fun _ => True) (fun _ => False) rfl rfl ?aO ?aR (fun _ _ h => h) (fun _ h => h.elim) ?aF ?aB ?aS ?aL ?_; (case aR => repeat (first | exact (Kd.C_below HR120_0.out HB.out) | (with_reducible refine Kd.C_alloc ?_ _) | (with_reducible refine Kd.C_drewN ?_ _) | (with_reducible refine Kd.C_drew ?_))); (case aB => exact (by repeat (first | (with_reducible first | exact HB.out | apply below_alloc | apply pw_below_drewN | apply below_drew1) | exact HB.out))); (case aF => exact (fun _ _ => trivial)); (case aO => exact (by (with_reducible repeat (first | apply Kd.R_alloc | apply Kd.R_drewN | apply Kd.R_drew)); exact HO_6.out)); (case aS => exact (below_size (by repeat (first | (with_reducible first | exact HB.out | apply below_alloc | apply pw_below_drewN | apply below_drew1) | exact HB.out)))); (case aL => have := LMc11.out; omega); intro v122 w12 ho hb hg hat; rw [← Ny121.out] at ho; have n0_ := Aside0.mk (hb); have n1_ := Aside0.mk (ho); clear HB; clear HO_6; have HB := n0_; have HO123 := n1_; clear n0_ n1_; clear ho hb hg hat))
                    go_roundg k2
                    case measure => have := HK1.out; have := HK2.out; omega
                    case rel => exact ⟨(y121), (wrap64 (x27_2 + 1)), (by first | rfl | (simp; done) | (simp [*]; done)), H', ⟨by have := HK1.out; have := HK2.out; omega⟩, ⟨by (with_reducible repeat (first | apply Kd.R_alloc | apply Kd.R_drewN | apply Kd.R_drew)); exact HO123.out⟩, ⟨by repeat (first | (with_reducible first | exact HB.out | apply below_alloc | apply pw_below_drewN | apply below_drew1) | exact HB.out)⟩⟩
                  · rw [if_neg c11] at H
                    exact absurd H (by simp)
                · rw [if_neg c10] at H
                  exact absurd H (by simp)
              · rw [if_neg c9] at H
                exact absurd H (by simp)
            · rw [if_neg c8] at H
              have c8b0 : decide (x27_2 < (l0.length : Int)) = false := decide_eq_false c8
              clear c8
              obtain rfl := Option.some.inj H
              go_wp2
              go_ret
              exact ⟨_, by first | rfl | (simp [errW_none, errW_some] <;> rfl) | (simp [*, errW_none, errW_some] <;> rfl), by (with_reducible repeat (first | apply Kd.R_alloc | apply Kd.R_drewN | apply Kd.R_drew)); exact HO_6.out, by repeat (first | (with_reducible first | exact HB.out | apply below_alloc | apply pw_below_drewN | apply below_drew1) | exact HB.out)⟩

/-! ### octet_Join: function 24 -/
def octet_Join.f (k : Nat) (l0 : List (List Int)) : Option (List Int) := (slices_Concat_byte_byte.f k l0).bind fun t124 => (some t124)
theorem octet_Join.mono : ∀ a0 k, LeO (octet_Join.f k a0) (octet_Join.f (k + 1) a0) := by
  intro a0 k
  unfold octet_Join.f
  repeat' first
      | (with_reducible exact slices_Concat_byte_byte.mono _ _)
      | (with_reducible exact LeO.refl _)
      | (with_reducible exact LeO.none _)
      | (with_reducible refine LeO.ite ?_ ?_)
      | (with_reducible refine LeO.bind ?_ (fun _ => ?_))
      | exact slices_Concat_byte_byte.mono _ _
      | exact LeO.none _
      | refine LeO.ite ?_ ?_
      | refine LeO.bind ?_ (fun _ => ?_)
set_option maxHeartbeats 8000000 in
set_option maxRecDepth 100000 in
theorem octet_Join.calls (k : Nat) (A0 : Option Addr) (c0 : Nat) (l0 : List (List Int)) (r : List Int) (w : World) (hr0 : Kd.C (Kd.slice 5 (Kd.int .u8)) w A0 l0.length l0) (hc0 : l0.length ≤ c0) (h : octet_Join.f k l0 = some r) :
    Calls Try.prog 24 #[.slice A0 l0.length c0] w fun e w' => ∃ v0_ : Value, e = .returned (v0_) ∧ Kd.R (Kd.int .u8) 5 w' w.heap.size (fun _ => True) v0_ r ∧ Below w.heap.size w w' := by
  have HR0 := Aside0.mk hr0
  have HC0 := Aside0.mk hc0
  clear hr0 hc0
  have HB := Aside0.mk (Below.refl w.heap.size w)
  have H : ((slices_Concat_byte_byte.f k l0).bind fun t124 => (some t124)) = some r := h
  clear h
  replace H := Option.bind_eq_some_iff.mp H
  obtain ⟨t124, A20, H⟩ := H
  replace H : (some t124) = some r := H
  have A2 := Aside0.mk A20
  clear A20
  obtain rfl := Option.some.inj H
  go_enter Try.func24, Try.ntmps24
  go_wp2_with (first | ((with_reducible refine gate_callee (f := 29) rfl ?_); refine goesL_ (some 4) rfl rfl Try.func29 (by kernel_rfl) rfl #[.slice A0 l0.length c0] rfl (by (try simp only [List.map_toArray, List.map_cons, List.map_nil]); first | done | rfl | (simp only [List.length_drop, List.length_take]; rfl)) ?_; (with_reducible refine (slices_Concat_byte_byte.calls k _ _ l0 t124 _ ?side1 ?side2 A2.out).mono ?_); (case side1 => repeat (first | exact HR0.out | (with_reducible refine Kd.C_alloc ?_ _) | (with_reducible refine Kd.C_drewN ?_ _) | (with_reducible refine Kd.C_drew ?_))); (case side2 => exact HC0.out); rintro e w3 ⟨v125, rfl, ho0, hb⟩; refine ⟨_, rfl, ?_⟩; have n0_ := Aside0.mk (Kd.R_lower ho0 (below_size (by repeat (first | (with_reducible first | exact HB.out | apply below_alloc | apply pw_below_drewN | apply below_drew1) | exact HB.out)))); have n1_ := Aside0.mk (below_step (by repeat (first | (with_reducible first | exact HB.out | apply below_alloc | apply pw_below_drewN | apply below_drew1) | exact HB.out)) hb); clear HB; have HO126 := n0_; have HB := n1_; clear n0_ n1_; (try clear hb); (try clear hb2); (try clear hk); (try clear hi); (try clear ho0)))
  go_ret
  exact ⟨_, by first | rfl | (simp [errW_none, errW_some] <;> rfl) | (simp [*, errW_none, errW_some] <;> rfl), by (with_reducible repeat (first | apply Kd.R_alloc | apply Kd.R_drewN | apply Kd.R_drew)); exact HO126.out, by repeat (first | (with_reducible first | exact HB.out | apply below_alloc | apply pw_below_drewN | apply below_drew1) | exact HB.out)⟩

/-! ### halves_Join: function 14, typed by hand -/
def halves_Join.lb (l0 : List Int) : Int := Go.bits .and .u8 (rd l0 ((l0.length - 1 : Nat) : Int)) 15
def halves_Join.rb (l1 : List Int) : Int := Go.bits .and .u8 (rd l1 0) 240
def halves_Join.body (k : Nat) (l0 l1 : List Int) (a2 : Int) : Option (List Int × Int) := if a2 % 2 = 0 then (octet_Join.f k [l0, l1]).bind fun t => some (t, 0) else if halves_Join.lb l0 ≠ 0 ∨ halves_Join.rb l1 ≠ 0 then some ([], 10) else (octet_Join.f k [l0, l1.drop 1]).bind fun t => if l0.length - 1 < t.length then some (t.set (l0.length - 1) (Go.bits .or .u8 (rd t ((l0.length - 1 : Nat) : Int)) (rd l1 0)), 0) else none
def halves_Join.f (k : Nat) (l0 l1 : List Int) (a2 : Int) : Option (List Int × Int) := if (decide (2 ≤ a2) && (decide (a2 ≤ 28) && halves_fits.rows a2 [l0, l1])) = true then halves_Join.body k l0 l1 a2 else some ([], 11)
theorem halves_Join.mono : ∀ a0 a1 a2 k, LeO (halves_Join.f k a0 a1 a2) (halves_Join.f (k + 1) a0 a1 a2) := by
  intro a0 a1 a2 k
  unfold halves_Join.f halves_Join.body
  repeat' first
      | (with_reducible exact octet_Join.mono _ _)
      | (with_reducible exact LeO.refl _)
      | (with_reducible refine LeO.ite ?_ ?_)
      | (with_reducible refine LeO.bind ?_ (fun _ => ?_))
theorem halves_Join.drop1 {w : World} {A : Option Addr} {c : Nat} {xs : List Int} (h : Kd.C (Kd.int .u8) w A xs.length xs) (h1 : 1 ≤ xs.length) (hc : xs.length ≤ c) :
    ∃ A2 c2 y, y = xs.drop 1 ∧ (∀ W : World, (Instr.slice 22 (.slice A xs.length c) (some (.int .i64 1)) none none).run Try.prog W = .ok (.slice A2 y.length c2) W) ∧ Kd.C (Kd.int .u8) w A2 y.length y ∧ y.length ≤ c2 := by
  obtain ⟨i0, hi0, _, hs, _⟩ := info_parts info5
  have hd := Kd.C_drop (m := 1) h h1 hc
  refine ⟨_, c - 1, _, rfl, fun W => ?_, hd, by rw [List.length_drop]; omega⟩
  have := cut_from (P := Try.prog) 22 5 .i64 Try.underlying22 hi0 1 hs A xs.length c 1 (by omega) (by omega) W
  rw [List.length_drop]
  exact this
theorem halves_Join.octet2 (k : Nat) (A1 : Option Addr) (c1 : Nat) (x y : List Int) (r : List Int) (w : World) (hr1 : Kd.C (Kd.slice 5 (Kd.int .u8)) w A1 2 [x, y]) (hc1 : 2 ≤ c1) (h : octet_Join.f k [x, y] = some r) :
    Calls Try.prog 24 #[.slice A1 2 c1] w fun e w' => ∃ v0_ : Value, e = .returned (v0_) ∧ Kd.R (Kd.int .u8) 5 w' w.heap.size (fun _ => True) v0_ r ∧ Below w.heap.size w w' := octet_Join.calls k A1 c1 [x, y] r w hr1 hc1 h
/-! the map's own story -/
def halves_Join.ents (v u : Value) : Array MapEntry := #[⟨.bool true, v, 0⟩, ⟨.bool false, u, 1⟩]
theorem halves_Join.set_below {B b : Nat} {w W : World} {o : Obj} (h : Below B w W) (hb : B ≤ b) : Below B w (ChangeMaps.setBlock W b o) := by
  refine ⟨h.os, h.tape, h.output, by simp [ChangeMaps.setBlock]; exact h.size, fun k hk => ?_⟩
  rw [← h.block k hk]
  simp only [ChangeMaps.setBlock]
  rw [Array.getElem?_setIfInBounds]
  rw [if_neg (by omega)]
theorem halves_Join.ins {W : World} {b c : Nat} {es : Array MapEntry} (hb : W.heap[b]? = some (.map es c)) (q : Bool) (v : Value) (hf : Instr.findNow .bool (.bool q) es.toList 0 = some none) :
    (Instr.mapUpdate 39 (.map (some b)) (.bool q) v).run Try.prog W = .ok () (ChangeMaps.setBlock W b (.map (es.push ⟨.bool q, v, c⟩) (c + 1))) := by
  simp [Instr.mapUpdate, run_underlying Try.underlying39, MapKept.run_getObj_map hb, MapKept.run_checkKey Try.underlying4 (k := .bool q) trivial, MapKept.run_findKey Try.underlying4 hf, MapKept.run_setObj_map _ hb, Result.andThen, ChangeMaps.setBlock]
theorem halves_Join.laid (w1 : World) (v u : Value) : ∃ W2 W3, (Instr.mapUpdate 39 (.map (some w1.heap.size)) (.bool true) v).run Try.prog (w1.alloc (.map #[] 0)) = .ok () W2 ∧ (Instr.mapUpdate 39 (.map (some w1.heap.size)) (.bool false) u).run Try.prog W2 = .ok () W3 ∧
    W3.heap[w1.heap.size]? = some (.map (halves_Join.ents v u) 2) ∧ Below w1.heap.size w1 W3 ∧ W3.heap.size = w1.heap.size + 1 := by
  have hb : (w1.alloc (.map #[] 0)).heap[w1.heap.size]? = some (.map #[] 0) := heap_alloc_new w1 _
  have h2 : (ChangeMaps.setBlock (w1.alloc (.map #[] 0)) w1.heap.size (.map #[⟨.bool true, v, 0⟩] 1)).heap[w1.heap.size]? = some (.map #[⟨.bool true, v, 0⟩] 1) := ChangeMaps.heap_setBlock_same hb _
  have hB := below_alloc (Below.refl w1.heap.size w1) (.map #[] 0)
  refine ⟨ChangeMaps.setBlock (w1.alloc (.map #[] 0)) w1.heap.size (.map #[⟨.bool true, v, 0⟩] 1), ChangeMaps.setBlock (ChangeMaps.setBlock (w1.alloc (.map #[] 0)) w1.heap.size (.map #[⟨.bool true, v, 0⟩] 1)) w1.heap.size (.map (halves_Join.ents v u) 2), ?_, ?_, ChangeMaps.heap_setBlock_same h2 _, halves_Join.set_below (halves_Join.set_below hB (Nat.le_refl _)) (Nat.le_refl _), ?_⟩
  · exact halves_Join.ins hb true v rfl
  · exact halves_Join.ins h2 false u rfl
  · simp only [ChangeMaps.setBlock, Array.size_setIfInBounds]
    exact Array.size_push ..
def halves_Join.It (bm r : Nat) (v u : Value) (w wr : World) (seen : Array Nat) : Prop := wr.heap[bm]? = some (.map (halves_Join.ents v u) 2) ∧ wr.heap[r]? = some (.mapIter (some bm) 2 seen 2) ∧ Below w.heap.size w wr
theorem halves_Join.seen_of {bm r : Nat} {v u : Value} {w wr : World} {seen : Array Nat} (h : halves_Join.It bm r v u w wr seen) : wr.iterSeen r = seen := by
  unfold World.iterSeen
  rw [h.2.1]
theorem halves_Join.step {bm r : Nat} {v u : Value} {w wr : World} {seen : Array Nat} (h : halves_Join.It bm r v u w wr seen) (hr : w.heap.size ≤ r) (hne : bm ≠ r) :
    ((∀ ty, (Instr.next (.pointer (some ⟨r, 0, none⟩)) false ty).run Try.prog wr = .ok (.tuple #[.bool false]) wr) ∧ seen.contains 0 = true ∧ seen.contains 1 = true) ∨
    (∃ w2, (∀ ty, (Instr.next (.pointer (some ⟨r, 0, none⟩)) false ty).run Try.prog wr = .ok (.tuple #[.bool true, .bool true, v]) w2) ∧ (Instr.entry (.pointer (some ⟨r, 0, none⟩))).run Try.prog w2 = .ok (.tuple #[.bool true, v]) w2 ∧ halves_Join.It bm r v u w w2 (seen.push 0) ∧ (leftOf (halves_Join.ents v u) (seen.push 0)).size < (leftOf (halves_Join.ents v u) seen).size) ∨
    (∃ w2, (∀ ty, (Instr.next (.pointer (some ⟨r, 0, none⟩)) false ty).run Try.prog wr = .ok (.tuple #[.bool true, .bool false, u]) w2) ∧ (Instr.entry (.pointer (some ⟨r, 0, none⟩))).run Try.prog w2 = .ok (.tuple #[.bool false, u]) w2 ∧ halves_Join.It bm r v u w w2 (seen.push 1) ∧ (leftOf (halves_Join.ents v u) (seen.push 1)).size < (leftOf (halves_Join.ents v u) seen).size) := by
  obtain ⟨hb, hi, hB⟩ := h
  have hold : ∀ x ∈ (halves_Join.ents v u).toList, x.born < 2 := by
    intro x hx
    simp only [halves_Join.ents, List.mem_cons, List.not_mem_nil, or_false] at hx
    rcases hx with rfl | rfl
    · exact Nat.zero_lt_two
    · exact Nat.one_lt_two
  have hn : ((halves_Join.ents v u).toList.map (·.born)).Nodup := by simp [halves_Join.ents]
  rcases run_next_at (P := Try.prog) wr 0 r bm 2 2 seen (halves_Join.ents v u) 2 hi hb hold (Nat.le_refl _) with ⟨h0, hrun⟩ | ⟨e, he, w1, hw1, hrun⟩
  · refine Or.inl ⟨fun ty => hrun, ?_⟩
    have hall : ∀ x ∈ (halves_Join.ents v u), seen.contains x.born = true := by
      intro x hx
      cases hc : seen.contains x.born with
      | true => rfl
      | false =>
        have : x ∈ leftOf (halves_Join.ents v u) seen := Array.mem_filter.2 ⟨hx, by rw [hc]; rfl⟩
        rw [Array.eq_empty_of_size_eq_zero h0] at this
        simp at this
    exact ⟨hall ⟨.bool true, v, 0⟩ (by simp [halves_Join.ents]), hall ⟨.bool false, u, 1⟩ (by simp [halves_Join.ents])⟩
  · have hm := mem_left he
    have hI : ∀ b, halves_Join.It bm r v u w (ChangeMaps.setBlock w1 r (.mapIter (some bm) 2 (seen.push b) 2)) (seen.push b) := by
      intro b
      have h1 : w1.heap = wr.heap := by rcases hw1 with rfl | rfl <;> rfl
      have hlt : r < w1.heap.size := by
        rcases Nat.lt_or_ge r w1.heap.size with q | q
        · exact q
        · rw [← h1, Array.getElem?_eq_none q] at hi
          cases hi
      have hB1 : Below w.heap.size w w1 := by
        rcases hw1 with rfl | rfl
        · exact hB
        · exact below_drew1 hB
      refine ⟨?_, ?_, halves_Join.set_below hB1 hr⟩
      · simp only [ChangeMaps.setBlock]
        rw [Array.getElem?_setIfInBounds, if_neg (by omega), h1]
        exact hb
      · simp only [ChangeMaps.setBlock]
        rw [Array.getElem?_setIfInBounds, if_pos rfl, if_pos hlt]
    have hsh := left_shrinks _ _ _ he
    have hmem := hm.1
    simp only [halves_Join.ents, List.mem_cons, List.not_mem_nil, or_false] at hmem
    rcases hmem with rfl | rfl
    · exact Or.inr (Or.inl ⟨_, fun ty => hrun, run_entry_at (P := Try.prog) _ r bm 2 seen _ 2 _ (hI 0).2.1 (hI 0).1 hm.1 hn, hI 0, hsh⟩)
    · exact Or.inr (Or.inr ⟨_, fun ty => hrun, run_entry_at (P := Try.prog) _ r bm 2 seen _ 2 _ (hI 1).2.1 (hI 1).1 hm.1 hn, hI 1, hsh⟩)
set_option maxHeartbeats 8000000 in
set_option maxRecDepth 100000 in
theorem halves_Join.calls (k : Nat) (A0 : Option Addr) (c0 : Nat) (l0 : List Int) (A1 : Option Addr) (c1 : Nat) (l1 : List Int) (a2 : Int) (r1 : List Int) (r2 : Int) (w : World) (hr0 : Kd.C (Kd.int .u8) w A0 l0.length l0) (hc0 : l0.length ≤ c0) (hr1 : Kd.C (Kd.int .u8) w A1 l1.length l1) (hc1 : l1.length ≤ c1) (h : halves_Join.f k l0 l1 a2 = some (r1, r2)) :
    Calls Try.prog 14 #[.slice A0 l0.length c0, .slice A1 l1.length c1, .int .i64 a2] w fun e w' => ∃ v0_ : Value, e = .returned (.tuple #[v0_, .int .i64 r2]) ∧ Kd.R (Kd.int .u8) 5 w' w.heap.size (fun _ => True) v0_ r1 ∧ Below w.heap.size w w' := by
  unfold halves_Join.f at h
  have HR0 := Aside0.mk hr0
  have HC0 := Aside0.mk hc0
  have HR1 := Aside0.mk hr1
  have HC1 := Aside0.mk hc1
  have HB := Aside0.mk (below_alloc (Below.refl w.heap.size w) (.cells #[.slice A0 l0.length c0, .slice A1 l1.length c1] 22))
  have H1 := Aside0.mk (two_rows (t := 5) (u := 22) hr0 hc0 hr1 hc1)
  clear hr0 hc0 hr1 hc1
  by_cases c : (decide (2 ≤ a2) && (decide (a2 ≤ 28) && halves_fits.rows a2 [l0, l1])) = true
  · rw [if_pos c] at h
    have hb := c
    simp only [Bool.and_eq_true, decide_eq_true_eq, halves_fits.rows, List.all_cons, List.all_nil, Bool.and_true, beq_iff_eq] at hb
    obtain ⟨h2, h28, hlen0, hlen1⟩ := hb
    have HLEN := Aside0.mk (show l0.length ≤ 28 ∧ l1.length ≤ 28 by omega)
    have hpos0 : 0 < l0.length := by omega
    have hpos1 : 0 < l1.length := by omega
    have HF := Aside0.mk (show halves_fits.f a2 [l0, l1] = some true by unfold halves_fits.f; rw [c])
    clear hlen0 hlen1 c
    have htm : Int.tmod a2 2 = a2 % 2 := Int.tmod_eq_emod_of_nonneg (by omega)
    have HTM := Aside0.mk htm
    have HH := Aside0.mk h
    obtain ⟨ad0, rfl, _⟩ := HR0.out.2.2 hpos0
    obtain ⟨ad1, rfl, _⟩ := HR1.out.2.2 hpos1
    clear h htm
    go_enter Try.func14, Try.ntmps14
    go_upto_region 3 with (go_at_call 20; (with_reducible refine (halves_fits.calls2 a2 _ 2 l0 l1 true _ H1.out (Nat.le_refl _) HF.out).mono ?_); rintro e w1 ⟨rfl, hb1⟩; have HB1 := Aside0.mk (below_step HB.out hb1); clear hb1)
    obtain ⟨W2, W3, hu1, hu2, hm3, hB3, hs3⟩ := halves_Join.laid w1 (.slice (some ad0) l0.length c0) (.slice (some ad1) l1.length c1)
    have hrg := run_range_map (P := Try.prog) W3 39 4 22 w1.heap.size _ 2 Try.underlying39 hm3
    have HB3 := Aside0.mk (below_alloc (below_step HB1.out hB3) (.mapIter (some w1.heap.size) 2 #[] 2))
    have HIT := Aside0.mk (show halves_Join.It w1.heap.size W3.heap.size (.slice (some ad0) l0.length c0) (.slice (some ad1) l1.length c1) w (W3.alloc (.mapIter (some w1.heap.size) 2 #[] 2)) #[] from ⟨by rw [heap_alloc_old _ _ (by omega)]; exact hm3, heap_alloc_new W3 _, HB3.out⟩)
    have HR := Aside0.mk (show w.heap.size ≤ W3.heap.size ∧ w1.heap.size ≠ W3.heap.size from ⟨by have := below_size HB1.out; omega, by omega⟩)
    clear hm3 hB3 hs3
    have hmk : (Instr.makeMap 39 none).run Try.prog w1 = .ok (.map (some w1.heap.size)) (w1.alloc (.map #[] 0)) := rfl
    generalize w1.heap.size = bm at hu1 hu2 hrg HIT HR hmk
    generalize W3.alloc (.mapIter (some bm) 2 #[] 2) = W4 at hrg HIT HB3
    generalize W3.heap.size = rr at hrg HIT HR
    go_wp2
    go_loopw [] (fun wr => ∃ seen : Array Nat, Aside0 (halves_Join.It bm rr (.slice (some ad0) l0.length c0) (.slice (some ad1) l1.length c1) w wr seen) ∧ Aside0 (a2 % 2 = 0 ∨ ((seen.contains 0 = true → halves_Join.lb l0 = 0) ∧ (seen.contains 1 = true → halves_Join.rb l1 = 0)))) (fun wr => (leftOf (halves_Join.ents (.slice (some ad0) l0.length c0) (.slice (some ad1) l1.length c1)) (wr.iterSeen rr)).size)
    case atStart => exact ⟨#[], HIT, ⟨Or.inr ⟨fun h => by simp at h, fun h => by simp at h⟩⟩⟩
    case round =>
      obtain ⟨seen, HI, HS⟩ := hrel
      rcases halves_Join.step HI.out HR.out.1 HR.out.2 with ⟨hnx, hs0, hs1⟩ | ⟨w2, hnx, hen, hI2, hsz⟩ | ⟨w2, hnx, hen, hI2, hsz⟩
      · have HBR := Aside0.mk HI.out.2.2
        have h := HH.out
        unfold halves_Join.body at h
        by_cases hz : a2 % 2 = 0
        · rw [if_pos hz] at h
          obtain ⟨t, ht, h⟩ := Option.bind_eq_some_iff.1 h
          simp only [Option.some.injEq, Prod.mk.injEq] at h
          obtain ⟨rfl, rfl⟩ := h
          have HT := Aside0.mk ht
          have hzb : (a2 % 2 == 0) = true := beq_iff_eq.2 hz
          have H2 := Aside0.mk (two_rows (t := 5) (u := 22) (Kd.C_below HR0.out HBR.out) HC0.out (Kd.C_below HR1.out HBR.out) HC1.out)
          have HB4 := Aside0.mk (below_alloc HBR.out (.cells #[.slice (some ad0) l0.length c0, .slice (some ad1) l1.length c1] 22))
          clear ht hz hs0 hs1
          go_wp2_with (go_at_call 24; (with_reducible refine (halves_Join.octet2 k _ 2 l0 l1 t _ H2.out (Nat.le_refl _) HT.out).mono ?_); rintro e w5 ⟨v5, rfl, ho5, hb5⟩; have HB5 := Aside0.mk (below_step HB4.out hb5); have HO5 := Aside0.mk (Kd.R_lower ho5 (below_size HB4.out)); clear ho5 hb5)
          go_ret2
          exact ⟨_, rfl, HO5.out, HB5.out⟩
        · have hzb : (a2 % 2 == 0) = false := beq_eq_false_iff_ne.2 hz
          have hok : ¬ (halves_Join.lb l0 ≠ 0 ∨ halves_Join.rb l1 ≠ 0) := by
            rcases HS.out with q | ⟨q0, q1⟩
            · exact absurd q hz
            · rintro (q | q)
              · exact q (q0 hs0)
              · exact q (q1 hs1)
          rw [if_neg hz, if_neg hok] at h
          obtain ⟨t, ht, h⟩ := Option.bind_eq_some_iff.1 h
          by_cases hlt : l0.length - 1 < t.length
          · rw [if_pos hlt] at h
            simp only [Option.some.injEq, Prod.mk.injEq] at h
            obtain ⟨rfl, rfl⟩ := h
            obtain ⟨A2, cr2, y, hy, hc1, hC2, hl2⟩ := halves_Join.drop1 (Kd.C_below HR1.out HBR.out) hpos1 HC1.out
            rw [← hy] at ht
            have HT := Aside0.mk ht
            have H2 := Aside0.mk (two_rows (t := 5) (u := 22) (Kd.C_below HR0.out HBR.out) HC0.out hC2 hl2)
            have HB4 := Aside0.mk (below_alloc HBR.out (.cells #[.slice (some ad0) l0.length c0, .slice A2 y.length cr2] 22))
            have HLT := Aside0.mk hlt
            clear ht hz hs0 hs1 hok hy hC2 hl2 hlt
            go_upto_region 12 with (go_at_call 24; (with_reducible refine (halves_Join.octet2 k _ 2 l0 y t _ H2.out (Nat.le_refl _) HT.out).mono ?_); rintro e w5 ⟨v5, rfl, ho5, hb5⟩; have HB5 := Aside0.mk (below_step HB4.out hb5); obtain ⟨g, kc, rfl, hg⟩ := R_at ho5 (Nat.lt_of_le_of_lt (Nat.zero_le _) HLT.out); have HG := Aside0.mk (Nat.le_trans (below_size HB4.out) hg); have HO5 := Aside0.mk (Kd.R_lower ho5 (below_size HB4.out)); clear ho5 hb5 hg)
            obtain ⟨hx1, hx2⟩ := Kd.R_cell (0 : Int) HO5.out ((l0.length - 1 : Nat) : Int) (by omega) (by have := HLT.out; omega)
            obtain ⟨adx, hadx, hx3⟩ := Kd.at_int (Kd.C_below HR1.out HB5.out) 0 (by omega) (by omega)
            cases hadx
            rw [Int.toNat_zero, show ad1.add 0 = ad1 from rfl] at hx3
            rw [Int.toNat_natCast] at hx1 hx2
            change w5.cell? _ = some (.int .u8 (rd t ((l0.length - 1 : Nat) : Int))) at hx1
            have HLT2 := Aside0.mk (show l0.length - 1 < t.length ∧ ((l0.length - 1 : Nat) : Int) < (t.length : Int) from ⟨HLT.out, by have := HLT.out; omega⟩)
            have hw : IntKind.i64.wrap ((l0.length : Int) - 1) = ((l0.length - 1 : Nat) : Int) := by rw [wrap_small _ (by omega) (by have := HLEN.out.1; omega)]; omega
            generalize hn1 : l0.length - 1 = n1 at hx1 hx2 hw HLT2
            have HN := Aside0.mk hn1
            clear hn1
            obtain ⟨hq1, hq2⟩ := HLT2.out
            have hq3 : (0 : Int) ≤ (n1 : Int) := Int.natCast_nonneg _
            have hq4 : (0 : Int) < (l1.length : Int) := by omega
            go_still_tail 10, (by kernel_rfl)
            change wpList _ _ _ _ _ w5.drew
            go_wp2
            go_ret2
            exact ⟨_, rfl, by rw [HN.out]; exact Kd.R_drew (Kd.R_put HO5.out (n1 : Int) _).1, below_drew1 (HB5.out.setCell (p := ⟨g, _, none⟩) HG.out _)⟩
          · rw [if_neg hlt] at h
            cases h
      · have HB2 := Aside0.mk hI2.2.2
        have HI2 := Aside0.mk hI2
        have HM := Aside0.mk (show (leftOf (halves_Join.ents (.slice (some ad0) l0.length c0) (.slice (some ad1) l1.length c1)) (w2.iterSeen rr)).size < (leftOf (halves_Join.ents (.slice (some ad0) l0.length c0) (.slice (some ad1) l1.length c1)) (wr.iterSeen rr)).size by rw [halves_Join.seen_of HI2.out, halves_Join.seen_of HI.out]; exact hsz)
        clear hI2 hsz
        by_cases hz : a2 % 2 = 0
        · have HZ := Aside0.mk hz
          have HZ2 := Aside0.mk (HTM.out.trans hz)
          clear hz
          go_wp2_with (go_at_call 23; (with_reducible refine (halves_Trim.odd_even _ _ _ a2 true _ HZ2.out).mono ?_); rintro e w3 ⟨rfl, rfl⟩)
          go_round
          case rel => exact ⟨_, HI2, ⟨Or.inl HZ.out⟩⟩
          case measure => exact HM.out
        · have HZ := Aside0.mk hz
          have HZ2 := Aside0.mk (show ¬ Int.tmod a2 2 = 0 by rw [HTM.out]; exact hz)
          clear hz
          obtain ⟨adx, hadx, hcell⟩ := Kd.at_int (Kd.C_below HR0.out HB2.out) ((l0.length - 1 : Nat) : Int) (by omega) (by omega)
          cases hadx
          rw [Int.toNat_natCast] at hcell
          by_cases hb : halves_Join.lb l0 = 0
          · have hbb : (Go.bits .and .u8 (rd l0 ((l0.length - 1 : Nat) : Int)) 15 != 0) = false := bne_eq_false_iff_eq.2 hb
            have HBB := Aside0.mk hb
            clear hb
            go_wp2_with (go_at_call 23; (with_reducible refine (halves_Trim.odd_left ad0 _ _ hpos0 HLEN.out.1 a2 _ HZ2.out).mono ?_); rintro e w3 ⟨rfl, rfl⟩)
            go_round
            case rel => exact ⟨_, HI2, ⟨Or.inr (by
              rcases HS.out with h0 | ⟨h0, h1⟩
              · exact absurd h0 HZ.out
              · exact ⟨fun _ => HBB.out, fun h => h1 (by simpa [Array.contains_push] using h)⟩)⟩⟩
            case measure => exact HM.out
          · have hbb : (Go.bits .and .u8 (rd l0 ((l0.length - 1 : Nat) : Int)) 15 != 0) = true := bne_iff_ne.2 hb
            have h := HH.out
            rw [halves_Join.body, if_neg HZ.out, if_pos (Or.inl hb)] at h
            simp only [Option.some.injEq, Prod.mk.injEq] at h
            obtain ⟨rfl, rfl⟩ := h
            clear hb
            go_wp2_with (go_at_call 23; (with_reducible refine (halves_Trim.odd_left ad0 _ _ hpos0 HLEN.out.1 a2 _ HZ2.out).mono ?_); rintro e w3 ⟨rfl, rfl⟩)
            go_ret2
            exact ⟨_, rfl, Kd.R_nil _ _ _ _ _, HB2.out⟩
      · have HB2 := Aside0.mk hI2.2.2
        have HI2 := Aside0.mk hI2
        have HM := Aside0.mk (show (leftOf (halves_Join.ents (.slice (some ad0) l0.length c0) (.slice (some ad1) l1.length c1)) (w2.iterSeen rr)).size < (leftOf (halves_Join.ents (.slice (some ad0) l0.length c0) (.slice (some ad1) l1.length c1)) (wr.iterSeen rr)).size by rw [halves_Join.seen_of HI2.out, halves_Join.seen_of HI.out]; exact hsz)
        clear hI2 hsz
        by_cases hz : a2 % 2 = 0
        · have HZ := Aside0.mk hz
          have HZ2 := Aside0.mk (HTM.out.trans hz)
          clear hz
          go_wp2_with (go_at_call 23; (with_reducible refine (halves_Trim.odd_even _ _ _ a2 false _ HZ2.out).mono ?_); rintro e w3 ⟨rfl, rfl⟩)
          go_round
          case rel => exact ⟨_, HI2, ⟨Or.inl HZ.out⟩⟩
          case measure => exact HM.out
        · have HZ := Aside0.mk hz
          have HZ2 := Aside0.mk (show ¬ Int.tmod a2 2 = 0 by rw [HTM.out]; exact hz)
          clear hz
          obtain ⟨adx, hadx, hcell⟩ := Kd.at_int (Kd.C_below HR1.out HB2.out) 0 (by omega) (by omega)
          cases hadx
          rw [Int.toNat_zero, show ad1.add 0 = ad1 from rfl] at hcell
          by_cases hb : halves_Join.rb l1 = 0
          · have hbb : (Go.bits .and .u8 (rd l1 0) 240 != 0) = false := bne_eq_false_iff_eq.2 hb
            have HBB := Aside0.mk hb
            clear hb
            go_wp2_with (go_at_call 23; (with_reducible refine (halves_Trim.odd_right ad1 _ _ hpos1 a2 _ HZ2.out).mono ?_); rintro e w3 ⟨rfl, rfl⟩)
            go_round
            case rel => exact ⟨_, HI2, ⟨Or.inr (by
              rcases HS.out with h0 | ⟨h0, h1⟩
              · exact absurd h0 HZ.out
              · exact ⟨fun h => h0 (by simpa [Array.contains_push] using h), fun _ => HBB.out⟩)⟩⟩
            case measure => exact HM.out
          · have hbb : (Go.bits .and .u8 (rd l1 0) 240 != 0) = true := bne_iff_ne.2 hb
            have h := HH.out
            rw [halves_Join.body, if_neg HZ.out, if_pos (Or.inr hb)] at h
            simp only [Option.some.injEq, Prod.mk.injEq] at h
            obtain ⟨rfl, rfl⟩ := h
            clear hb
            go_wp2_with (go_at_call 23; (with_reducible refine (halves_Trim.odd_right ad1 _ _ hpos1 a2 _ HZ2.out).mono ?_); rintro e w3 ⟨rfl, rfl⟩)
            go_ret2
            exact ⟨_, rfl, Kd.R_nil _ _ _ _ _, HB2.out⟩
  · rw [if_neg c] at h
    simp only [Option.some.injEq, Prod.mk.injEq] at h
    obtain ⟨rfl, rfl⟩ := h
    have HF := Aside0.mk (show halves_fits.f a2 [l0, l1] = some false by unfold halves_fits.f; rw [Bool.not_eq_true] at c; rw [c])
    clear c
    go_enter Try.func14, Try.ntmps14
    go_wp2_with (go_at_call 20; (with_reducible refine (halves_fits.calls2 a2 _ 2 l0 l1 false _ H1.out (Nat.le_refl _) HF.out).mono ?_); rintro e w1 ⟨rfl, hb1⟩; have HB1 := Aside0.mk (below_step HB.out hb1); clear hb1)
    go_ret2
    exact ⟨_, rfl, Kd.R_nil _ _ _ _ _, HB1.out⟩


end Go.Proofs.Ytbiiccgheblhpac.M
