/- Contracts of the Go functions that the laws reach, each as a plain Lean function: written by xprint.py, a program of this repo. -/
import Derived.Test.YtbiiccgheblhpabM0
import Derived.Test.YtbiiccgheblhpabM2
import Derived.Test.YtbiiccgheblhpabM3
import Derived.Test.YtbiiccgheblhpabM4
namespace Go.Proofs.Ytbiiccgheblhpab.M
open Go.RowKit Go.Proofs.YtbiiccgheblhpabW.PrintWords Go.Proofs.YtbiiccgheblhpabW.PrintLast Go.Proofs.YtbiiccgheblhpabW.PrintMore Go.Proofs.Ytbiiccgheblhpab.X
attribute [local go_sem] max2_int min2_int max_two min_two max_three min_three max_four min_four   -- for this text's walks alone
set_option linter.unusedVariables false
set_option linter.unusedSimpArgs false

/-! ### crosswaylaw08_VariOrder: function 6 -/
mutual
def crosswaylaw08_VariOrder.j0 : Nat → Int → Int → List Int → Int → List Int → Int → Bool → Option (Bool)
  | 0, _, _, _, _, _, _, _ => none
  | k + 1, x0, x1, x5, x6, x7, x8, x30 => if x30 = true then (if ((x6 == 0) == (decide (x0 < 4611686018427387904))) = true then (some ((x8 == 0) == (decide (x1 < 4611686018427387904)))) else (some false)) else (crosswaylaw08_VariOrder.l0 k x0 x1 x5 x7 0)
def crosswaylaw08_VariOrder.l0 : Nat → Int → Int → List Int → List Int → Int → Option (Bool)
  | 0, _, _, _, _, _ => none
  | k + 1, x0, x1, x5, x7, x9 => if x9 < (x5.length : Int) then (if 0 ≤ x9 then (if x9 ≤ (x5.length : Int) then ((vari_Take.f k (x5.take (x9 : Int).toNat)).bind fun bt319 => (if bt319.2.2 = 12 then (crosswaylaw08_VariOrder.l0 k x0 x1 x5 x7 (wrap64 (x9 + 1))) else (some false))) else (none)) else (none)) else (if x0 ≥ x1 then (some true) else (if (x5.length : Int) < (x7.length : Int) then (some true) else (if (x5.length : Int) = (x7.length : Int) then (some (Op.bytesLess ((strOfNums x5).toList) ((strOfNums x7).toList))) else (some false))))
end
def crosswaylaw08_VariOrder.f (k : Nat) (a0 : Int) (a1 : Int) : Option (Bool) := (crosswaylaw08_alive.f k).bind fun t306 => (if t306 = true then ((vari_Put.f k a0).bind fun bt307 => ((vari_Put.f k a1).bind fun bt311 => (if bt307.2 = 0 then (crosswaylaw08_VariOrder.j0 k a0 a1 bt307.1 bt307.2 bt311.1 bt311.2 (bt311.2 != 0)) else (crosswaylaw08_VariOrder.j0 k a0 a1 bt307.1 bt307.2 bt311.1 bt311.2 true)))) else (some false))
theorem crosswaylaw08_VariOrder.mono_l : ∀ k, (∀ y0 y1 y2 y3 y4 y5 y6, LeO (crosswaylaw08_VariOrder.j0 k y0 y1 y2 y3 y4 y5 y6) (crosswaylaw08_VariOrder.j0 (k + 1) y0 y1 y2 y3 y4 y5 y6)) ∧ (∀ y0 y1 y2 y3 y4, LeO (crosswaylaw08_VariOrder.l0 k y0 y1 y2 y3 y4) (crosswaylaw08_VariOrder.l0 (k + 1) y0 y1 y2 y3 y4))
  | 0 => ⟨fun _ _ _ _ _ _ _ r h => by simp [crosswaylaw08_VariOrder.j0] at h, fun _ _ _ _ _ r h => by simp [crosswaylaw08_VariOrder.l0] at h⟩
  | k + 1 => by
    obtain ⟨ih0, ih1⟩ := crosswaylaw08_VariOrder.mono_l k
    refine ⟨?_, ?_⟩
    · intro y0 y1 y2 y3 y4 y5 y6
      unfold crosswaylaw08_VariOrder.j0
      repeat' first
      | (with_reducible exact ih0 _ _ _ _ _ _ _)
      | (with_reducible exact ih1 _ _ _ _ _)
      | (with_reducible exact crosswaylaw08_alive.mono _)
      | (with_reducible exact vari_Put.mono _ _)
      | (with_reducible exact vari_Take.mono _ _)
      | (with_reducible exact LeO.refl _)
      | (with_reducible exact LeO.none _)
      | (with_reducible refine LeO.ite ?_ ?_)
      | (with_reducible refine LeO.bind ?_ (fun _ => ?_))
      | exact ih0 _ _ _ _ _ _ _
      | exact ih1 _ _ _ _ _
      | exact crosswaylaw08_alive.mono _
      | exact vari_Put.mono _ _
      | exact vari_Take.mono _ _
      | exact LeO.none _
      | refine LeO.ite ?_ ?_
      | refine LeO.bind ?_ (fun _ => ?_)
    · intro y0 y1 y2 y3 y4
      unfold crosswaylaw08_VariOrder.l0
      repeat' first
      | (with_reducible exact ih0 _ _ _ _ _ _ _)
      | (with_reducible exact ih1 _ _ _ _ _)
      | (with_reducible exact crosswaylaw08_alive.mono _)
      | (with_reducible exact vari_Put.mono _ _)
      | (with_reducible exact vari_Take.mono _ _)
      | (with_reducible exact LeO.refl _)
      | (with_reducible exact LeO.none _)
      | (with_reducible refine LeO.ite ?_ ?_)
      | (with_reducible refine LeO.bind ?_ (fun _ => ?_))
      | exact ih0 _ _ _ _ _ _ _
      | exact ih1 _ _ _ _ _
      | exact crosswaylaw08_alive.mono _
      | exact vari_Put.mono _ _
      | exact vari_Take.mono _ _
      | exact LeO.none _
      | refine LeO.ite ?_ ?_
      | refine LeO.bind ?_ (fun _ => ?_)
theorem crosswaylaw08_VariOrder.mono : ∀ a0 a1 k, LeO (crosswaylaw08_VariOrder.f k a0 a1) (crosswaylaw08_VariOrder.f (k + 1) a0 a1) := by
  intro a0 a1 k
  obtain ⟨ih0, ih1⟩ := crosswaylaw08_VariOrder.mono_l k
  unfold crosswaylaw08_VariOrder.f
  repeat' first
      | (with_reducible exact ih0 _ _ _ _ _ _ _)
      | (with_reducible exact ih1 _ _ _ _ _)
      | (with_reducible exact crosswaylaw08_alive.mono _)
      | (with_reducible exact vari_Put.mono _ _)
      | (with_reducible exact vari_Take.mono _ _)
      | (with_reducible exact LeO.refl _)
      | (with_reducible exact LeO.none _)
      | (with_reducible refine LeO.ite ?_ ?_)
      | (with_reducible refine LeO.bind ?_ (fun _ => ?_))
      | exact ih0 _ _ _ _ _ _ _
      | exact ih1 _ _ _ _ _
      | exact crosswaylaw08_alive.mono _
      | exact vari_Put.mono _ _
      | exact vari_Take.mono _ _
      | exact LeO.none _
      | refine LeO.ite ?_ ?_
      | refine LeO.bind ?_ (fun _ => ?_)
set_option maxHeartbeats 8000000 in
set_option maxRecDepth 100000 in
theorem crosswaylaw08_VariOrder.calls (k : Nat) (a0 : Int) (a1 : Int) (r : Bool) (w : World) (h : crosswaylaw08_VariOrder.f k a0 a1 = some r) :
    Calls Try.prog 6 #[.int .u64 a0, .int .u64 a1] w fun e w' => e = .returned (.bool r) ∧ Below w.heap.size w w' := by
  have HB := Aside0.mk (Below.refl w.heap.size w)
  have H : ((crosswaylaw08_alive.f k).bind fun t306 => (if t306 = true then ((vari_Put.f k a0).bind fun bt307 => ((vari_Put.f k a1).bind fun bt311 => (if bt307.2 = 0 then (crosswaylaw08_VariOrder.j0 k a0 a1 bt307.1 bt307.2 bt311.1 bt311.2 (bt311.2 != 0)) else (crosswaylaw08_VariOrder.j0 k a0 a1 bt307.1 bt307.2 bt311.1 bt311.2 true)))) else (some false))) = some r := h
  clear h
  replace H := Option.bind_eq_some_iff.mp H
  obtain ⟨t306, A30, H⟩ := H
  replace H : (if t306 = true then ((vari_Put.f k a0).bind fun bt307 => ((vari_Put.f k a1).bind fun bt311 => (if bt307.2 = 0 then (crosswaylaw08_VariOrder.j0 k a0 a1 bt307.1 bt307.2 bt311.1 bt311.2 (bt311.2 != 0)) else (crosswaylaw08_VariOrder.j0 k a0 a1 bt307.1 bt307.2 bt311.1 bt311.2 true)))) else (some false)) = some r := H
  have A3 := Aside0.mk A30
  clear A30
  by_cases c4 : t306 = true
  · subst c4
    have H1 : ((vari_Put.f k a0).bind fun bt307 => ((vari_Put.f k a1).bind fun bt311 => (if bt307.2 = 0 then (crosswaylaw08_VariOrder.j0 k a0 a1 bt307.1 bt307.2 bt311.1 bt311.2 (bt311.2 != 0)) else (crosswaylaw08_VariOrder.j0 k a0 a1 bt307.1 bt307.2 bt311.1 bt311.2 true)))) = some r := by rw [if_pos rfl] at H; exact H
    clear H
    have H := H1
    clear H1
    replace H := Option.bind_eq_some_iff.mp H
    obtain ⟨⟨t307, t308⟩, A50, H⟩ := H
    replace H : ((vari_Put.f k a1).bind fun bt311 => (if t308 = 0 then (crosswaylaw08_VariOrder.j0 k a0 a1 t307 t308 bt311.1 bt311.2 (bt311.2 != 0)) else (crosswaylaw08_VariOrder.j0 k a0 a1 t307 t308 bt311.1 bt311.2 true))) = some r := H
    have A5 := Aside0.mk A50
    clear A50
    replace H := Option.bind_eq_some_iff.mp H
    obtain ⟨⟨t311, t312⟩, A60, H⟩ := H
    replace H : (if t308 = 0 then (crosswaylaw08_VariOrder.j0 k a0 a1 t307 t308 t311 t312 (t312 != 0)) else (crosswaylaw08_VariOrder.j0 k a0 a1 t307 t308 t311 t312 true)) = some r := H
    have A6 := Aside0.mk A60
    clear A60
    have HC7 := Aside0.mk H
    clear H
    go_enter Try.func6, Try.ntmps6
    go_upto_region 5 with (first | ((with_reducible refine gate_callee (f := 7) rfl ?_); refine goesL_ (some 13) rfl rfl Try.func7 (by kernel_rfl) rfl #[] rfl (by (try simp only [List.map_toArray, List.map_cons, List.map_nil]); first | done | rfl | (simp only [List.length_drop, List.length_take]; rfl)) ?_; (with_reducible refine (crosswaylaw08_alive.calls k  true _ A3.out).mono ?_); rintro e w8 ⟨rfl, hb⟩; refine ⟨_, rfl, ?_⟩; have n0_ := Aside0.mk (below_step (by repeat (first | (with_reducible first | exact HB.out | apply below_alloc | apply pw_below_drewN | apply below_drew1) | exact HB.out)) hb); clear HB; have HB := n0_; clear n0_; (try clear hb); (try clear hb2); (try clear hk); (try clear hi)) | ((with_reducible refine gate_callee (f := 8) rfl ?_); refine goesL_ (some 17) rfl rfl Try.func8 (by kernel_rfl) rfl #[.int .u64 a0] rfl (by (try simp only [List.map_toArray, List.map_cons, List.map_nil]); first | done | rfl | (simp only [List.length_drop, List.length_take]; rfl)) ?_; (with_reducible refine (vari_Put.calls k a0 t307 t308 _ A5.out).mono ?_); rintro e w9 ⟨v309, rfl, ho0, hb⟩; refine ⟨_, rfl, ?_⟩; have n0_ := Aside0.mk (Kd.R_lower ho0 (below_size (by repeat (first | (with_reducible first | exact HB.out | apply below_alloc | apply pw_below_drewN | apply below_drew1) | exact HB.out)))); have n1_ := Aside0.mk (below_step (by repeat (first | (with_reducible first | exact HB.out | apply below_alloc | apply pw_below_drewN | apply below_drew1) | exact HB.out)) hb); clear HB; have HO310 := n0_; have HB := n1_; clear n0_ n1_; (try clear hb); (try clear hb2); (try clear hk); (try clear hi); (try clear ho0)) | ((with_reducible refine gate_callee (f := 8) rfl ?_); refine goesL_ (some 22) rfl rfl Try.func8 (by kernel_rfl) rfl #[.int .u64 a1] rfl (by (try simp only [List.map_toArray, List.map_cons, List.map_nil]); first | done | rfl | (simp only [List.length_drop, List.length_take]; rfl)) ?_; (with_reducible refine (vari_Put.calls k a1 t311 t312 _ A6.out).mono ?_); rintro e w10 ⟨v313, rfl, ho0, hb⟩; refine ⟨_, rfl, ?_⟩; have n0_ := Aside0.mk (Kd.R_elder' (by (with_reducible repeat (first | apply Kd.R_alloc | apply Kd.R_drewN | apply Kd.R_drew)); exact HO310.out) (Kd.R_base ho0) hb); have n1_ := Aside0.mk (Kd.R_lower (Kd.R_new' ho0 (Kd.R_lt (by (with_reducible repeat (first | apply Kd.R_alloc | apply Kd.R_drewN | apply Kd.R_drew)); exact HO310.out))) (below_size (by repeat (first | (with_reducible first | exact HB.out | apply below_alloc | apply pw_below_drewN | apply below_drew1) | exact HB.out)))); have n2_ := Aside0.mk (below_step (by repeat (first | (with_reducible first | exact HB.out | apply below_alloc | apply pw_below_drewN | apply below_drew1) | exact HB.out)) hb); clear HO310; clear HB; have HO310 := n0_; have HO314 := n1_; have HB := n2_; clear n0_ n1_ n2_; (try clear hb); (try clear hb2); (try clear hk); (try clear hi); (try clear ho0)))
    (try simp only [Act.put, List.setIfInBounds_toArray, List.set_cons_zero, List.set_cons_succ])
    go_cut [30] (fun v30 wc => ∃ (kq : Nat) (x30_6 : Bool), v30 = .bool x30_6 ∧ Aside0 (crosswaylaw08_VariOrder.j0 kq a0 a1 t307 t308 t311 t312 x30_6 = some r) ∧ Aside0 (kq ≤ k) ∧ Aside0 (Kd.R (Kd.int .u8) 5 wc w.heap.size (fun k_ => some k_ ≠ (v313 : Value).ownBlock) v309 t307) ∧ Aside0 (Kd.R (Kd.int .u8) 5 wc w.heap.size (fun k_ => some k_ ≠ (v309 : Value).ownBlock) v313 t311) ∧ Aside0 (Below w.heap.size w wc))
    case first =>
      have H := HC7.out
      clear HC7
      by_cases c11 : t308 = 0
      · rw [if_pos c11] at H
        have c11b0 : (t308 == 0) = true := beq_iff_eq.mpr c11
        have c11b1 : (t308 != 0) = false := bne_eq_false_iff_eq.mpr c11
        clear c11
        (first | rw [c11b0] | (simp only [i64_w, i32_w]; rw [c11b0]) | skip)
        have H' := Aside0.mk H
        clear H
        go_wp2
        go_meet
        case rel => exact ⟨_, ((t312 != 0)), (by first | rfl | (simp; done) | (simp [*]; done)), H', ⟨by first | omega | exact Nat.le_refl _⟩, ⟨by (with_reducible repeat (first | apply Kd.R_alloc | apply Kd.R_drewN | apply Kd.R_drew)); exact Kd.R_mono HO310.out (fun _ hk => hk.2)⟩, ⟨by (with_reducible repeat (first | apply Kd.R_alloc | apply Kd.R_drewN | apply Kd.R_drew)); exact Kd.R_mono HO314.out (fun _ hk => hk.2)⟩, ⟨by repeat (first | (with_reducible first | exact HB.out | apply below_alloc | apply pw_below_drewN | apply below_drew1) | exact HB.out)⟩⟩
      · rw [if_neg c11] at H
        have c11b0 : (t308 == 0) = false := beq_eq_false_iff_ne.mpr c11
        have c11b1 : (t308 != 0) = true := bne_iff_ne.mpr c11
        (first | rw [c11b0] | (simp only [i64_w, i32_w]; rw [c11b0]) | skip)
        have H' := Aside0.mk H
        clear H
        go_wp2
        go_meet
        case rel => exact ⟨_, (true), (by first | rfl | (simp; done) | (simp [*]; done)), H', ⟨by first | omega | exact Nat.le_refl _⟩, ⟨by (with_reducible repeat (first | apply Kd.R_alloc | apply Kd.R_drewN | apply Kd.R_drew)); exact Kd.R_mono HO310.out (fun _ hk => hk.2)⟩, ⟨by (with_reducible repeat (first | apply Kd.R_alloc | apply Kd.R_drewN | apply Kd.R_drew)); exact Kd.R_mono HO314.out (fun _ hk => hk.2)⟩, ⟨by repeat (first | (with_reducible first | exact HB.out | apply below_alloc | apply pw_below_drewN | apply below_drew1) | exact HB.out)⟩⟩
    case rest =>
      clear HC7
      try clear c1
      try clear p2
      try clear c4
      try clear c6
      try clear c7
      try clear c8
      try clear c11
      try clear c11b0
      try clear c11b1
      obtain ⟨kq, x30_6, rfl, HA, HJ6, HO_5, HO_7, HB⟩ := hcut
      cases kq with
      | zero => exact absurd HA.out (by simp [crosswaylaw08_VariOrder.j0])
      | succ kj6 =>
        have H := HA.out
        clear HA
        simp only [crosswaylaw08_VariOrder.j0] at H
        by_cases c12 : x30_6 = true
        · subst c12
          have H1 : (if ((t308 == 0) == (decide (a0 < 4611686018427387904))) = true then (some ((t312 == 0) == (decide (a1 < 4611686018427387904)))) else (some false)) = some r := by rw [if_pos rfl] at H; exact H
          clear H
          have H := H1
          clear H1
          by_cases c13 : ((t308 == 0) == (decide (a0 < 4611686018427387904))) = true
          · rw [if_pos c13] at H
            have c13b0 : ((t308 == 0) == (decide (a0 < 4611686018427387904))) = true := c13
            (try (have c13b1 : decide ((t308 == 0) = (decide (a0 < 4611686018427387904))) = true := by simpa using c13))
            (try (have c13b2 : ((t308 == 0) == (decide (a0 < 4611686018427387904))) = true := by simpa using c13))
            clear c13
            obtain rfl := Option.some.inj H
            go_wp2
            go_ret
            exact ⟨by first | rfl | (simp [errW_none, errW_some] <;> rfl) | (simp [*, errW_none, errW_some] <;> rfl), by repeat (first | (with_reducible first | exact HB.out | apply below_alloc | apply pw_below_drewN | apply below_drew1) | exact HB.out)⟩
          · rw [if_neg c13] at H
            have c13b0 : ((t308 == 0) == (decide (a0 < 4611686018427387904))) = false := by simpa using c13
            (try (have c13b1 : decide ((t308 == 0) = (decide (a0 < 4611686018427387904))) = false := by simpa using c13))
            (try (have c13b2 : ((t308 == 0) == (decide (a0 < 4611686018427387904))) = false := by simpa using c13))
            (try (have c13b3 : ¬ ((t308 == 0) = (decide (a0 < 4611686018427387904))) := by simpa using c13))
            clear c13
            obtain rfl := Option.some.inj H
            go_wp2
            go_ret
            exact ⟨by first | rfl | (simp [errW_none, errW_some] <;> rfl) | (simp [*, errW_none, errW_some] <;> rfl), by repeat (first | (with_reducible first | exact HB.out | apply below_alloc | apply pw_below_drewN | apply below_drew1) | exact HB.out)⟩
        · replace c12 := Bool.eq_false_iff.mpr c12
          subst c12
          have H1 : (crosswaylaw08_VariOrder.l0 kj6 a0 a1 t307 t311 0) = some r := by rw [if_neg (show ¬ (false = true) by decide)] at H; exact H
          clear H
          have H := H1
          clear H1
          have H' := Aside0.mk H
          clear H
          go_wp2
          go_loopg [9] kj6 (fun kq v9 w' => ∃ (x9_2 : Int), v9 = .int .i64 x9_2 ∧ Aside0 (crosswaylaw08_VariOrder.l0 kq a0 a1 t307 t311 x9_2 = some r) ∧ Aside0 (kq ≤ kj6) ∧ Aside0 (Kd.R (Kd.int .u8) 5 w' w.heap.size (fun k_ => some k_ ≠ (v313 : Value).ownBlock) v309 t307) ∧ Aside0 (Kd.R (Kd.int .u8) 5 w' w.heap.size (fun k_ => some k_ ≠ (v309 : Value).ownBlock) v313 t311) ∧ Aside0 (Below w.heap.size w w'))
          case atStart => exact ⟨(0), (by first | rfl | (simp; done) | (simp [*]; done)), H', ⟨Nat.le_refl _⟩, ⟨by (with_reducible repeat (first | apply Kd.R_alloc | apply Kd.R_drewN | apply Kd.R_drew)); exact HO_5.out⟩, ⟨by (with_reducible repeat (first | apply Kd.R_alloc | apply Kd.R_drewN | apply Kd.R_drew)); exact HO_7.out⟩, ⟨by repeat (first | (with_reducible first | exact HB.out | apply below_alloc | apply pw_below_drewN | apply below_drew1) | exact HB.out)⟩⟩
          case round =>
            clear H'
            try clear c1
            try clear p2
            try clear c4
            try clear c6
            try clear c7
            try clear c8
            try clear c11
            try clear c11b0
            try clear c11b1
            try clear c12
            try clear c13
            try clear c13b0
            try clear c13b1
            try clear c13b2
            try clear p2
            obtain ⟨x9_2, rfl, HA, HK2, HO_5, HO_7, HB⟩ := hrel
            cases gk with
            | zero => exact absurd HA.out (by simp [crosswaylaw08_VariOrder.l0])
            | succ k2 =>
              have H := HA.out
              clear HA
              simp only [crosswaylaw08_VariOrder.l0] at H
              by_cases c14 : x9_2 < (t307.length : Int)
              · rw [if_pos c14] at H
                have c14b0 : decide (x9_2 < (t307.length : Int)) = true := decide_eq_true c14
                clear c14
                by_cases c15 : 0 ≤ x9_2
                · rw [if_pos c15] at H
                  have c15b0 := eq_true c15
                  have c15b1 : decide (0 ≤ x9_2) = true := decide_eq_true c15
                  clear c15
                  by_cases c16 : x9_2 ≤ (t307.length : Int)
                  · rw [if_pos c16] at H
                    have c16b0 := eq_true c16
                    have c16b1 : decide (x9_2 ≤ (t307.length : Int)) = true := decide_eq_true c16
                    clear c16
                    obtain ⟨y315, hy315⟩ : ∃ y_ : List Int, y_ = (t307.take (x9_2 : Int).toNat) := ⟨_, rfl⟩
                    replace H : ((vari_Take.f k2 y315).bind fun bt319 => (if bt319.2.2 = 12 then (crosswaylaw08_VariOrder.l0 k2 a0 a1 t307 t311 (wrap64 (x9_2 + 1))) else (some false))) = some r := by first | (rw [hy315]; with_reducible exact H) | (have H2_ := (Option.bind_some _ _).symm.trans H; rw [hy315]; with_reducible exact H2_) | (have H2_ := (Option.bind_some _ _).symm.trans H; with_reducible exact H2_) | with_reducible exact H | (rw [hy315]; exact H) | exact H
                    have Ny315 := Aside0.mk hy315
                    clear hy315
                    replace H := Option.bind_eq_some_iff.mp H
                    obtain ⟨⟨t319, t320, t321⟩, A170, H⟩ := H
                    replace H : (if t321 = 12 then (crosswaylaw08_VariOrder.l0 k2 a0 a1 t307 t311 (wrap64 (x9_2 + 1))) else (some false)) = some r := H
                    have A17 := Aside0.mk A170
                    clear A170
                    by_cases c18 : t321 = 12
                    · rw [if_pos c18] at H
                      have c18b0 : (t321 == 12) = true := beq_iff_eq.mpr c18
                      have c18b1 : (t321 != 12) = false := bne_eq_false_iff_eq.mpr c18
                      clear c18
                      have H' := Aside0.mk H
                      clear H
                      obtain ⟨Ao19, co19, eo19⟩ := Kd.R_slice HO_5.out
                      subst eo19
                      have q20 : (x9_2 : Int) ≤ ((t307.length : Int) : Int) := of_decide_eq_true (by first | (with_reducible assumption) | assumption)
                      obtain ⟨i020, hi020, _, hsz20, _⟩ := info_parts info5
                      have hroom20 : t307.length ≤ co19 := (Kd.R_reads' HO_5.out).2.1
                      have hC20 : Kd.C (Kd.int .u8) _ Ao19 t307.length t307 := (Kd.R_reads' HO_5.out).2.2
                      have hcut20 := cut_to (P := Try.prog) 25 5 .i64 Try.underlying25 hi020 Ao19 t307.length co19 x9_2 (of_decide_eq_true (by first | (with_reducible assumption) | assumption)) q20 hroom20
                      have hr20 := Kd.C_take (m := (x9_2 : Int).toNat) hC20 (by omega)
                      have hy20 : y315.length = (x9_2 : Int).toNat := (by rw [Ny315.out, List.length_take]; omega)
                      rw [← Ny315.out] at hr20
                      rw [← hy20] at hcut20
                      have HR318 := Aside0.mk hr20
                      have HC318 := Aside0.mk (show y315.length ≤ co19 from by omega)
                      clear hr20 hC20 hroom20 hi020 hsz20
                      have KY20 := Aside0.mk hy20
                      clear hy20
                      have KL20 := Aside0.mk (show (x9_2 : Int).toNat ≤ t307.length from by omega)
                      replace q20 := eq_true q20
                      go_wp2_with (first | ((with_reducible refine gate_callee (f := 18) rfl ?_); refine goesL_ (some 53) rfl rfl Try.func18 (by kernel_rfl) rfl #[.slice Ao19 y315.length co19] rfl (by (try simp only [List.map_toArray, List.map_cons, List.map_nil]); first | done | rfl | (simp only [List.length_drop, List.length_take]; rfl)) ?_; (with_reducible refine (vari_Take.calls k2 _ _ y315 t319 t320 t321 _ ?side1 ?side2 A17.out).mono ?_); (case side1 => repeat (first | exact (by repeat (first | (with_reducible exact HR318.out) | (with_reducible refine Kd.C_alloc ?_ _) | (with_reducible refine Kd.C_drewN ?_ _) | (with_reducible refine Kd.C_drew ?_) | exact HR318.out)) | (with_reducible refine Kd.C_alloc ?_ _) | (with_reducible refine Kd.C_drewN ?_ _) | (with_reducible refine Kd.C_drew ?_))); (case side2 => exact HC318.out); rintro e w' ⟨rfl, ⟨nd, rfl⟩⟩; refine ⟨_, rfl, ?_⟩))
                      go_roundg k2
                      case measure => have := HJ6.out; have := HK2.out; omega
                      case rel => exact ⟨(wrap64 (x9_2 + 1)), (by first | rfl | (simp; done) | (simp [*]; done)), H', ⟨by have := HJ6.out; have := HK2.out; omega⟩, ⟨by (with_reducible repeat (first | apply Kd.R_alloc | apply Kd.R_drewN | apply Kd.R_drew)); exact HO_5.out⟩, ⟨by (with_reducible repeat (first | apply Kd.R_alloc | apply Kd.R_drewN | apply Kd.R_drew)); exact HO_7.out⟩, ⟨by repeat (first | (with_reducible first | exact HB.out | apply below_alloc | apply pw_below_drewN | apply below_drew1) | exact HB.out)⟩⟩
                    · rw [if_neg c18] at H
                      have c18b0 : (t321 == 12) = false := beq_eq_false_iff_ne.mpr c18
                      have c18b1 : (t321 != 12) = true := bne_iff_ne.mpr c18
                      obtain rfl := Option.some.inj H
                      obtain ⟨Ao21, co21, eo21⟩ := Kd.R_slice HO_5.out
                      subst eo21
                      have q22 : (x9_2 : Int) ≤ ((t307.length : Int) : Int) := of_decide_eq_true (by first | (with_reducible assumption) | assumption)
                      obtain ⟨i022, hi022, _, hsz22, _⟩ := info_parts info5
                      have hroom22 : t307.length ≤ co21 := (Kd.R_reads' HO_5.out).2.1
                      have hC22 : Kd.C (Kd.int .u8) _ Ao21 t307.length t307 := (Kd.R_reads' HO_5.out).2.2
                      have hcut22 := cut_to (P := Try.prog) 25 5 .i64 Try.underlying25 hi022 Ao21 t307.length co21 x9_2 (of_decide_eq_true (by first | (with_reducible assumption) | assumption)) q22 hroom22
                      have hr22 := Kd.C_take (m := (x9_2 : Int).toNat) hC22 (by omega)
                      have hy22 : y315.length = (x9_2 : Int).toNat := (by rw [Ny315.out, List.length_take]; omega)
                      rw [← Ny315.out] at hr22
                      rw [← hy22] at hcut22
                      have HR318 := Aside0.mk hr22
                      have HC318 := Aside0.mk (show y315.length ≤ co21 from by omega)
                      clear hr22 hC22 hroom22 hi022 hsz22
                      have KY22 := Aside0.mk hy22
                      clear hy22
                      have KL22 := Aside0.mk (show (x9_2 : Int).toNat ≤ t307.length from by omega)
                      replace q22 := eq_true q22
                      go_wp2_with (first | ((with_reducible refine gate_callee (f := 18) rfl ?_); refine goesL_ (some 53) rfl rfl Try.func18 (by kernel_rfl) rfl #[.slice Ao21 y315.length co21] rfl (by (try simp only [List.map_toArray, List.map_cons, List.map_nil]); first | done | rfl | (simp only [List.length_drop, List.length_take]; rfl)) ?_; (with_reducible refine (vari_Take.calls k2 _ _ y315 t319 t320 t321 _ ?side1 ?side2 A17.out).mono ?_); (case side1 => repeat (first | exact (by repeat (first | (with_reducible exact HR318.out) | (with_reducible refine Kd.C_alloc ?_ _) | (with_reducible refine Kd.C_drewN ?_ _) | (with_reducible refine Kd.C_drew ?_) | exact HR318.out)) | (with_reducible refine Kd.C_alloc ?_ _) | (with_reducible refine Kd.C_drewN ?_ _) | (with_reducible refine Kd.C_drew ?_))); (case side2 => exact HC318.out); rintro e w' ⟨rfl, ⟨nd, rfl⟩⟩; refine ⟨_, rfl, ?_⟩))
                      go_ret
                      exact ⟨by first | rfl | (simp [errW_none, errW_some] <;> rfl) | (simp [*, errW_none, errW_some] <;> rfl), by repeat (first | (with_reducible first | exact HB.out | apply below_alloc | apply pw_below_drewN | apply below_drew1) | exact HB.out)⟩
                  · rw [if_neg c16] at H
                    exact absurd H (by simp)
                · rw [if_neg c15] at H
                  exact absurd H (by simp)
              · rw [if_neg c14] at H
                have c14b0 : decide (x9_2 < (t307.length : Int)) = false := decide_eq_false c14
                clear c14
                by_cases c23 : a0 ≥ a1
                · rw [if_pos c23] at H
                  have c23b0 : decide (a1 ≤ a0) = true := decide_eq_true c23
                  clear c23
                  obtain rfl := Option.some.inj H
                  obtain ⟨Ao24, co24, eo24⟩ := Kd.R_slice HO_5.out
                  subst eo24
                  go_wp2
                  go_ret
                  exact ⟨by first | rfl | (simp [errW_none, errW_some] <;> rfl) | (simp [*, errW_none, errW_some] <;> rfl), by repeat (first | (with_reducible first | exact HB.out | apply below_alloc | apply pw_below_drewN | apply below_drew1) | exact HB.out)⟩
                · rw [if_neg c23] at H
                  have c23b0 : decide (a1 ≤ a0) = false := decide_eq_false c23
                  clear c23
                  by_cases c25 : (t307.length : Int) < (t311.length : Int)
                  · rw [if_pos c25] at H
                    have c25b0 : decide ((t307.length : Int) < (t311.length : Int)) = true := decide_eq_true c25
                    have c25b1 : decide (t307.length < t311.length) = true := decide_eq_true (Int.ofNat_lt.mp c25)
                    clear c25
                    obtain rfl := Option.some.inj H
                    obtain ⟨Ao26, co26, eo26⟩ := Kd.R_slice HO_5.out
                    subst eo26
                    obtain ⟨Ao27, co27, eo27⟩ := Kd.R_slice HO_7.out
                    subst eo27
                    go_wp2
                    go_ret
                    exact ⟨by first | rfl | (simp [errW_none, errW_some] <;> rfl) | (simp [*, errW_none, errW_some] <;> rfl), by repeat (first | (with_reducible first | exact HB.out | apply below_alloc | apply pw_below_drewN | apply below_drew1) | exact HB.out)⟩
                  · rw [if_neg c25] at H
                    have c25b0 : decide ((t307.length : Int) < (t311.length : Int)) = false := decide_eq_false c25
                    have c25b1 : decide (t307.length < t311.length) = false := decide_eq_false (fun h => c25 (Int.ofNat_lt.mpr h))
                    clear c25
                    by_cases c28 : (t307.length : Int) = (t311.length : Int)
                    · rw [if_pos c28] at H
                      have c28b0 : ((t307.length : Int) == (t311.length : Int)) = true := beq_iff_eq.mpr c28
                      have c28b1 : ((t307.length : Int) != (t311.length : Int)) = false := bne_eq_false_iff_eq.mpr c28
                      have c28b2 : (t307.length == t311.length) = true := by first | simpa using c28 | (simp at c28 ⊢; omega)
                      clear c28
                      obtain rfl := Option.some.inj H
                      obtain ⟨Ao29, co29, eo29⟩ := Kd.R_slice HO_5.out
                      subst eo29
                      obtain ⟨Ao30, co30, eo30⟩ := Kd.R_slice HO_7.out
                      subst eo30
                      have hcv31 := own_string (P := Try.prog) Try.underlying25 Try.underlying5 Try.underlying9 (Kd.own_of_R HO_5.out)
                      have hcv32 := own_string (P := Try.prog) Try.underlying25 Try.underlying5 Try.underlying9 (Kd.own_of_R HO_7.out)
                      go_wp2
                      go_ret
                      exact ⟨by first | rfl | (simp [errW_none, errW_some] <;> rfl) | (simp [*, errW_none, errW_some] <;> rfl), by repeat (first | (with_reducible first | exact HB.out | apply below_alloc | apply pw_below_drewN | apply below_drew1) | exact HB.out)⟩
                    · rw [if_neg c28] at H
                      have c28b0 : ((t307.length : Int) == (t311.length : Int)) = false := beq_eq_false_iff_ne.mpr c28
                      have c28b1 : ((t307.length : Int) != (t311.length : Int)) = true := bne_iff_ne.mpr c28
                      have c28b2 : (t307.length == t311.length) = false := by first | simpa using c28 | (simp at c28 ⊢; omega)
                      obtain rfl := Option.some.inj H
                      obtain ⟨Ao33, co33, eo33⟩ := Kd.R_slice HO_5.out
                      subst eo33
                      obtain ⟨Ao34, co34, eo34⟩ := Kd.R_slice HO_7.out
                      subst eo34
                      go_wp2
                      go_ret
                      exact ⟨by first | rfl | (simp [errW_none, errW_some] <;> rfl) | (simp [*, errW_none, errW_some] <;> rfl), by repeat (first | (with_reducible first | exact HB.out | apply below_alloc | apply pw_below_drewN | apply below_drew1) | exact HB.out)⟩
  · replace c4 := Bool.eq_false_iff.mpr c4
    subst c4
    have H1 : (some false) = some r := by rw [if_neg (show ¬ (false = true) by decide)] at H; exact H
    clear H
    have H := H1
    clear H1
    obtain rfl := Option.some.inj H
    go_enter Try.func6, Try.ntmps6
    go_wp2_with (first | ((with_reducible refine gate_callee (f := 7) rfl ?_); refine goesL_ (some 13) rfl rfl Try.func7 (by kernel_rfl) rfl #[] rfl (by (try simp only [List.map_toArray, List.map_cons, List.map_nil]); first | done | rfl | (simp only [List.length_drop, List.length_take]; rfl)) ?_; (with_reducible refine (crosswaylaw08_alive.calls k  false _ A3.out).mono ?_); rintro e w35 ⟨rfl, hb⟩; refine ⟨_, rfl, ?_⟩; have n0_ := Aside0.mk (below_step (by repeat (first | (with_reducible first | exact HB.out | apply below_alloc | apply pw_below_drewN | apply below_drew1) | exact HB.out)) hb); clear HB; have HB := n0_; clear n0_; (try clear hb); (try clear hb2); (try clear hk); (try clear hi)))
    go_ret
    exact ⟨by first | rfl | (simp [errW_none, errW_some] <;> rfl) | (simp [*, errW_none, errW_some] <;> rfl), by repeat (first | (with_reducible first | exact HB.out | apply below_alloc | apply pw_below_drewN | apply below_drew1) | exact HB.out)⟩

/-- The one pure statement of crosswaylaw08_VariOrder. -/
def crosswaylaw08_VariOrder.Pure : Prop := ∀ (a0 : Int) (a1 : Int), (Lit.int .u64 a0).wf = true → (Lit.int .u64 a1).wf = true → ∃ k, crosswaylaw08_VariOrder.f k a0 a1 = some true

end Go.Proofs.Ytbiiccgheblhpab.M
