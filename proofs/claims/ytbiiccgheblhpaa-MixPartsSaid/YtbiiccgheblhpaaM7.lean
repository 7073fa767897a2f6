/- Contracts of the Go functions that the laws reach, each as a plain Lean function: written by xprint.py, a program of this repo. -/
import Derived.Test.YtbiiccgheblhpaaM0
import Derived.Test.YtbiiccgheblhpaaM1
import Derived.Test.YtbiiccgheblhpaaM2
import Derived.Test.YtbiiccgheblhpaaM6
namespace Go.Proofs.Ytbiiccgheblhpaa.M
open Go.RowKit Go.Proofs.YtbiiccgheblhpaaW.PrintWords Go.Proofs.YtbiiccgheblhpaaW.PrintLast Go.Proofs.YtbiiccgheblhpaaW.PrintMore Go.Proofs.Ytbiiccgheblhpaa.X
attribute [local go_sem] max2_int min2_int max_two min_two max_three min_three max_four min_four   -- for this text's walks alone
set_option linter.unusedVariables false
set_option linter.unusedSimpArgs false

/-! ### crosswaylaw22_MixParts: function 5 -/
def crosswaylaw22_MixParts.j0 : Nat → Int → List Int → Int → Bool → Option (Bool)
  | 0, _, _, _, _ => none
  | k + 1, x0, x1, x2, x23 => if x23 = true then (some true) else ((mix_Fold.f k x0 x1).bind fun t183 => (if 0 ≤ x2 then (if x2 ≤ (x1.length : Int) then ((mix_Fold.f k x0 (x1.take (x2 : Int).toNat)).bind fun t189 => ((mix_Fold.f k t189 (x1.drop (x2 : Int).toNat)).bind fun t195 => (if t183 = t195 then ((crosswaylaw22_MixParts_1.f x2).bind fun t196 => ((mix_Fold.f k (Go.bits .xor .u64 14695981039346656037 x0) t196).bind fun t199 => ((mix_Fold.f k t199 (x1.take (x2 : Int).toNat)).bind fun t205 => ((crosswaylaw22_MixParts_1.f (wrap64 ((x1.length : Int) - x2))).bind fun t206 => ((mix_Fold.f k t205 t206).bind fun t209 => ((mix_Fold.f k t209 (x1.drop (x2 : Int).toNat)).bind fun t215 => ((mix_Mix.f k x0 (([(x1.take (x2 : Int).toNat), (x1.drop (x2 : Int).toNat)] : List (List Int)))).bind fun t229 => ((mix_End.f t215).bind fun t230 => (if t229 = t230 then ((mix_Mix.f k x0 ([] : List (List Int))).bind fun t231 => ((mix_End.f (Go.bits .xor .u64 14695981039346656037 x0)).bind fun t232 => (some (t231 == t232)))) else (some false)))))))))) else (some false)))) else (none)) else (none)))
def crosswaylaw22_MixParts.f (k : Nat) (a0 : Int) (l1 : List Int) (a2 : Int) : Option (Bool) := (crosswaylaw22_alive.f k).bind fun t182 => (if t182 = true then (if (l1.length : Int) > 300 then (crosswaylaw22_MixParts.j0 k a0 l1 a2 true) else (if a2 < 0 then (crosswaylaw22_MixParts.j0 k a0 l1 a2 true) else (crosswaylaw22_MixParts.j0 k a0 l1 a2 (decide (a2 > (l1.length : Int)))))) else (some false))
theorem crosswaylaw22_MixParts.mono_l : ∀ k, (∀ y0 y1 y2 y3, LeO (crosswaylaw22_MixParts.j0 k y0 y1 y2 y3) (crosswaylaw22_MixParts.j0 (k + 1) y0 y1 y2 y3))
  | 0 => fun _ _ _ _ r h => by simp [crosswaylaw22_MixParts.j0] at h
  | k + 1 => by
    have ih0 := crosswaylaw22_MixParts.mono_l k
    · intro y0 y1 y2 y3
      unfold crosswaylaw22_MixParts.j0
      repeat' first
      | (with_reducible exact ih0 _ _ _ _)
      | (with_reducible exact crosswaylaw22_alive.mono _)
      | (with_reducible exact mix_Fold.mono _ _ _)
      | (with_reducible exact mix_Mix.mono _ _ _)
      | (with_reducible exact LeO.refl _)
      | (with_reducible exact LeO.none _)
      | (with_reducible refine LeO.ite ?_ ?_)
      | (with_reducible refine LeO.bind ?_ (fun _ => ?_))
      | exact ih0 _ _ _ _
      | exact crosswaylaw22_alive.mono _
      | exact mix_Fold.mono _ _ _
      | exact mix_Mix.mono _ _ _
      | exact LeO.none _
      | refine LeO.ite ?_ ?_
      | refine LeO.bind ?_ (fun _ => ?_)
theorem crosswaylaw22_MixParts.mono : ∀ a0 a1 a2 k, LeO (crosswaylaw22_MixParts.f k a0 a1 a2) (crosswaylaw22_MixParts.f (k + 1) a0 a1 a2) := by
  intro a0 a1 a2 k
  have ih0 := crosswaylaw22_MixParts.mono_l k
  unfold crosswaylaw22_MixParts.f
  repeat' first
      | (with_reducible exact ih0 _ _ _ _)
      | (with_reducible exact crosswaylaw22_alive.mono _)
      | (with_reducible exact mix_Fold.mono _ _ _)
      | (with_reducible exact mix_Mix.mono _ _ _)
      | (with_reducible exact LeO.refl _)
      | (with_reducible exact LeO.none _)
      | (with_reducible refine LeO.ite ?_ ?_)
      | (with_reducible refine LeO.bind ?_ (fun _ => ?_))
      | exact ih0 _ _ _ _
      | exact crosswaylaw22_alive.mono _
      | exact mix_Fold.mono _ _ _
      | exact mix_Mix.mono _ _ _
      | exact LeO.none _
      | refine LeO.ite ?_ ?_
      | refine LeO.bind ?_ (fun _ => ?_)
def crosswaylaw22_MixParts.T6 : Bool × List (List Nat × List Nat) := (true, [([], []), ([], []), ([0, 1], [0, 1]), ([], []), ([], []), ([], []), ([4, 5], [4, 5]), ([3, 6, 2], [3, 6]), ([], []), ([], []), ([8, 9], [8, 9]), ([7, 10, 7], [7, 10]), ([2, 11], [2, 11])])
def crosswaylaw22_MixParts.B6 : List Nat := [0, 0, 3, 0, 0, 0, 48, 127, 0, 0, 768, 2047, 4095]
theorem crosswaylaw22_MixParts.tab6 : rtab .any (opsOf Try.f5 6) = crosswaylaw22_MixParts.T6 := by kernel_rfl
theorem crosswaylaw22_MixParts.bits6 : waitsOk crosswaylaw22_MixParts.T6.2 crosswaylaw22_MixParts.B6 = true := by kernel_rfl
def crosswaylaw22_MixParts.T12 : Bool × List (List Nat × List Nat) := (true, [([], []), ([], []), ([], []), ([1, 2], [1, 2]), ([], []), ([], []), ([4, 5], [4, 5]), ([3, 6], [3, 6]), ([0, 7], [0, 7]), ([], []), ([9, 8], [9]), ([8, 10], [8, 10]), ([11, 10], [11]), ([12], [12]), ([13, 12, 12], [12, 13]), ([12], [12]), ([15, 12], [12, 15]), ([16, 14, 12], [12, 16]), ([14, 17, 12], [12, 14, 17]), ([12, 18], [12, 18]), ([19, 17, 0, 1, 2, 3, 4, 5, 6, 7, 8, 9, 10, 11, 12, 13, 14, 15, 16, 17, 18, 19], [19])])
def crosswaylaw22_MixParts.B12 : List Nat := [0, 0, 0, 6, 0, 0, 48, 126, 255, 0, 1023, 2047, 4095, 8191, 16383, 8191, 40959, 131071, 262143, 524287, 1048575]
theorem crosswaylaw22_MixParts.tab12 : rtab .any (opsOf Try.f5 12) = crosswaylaw22_MixParts.T12 := by kernel_rfl
theorem crosswaylaw22_MixParts.bits12 : waitsOk crosswaylaw22_MixParts.T12.2 crosswaylaw22_MixParts.B12 = true := by kernel_rfl
set_option maxHeartbeats 8000000 in
set_option maxRecDepth 100000 in
theorem crosswaylaw22_MixParts.calls (k : Nat) (a0 : Int) (P1_ : Nat → Prop) (A1 : Option Addr) (c1 : Nat) (l1 : List Int) (a2 : Int) (r : Bool) (w : World) (hs1 : Kd.V (Kd.int .u8) 5 w w.heap.size (fun k_ => P1_ k_) (.slice A1 l1.length c1) l1) (h : crosswaylaw22_MixParts.f k a0 l1 a2 = some r) :
    Calls Try.prog 5 #[.int .u64 a0, .slice A1 l1.length c1, .int .i64 a2] w fun e w' => e = .returned (.bool r) ∧ Below w.heap.size w w' := by
  have HO1 := Aside0.mk (show Kd.V (Kd.int .u8) 5 w w.heap.size (fun k_ => (P1_ k_ ∨ w.heap.size ≤ k_)) (.slice A1 l1.length c1) l1 from Kd.V_mono hs1 (fun k_ hk => .inl hk))
  have HB := Aside0.mk (Below.refl w.heap.size w)
  have H : ((crosswaylaw22_alive.f k).bind fun t182 => (if t182 = true then (if (l1.length : Int) > 300 then (crosswaylaw22_MixParts.j0 k a0 l1 a2 true) else (if a2 < 0 then (crosswaylaw22_MixParts.j0 k a0 l1 a2 true) else (crosswaylaw22_MixParts.j0 k a0 l1 a2 (decide (a2 > (l1.length : Int)))))) else (some false))) = some r := h
  clear h
  replace H := Option.bind_eq_some_iff.mp H
  obtain ⟨t182, A40, H⟩ := H
  replace H : (if t182 = true then (if (l1.length : Int) > 300 then (crosswaylaw22_MixParts.j0 k a0 l1 a2 true) else (if a2 < 0 then (crosswaylaw22_MixParts.j0 k a0 l1 a2 true) else (crosswaylaw22_MixParts.j0 k a0 l1 a2 (decide (a2 > (l1.length : Int)))))) else (some false)) = some r := H
  have A4 := Aside0.mk A40
  clear A40
  by_cases c5 : t182 = true
  · subst c5
    have H1 : (if (l1.length : Int) > 300 then (crosswaylaw22_MixParts.j0 k a0 l1 a2 true) else (if a2 < 0 then (crosswaylaw22_MixParts.j0 k a0 l1 a2 true) else (crosswaylaw22_MixParts.j0 k a0 l1 a2 (decide (a2 > (l1.length : Int)))))) = some r := by rw [if_pos rfl] at H; exact H
    clear H
    have H := H1
    clear H1
    have HC6 := Aside0.mk H
    clear H
    go_enter Try.func5, Try.ntmps5
    go_upto_region 3 with (first | ((with_reducible refine gate_callee (f := 7) rfl ?_); refine goesL_ (some 9) rfl rfl Try.func7 (by kernel_rfl) rfl #[] rfl (by (try simp only [List.map_toArray, List.map_cons, List.map_nil]); first | done | rfl | (simp only [List.length_drop, List.length_take]; rfl)) ?_; (with_reducible refine (crosswaylaw22_alive.calls k  true _ A4.out).mono ?_); rintro e w7 ⟨rfl, hb⟩; refine ⟨_, rfl, ?_⟩; have n0_ := Aside0.mk (Kd.V_below (by (with_reducible repeat (first | apply Kd.V_alloc | apply Kd.V_drewN | apply Kd.V_drew)); exact HO1.out) hb); have n1_ := Aside0.mk (below_step (by repeat (first | (with_reducible first | exact HB.out | apply below_alloc | apply pw_below_drewN | apply below_drew1) | exact HB.out)) hb); clear HO1; clear HB; have HO1 := n0_; have HB := n1_; clear n0_ n1_; (try clear hb); (try clear hb2); (try clear hk); (try clear hi)))
    (try simp only [Act.put, List.setIfInBounds_toArray, List.set_cons_zero, List.set_cons_succ])
    go_cut [23] (fun v23 wc => ∃ (kq : Nat) (x23_5 : Bool), v23 = .bool x23_5 ∧ Aside0 (crosswaylaw22_MixParts.j0 kq a0 l1 a2 x23_5 = some r) ∧ Aside0 (kq ≤ k) ∧ Aside0 (Kd.V (Kd.int .u8) 5 wc w.heap.size (fun k_ => (P1_ k_ ∨ w.heap.size ≤ k_)) (.slice A1 l1.length c1) l1) ∧ Aside0 (Below w.heap.size w wc))
    case first =>
      have H := HC6.out
      clear HC6
      by_cases c8 : (l1.length : Int) > 300
      · rw [if_pos c8] at H
        have c8b0 : decide (300 < (l1.length : Int)) = true := decide_eq_true c8
        have c8b1 : decide (300 < l1.length) = true := decide_eq_true (by omega)
        clear c8
        (first | rw [c8b0] | (simp only [i64_w, i32_w]; rw [c8b0]) | skip)
        have H' := Aside0.mk H
        clear H
        go_wp2
        go_meet
        case rel => exact ⟨_, (true), (by first | rfl | (simp; done) | (simp [*]; done)), H', ⟨by first | omega | exact Nat.le_refl _⟩, ⟨by (with_reducible repeat (first | apply Kd.V_alloc | apply Kd.V_drewN | apply Kd.V_drew)); exact HO1.out⟩, ⟨by repeat (first | (with_reducible first | exact HB.out | apply below_alloc | apply pw_below_drewN | apply below_drew1) | exact HB.out)⟩⟩
      · rw [if_neg c8] at H
        have c8b0 : decide (300 < (l1.length : Int)) = false := decide_eq_false c8
        have c8b1 : decide (300 < l1.length) = false := decide_eq_false (by omega)
        clear c8
        (first | rw [c8b0] | (simp only [i64_w, i32_w]; rw [c8b0]) | skip)
        by_cases c9 : a2 < 0
        · rw [if_pos c9] at H
          have c9b0 : decide (a2 < 0) = true := decide_eq_true c9
          clear c9
          have H' := Aside0.mk H
          clear H
          go_wp2
          go_meet
          case rel => exact ⟨_, (true), (by first | rfl | (simp; done) | (simp [*]; done)), H', ⟨by first | omega | exact Nat.le_refl _⟩, ⟨by (with_reducible repeat (first | apply Kd.V_alloc | apply Kd.V_drewN | apply Kd.V_drew)); exact HO1.out⟩, ⟨by repeat (first | (with_reducible first | exact HB.out | apply below_alloc | apply pw_below_drewN | apply below_drew1) | exact HB.out)⟩⟩
        · rw [if_neg c9] at H
          have c9b0 : decide (a2 < 0) = false := decide_eq_false c9
          clear c9
          have H' := Aside0.mk H
          clear H
          go_wp2
          go_meet
          case rel => exact ⟨_, (decide (a2 > (l1.length : Int))), (by first | rfl | (simp; done) | (simp [*]; done)), H', ⟨by first | omega | exact Nat.le_refl _⟩, ⟨by (with_reducible repeat (first | apply Kd.V_alloc | apply Kd.V_drewN | apply Kd.V_drew)); exact HO1.out⟩, ⟨by repeat (first | (with_reducible first | exact HB.out | apply below_alloc | apply pw_below_drewN | apply below_drew1) | exact HB.out)⟩⟩
    case rest =>
      clear HC6
      try clear c1
      try clear p2
      try clear c5
      try clear c7
      try clear c8
      try clear c8b0
      try clear c8b1
      try clear c9
      try clear c9b0
      obtain ⟨kq, x23_5, rfl, HA, HJ5, HO_1, HB⟩ := hcut
      cases kq with
      | zero => exact absurd HA.out (by simp [crosswaylaw22_MixParts.j0])
      | succ kj5 =>
        have H := HA.out
        clear HA
        simp only [crosswaylaw22_MixParts.j0] at H
        by_cases c10 : x23_5 = true
        · subst c10
          have H1 : (some true) = some r := by rw [if_pos rfl] at H; exact H
          clear H
          have H := H1
          clear H1
          obtain rfl := Option.some.inj H
          go_wp2
          go_ret
          exact ⟨by first | rfl | (simp [errW_none, errW_some] <;> rfl) | (simp [*, errW_none, errW_some] <;> rfl), by repeat (first | (with_reducible first | exact HB.out | apply below_alloc | apply pw_below_drewN | apply below_drew1) | exact HB.out)⟩
        · replace c10 := Bool.eq_false_iff.mpr c10
          subst c10
          have H1 : ((mix_Fold.f kj5 a0 l1).bind fun t183 => (if 0 ≤ a2 then (if a2 ≤ (l1.length : Int) then ((mix_Fold.f kj5 a0 (l1.take (a2 : Int).toNat)).bind fun t189 => ((mix_Fold.f kj5 t189 (l1.drop (a2 : Int).toNat)).bind fun t195 => (if t183 = t195 then ((crosswaylaw22_MixParts_1.f a2).bind fun t196 => ((mix_Fold.f kj5 (Go.bits .xor .u64 14695981039346656037 a0) t196).bind fun t199 => ((mix_Fold.f kj5 t199 (l1.take (a2 : Int).toNat)).bind fun t205 => ((crosswaylaw22_MixParts_1.f (wrap64 ((l1.length : Int) - a2))).bind fun t206 => ((mix_Fold.f kj5 t205 t206).bind fun t209 => ((mix_Fold.f kj5 t209 (l1.drop (a2 : Int).toNat)).bind fun t215 => ((mix_Mix.f kj5 a0 (([(l1.take (a2 : Int).toNat), (l1.drop (a2 : Int).toNat)] : List (List Int)))).bind fun t229 => ((mix_End.f t215).bind fun t230 => (if t229 = t230 then ((mix_Mix.f kj5 a0 ([] : List (List Int))).bind fun t231 => ((mix_End.f (Go.bits .xor .u64 14695981039346656037 a0)).bind fun t232 => (some (t231 == t232)))) else (some false)))))))))) else (some false)))) else (none)) else (none))) = some r := by rw [if_neg (show ¬ (false = true) by decide)] at H; exact H
          clear H
          have H := H1
          clear H1
          replace H := Option.bind_eq_some_iff.mp H
          obtain ⟨t183, A110, H⟩ := H
          replace H : (if 0 ≤ a2 then (if a2 ≤ (l1.length : Int) then ((mix_Fold.f kj5 a0 (l1.take (a2 : Int).toNat)).bind fun t189 => ((mix_Fold.f kj5 t189 (l1.drop (a2 : Int).toNat)).bind fun t195 => (if t183 = t195 then ((crosswaylaw22_MixParts_1.f a2).bind fun t196 => ((mix_Fold.f kj5 (Go.bits .xor .u64 14695981039346656037 a0) t196).bind fun t199 => ((mix_Fold.f kj5 t199 (l1.take (a2 : Int).toNat)).bind fun t205 => ((crosswaylaw22_MixParts_1.f (wrap64 ((l1.length : Int) - a2))).bind fun t206 => ((mix_Fold.f kj5 t205 t206).bind fun t209 => ((mix_Fold.f kj5 t209 (l1.drop (a2 : Int).toNat)).bind fun t215 => ((mix_Mix.f kj5 a0 (([(l1.take (a2 : Int).toNat), (l1.drop (a2 : Int).toNat)] : List (List Int)))).bind fun t229 => ((mix_End.f t215).bind fun t230 => (if t229 = t230 then ((mix_Mix.f kj5 a0 ([] : List (List Int))).bind fun t231 => ((mix_End.f (Go.bits .xor .u64 14695981039346656037 a0)).bind fun t232 => (some (t231 == t232)))) else (some false)))))))))) else (some false)))) else (none)) else (none)) = some r := H
          have A11 := Aside0.mk A110
          clear A110
          by_cases c12 : 0 ≤ a2
          · rw [if_pos c12] at H
            have c12b0 := eq_true c12
            have c12b1 : decide (0 ≤ a2) = true := decide_eq_true c12
            clear c12
            by_cases c13 : a2 ≤ (l1.length : Int)
            · rw [if_pos c13] at H
              have c13b0 := eq_true c13
              have c13b1 : decide (a2 ≤ (l1.length : Int)) = true := decide_eq_true c13
              clear c13
              obtain ⟨y184, hy184⟩ : ∃ y_ : List Int, y_ = (l1.take (a2 : Int).toNat) := ⟨_, rfl⟩
              have KXy184 := Aside0.mk hy184
              replace H : ((mix_Fold.f kj5 a0 y184).bind fun t189 => ((mix_Fold.f kj5 t189 (l1.drop (a2 : Int).toNat)).bind fun t195 => (if t183 = t195 then ((crosswaylaw22_MixParts_1.f a2).bind fun t196 => ((mix_Fold.f kj5 (Go.bits .xor .u64 14695981039346656037 a0) t196).bind fun t199 => ((mix_Fold.f kj5 t199 (l1.take (a2 : Int).toNat)).bind fun t205 => ((crosswaylaw22_MixParts_1.f (wrap64 ((l1.length : Int) - a2))).bind fun t206 => ((mix_Fold.f kj5 t205 t206).bind fun t209 => ((mix_Fold.f kj5 t209 (l1.drop (a2 : Int).toNat)).bind fun t215 => ((mix_Mix.f kj5 a0 (([(l1.take (a2 : Int).toNat), (l1.drop (a2 : Int).toNat)] : List (List Int)))).bind fun t229 => ((mix_End.f t215).bind fun t230 => (if t229 = t230 then ((mix_Mix.f kj5 a0 ([] : List (List Int))).bind fun t231 => ((mix_End.f (Go.bits .xor .u64 14695981039346656037 a0)).bind fun t232 => (some (t231 == t232)))) else (some false)))))))))) else (some false)))) = some r := by first | (rw [hy184]; with_reducible exact H) | (have H2_ := (Option.bind_some _ _).symm.trans H; rw [hy184]; with_reducible exact H2_) | (have H2_ := (Option.bind_some _ _).symm.trans H; with_reducible exact H2_) | with_reducible exact H | (rw [hy184]; exact H) | exact H
              have Ny184 := Aside0.mk hy184
              clear hy184
              replace H := Option.bind_eq_some_iff.mp H
              obtain ⟨t189, A140, H⟩ := H
              replace H : ((mix_Fold.f kj5 t189 (l1.drop (a2 : Int).toNat)).bind fun t195 => (if t183 = t195 then ((crosswaylaw22_MixParts_1.f a2).bind fun t196 => ((mix_Fold.f kj5 (Go.bits .xor .u64 14695981039346656037 a0) t196).bind fun t199 => ((mix_Fold.f kj5 t199 (l1.take (a2 : Int).toNat)).bind fun t205 => ((crosswaylaw22_MixParts_1.f (wrap64 ((l1.length : Int) - a2))).bind fun t206 => ((mix_Fold.f kj5 t205 t206).bind fun t209 => ((mix_Fold.f kj5 t209 (l1.drop (a2 : Int).toNat)).bind fun t215 => ((mix_Mix.f kj5 a0 (([(l1.take (a2 : Int).toNat), (l1.drop (a2 : Int).toNat)] : List (List Int)))).bind fun t229 => ((mix_End.f t215).bind fun t230 => (if t229 = t230 then ((mix_Mix.f kj5 a0 ([] : List (List Int))).bind fun t231 => ((mix_End.f (Go.bits .xor .u64 14695981039346656037 a0)).bind fun t232 => (some (t231 == t232)))) else (some false)))))))))) else (some false))) = some r := H
              have A14 := Aside0.mk A140
              clear A140
              have c15b0 := eq_true (of_decide_eq_true (by first | (with_reducible assumption) | assumption) : 0 ≤ a2)
              have c16b0 := eq_true (of_decide_eq_true (by first | (with_reducible assumption) | assumption) : a2 ≤ (l1.length : Int))
              obtain ⟨y190, hy190⟩ : ∃ y_ : List Int, y_ = (l1.drop (a2 : Int).toNat) := ⟨_, rfl⟩
              have KXy190 := Aside0.mk hy190
              replace H : ((mix_Fold.f kj5 t189 y190).bind fun t195 => (if t183 = t195 then ((crosswaylaw22_MixParts_1.f a2).bind fun t196 => ((mix_Fold.f kj5 (Go.bits .xor .u64 14695981039346656037 a0) t196).bind fun t199 => ((mix_Fold.f kj5 t199 (l1.take (a2 : Int).toNat)).bind fun t205 => ((crosswaylaw22_MixParts_1.f (wrap64 ((l1.length : Int) - a2))).bind fun t206 => ((mix_Fold.f kj5 t205 t206).bind fun t209 => ((mix_Fold.f kj5 t209 (l1.drop (a2 : Int).toNat)).bind fun t215 => ((mix_Mix.f kj5 a0 (([(l1.take (a2 : Int).toNat), (l1.drop (a2 : Int).toNat)] : List (List Int)))).bind fun t229 => ((mix_End.f t215).bind fun t230 => (if t229 = t230 then ((mix_Mix.f kj5 a0 ([] : List (List Int))).bind fun t231 => ((mix_End.f (Go.bits .xor .u64 14695981039346656037 a0)).bind fun t232 => (some (t231 == t232)))) else (some false)))))))))) else (some false))) = some r := by first | (rw [hy190]; with_reducible exact H) | (have H2_ := (Option.bind_some _ _).symm.trans H; rw [hy190]; with_reducible exact H2_) | (have H2_ := (Option.bind_some _ _).symm.trans H; with_reducible exact H2_) | with_reducible exact H | (rw [hy190]; exact H) | exact H
              have Ny190 := Aside0.mk hy190
              clear hy190
              replace H := Option.bind_eq_some_iff.mp H
              obtain ⟨t195, A170, H⟩ := H
              replace H : (if t183 = t195 then ((crosswaylaw22_MixParts_1.f a2).bind fun t196 => ((mix_Fold.f kj5 (Go.bits .xor .u64 14695981039346656037 a0) t196).bind fun t199 => ((mix_Fold.f kj5 t199 (l1.take (a2 : Int).toNat)).bind fun t205 => ((crosswaylaw22_MixParts_1.f (wrap64 ((l1.length : Int) - a2))).bind fun t206 => ((mix_Fold.f kj5 t205 t206).bind fun t209 => ((mix_Fold.f kj5 t209 (l1.drop (a2 : Int).toNat)).bind fun t215 => ((mix_Mix.f kj5 a0 (([(l1.take (a2 : Int).toNat), (l1.drop (a2 : Int).toNat)] : List (List Int)))).bind fun t229 => ((mix_End.f t215).bind fun t230 => (if t229 = t230 then ((mix_Mix.f kj5 a0 ([] : List (List Int))).bind fun t231 => ((mix_End.f (Go.bits .xor .u64 14695981039346656037 a0)).bind fun t232 => (some (t231 == t232)))) else (some false)))))))))) else (some false)) = some r := H
              have A17 := Aside0.mk A170
              clear A170
              by_cases c18 : t183 = t195
              · rw [if_pos c18] at H
                have c18b0 : (t183 == t195) = true := beq_iff_eq.mpr c18
                have c18b1 : (t183 != t195) = false := bne_eq_false_iff_eq.mpr c18
                clear c18
                replace H := Option.bind_eq_some_iff.mp H
                obtain ⟨t196, A190, H⟩ := H
                replace H : ((mix_Fold.f kj5 (Go.bits .xor .u64 14695981039346656037 a0) t196).bind fun t199 => ((mix_Fold.f kj5 t199 (l1.take (a2 : Int).toNat)).bind fun t205 => ((crosswaylaw22_MixParts_1.f (wrap64 ((l1.length : Int) - a2))).bind fun t206 => ((mix_Fold.f kj5 t205 t206).bind fun t209 => ((mix_Fold.f kj5 t209 (l1.drop (a2 : Int).toNat)).bind fun t215 => ((mix_Mix.f kj5 a0 (([(l1.take (a2 : Int).toNat), (l1.drop (a2 : Int).toNat)] : List (List Int)))).bind fun t229 => ((mix_End.f t215).bind fun t230 => (if t229 = t230 then ((mix_Mix.f kj5 a0 ([] : List (List Int))).bind fun t231 => ((mix_End.f (Go.bits .xor .u64 14695981039346656037 a0)).bind fun t232 => (some (t231 == t232)))) else (some false))))))))) = some r := H
                have A19 := Aside0.mk A190
                clear A190
                replace H := Option.bind_eq_some_iff.mp H
                obtain ⟨t199, A200, H⟩ := H
                replace H : ((mix_Fold.f kj5 t199 (l1.take (a2 : Int).toNat)).bind fun t205 => ((crosswaylaw22_MixParts_1.f (wrap64 ((l1.length : Int) - a2))).bind fun t206 => ((mix_Fold.f kj5 t205 t206).bind fun t209 => ((mix_Fold.f kj5 t209 (l1.drop (a2 : Int).toNat)).bind fun t215 => ((mix_Mix.f kj5 a0 (([(l1.take (a2 : Int).toNat), (l1.drop (a2 : Int).toNat)] : List (List Int)))).bind fun t229 => ((mix_End.f t215).bind fun t230 => (if t229 = t230 then ((mix_Mix.f kj5 a0 ([] : List (List Int))).bind fun t231 => ((mix_End.f (Go.bits .xor .u64 14695981039346656037 a0)).bind fun t232 => (some (t231 == t232)))) else (some false)))))))) = some r := H
                have A20 := Aside0.mk A200
                clear A200
                have c21b0 := eq_true (of_decide_eq_true (by first | (with_reducible assumption) | assumption) : 0 ≤ a2)
                have c22b0 := eq_true (of_decide_eq_true (by first | (with_reducible assumption) | assumption) : a2 ≤ (l1.length : Int))
                have hy200 : y184 = (l1.take (a2 : Int).toNat) := KXy184.out
                replace H : ((mix_Fold.f kj5 t199 y184).bind fun t205 => ((crosswaylaw22_MixParts_1.f (wrap64 ((l1.length : Int) - a2))).bind fun t206 => ((mix_Fold.f kj5 t205 t206).bind fun t209 => ((mix_Fold.f kj5 t209 (l1.drop (a2 : Int).toNat)).bind fun t215 => ((mix_Mix.f kj5 a0 (([(l1.take (a2 : Int).toNat), (l1.drop (a2 : Int).toNat)] : List (List Int)))).bind fun t229 => ((mix_End.f t215).bind fun t230 => (if t229 = t230 then ((mix_Mix.f kj5 a0 ([] : List (List Int))).bind fun t231 => ((mix_End.f (Go.bits .xor .u64 14695981039346656037 a0)).bind fun t232 => (some (t231 == t232)))) else (some false)))))))) = some r := by first | (rw [hy200]; with_reducible exact H) | (have H2_ := (Option.bind_some _ _).symm.trans H; rw [hy200]; with_reducible exact H2_) | (have H2_ := (Option.bind_some _ _).symm.trans H; with_reducible exact H2_) | with_reducible exact H | (rw [hy200]; exact H) | exact H
                have Ny200 := Aside0.mk hy200
                clear hy200
                replace H := Option.bind_eq_some_iff.mp H
                obtain ⟨t205, A230, H⟩ := H
                replace H : ((crosswaylaw22_MixParts_1.f (wrap64 ((l1.length : Int) - a2))).bind fun t206 => ((mix_Fold.f kj5 t205 t206).bind fun t209 => ((mix_Fold.f kj5 t209 (l1.drop (a2 : Int).toNat)).bind fun t215 => ((mix_Mix.f kj5 a0 (([(l1.take (a2 : Int).toNat), (l1.drop (a2 : Int).toNat)] : List (List Int)))).bind fun t229 => ((mix_End.f t215).bind fun t230 => (if t229 = t230 then ((mix_Mix.f kj5 a0 ([] : List (List Int))).bind fun t231 => ((mix_End.f (Go.bits .xor .u64 14695981039346656037 a0)).bind fun t232 => (some (t231 == t232)))) else (some false))))))) = some r := H
                have A23 := Aside0.mk A230
                clear A230
                replace H := Option.bind_eq_some_iff.mp H
                obtain ⟨t206, A240, H⟩ := H
                replace H : ((mix_Fold.f kj5 t205 t206).bind fun t209 => ((mix_Fold.f kj5 t209 (l1.drop (a2 : Int).toNat)).bind fun t215 => ((mix_Mix.f kj5 a0 (([(l1.take (a2 : Int).toNat), (l1.drop (a2 : Int).toNat)] : List (List Int)))).bind fun t229 => ((mix_End.f t215).bind fun t230 => (if t229 = t230 then ((mix_Mix.f kj5 a0 ([] : List (List Int))).bind fun t231 => ((mix_End.f (Go.bits .xor .u64 14695981039346656037 a0)).bind fun t232 => (some (t231 == t232)))) else (some false)))))) = some r := H
                have A24 := Aside0.mk A240
                clear A240
                replace H := Option.bind_eq_some_iff.mp H
                obtain ⟨t209, A250, H⟩ := H
                replace H : ((mix_Fold.f kj5 t209 (l1.drop (a2 : Int).toNat)).bind fun t215 => ((mix_Mix.f kj5 a0 (([(l1.take (a2 : Int).toNat), (l1.drop (a2 : Int).toNat)] : List (List Int)))).bind fun t229 => ((mix_End.f t215).bind fun t230 => (if t229 = t230 then ((mix_Mix.f kj5 a0 ([] : List (List Int))).bind fun t231 => ((mix_End.f (Go.bits .xor .u64 14695981039346656037 a0)).bind fun t232 => (some (t231 == t232)))) else (some false))))) = some r := H
                have A25 := Aside0.mk A250
                clear A250
                have c26b0 := eq_true (of_decide_eq_true (by first | (with_reducible assumption) | assumption) : 0 ≤ a2)
                have c27b0 := eq_true (of_decide_eq_true (by first | (with_reducible assumption) | assumption) : a2 ≤ (l1.length : Int))
                have hy210 : y190 = (l1.drop (a2 : Int).toNat) := KXy190.out
                replace H : ((mix_Fold.f kj5 t209 y190).bind fun t215 => ((mix_Mix.f kj5 a0 (([(l1.take (a2 : Int).toNat), (l1.drop (a2 : Int).toNat)] : List (List Int)))).bind fun t229 => ((mix_End.f t215).bind fun t230 => (if t229 = t230 then ((mix_Mix.f kj5 a0 ([] : List (List Int))).bind fun t231 => ((mix_End.f (Go.bits .xor .u64 14695981039346656037 a0)).bind fun t232 => (some (t231 == t232)))) else (some false))))) = some r := by first | (rw [hy210]; with_reducible exact H) | (have H2_ := (Option.bind_some _ _).symm.trans H; rw [hy210]; with_reducible exact H2_) | (have H2_ := (Option.bind_some _ _).symm.trans H; with_reducible exact H2_) | with_reducible exact H | (rw [hy210]; exact H) | exact H
                have Ny210 := Aside0.mk hy210
                clear hy210
                replace H := Option.bind_eq_some_iff.mp H
                obtain ⟨t215, A280, H⟩ := H
                replace H : ((mix_Mix.f kj5 a0 (([(l1.take (a2 : Int).toNat), (l1.drop (a2 : Int).toNat)] : List (List Int)))).bind fun t229 => ((mix_End.f t215).bind fun t230 => (if t229 = t230 then ((mix_Mix.f kj5 a0 ([] : List (List Int))).bind fun t231 => ((mix_End.f (Go.bits .xor .u64 14695981039346656037 a0)).bind fun t232 => (some (t231 == t232)))) else (some false)))) = some r := H
                have A28 := Aside0.mk A280
                clear A280
                have c29b0 := eq_true (of_decide_eq_true (by first | (with_reducible assumption) | assumption) : 0 ≤ a2)
                have c30b0 := eq_true (of_decide_eq_true (by first | (with_reducible assumption) | assumption) : a2 ≤ (l1.length : Int))
                have hy216 : y184 = (l1.take (a2 : Int).toNat) := KXy184.out
                replace H : ((mix_Mix.f kj5 a0 (([y184, (l1.drop (a2 : Int).toNat)] : List (List Int)))).bind fun t229 => ((mix_End.f t215).bind fun t230 => (if t229 = t230 then ((mix_Mix.f kj5 a0 ([] : List (List Int))).bind fun t231 => ((mix_End.f (Go.bits .xor .u64 14695981039346656037 a0)).bind fun t232 => (some (t231 == t232)))) else (some false)))) = some r := by first | (rw [hy216]; with_reducible exact H) | (have H2_ := (Option.bind_some _ _).symm.trans H; rw [hy216]; with_reducible exact H2_) | (have H2_ := (Option.bind_some _ _).symm.trans H; with_reducible exact H2_) | with_reducible exact H | (rw [hy216]; exact H) | exact H
                have Ny216 := Aside0.mk hy216
                clear hy216
                have c31b0 := eq_true (of_decide_eq_true (by first | (with_reducible assumption) | assumption) : 0 ≤ a2)
                have c32b0 := eq_true (of_decide_eq_true (by first | (with_reducible assumption) | assumption) : a2 ≤ (l1.length : Int))
                have hy221 : y190 = (l1.drop (a2 : Int).toNat) := KXy190.out
                replace H : ((mix_Mix.f kj5 a0 (([y184, y190] : List (List Int)))).bind fun t229 => ((mix_End.f t215).bind fun t230 => (if t229 = t230 then ((mix_Mix.f kj5 a0 ([] : List (List Int))).bind fun t231 => ((mix_End.f (Go.bits .xor .u64 14695981039346656037 a0)).bind fun t232 => (some (t231 == t232)))) else (some false)))) = some r := by first | (rw [hy221]; with_reducible exact H) | (have H2_ := (Option.bind_some _ _).symm.trans H; rw [hy221]; with_reducible exact H2_) | (have H2_ := (Option.bind_some _ _).symm.trans H; with_reducible exact H2_) | with_reducible exact H | (rw [hy221]; exact H) | exact H
                have Ny221 := Aside0.mk hy221
                clear hy221
                obtain ⟨y226, hy226⟩ : ∃ y_ : List (List Int), y_ = (([y184, y190] : List (List Int))) := ⟨_, rfl⟩
                have KXy226 := Aside0.mk hy226
                replace H : ((mix_Mix.f kj5 a0 y226).bind fun t229 => ((mix_End.f t215).bind fun t230 => (if t229 = t230 then ((mix_Mix.f kj5 a0 ([] : List (List Int))).bind fun t231 => ((mix_End.f (Go.bits .xor .u64 14695981039346656037 a0)).bind fun t232 => (some (t231 == t232)))) else (some false)))) = some r := by first | (rw [hy226]; with_reducible exact H) | (have H2_ := (Option.bind_some _ _).symm.trans H; rw [hy226]; with_reducible exact H2_) | (have H2_ := (Option.bind_some _ _).symm.trans H; with_reducible exact H2_) | with_reducible exact H | (rw [hy226]; exact H) | exact H
                have Ny226 := Aside0.mk hy226
                clear hy226
                replace H := Option.bind_eq_some_iff.mp H
                obtain ⟨t229, A330, H⟩ := H
                replace H : ((mix_End.f t215).bind fun t230 => (if t229 = t230 then ((mix_Mix.f kj5 a0 ([] : List (List Int))).bind fun t231 => ((mix_End.f (Go.bits .xor .u64 14695981039346656037 a0)).bind fun t232 => (some (t231 == t232)))) else (some false))) = some r := H
                have A33 := Aside0.mk A330
                clear A330
                replace H := Option.bind_eq_some_iff.mp H
                obtain ⟨t230, A340, H⟩ := H
                replace H : (if t229 = t230 then ((mix_Mix.f kj5 a0 ([] : List (List Int))).bind fun t231 => ((mix_End.f (Go.bits .xor .u64 14695981039346656037 a0)).bind fun t232 => (some (t231 == t232)))) else (some false)) = some r := H
                have A34 := Aside0.mk A340
                clear A340
                by_cases c35 : t229 = t230
                · rw [if_pos c35] at H
                  have c35b0 : (t229 == t230) = true := beq_iff_eq.mpr c35
                  have c35b1 : (t229 != t230) = false := bne_eq_false_iff_eq.mpr c35
                  clear c35
                  replace H := Option.bind_eq_some_iff.mp H
                  obtain ⟨t231, A360, H⟩ := H
                  replace H : ((mix_End.f (Go.bits .xor .u64 14695981039346656037 a0)).bind fun t232 => (some (t231 == t232))) = some r := H
                  have A36 := Aside0.mk A360
                  clear A360
                  replace H := Option.bind_eq_some_iff.mp H
                  obtain ⟨t232, A370, H⟩ := H
                  replace H : (some (t231 == t232)) = some r := H
                  have A37 := Aside0.mk A370
                  clear A370
                  obtain rfl := Option.some.inj H
                  try go_wp2
                  have n0_ := Aside0.mk (Kd.V_drew HO_1.out)
                  have n1_ := Aside0.mk (below_drew1 HB.out)
                  clear HO_1
                  clear HB
                  have HO_1 := n0_
                  have HB := n1_
                  clear n0_ n1_
                  have q39 : (a2 : Int) ≤ ((l1.length : Int) : Int) := of_decide_eq_true (by first | (with_reducible assumption) | assumption)
                  obtain ⟨i039, hi039, _, hsz39, _⟩ := info_parts info5
                  have hroom39 : l1.length ≤ c1 := (Kd.V_reads' HO_1.out).2.1
                  have hC39 : Kd.F (Kd.int .u8) _ _ A1 l1.length l1 := (Kd.V_at (base := w.heap.size) HO_1.out).2.2
                  have hcut39 := cut_to (P := Try.prog) 24 5 .i64 Try.underlying24 hi039 A1 l1.length c1 a2 (of_decide_eq_true (by first | (with_reducible assumption) | assumption)) q39 hroom39
                  have hr39 := Kd.F_take (m := (a2 : Int).toNat) hC39 (by omega)
                  have hy39 : y184.length = (a2 : Int).toNat := (by rw [Ny184.out, List.length_take]; omega)
                  rw [← Ny184.out] at hr39
                  rw [← hy39] at hcut39
                  have HO188 := Aside0.mk (show Kd.V (Kd.int .u8) 5 _ w.heap.size _ (.slice A1 y184.length c1) y184 from Kd.V_mk (by omega) hr39)
                  have HC188 := Aside0.mk (show y184.length ≤ c1 from by omega)
                  clear hr39 hC39 hroom39 hi039 hsz39
                  have KY39 := Aside0.mk hy39
                  clear hy39
                  replace q39 := eq_true q39
                  have q40 : (a2 : Int) ≤ ((l1.length : Int) : Int) := of_decide_eq_true (by first | (with_reducible assumption) | assumption)
                  obtain ⟨i040, hi040, _, hsz40, _⟩ := info_parts info5
                  have hroom40 : l1.length ≤ c1 := (Kd.V_reads' HO_1.out).2.1
                  have hC40 : Kd.F (Kd.int .u8) _ _ A1 l1.length l1 := (Kd.V_at (base := w.heap.size) HO_1.out).2.2
                  have q040 : (0 : Int) ≤ (a2 : Int) := of_decide_eq_true (by first | (with_reducible assumption) | assumption)
                  have hcut40 := cut_from (P := Try.prog) 24 5 .i64 Try.underlying24 hi040 1 hsz40 A1 l1.length c1 a2 q040 q40
                  have hr40 := Kd.F_cut (m := (a2 : Int).toNat) (c := c1) hC40 (by omega) hroom40
                  obtain ⟨A40, hA40⟩ : ∃ A_x, A_x = (if c1 = (a2 : Int).toNat then A1 else (A1 : Option Addr).map (·.add ((a2 : Int).toNat * 1))) := ⟨_, rfl⟩
                  have KXA40 := Aside0.mk hA40
                  obtain ⟨c40, hc40⟩ : ∃ c_x, c_x = c1 - (a2 : Int).toNat := ⟨_, rfl⟩
                  have KXc40 := Aside0.mk hc40
                  have hy40 : y190.length = l1.length - (a2 : Int).toNat := (by rw [Ny190.out, List.length_drop] <;> omega)
                  rw [show (l1).drop (a2 : Int).toNat = y190 from Ny190.out.symm] at hr40
                  replace hr40 : Kd.F (Kd.int .u8) _ _ A40 y190.length y190 := (by rw [hA40]; exact hr40)
                  rw [← hy40, ← hA40, ← hc40] at hcut40
                  have HO194 := Aside0.mk (show Kd.V (Kd.int .u8) 5 _ w.heap.size _ (.slice A40 y190.length c40) y190 from Kd.V_mk (by rw [hy40, hc40]; exact Nat.sub_le_sub_right hroom40 _) hr40)
                  have HC194 := Aside0.mk (show y190.length ≤ c40 from by rw [hy40, hc40]; exact Nat.sub_le_sub_right hroom40 _)
                  clear hr40 hC40 hroom40 hi040 hsz40 hc40
                  have KY40 := Aside0.mk hy40
                  have KA40 := Aside0.mk hA40
                  clear hy40 hA40
                  replace q40 := eq_true q40
                  refine start_ (n := 13) (S := fun w' => True) (ds := []) #[false, false, false, false, false, false, false, false, false, false, false, false, false] (by kernel_rfl) rfl rfl trivial (fun hHeld => ?_); refine with_tabW crosswaylaw22_MixParts.tab6 crosswaylaw22_MixParts.bits6 (fun HT_ HW_ => ?_)
                  generalize wc.drew = w38 at HO_1 HB HO188 HO194 hHeld ⊢
                  refine pure_ (i := 0) (N := some 24) (v := ?_) (a' := ?_) #[true, false, false, false, false, false, false, false, false, false, false, false, false] rfl rfl (any_of HT_.out (by kernel_rfl)) (fun _ _ _ h => h) (Or.inl ⟨by rfl, ?_⟩) ?_ ?_
                  rotate_left
                  · intro w'
                    go_simp
                    with_reducible rfl
                  rotate_left
                  · simp only [Act.put, List.setIfInBounds_toArray, List.set_cons_zero, List.set_cons_succ, i64_w, i32_w]
                    rfl
                  refine pure_ (i := 1) (N := some 25) (v := ?_) (a' := ?_) #[true, true, false, false, false, false, false, false, false, false, false, false, false] rfl rfl (any_of HT_.out (by kernel_rfl)) (fun _ _ _ h => h) (Or.inl ⟨by rfl, ?_⟩) ?_ ?_
                  rotate_left
                  · intro w'
                    go_simp
                    with_reducible rfl
                  rotate_left
                  · simp only [Act.put, List.setIfInBounds_toArray, List.set_cons_zero, List.set_cons_succ, i64_w, i32_w]
                    rfl
                  refine pure_ (i := 3) (N := some 27) (v := ?_) (a' := ?_) #[true, true, false, true, false, false, false, false, false, false, false, false, false] rfl rfl (any_of HT_.out (by kernel_rfl)) (fun _ _ _ h => h) (Or.inl ⟨by rfl, ?_⟩) ?_ ?_
                  rotate_left
                  · intro w'
                    go_simp
                    with_reducible rfl
                  rotate_left
                  · simp only [Act.put, List.setIfInBounds_toArray, List.set_cons_zero, List.set_cons_succ, i64_w, i32_w]
                    rfl
                  refine pure_ (i := 4) (N := some 28) (v := ?_) (a' := ?_) #[true, true, false, true, true, false, false, false, false, false, false, false, false] rfl rfl (any_of HT_.out (by kernel_rfl)) (fun _ _ _ h => h) (Or.inl ⟨by rfl, ?_⟩) ?_ ?_
                  rotate_left
                  · intro w'
                    go_simp
                    with_reducible rfl
                  rotate_left
                  · simp only [Act.put, List.setIfInBounds_toArray, List.set_cons_zero, List.set_cons_succ, i64_w, i32_w]
                    rfl
                  refine pure_ (i := 5) (N := some 29) (v := ?_) (a' := ?_) #[true, true, false, true, true, true, false, false, false, false, false, false, false] rfl rfl (any_of HT_.out (by kernel_rfl)) (fun _ _ _ h => h) (Or.inl ⟨by rfl, ?_⟩) ?_ ?_
                  rotate_left
                  · intro w'
                    go_simp
                    with_reducible rfl
                  rotate_left
                  · simp only [Act.put, List.setIfInBounds_toArray, List.set_cons_zero, List.set_cons_succ, i64_w, i32_w]
                    rfl
                  refine pure_ (i := 6) (N := some 30) (v := ?_) (a' := ?_) #[true, true, false, true, true, true, true, false, false, false, false, false, false] rfl rfl (any_of HT_.out (by kernel_rfl)) (fun _ _ _ h => h) (Or.inl ⟨by rfl, ?_⟩) ?_ ?_
                  rotate_left
                  · intro w'
                    go_simp
                    with_reducible rfl
                  rotate_left
                  · simp only [Act.put, List.setIfInBounds_toArray, List.set_cons_zero, List.set_cons_succ, i64_w, i32_w]
                    rfl
                  refine pure_ (i := 8) (N := some 32) (v := ?_) (a' := ?_) #[true, true, false, true, true, true, true, false, true, false, false, false, false] rfl rfl (any_of HT_.out (by kernel_rfl)) (fun _ _ _ h => h) (Or.inl ⟨by rfl, ?_⟩) ?_ ?_
                  rotate_left
                  · intro w'
                    go_simp
                    with_reducible rfl
                  rotate_left
                  · simp only [Act.put, List.setIfInBounds_toArray, List.set_cons_zero, List.set_cons_succ, i64_w, i32_w]
                    rfl
                  refine pure_ (i := 9) (N := some 33) (v := ?_) (a' := ?_) #[true, true, false, true, true, true, true, false, true, true, false, false, false] rfl rfl (any_of HT_.out (by kernel_rfl)) (fun _ _ _ h => h) (Or.inl ⟨by rfl, ?_⟩) ?_ ?_
                  rotate_left
                  · intro w'
                    go_simp
                    with_reducible rfl
                  rotate_left
                  · simp only [Act.put, List.setIfInBounds_toArray, List.set_cons_zero, List.set_cons_succ, i64_w, i32_w]
                    rfl
                  refine pure_ (i := 10) (N := some 34) (v := ?_) (a' := ?_) #[true, true, false, true, true, true, true, false, true, true, true, false, false] rfl rfl (any_of HT_.out (by kernel_rfl)) (fun _ _ _ h => h) (Or.inl ⟨by rfl, ?_⟩) ?_ ?_
                  rotate_left
                  · intro w'
                    go_simp
                    with_reducible rfl
                  rotate_left
                  · simp only [Act.put, List.setIfInBounds_toArray, List.set_cons_zero, List.set_cons_succ, i64_w, i32_w]
                    rfl
                  refine one_ (i := 2) (N := some 26) #[true, true, true, true, true, true, true, false, true, true, true, false, false] rfl rfl (one_of HT_.out (by kernel_rfl)) (by decide) (fun K hK => ?_)
                  refine goes_ Try.func10 (by kernel_rfl) rfl #[.int .u64 a0, .slice A1 l1.length c1] (by rfl) rfl rfl (by (try simp only [List.map_toArray, List.map_cons, List.map_nil]); first | done | rfl | (simp only [List.length_drop, List.length_take]; rfl)) ?_
                  with_reducible refine (mix_Fold.calls kj5 a0 _ _ l1 t183 _ ?side1 ?side2 A11.out).mono ?_
                  (case side1 => repeat (first | exact (Kd.V_reads' HO_1.out).2.2 | (with_reducible refine Kd.C_alloc ?_ _) | (with_reducible refine Kd.C_drewN ?_ _) | (with_reducible refine Kd.C_drew ?_)))
                  (case side2 => exact (Kd.V_reads' HO_1.out).2.1)
                  rintro e w' ⟨rfl, ⟨nd, rfl⟩⟩
                  refine ⟨_, rfl, ?_⟩
                  refine hK.out _ _ trivial (fun hHeld => ?_)
                  clear hK K
                  refine norm_ (a' := ?_) ?_ ?_
                  rotate_left
                  · show Act.put _ (some 26) _ = _
                    simp only [Act.put, List.setIfInBounds_toArray, List.set_cons_zero, List.set_cons_succ, i64_w, i32_w]
                    rfl
                  refine one_ (i := 7) (N := some 31) #[true, true, true, true, true, true, true, true, true, true, true, false, false] rfl rfl (one_of HT_.out (by kernel_rfl)) (by decide) (fun K hK => ?_)
                  refine goes_ Try.func10 (by kernel_rfl) rfl #[.int .u64 a0, .slice A1 y184.length c1] (by rfl) rfl rfl (by (try simp only [List.map_toArray, List.map_cons, List.map_nil]); first | done | rfl | (simp only [List.length_drop, List.length_take]; rfl)) ?_
                  with_reducible refine (mix_Fold.calls kj5 a0 _ _ y184 t189 _ ?side1 ?side2 A14.out).mono ?_
                  (case side1 => repeat (first | exact (Kd.V_reads' HO188.out).2.2 | (with_reducible refine Kd.C_alloc ?_ _) | (with_reducible refine Kd.C_drewN ?_ _) | (with_reducible refine Kd.C_drew ?_)))
                  (case side2 => exact (Kd.V_reads' HO188.out).2.1)
                  rintro e w' ⟨rfl, ⟨nd, rfl⟩⟩
                  refine ⟨_, rfl, ?_⟩
                  refine hK.out _ _ trivial (fun hHeld => ?_)
                  clear hK K
                  refine norm_ (a' := ?_) ?_ ?_
                  rotate_left
                  · show Act.put _ (some 31) _ = _
                    simp only [Act.put, List.setIfInBounds_toArray, List.set_cons_zero, List.set_cons_succ, i64_w, i32_w]
                    rfl
                  refine one_ (i := 11) (N := some 35) #[true, true, true, true, true, true, true, true, true, true, true, true, false] rfl rfl (one_of HT_.out (by kernel_rfl)) (by decide) (fun K hK => ?_)
                  refine goes_ Try.func10 (by kernel_rfl) rfl #[.int .u64 t189, .slice A40 y190.length c40] (by rfl) rfl rfl (by (try simp only [List.map_toArray, List.map_cons, List.map_nil]); first | done | rfl | (simp only [List.length_drop, List.length_take]; rfl)) ?_
                  with_reducible refine (mix_Fold.calls kj5 t189 _ _ y190 t195 _ ?side1 ?side2 A17.out).mono ?_
                  (case side1 => repeat (first | exact (Kd.V_reads' HO194.out).2.2 | (with_reducible refine Kd.C_alloc ?_ _) | (with_reducible refine Kd.C_drewN ?_ _) | (with_reducible refine Kd.C_drew ?_)))
                  (case side2 => exact (Kd.V_reads' HO194.out).2.1)
                  rintro e w' ⟨rfl, ⟨nd, rfl⟩⟩
                  refine ⟨_, rfl, ?_⟩
                  refine hK.out _ _ trivial (fun hHeld => ?_)
                  clear hK K
                  refine norm_ (a' := ?_) ?_ ?_
                  rotate_left
                  · show Act.put _ (some 35) _ = _
                    simp only [Act.put, List.setIfInBounds_toArray, List.set_cons_zero, List.set_cons_succ, i64_w, i32_w]
                    rfl
                  refine pure_ (i := 12) (N := some 36) (v := ?_) (a' := ?_) #[true, true, true, true, true, true, true, true, true, true, true, true, true] rfl rfl (any_of HT_.out (by kernel_rfl)) (fun _ _ _ h => h) (Or.inl ⟨by rfl, ?_⟩) ?_ ?_
                  rotate_left
                  · intro w'
                    go_simp
                    with_reducible rfl
                  rotate_left
                  · simp only [Act.put, List.setIfInBounds_toArray, List.set_cons_zero, List.set_cons_succ, i64_w, i32_w]
                    rfl
                  refine done_ (done_of HT_.out (by kernel_rfl)) ?_
                  try go_wp2_with (first | ((with_reducible refine gate_tmp rfl ?_); refine goesLT_ _ (by rfl) (some 41) rfl rfl Try.func19 (by kernel_rfl) rfl #[.int .i64 a2] rfl (by (try simp only [List.map_toArray, List.map_cons, List.map_nil]); first | done | rfl | (simp only [List.length_drop, List.length_take]; rfl)) ?_; (with_reducible refine (crosswaylaw22_MixParts_1.calls a2 t196 _ A19.out).mono ?_); rintro e w41 ⟨v197, rfl, ho0, hb⟩; refine ⟨_, rfl, ?_⟩; have n0_ := Aside0.mk (Kd.V_elder' (by (with_reducible repeat (first | apply Kd.V_alloc | apply Kd.V_drewN | apply Kd.V_drew)); exact HO_1.out) (Kd.R_base ho0) hb); have n1_ := Aside0.mk (Kd.V_elder' (by (with_reducible repeat (first | apply Kd.V_alloc | apply Kd.V_drewN | apply Kd.V_drew)); exact HO188.out) (Kd.R_base ho0) hb); have n2_ := Aside0.mk (Kd.V_elder' (by (with_reducible repeat (first | apply Kd.V_alloc | apply Kd.V_drewN | apply Kd.V_drew)); exact HO194.out) (Kd.R_base ho0) hb); have n3_ := Aside0.mk (Kd.R_lower (Kd.R_newM (M := fun k_ => (w.heap.size ≤ k_)) ho0 (below_size (by repeat (first | (with_reducible first | exact HB.out | apply below_alloc | apply pw_below_drewN | apply below_drew1) | exact HB.out))) (fun k_ h_ => h_)) (below_size (by repeat (first | (with_reducible first | exact HB.out | apply below_alloc | apply pw_below_drewN | apply below_drew1) | exact HB.out)))); have n4_ := Aside0.mk (below_step (by repeat (first | (with_reducible first | exact HB.out | apply below_alloc | apply pw_below_drewN | apply below_drew1) | exact HB.out)) hb); clear HO_1; clear HO188; clear HO194; clear HB; have HO_1 := n0_; have HO188 := n1_; have HO194 := n2_; have HO198 := n3_; have HB := n4_; clear n0_ n1_ n2_ n3_ n4_; (try clear hb); (try clear hb2); (try clear hk); (try clear hi); (try clear ho0); obtain ⟨Ao42, co42, eo42⟩ := Kd.R_slice HO198.out; subst eo42) | ((with_reducible refine gate_callee (f := 10) rfl ?_); refine goesL_ (some 42) rfl rfl Try.func10 (by kernel_rfl) rfl #[.int .u64 (Go.bits .xor .u64 14695981039346656037 a0), .slice Ao42 t196.length co42] rfl (by (try simp only [List.map_toArray, List.map_cons, List.map_nil]); first | done | rfl | (simp only [List.length_drop, List.length_take]; rfl)) ?_; (with_reducible refine (mix_Fold.calls kj5 (Go.bits .xor .u64 14695981039346656037 a0) _ _ t196 t199 _ ?side1 ?side2 A20.out).mono ?_); (case side1 => repeat (first | exact (Kd.R_reads' HO198.out).2.2 | (with_reducible refine Kd.C_alloc ?_ _) | (with_reducible refine Kd.C_drewN ?_ _) | (with_reducible refine Kd.C_drew ?_))); (case side2 => exact (Kd.R_reads' HO198.out).2.1); rintro e w' ⟨rfl, ⟨nd, rfl⟩⟩; refine ⟨_, rfl, ?_⟩; have q43 : (a2 : Int) ≤ ((l1.length : Int) : Int) := of_decide_eq_true (by first | (with_reducible assumption) | assumption); obtain ⟨i043, hi043, _, hsz43, _⟩ := info_parts info5; have hroom43 : l1.length ≤ c1 := (Kd.V_reads' HO_1.out).2.1; have hC43 : Kd.F (Kd.int .u8) _ _ A1 l1.length l1 := (Kd.V_at (base := w.heap.size) HO_1.out).2.2; have hcut43 := cut_to (P := Try.prog) 24 5 .i64 Try.underlying24 hi043 A1 l1.length c1 a2 (of_decide_eq_true (by first | (with_reducible assumption) | assumption)) q43 hroom43; have hr43 := Kd.F_take (m := (a2 : Int).toNat) hC43 (by omega); have hy43 : y184.length = (a2 : Int).toNat := (by rw [Ny200.out, List.length_take]; omega); rw [← Ny200.out] at hr43; rw [← hy43] at hcut43; have HO204 := Aside0.mk (show Kd.V (Kd.int .u8) 5 _ w.heap.size _ (.slice A1 y184.length c1) y184 from Kd.V_mk (by omega) hr43); have HC204 := Aside0.mk (show y184.length ≤ c1 from by omega); clear hr43 hC43 hroom43 hi043 hsz43; have KY43 := Aside0.mk hy43; clear hy43; replace q43 := eq_true q43) | ((with_reducible refine gate_callee (f := 10) rfl ?_); refine goesL_ (some 47) rfl rfl Try.func10 (by kernel_rfl) rfl #[.int .u64 t199, .slice A1 y184.length c1] rfl (by (try simp only [List.map_toArray, List.map_cons, List.map_nil]); first | done | rfl | (simp only [List.length_drop, List.length_take]; rfl)) ?_; (with_reducible refine (mix_Fold.calls kj5 t199 _ _ y184 t205 _ ?side1 ?side2 A23.out).mono ?_); (case side1 => repeat (first | exact (Kd.V_reads' HO204.out).2.2 | (with_reducible refine Kd.C_alloc ?_ _) | (with_reducible refine Kd.C_drewN ?_ _) | (with_reducible refine Kd.C_drew ?_))); (case side2 => exact (Kd.V_reads' HO204.out).2.1); rintro e w' ⟨rfl, ⟨nd, rfl⟩⟩; refine ⟨_, rfl, ?_⟩) | ((with_reducible refine gate_tmp rfl ?_); refine goesLT_ _ (by rfl) (some 54) rfl rfl Try.func19 (by kernel_rfl) rfl #[.int .i64 (wrap64 ((l1.length : Int) - a2))] rfl (by (try simp only [List.map_toArray, List.map_cons, List.map_nil]); first | done | rfl | (simp only [List.length_drop, List.length_take]; rfl)) ?_; (with_reducible refine (crosswaylaw22_MixParts_1.calls (wrap64 ((l1.length : Int) - a2)) t206 _ A24.out).mono ?_); rintro e w44 ⟨v207, rfl, ho0, hb⟩; refine ⟨_, rfl, ?_⟩; have n0_ := Aside0.mk (Kd.V_elder' (by (with_reducible repeat (first | apply Kd.V_alloc | apply Kd.V_drewN | apply Kd.V_drew)); exact HO_1.out) (Kd.R_base ho0) hb); have n1_ := Aside0.mk (Kd.V_elder' (by (with_reducible repeat (first | apply Kd.V_alloc | apply Kd.V_drewN | apply Kd.V_drew)); exact HO188.out) (Kd.R_base ho0) hb); have n2_ := Aside0.mk (Kd.V_elder' (by (with_reducible repeat (first | apply Kd.V_alloc | apply Kd.V_drewN | apply Kd.V_drew)); exact HO194.out) (Kd.R_base ho0) hb); have n3_ := Aside0.mk (Kd.R_elder' (by (with_reducible repeat (first | apply Kd.R_alloc | apply Kd.R_drewN | apply Kd.R_drew)); exact HO198.out) (Kd.R_base ho0) hb); have n4_ := Aside0.mk (Kd.V_elder' (by (with_reducible repeat (first | apply Kd.V_alloc | apply Kd.V_drewN | apply Kd.V_drew)); exact HO204.out) (Kd.R_base ho0) hb); have n5_ := Aside0.mk (Kd.R_lower (Kd.R_new' (Kd.R_newM (M := fun k_ => (w.heap.size ≤ k_)) ho0 (below_size (by repeat (first | (with_reducible first | exact HB.out | apply below_alloc | apply pw_below_drewN | apply below_drew1) | exact HB.out))) (fun k_ h_ => h_)) (Kd.R_lt (by (with_reducible repeat (first | apply Kd.R_alloc | apply Kd.R_drewN | apply Kd.R_drew)); exact HO198.out))) (below_size (by repeat (first | (with_reducible first | exact HB.out | apply below_alloc | apply pw_below_drewN | apply below_drew1) | exact HB.out)))); have n6_ := Aside0.mk (below_step (by repeat (first | (with_reducible first | exact HB.out | apply below_alloc | apply pw_below_drewN | apply below_drew1) | exact HB.out)) hb); clear HO_1; clear HO188; clear HO194; clear HO198; clear HO204; clear HB; have HO_1 := n0_; have HO188 := n1_; have HO194 := n2_; have HO198 := n3_; have HO204 := n4_; have HO208 := n5_; have HB := n6_; clear n0_ n1_ n2_ n3_ n4_ n5_ n6_; (try clear hb); (try clear hb2); (try clear hk); (try clear hi); (try clear ho0); obtain ⟨Ao45, co45, eo45⟩ := Kd.R_slice HO208.out; subst eo45) | ((with_reducible refine gate_callee (f := 10) rfl ?_); refine goesL_ (some 55) rfl rfl Try.func10 (by kernel_rfl) rfl #[.int .u64 t205, .slice Ao45 t206.length co45] rfl (by (try simp only [List.map_toArray, List.map_cons, List.map_nil]); first | done | rfl | (simp only [List.length_drop, List.length_take]; rfl)) ?_; (with_reducible refine (mix_Fold.calls kj5 t205 _ _ t206 t209 _ ?side1 ?side2 A25.out).mono ?_); (case side1 => repeat (first | exact (Kd.R_reads' HO208.out).2.2 | (with_reducible refine Kd.C_alloc ?_ _) | (with_reducible refine Kd.C_drewN ?_ _) | (with_reducible refine Kd.C_drew ?_))); (case side2 => exact (Kd.R_reads' HO208.out).2.1); rintro e w' ⟨rfl, ⟨nd, rfl⟩⟩; refine ⟨_, rfl, ?_⟩; have q46 : (a2 : Int) ≤ ((l1.length : Int) : Int) := of_decide_eq_true (by first | (with_reducible assumption) | assumption); obtain ⟨i046, hi046, _, hsz46, _⟩ := info_parts info5; have hroom46 : l1.length ≤ c1 := (Kd.V_reads' HO_1.out).2.1; have hC46 : Kd.F (Kd.int .u8) _ _ A1 l1.length l1 := (Kd.V_at (base := w.heap.size) HO_1.out).2.2; have q046 : (0 : Int) ≤ (a2 : Int) := of_decide_eq_true (by first | (with_reducible assumption) | assumption); have hcut46 := cut_from (P := Try.prog) 24 5 .i64 Try.underlying24 hi046 1 hsz46 A1 l1.length c1 a2 q046 q46; have hr46 := Kd.F_cut (m := (a2 : Int).toNat) (c := c1) hC46 (by omega) hroom46; have hA46 : A40 = (if c1 = (a2 : Int).toNat then A1 else (A1 : Option Addr).map (·.add ((a2 : Int).toNat * 1))) := KXA40.out; have hc46 : c40 = c1 - (a2 : Int).toNat := KXc40.out; have hy46 : y190.length = l1.length - (a2 : Int).toNat := (by rw [Ny210.out, List.length_drop] <;> omega); rw [show (l1).drop (a2 : Int).toNat = y190 from Ny210.out.symm] at hr46; replace hr46 : Kd.F (Kd.int .u8) _ _ A40 y190.length y190 := (by rw [hA46]; exact hr46); rw [← hy46, ← hA46, ← hc46] at hcut46; have HO214 := Aside0.mk (show Kd.V (Kd.int .u8) 5 _ w.heap.size _ (.slice A40 y190.length c40) y190 from Kd.V_mk (by rw [hy46, hc46]; exact Nat.sub_le_sub_right hroom46 _) hr46); have HC214 := Aside0.mk (show y190.length ≤ c40 from by rw [hy46, hc46]; exact Nat.sub_le_sub_right hroom46 _); clear hr46 hC46 hroom46 hi046 hsz46 hc46; have KY46 := Aside0.mk hy46; have KA46 := Aside0.mk hA46; clear hy46 hA46; replace q46 := eq_true q46) | ((with_reducible refine gate_callee (f := 10) rfl ?_); refine goesL_ (some 60) rfl rfl Try.func10 (by kernel_rfl) rfl #[.int .u64 t209, .slice A40 y190.length c40] rfl (by (try simp only [List.map_toArray, List.map_cons, List.map_nil]); first | done | rfl | (simp only [List.length_drop, List.length_take]; rfl)) ?_; (with_reducible refine (mix_Fold.calls kj5 t209 _ _ y190 t215 _ ?side1 ?side2 A28.out).mono ?_); (case side1 => repeat (first | exact (Kd.V_reads' HO214.out).2.2 | (with_reducible refine Kd.C_alloc ?_ _) | (with_reducible refine Kd.C_drewN ?_ _) | (with_reducible refine Kd.C_drew ?_))); (case side2 => exact (Kd.V_reads' HO214.out).2.1); rintro e w' ⟨rfl, ⟨nd, rfl⟩⟩; refine ⟨_, rfl, ?_⟩))
                  (try (rw [drewN_self w44]; generalize hq_ : World.drewN w44 _ = w44; have n0_ : Aside0 (Kd.V (Kd.int .u8) 5 w44 w.heap.size (fun k_ => (P1_ k_ ∨ w.heap.size ≤ k_) ∧ some k_ ≠ (.slice Ao42 t196.length co42 : Value).ownBlock ∧ some k_ ≠ (.slice Ao45 t206.length co45 : Value).ownBlock) (.slice A1 y184.length c1) y184) := ⟨by rw [← hq_]; exact (by (with_reducible repeat (first | apply Kd.V_alloc | apply Kd.V_drewN | apply Kd.V_drew)); exact Kd.V_mono HO188.out (fun _ hk => ⟨hk.1.1, ⟨hk.1.2, hk.2⟩⟩))⟩; have n1_ : Aside0 (Kd.V (Kd.int .u8) 5 w44 w.heap.size (fun k_ => (P1_ k_ ∨ w.heap.size ≤ k_) ∧ some k_ ≠ (.slice Ao42 t196.length co42 : Value).ownBlock ∧ some k_ ≠ (.slice Ao45 t206.length co45 : Value).ownBlock) (.slice A40 y190.length c40) y190) := ⟨by rw [← hq_]; exact (by (with_reducible repeat (first | apply Kd.V_alloc | apply Kd.V_drewN | apply Kd.V_drew)); exact Kd.V_mono HO194.out (fun _ hk => ⟨hk.1.1, ⟨hk.1.2, hk.2⟩⟩))⟩; have n2_ : Aside0 (Kd.R (Kd.int .u8) 5 w44 w.heap.size (fun k_ => (w.heap.size ≤ k_) ∧ some k_ ≠ (.slice Ao45 t206.length co45 : Value).ownBlock) (.slice Ao42 t196.length co42) t196) := ⟨by rw [← hq_]; exact (by (with_reducible repeat (first | apply Kd.R_alloc | apply Kd.R_drewN | apply Kd.R_drew)); exact Kd.R_mono HO198.out (fun _ hk => ⟨hk.1.1, hk.2⟩))⟩; have n3_ : Aside0 (Kd.V (Kd.int .u8) 5 w44 w.heap.size (fun k_ => (P1_ k_ ∨ w.heap.size ≤ k_) ∧ some k_ ≠ (.slice Ao42 t196.length co42 : Value).ownBlock ∧ some k_ ≠ (.slice Ao45 t206.length co45 : Value).ownBlock) (.slice A1 y184.length c1) y184) := ⟨by rw [← hq_]; exact (by (with_reducible repeat (first | apply Kd.V_alloc | apply Kd.V_drewN | apply Kd.V_drew)); exact Kd.V_mono HO204.out (fun _ hk => ⟨hk.1.1, ⟨hk.1.2, hk.2⟩⟩))⟩; have n4_ : Aside0 (Kd.R (Kd.int .u8) 5 w44 w.heap.size (fun k_ => (w.heap.size ≤ k_) ∧ some k_ ≠ (.slice Ao42 t196.length co42 : Value).ownBlock) (.slice Ao45 t206.length co45) t206) := ⟨by rw [← hq_]; exact (by (with_reducible repeat (first | apply Kd.R_alloc | apply Kd.R_drewN | apply Kd.R_drew)); exact Kd.R_mono HO208.out (fun _ hk => ⟨hk.1.1, hk.2⟩))⟩; have n5_ : Aside0 (Kd.V (Kd.int .u8) 5 w44 w.heap.size (fun k_ => (P1_ k_ ∨ w.heap.size ≤ k_) ∧ some k_ ≠ (.slice Ao42 t196.length co42 : Value).ownBlock ∧ some k_ ≠ (.slice Ao45 t206.length co45 : Value).ownBlock) (.slice A40 y190.length c40) y190) := ⟨by rw [← hq_]; exact (by (with_reducible repeat (first | apply Kd.V_alloc | apply Kd.V_drewN | apply Kd.V_drew)); exact Kd.V_mono HO214.out (fun _ hk => ⟨hk.1.1, ⟨hk.1.2, hk.2⟩⟩))⟩; have n6_ : Aside0 (Kd.V (Kd.int .u8) 5 w44 w.heap.size (fun k_ => (P1_ k_ ∨ w.heap.size ≤ k_) ∧ some k_ ≠ (.slice Ao42 t196.length co42 : Value).ownBlock ∧ some k_ ≠ (.slice Ao45 t206.length co45 : Value).ownBlock) (.slice A1 l1.length c1) l1) := ⟨by rw [← hq_]; exact (by (with_reducible repeat (first | apply Kd.V_alloc | apply Kd.V_drewN | apply Kd.V_drew)); exact Kd.V_mono HO_1.out (fun _ hk => ⟨hk.1.1, ⟨hk.1.2, hk.2⟩⟩))⟩; have n7_ : Aside0 (Below w.heap.size w w44) := ⟨by rw [← hq_]; exact (by repeat (first | (with_reducible first | exact HB.out | apply below_alloc | apply pw_below_drewN | apply below_drew1) | exact HB.out))⟩; clear HO188 HO194 HO198 HO204 HO208 HO214 HO_1 HB hq_; have HO188 := n0_; have HO194 := n1_; have HO198 := n2_; have HO204 := n3_; have HO208 := n4_; have HO214 := n5_; have HO_1 := n6_; have HB := n7_; clear n0_ n1_ n2_ n3_ n4_ n5_ n6_ n7_))
                  have n0_ := Aside0.mk (Kd.V_drew HO_1.out)
                  have n1_ := Aside0.mk (Kd.V_drew HO188.out)
                  have n2_ := Aside0.mk (Kd.V_drew HO194.out)
                  have n3_ := Aside0.mk (Kd.R_drew HO198.out)
                  have n4_ := Aside0.mk (Kd.V_drew HO204.out)
                  have n5_ := Aside0.mk (Kd.R_drew HO208.out)
                  have n6_ := Aside0.mk (Kd.V_drew HO214.out)
                  have n7_ := Aside0.mk (below_drew1 HB.out)
                  clear HO_1
                  clear HO188
                  clear HO194
                  clear HO198
                  clear HO204
                  clear HO208
                  clear HO214
                  clear HB
                  have HO_1 := n0_
                  have HO188 := n1_
                  have HO194 := n2_
                  have HO198 := n3_
                  have HO204 := n4_
                  have HO208 := n5_
                  have HO214 := n6_
                  have HB := n7_
                  clear n0_ n1_ n2_ n3_ n4_ n5_ n6_ n7_
                  have q48 : (a2 : Int) ≤ ((l1.length : Int) : Int) := of_decide_eq_true (by first | (with_reducible assumption) | assumption)
                  obtain ⟨i048, hi048, _, hsz48, _⟩ := info_parts info5
                  have hroom48 : l1.length ≤ c1 := (Kd.V_reads' HO_1.out).2.1
                  have hC48 : Kd.F (Kd.int .u8) _ _ A1 l1.length l1 := (Kd.V_at (base := w.heap.size) HO_1.out).2.2
                  have hcut48 := cut_to (P := Try.prog) 24 5 .i64 Try.underlying24 hi048 A1 l1.length c1 a2 (of_decide_eq_true (by first | (with_reducible assumption) | assumption)) q48 hroom48
                  have hr48 := Kd.F_take (m := (a2 : Int).toNat) hC48 (by omega)
                  have hy48 : y184.length = (a2 : Int).toNat := (by rw [Ny216.out, List.length_take]; omega)
                  rw [← Ny216.out] at hr48
                  rw [← hy48] at hcut48
                  have HO220 := Aside0.mk (show Kd.V (Kd.int .u8) 5 _ w.heap.size _ (.slice A1 y184.length c1) y184 from Kd.V_mk (by omega) hr48)
                  have HC220 := Aside0.mk (show y184.length ≤ c1 from by omega)
                  clear hr48 hC48 hroom48 hi048 hsz48
                  have KY48 := Aside0.mk hy48
                  clear hy48
                  replace q48 := eq_true q48
                  have q49 : (a2 : Int) ≤ ((l1.length : Int) : Int) := of_decide_eq_true (by first | (with_reducible assumption) | assumption)
                  obtain ⟨i049, hi049, _, hsz49, _⟩ := info_parts info5
                  have hroom49 : l1.length ≤ c1 := (Kd.V_reads' HO_1.out).2.1
                  have hC49 : Kd.F (Kd.int .u8) _ _ A1 l1.length l1 := (Kd.V_at (base := w.heap.size) HO_1.out).2.2
                  have q049 : (0 : Int) ≤ (a2 : Int) := of_decide_eq_true (by first | (with_reducible assumption) | assumption)
                  have hcut49 := cut_from (P := Try.prog) 24 5 .i64 Try.underlying24 hi049 1 hsz49 A1 l1.length c1 a2 q049 q49
                  have hr49 := Kd.F_cut (m := (a2 : Int).toNat) (c := c1) hC49 (by omega) hroom49
                  have hA49 : A40 = (if c1 = (a2 : Int).toNat then A1 else (A1 : Option Addr).map (·.add ((a2 : Int).toNat * 1))) := KXA40.out
                  have hc49 : c40 = c1 - (a2 : Int).toNat := KXc40.out
                  have hy49 : y190.length = l1.length - (a2 : Int).toNat := (by rw [Ny221.out, List.length_drop] <;> omega)
                  rw [show (l1).drop (a2 : Int).toNat = y190 from Ny221.out.symm] at hr49
                  replace hr49 : Kd.F (Kd.int .u8) _ _ A40 y190.length y190 := (by rw [hA49]; exact hr49)
                  rw [← hy49, ← hA49, ← hc49] at hcut49
                  have HO225 := Aside0.mk (show Kd.V (Kd.int .u8) 5 _ w.heap.size _ (.slice A40 y190.length c40) y190 from Kd.V_mk (by rw [hy49, hc49]; exact Nat.sub_le_sub_right hroom49 _) hr49)
                  have HC225 := Aside0.mk (show y190.length ≤ c40 from by rw [hy49, hc49]; exact Nat.sub_le_sub_right hroom49 _)
                  clear hr49 hC49 hroom49 hi049 hsz49 hc49
                  have KY49 := Aside0.mk hy49
                  have KA49 := Aside0.mk hA49
                  clear hy49 hA49
                  replace q49 := eq_true q49
                  refine start_ (n := 21) (S := fun w' => True) (ds := []) #[false, false, false, false, false, false, false, false, false, false, false, false, false, false, false, false, false, false, false, false, false] (by kernel_rfl) rfl rfl trivial (fun hHeld => ?_); refine with_tabW crosswaylaw22_MixParts.tab12 crosswaylaw22_MixParts.bits12 (fun HT_ HW_ => ?_)
                  generalize w44.drew = w47 at HO_1 HO188 HO194 HO198 HO204 HO208 HO214 HB HO220 HO225 hHeld ⊢
                  refine pure_ (i := 0) (N := some 61) (v := ?_) (a' := ?_) #[true, false, false, false, false, false, false, false, false, false, false, false, false, false, false, false, false, false, false, false, false] rfl rfl (any_of HT_.out (by kernel_rfl)) (fun _ _ _ h => h) (Or.inl ⟨by rfl, ?_⟩) ?_ ?_
                  rotate_left
                  · intro w'
                    go_simp
                    with_reducible rfl
                  rotate_left
                  · simp only [Act.put, List.setIfInBounds_toArray, List.set_cons_zero, List.set_cons_succ, i64_w, i32_w]
                    rfl
                  refine pure_ (i := 1) (N := some 62) (v := ?_) (a' := ?_) #[true, true, false, false, false, false, false, false, false, false, false, false, false, false, false, false, false, false, false, false, false] rfl rfl (any_of HT_.out (by kernel_rfl)) (fun _ _ _ h => h) (Or.inl ⟨by rfl, ?_⟩) ?_ ?_
                  rotate_left
                  · intro w'
                    go_simp
                    with_reducible rfl
                  rotate_left
                  · simp only [Act.put, List.setIfInBounds_toArray, List.set_cons_zero, List.set_cons_succ, i64_w, i32_w]
                    rfl
                  refine pure_ (i := 2) (N := some 63) (v := ?_) (a' := ?_) #[true, true, true, false, false, false, false, false, false, false, false, false, false, false, false, false, false, false, false, false, false] rfl rfl (any_of HT_.out (by kernel_rfl)) (fun _ _ _ h => h) (Or.inl ⟨by rfl, ?_⟩) ?_ ?_
                  rotate_left
                  · intro w'
                    go_simp
                    with_reducible rfl
                  rotate_left
                  · simp only [Act.put, List.setIfInBounds_toArray, List.set_cons_zero, List.set_cons_succ, i64_w, i32_w]
                    rfl
                  refine pure_ (i := 3) (N := some 64) (v := ?_) (a' := ?_) #[true, true, true, true, false, false, false, false, false, false, false, false, false, false, false, false, false, false, false, false, false] rfl rfl (any_of HT_.out (by kernel_rfl)) (fun _ _ _ h => h) (Or.inl ⟨by rfl, ?_⟩) ?_ ?_
                  rotate_left
                  · intro w'
                    go_simp
                    with_reducible rfl
                  rotate_left
                  · simp only [Act.put, List.setIfInBounds_toArray, List.set_cons_zero, List.set_cons_succ, i64_w, i32_w]
                    rfl
                  refine pure_ (i := 4) (N := some 65) (v := ?_) (a' := ?_) #[true, true, true, true, true, false, false, false, false, false, false, false, false, false, false, false, false, false, false, false, false] rfl rfl (any_of HT_.out (by kernel_rfl)) (fun _ _ _ h => h) (Or.inl ⟨by rfl, ?_⟩) ?_ ?_
                  rotate_left
                  · intro w'
                    go_simp
                    with_reducible rfl
                  rotate_left
                  · simp only [Act.put, List.setIfInBounds_toArray, List.set_cons_zero, List.set_cons_succ, i64_w, i32_w]
                    rfl
                  refine pure_ (i := 5) (N := some 66) (v := ?_) (a' := ?_) #[true, true, true, true, true, true, false, false, false, false, false, false, false, false, false, false, false, false, false, false, false] rfl rfl (any_of HT_.out (by kernel_rfl)) (fun _ _ _ h => h) (Or.inl ⟨by rfl, ?_⟩) ?_ ?_
                  rotate_left
                  · intro w'
                    go_simp
                    with_reducible rfl
                  rotate_left
                  · simp only [Act.put, List.setIfInBounds_toArray, List.set_cons_zero, List.set_cons_succ, i64_w, i32_w]
                    rfl
                  refine pure_ (i := 6) (N := some 67) (v := ?_) (a' := ?_) #[true, true, true, true, true, true, true, false, false, false, false, false, false, false, false, false, false, false, false, false, false] rfl rfl (any_of HT_.out (by kernel_rfl)) (fun _ _ _ h => h) (Or.inl ⟨by rfl, ?_⟩) ?_ ?_
                  rotate_left
                  · intro w'
                    go_simp
                    with_reducible rfl
                  rotate_left
                  · simp only [Act.put, List.setIfInBounds_toArray, List.set_cons_zero, List.set_cons_succ, i64_w, i32_w]
                    rfl
                  refine pure_ (i := 9) (N := some 70) (v := ?_) (a' := ?_) #[true, true, true, true, true, true, true, false, false, true, false, false, false, false, false, false, false, false, false, false, false] rfl rfl (any_of HT_.out (by kernel_rfl)) (fun _ _ _ h => h) (Or.inl ⟨by rfl, ?_⟩) ?_ ?_
                  rotate_left
                  · intro w'
                    go_simp
                    with_reducible rfl
                  rotate_left
                  · simp only [Act.put, List.setIfInBounds_toArray, List.set_cons_zero, List.set_cons_succ, i64_w, i32_w]
                    rfl
                  refine one_ (i := 7) (N := some 68) #[true, true, true, true, true, true, true, true, false, true, false, false, false, false, false, false, false, false, false, false, false] rfl rfl (one_of HT_.out (by kernel_rfl)) (by decide) (fun K hK => ?_)
                  refine Kd.N_lit_step (Kd.slice 5 (Kd.int .u8)) _ 24 ?hg (N' := 68) ?hd (xs := ([y184, y190] : List (List Int))) (inner := [.slice A1 y184.length c1, .slice A40 y190.length c40]) (ok := (fun k_ => (P1_ k_ ∨ w.heap.size ≤ k_) ∧ some k_ ≠ (.slice Ao42 t196.length co42 : Value).ownBlock ∧ some k_ ≠ (.slice Ao45 t206.length co45 : Value).ownBlock)) (okp := (fun k_ => (P1_ k_ ∨ w.heap.size ≤ k_) ∧ some k_ ≠ (.slice Ao42 t196.length co42 : Value).ownBlock ∧ some k_ ≠ (.slice Ao45 t206.length co45 : Value).ownBlock)) ?hr ?hp (fun _ hk => hk) ((show ∀ k_, w47.heap.size ≤ k_ → (fun k_ => (P1_ k_ ∨ w.heap.size ≤ k_) ∧ some k_ ≠ (.slice Ao42 t196.length co42 : Value).ownBlock ∧ some k_ ≠ (.slice Ao45 t206.length co45 : Value).ownBlock) k_ from fun k_ hk => ⟨(.inr (Nat.le_trans (below_size (by repeat (first | (with_reducible first | exact HB.out | apply below_alloc | apply pw_below_drewN | apply below_drew1) | exact HB.out))) hk)), Kd.fresh' (Kd.R_lt (by (with_reducible repeat (first | apply Kd.R_alloc | apply Kd.R_drewN | apply Kd.R_drew)); exact HO198.out)) k_ hk, Kd.fresh' (Kd.R_lt (by (with_reducible repeat (first | apply Kd.R_alloc | apply Kd.R_drewN | apply Kd.R_drew)); exact HO208.out)) k_ hk⟩) _ (Nat.le_refl _)) (Below.refl _ _) (Nat.le_refl _) (by simp) ?_; (case hd => rfl); (case hg => rfl); (case hr => first | (go_simp; done) | (go_simp; rfl)); (case hp => exact (Reps.one (show Kd.FK (Kd.slice 5 (Kd.int .u8)) _ _ y184 [.slice A1 y184.length c1] from (Kd.FK_slice_mk (Kd.V_reads' (Kd.V_mono (ok' := (fun k_ => (P1_ k_ ∨ w.heap.size ≤ k_) ∧ some k_ ≠ (.slice Ao42 t196.length co42 : Value).ownBlock ∧ some k_ ≠ (.slice Ao45 t206.length co45 : Value).ownBlock)) (HO220.out) (fun k_ hk => by first | exact ⟨hk.1.1, ⟨hk.1.2, hk.2⟩⟩ | exact hk | (simp only [and_assoc] at hk ⊢; exact hk)))).2.1 (Kd.V_F (Kd.V_mono (ok' := (fun k_ => (P1_ k_ ∨ w.heap.size ≤ k_) ∧ some k_ ≠ (.slice Ao42 t196.length co42 : Value).ownBlock ∧ some k_ ≠ (.slice Ao45 t206.length co45 : Value).ownBlock)) (HO220.out) (fun k_ hk => by first | exact ⟨hk.1.1, ⟨hk.1.2, hk.2⟩⟩ | exact hk | (simp only [and_assoc] at hk ⊢; exact hk)))))) (Reps.one (show Kd.FK (Kd.slice 5 (Kd.int .u8)) _ _ y190 [.slice A40 y190.length c40] from (Kd.FK_slice_mk (Kd.V_reads' (Kd.V_mono (ok' := (fun k_ => (P1_ k_ ∨ w.heap.size ≤ k_) ∧ some k_ ≠ (.slice Ao42 t196.length co42 : Value).ownBlock ∧ some k_ ≠ (.slice Ao45 t206.length co45 : Value).ownBlock)) (HO225.out) (fun k_ hk => by first | exact ⟨hk.1.1, ⟨hk.1.2, hk.2⟩⟩ | exact hk | (simp only [and_assoc] at hk ⊢; exact hk)))).2.1 (Kd.V_F (Kd.V_mono (ok' := (fun k_ => (P1_ k_ ∨ w.heap.size ≤ k_) ∧ some k_ ≠ (.slice Ao42 t196.length co42 : Value).ownBlock ∧ some k_ ≠ (.slice Ao45 t206.length co45 : Value).ownBlock)) (HO225.out) (fun k_ hk => by first | exact ⟨hk.1.1, ⟨hk.1.2, hk.2⟩⟩ | exact hk | (simp only [and_assoc] at hk ⊢; exact hk)))))) (Reps.none _ _))))
                  intro v227 w50 ho51 hb hg_ hnew_
                  clear hg_ hnew_
                  (first | rw [← Ny226.out] at ho51 | (simp only [Int.reduceToNat] at ho51; rw [← Ny226.out] at ho51))
                  have n0_ := Aside0.mk (Kd.V_elder' (by (with_reducible repeat (first | apply Kd.V_alloc | apply Kd.V_drewN | apply Kd.V_drew)); exact HO_1.out) (Kd.N_base ho51) hb)
                  have n1_ := Aside0.mk (Kd.V_elder' (by (with_reducible repeat (first | apply Kd.V_alloc | apply Kd.V_drewN | apply Kd.V_drew)); exact HO188.out) (Kd.N_base ho51) hb)
                  have n2_ := Aside0.mk (Kd.V_elder' (by (with_reducible repeat (first | apply Kd.V_alloc | apply Kd.V_drewN | apply Kd.V_drew)); exact HO194.out) (Kd.N_base ho51) hb)
                  have n3_ := Aside0.mk (Kd.R_below (by (with_reducible repeat (first | apply Kd.R_alloc | apply Kd.R_drewN | apply Kd.R_drew)); exact HO198.out) hb)
                  have n4_ := Aside0.mk (Kd.V_elder' (by (with_reducible repeat (first | apply Kd.V_alloc | apply Kd.V_drewN | apply Kd.V_drew)); exact HO204.out) (Kd.N_base ho51) hb)
                  have n5_ := Aside0.mk (Kd.R_below (by (with_reducible repeat (first | apply Kd.R_alloc | apply Kd.R_drewN | apply Kd.R_drew)); exact HO208.out) hb)
                  have n6_ := Aside0.mk (Kd.V_elder' (by (with_reducible repeat (first | apply Kd.V_alloc | apply Kd.V_drewN | apply Kd.V_drew)); exact HO214.out) (Kd.N_base ho51) hb)
                  have n7_ := Aside0.mk (Kd.V_elder' (by (with_reducible repeat (first | apply Kd.V_alloc | apply Kd.V_drewN | apply Kd.V_drew)); exact HO220.out) (Kd.N_base ho51) hb)
                  have n8_ := Aside0.mk (Kd.V_elder' (by (with_reducible repeat (first | apply Kd.V_alloc | apply Kd.V_drewN | apply Kd.V_drew)); exact HO225.out) (Kd.N_base ho51) hb)
                  have n9_ := Aside0.mk (Kd.N_lower ho51 (below_size (by repeat (first | (with_reducible first | exact HB.out | apply below_alloc | apply pw_below_drewN | apply below_drew1) | exact HB.out))))
                  have n10_ := Aside0.mk (below_step (by repeat (first | (with_reducible first | exact HB.out | apply below_alloc | apply pw_below_drewN | apply below_drew1) | exact HB.out)) hb)
                  clear HO_1
                  clear HO188
                  clear HO194
                  clear HO198
                  clear HO204
                  clear HO208
                  clear HO214
                  clear HO220
                  clear HO225
                  clear HB
                  have HO_1 := n0_
                  have HO188 := n1_
                  have HO194 := n2_
                  have HO198 := n3_
                  have HO204 := n4_
                  have HO208 := n5_
                  have HO214 := n6_
                  have HO220 := n7_
                  have HO225 := n8_
                  have HO228 := n9_
                  have HB := n10_
                  clear n0_ n1_ n2_ n3_ n4_ n5_ n6_ n7_ n8_ n9_ n10_
                  clear hb ho51
                  obtain ⟨Ao52, co52, eo52⟩ := Kd.N_slice HO228.out
                  (first | subst eo52 | (injection eo52 with f1_ f2_ f3_; have f4_ := f1_.symm; have f5_ := f3_.symm; clear f1_ f2_ f3_; subst f4_; subst f5_))
                  refine hK.out _ _ trivial (fun hHeld => ?_)
                  clear hK K
                  refine norm_ (a' := ?_) ?_ ?_
                  rotate_left
                  · show Act.put _ (some 68) _ = _
                    simp only [Act.put, List.setIfInBounds_toArray, List.set_cons_zero, List.set_cons_succ, i64_w, i32_w]
                    rfl
                  refine one_ (i := 8) (N := some 69) #[true, true, true, true, true, true, true, true, true, true, false, false, false, false, false, false, false, false, false, false, false] rfl rfl (one_of HT_.out (by kernel_rfl)) (by decide) (fun K hK => ?_)
                  refine goes_ Try.func14 (by kernel_rfl) rfl #[.int .u64 a0, .slice Ao52 y226.length co52] (by rfl) rfl rfl (by (try simp only [List.map_toArray, List.map_cons, List.map_nil]); first | done | rfl | (simp only [List.length_drop, List.length_take]; rfl)) ?_
                  with_reducible refine (mix_Mix.calls kj5 a0 _ _ y226 t229 _ ?side1 ?side2 A33.out).mono ?_
                  (case side1 => repeat (first | exact (Kd.N_reads' HO228.out).2.2 | (with_reducible refine Kd.C_alloc ?_ _) | (with_reducible refine Kd.C_drewN ?_ _) | (with_reducible refine Kd.C_drew ?_)))
                  (case side2 => exact (Kd.N_reads' HO228.out).2.1)
                  rintro e w53 ⟨rfl, hb⟩
                  refine ⟨_, rfl, ?_⟩
                  have n0_ := Aside0.mk (Kd.V_below (by (with_reducible repeat (first | apply Kd.V_alloc | apply Kd.V_drewN | apply Kd.V_drew)); exact HO_1.out) hb)
                  have n1_ := Aside0.mk (Kd.V_below (by (with_reducible repeat (first | apply Kd.V_alloc | apply Kd.V_drewN | apply Kd.V_drew)); exact HO188.out) hb)
                  have n2_ := Aside0.mk (Kd.V_below (by (with_reducible repeat (first | apply Kd.V_alloc | apply Kd.V_drewN | apply Kd.V_drew)); exact HO194.out) hb)
                  have n3_ := Aside0.mk (Kd.R_below (by (with_reducible repeat (first | apply Kd.R_alloc | apply Kd.R_drewN | apply Kd.R_drew)); exact HO198.out) hb)
                  have n4_ := Aside0.mk (Kd.V_below (by (with_reducible repeat (first | apply Kd.V_alloc | apply Kd.V_drewN | apply Kd.V_drew)); exact HO204.out) hb)
                  have n5_ := Aside0.mk (Kd.R_below (by (with_reducible repeat (first | apply Kd.R_alloc | apply Kd.R_drewN | apply Kd.R_drew)); exact HO208.out) hb)
                  have n6_ := Aside0.mk (Kd.V_below (by (with_reducible repeat (first | apply Kd.V_alloc | apply Kd.V_drewN | apply Kd.V_drew)); exact HO214.out) hb)
                  have n7_ := Aside0.mk (Kd.V_below (by (with_reducible repeat (first | apply Kd.V_alloc | apply Kd.V_drewN | apply Kd.V_drew)); exact HO220.out) hb)
                  have n8_ := Aside0.mk (Kd.V_below (by (with_reducible repeat (first | apply Kd.V_alloc | apply Kd.V_drewN | apply Kd.V_drew)); exact HO225.out) hb)
                  have n9_ := Aside0.mk (Kd.N_below (by (with_reducible repeat (first | apply Kd.N_alloc | apply Kd.N_drewN | apply Kd.N_drew)); exact HO228.out) hb)
                  have n10_ := Aside0.mk (below_step (by repeat (first | (with_reducible first | exact HB.out | apply below_alloc | apply pw_below_drewN | apply below_drew1) | exact HB.out)) hb)
                  clear HO_1
                  clear HO188
                  clear HO194
                  clear HO198
                  clear HO204
                  clear HO208
                  clear HO214
                  clear HO220
                  clear HO225
                  clear HO228
                  clear HB
                  have HO_1 := n0_
                  have HO188 := n1_
                  have HO194 := n2_
                  have HO198 := n3_
                  have HO204 := n4_
                  have HO208 := n5_
                  have HO214 := n6_
                  have HO220 := n7_
                  have HO225 := n8_
                  have HO228 := n9_
                  have HB := n10_
                  clear n0_ n1_ n2_ n3_ n4_ n5_ n6_ n7_ n8_ n9_ n10_
                  (try clear hb)
                  (try clear hb2)
                  (try clear hk)
                  (try clear hi)
                  refine hK.out _ _ trivial (fun hHeld => ?_)
                  clear hK K
                  refine norm_ (a' := ?_) ?_ ?_
                  rotate_left
                  · show Act.put _ (some 69) _ = _
                    simp only [Act.put, List.setIfInBounds_toArray, List.set_cons_zero, List.set_cons_succ, i64_w, i32_w]
                    rfl
                  refine one_ (i := 10) (N := some 71) #[true, true, true, true, true, true, true, true, true, true, true, false, false, false, false, false, false, false, false, false, false] rfl rfl (one_of HT_.out (by kernel_rfl)) (by decide) (fun K hK => ?_)
                  refine goes_ Try.func12 (by kernel_rfl) rfl #[.int .u64 t215] (by rfl) rfl rfl (by (try simp only [List.map_toArray, List.map_cons, List.map_nil]); first | done | rfl | (simp only [List.length_drop, List.length_take]; rfl)) ?_
                  with_reducible refine (mix_End.calls t215 t230 _ A34.out).mono ?_
                  rintro e w' ⟨rfl, ⟨nd, rfl⟩⟩
                  refine ⟨_, rfl, ?_⟩
                  refine hK.out _ _ trivial (fun hHeld => ?_)
                  clear hK K
                  refine norm_ (a' := ?_) ?_ ?_
                  rotate_left
                  · show Act.put _ (some 71) _ = _
                    simp only [Act.put, List.setIfInBounds_toArray, List.set_cons_zero, List.set_cons_succ, i64_w, i32_w]
                    rfl
                  refine pure_ (i := 11) (N := some 72) (v := ?_) (a' := ?_) #[true, true, true, true, true, true, true, true, true, true, true, true, false, false, false, false, false, false, false, false, false] rfl rfl (any_of HT_.out (by kernel_rfl)) (fun _ _ _ h => h) (Or.inl ⟨by rfl, ?_⟩) ?_ ?_
                  rotate_left
                  · intro w'
                    go_simp
                    with_reducible rfl
                  rotate_left
                  · simp only [Act.put, List.setIfInBounds_toArray, List.set_cons_zero, List.set_cons_succ, i64_w, i32_w]
                    rfl
                  refine pure_ (i := 12) (N := some 73) (v := ?_) (a' := ?_) #[true, true, true, true, true, true, true, true, true, true, true, true, true, false, false, false, false, false, false, false, false] rfl rfl (any_of HT_.out (by kernel_rfl)) (fun _ _ _ h => h) (Or.inl ⟨by rfl, ?_⟩) ?_ ?_
                  rotate_left
                  · intro w'
                    go_simp
                    with_reducible rfl
                  rotate_left
                  · simp only [Act.put, List.setIfInBounds_toArray, List.set_cons_zero, List.set_cons_succ, i64_w, i32_w]
                    rfl
                  refine pure_ (i := 13) (N := some 74) (v := ?_) (a' := ?_) #[true, true, true, true, true, true, true, true, true, true, true, true, true, true, false, false, false, false, false, false, false] rfl rfl (any_of HT_.out (by kernel_rfl)) (fun _ _ _ h => h) (Or.inl ⟨by rfl, ?_⟩) ?_ ?_
                  rotate_left
                  · intro w'
                    go_simp
                    with_reducible rfl
                  rotate_left
                  · simp only [Act.put, List.setIfInBounds_toArray, List.set_cons_zero, List.set_cons_succ, i64_w, i32_w]
                    rfl
                  refine pure_ (i := 15) (N := some 76) (v := ?_) (a' := ?_) #[true, true, true, true, true, true, true, true, true, true, true, true, true, true, false, true, false, false, false, false, false] rfl rfl (any_of HT_.out (by kernel_rfl)) (fun _ _ _ h => h) (Or.inl ⟨by rfl, ?_⟩) ?_ ?_
                  rotate_left
                  · intro w'
                    go_simp
                    with_reducible rfl
                  rotate_left
                  · simp only [Act.put, List.setIfInBounds_toArray, List.set_cons_zero, List.set_cons_succ, i64_w, i32_w]
                    rfl
                  refine pure_ (i := 16) (N := some 77) (v := ?_) (a' := ?_) #[true, true, true, true, true, true, true, true, true, true, true, true, true, true, false, true, true, false, false, false, false] rfl rfl (any_of HT_.out (by kernel_rfl)) (fun _ _ _ h => h) (Or.inl ⟨by rfl, ?_⟩) ?_ ?_
                  rotate_left
                  · intro w'
                    go_simp
                    with_reducible rfl
                  rotate_left
                  · simp only [Act.put, List.setIfInBounds_toArray, List.set_cons_zero, List.set_cons_succ, i64_w, i32_w]
                    rfl
                  refine one_ (i := 14) (N := some 75) #[true, true, true, true, true, true, true, true, true, true, true, true, true, true, true, true, true, false, false, false, false] rfl rfl (one_of HT_.out (by kernel_rfl)) (by decide) (fun K hK => ?_)
                  refine goes_ Try.func14 (by kernel_rfl) rfl #[.int .u64 a0, .slice none 0 0] (by rfl) rfl rfl (by (try simp only [List.map_toArray, List.map_cons, List.map_nil]); first | done | rfl | (simp only [List.length_drop, List.length_take]; rfl)) ?_
                  refine (mix_Mix.calls kj5 a0 _ _ ([] : List (List Int)) t231 _ ?side1 ?side2 A36.out).mono ?_
                  (case side1 => exact Kd.C_nil _ _)
                  (case side2 => exact Nat.le_refl _)
                  rintro e w54 ⟨rfl, hb⟩
                  refine ⟨_, rfl, ?_⟩
                  have n0_ := Aside0.mk (Kd.V_below (by (with_reducible repeat (first | apply Kd.V_alloc | apply Kd.V_drewN | apply Kd.V_drew)); exact HO_1.out) hb)
                  have n1_ := Aside0.mk (Kd.V_below (by (with_reducible repeat (first | apply Kd.V_alloc | apply Kd.V_drewN | apply Kd.V_drew)); exact HO188.out) hb)
                  have n2_ := Aside0.mk (Kd.V_below (by (with_reducible repeat (first | apply Kd.V_alloc | apply Kd.V_drewN | apply Kd.V_drew)); exact HO194.out) hb)
                  have n3_ := Aside0.mk (Kd.R_below (by (with_reducible repeat (first | apply Kd.R_alloc | apply Kd.R_drewN | apply Kd.R_drew)); exact HO198.out) hb)
                  have n4_ := Aside0.mk (Kd.V_below (by (with_reducible repeat (first | apply Kd.V_alloc | apply Kd.V_drewN | apply Kd.V_drew)); exact HO204.out) hb)
                  have n5_ := Aside0.mk (Kd.R_below (by (with_reducible repeat (first | apply Kd.R_alloc | apply Kd.R_drewN | apply Kd.R_drew)); exact HO208.out) hb)
                  have n6_ := Aside0.mk (Kd.V_below (by (with_reducible repeat (first | apply Kd.V_alloc | apply Kd.V_drewN | apply Kd.V_drew)); exact HO214.out) hb)
                  have n7_ := Aside0.mk (Kd.V_below (by (with_reducible repeat (first | apply Kd.V_alloc | apply Kd.V_drewN | apply Kd.V_drew)); exact HO220.out) hb)
                  have n8_ := Aside0.mk (Kd.V_below (by (with_reducible repeat (first | apply Kd.V_alloc | apply Kd.V_drewN | apply Kd.V_drew)); exact HO225.out) hb)
                  have n9_ := Aside0.mk (Kd.N_below (by (with_reducible repeat (first | apply Kd.N_alloc | apply Kd.N_drewN | apply Kd.N_drew)); exact HO228.out) hb)
                  have n10_ := Aside0.mk (below_step (by repeat (first | (with_reducible first | exact HB.out | apply below_alloc | apply pw_below_drewN | apply below_drew1) | exact HB.out)) hb)
                  clear HO_1
                  clear HO188
                  clear HO194
                  clear HO198
                  clear HO204
                  clear HO208
                  clear HO214
                  clear HO220
                  clear HO225
                  clear HO228
                  clear HB
                  have HO_1 := n0_
                  have HO188 := n1_
                  have HO194 := n2_
                  have HO198 := n3_
                  have HO204 := n4_
                  have HO208 := n5_
                  have HO214 := n6_
                  have HO220 := n7_
                  have HO225 := n8_
                  have HO228 := n9_
                  have HB := n10_
                  clear n0_ n1_ n2_ n3_ n4_ n5_ n6_ n7_ n8_ n9_ n10_
                  (try clear hb)
                  (try clear hb2)
                  (try clear hk)
                  (try clear hi)
                  refine hK.out _ _ trivial (fun hHeld => ?_)
                  clear hK K
                  refine norm_ (a' := ?_) ?_ ?_
                  rotate_left
                  · show Act.put _ (some 75) _ = _
                    simp only [Act.put, List.setIfInBounds_toArray, List.set_cons_zero, List.set_cons_succ, i64_w, i32_w]
                    rfl
                  refine one_ (i := 17) (N := some 78) #[true, true, true, true, true, true, true, true, true, true, true, true, true, true, true, true, true, true, false, false, false] rfl rfl (one_of HT_.out (by kernel_rfl)) (by decide) (fun K hK => ?_)
                  refine goes_ Try.func12 (by kernel_rfl) rfl #[.int .u64 (Go.bits .xor .u64 14695981039346656037 a0)] (by rfl) rfl rfl (by (try simp only [List.map_toArray, List.map_cons, List.map_nil]); first | done | rfl | (simp only [List.length_drop, List.length_take]; rfl)) ?_
                  with_reducible refine (mix_End.calls (Go.bits .xor .u64 14695981039346656037 a0) t232 _ A37.out).mono ?_
                  rintro e w' ⟨rfl, ⟨nd, rfl⟩⟩
                  refine ⟨_, rfl, ?_⟩
                  refine hK.out _ _ trivial (fun hHeld => ?_)
                  clear hK K
                  refine norm_ (a' := ?_) ?_ ?_
                  rotate_left
                  · show Act.put _ (some 78) _ = _
                    simp only [Act.put, List.setIfInBounds_toArray, List.set_cons_zero, List.set_cons_succ, i64_w, i32_w]
                    rfl
                  refine pure_ (i := 18) (N := some 79) (v := ?_) (a' := ?_) #[true, true, true, true, true, true, true, true, true, true, true, true, true, true, true, true, true, true, true, false, false] rfl rfl (any_of HT_.out (by kernel_rfl)) (fun _ _ _ h => h) (Or.inl ⟨by rfl, ?_⟩) ?_ ?_
                  rotate_left
                  · intro w'
                    go_simp
                    with_reducible rfl
                  rotate_left
                  · simp only [Act.put, List.setIfInBounds_toArray, List.set_cons_zero, List.set_cons_succ, i64_w, i32_w]
                    rfl
                  refine pure_ (i := 19) (N := some 80) (v := ?_) (a' := ?_) #[true, true, true, true, true, true, true, true, true, true, true, true, true, true, true, true, true, true, true, true, false] rfl rfl (any_of HT_.out (by kernel_rfl)) (fun _ _ _ h => h) (Or.inl ⟨by rfl, ?_⟩) ?_ ?_
                  rotate_left
                  · intro w'
                    go_simp
                    with_reducible rfl
                  rotate_left
                  · simp only [Act.put, List.setIfInBounds_toArray, List.set_cons_zero, List.set_cons_succ, i64_w, i32_w]
                    rfl
                  refine pure_ (i := 20) (N := some 6) (v := ?_) (a' := ?_) #[true, true, true, true, true, true, true, true, true, true, true, true, true, true, true, true, true, true, true, true, true] rfl rfl (any_of HT_.out (by kernel_rfl)) (fun _ _ _ h => h) (Or.inl ⟨by rfl, ?_⟩) ?_ ?_
                  rotate_left
                  · intro w'
                    go_simp
                    with_reducible rfl
                  rotate_left
                  · simp only [Act.put, List.setIfInBounds_toArray, List.set_cons_zero, List.set_cons_succ, i64_w, i32_w]
                    rfl
                  refine done_ (done_of HT_.out (by kernel_rfl)) ?_
                  try go_wp2
                  go_ret
                  exact ⟨by first | rfl | (simp [errW_none, errW_some] <;> rfl) | (simp [*, errW_none, errW_some] <;> rfl), by repeat (first | (with_reducible first | exact HB.out | apply below_alloc | apply pw_below_drewN | apply below_drew1) | exact HB.out)⟩
                · rw [if_neg c35] at H
                  have c35b0 : (t229 == t230) = false := beq_eq_false_iff_ne.mpr c35
                  have c35b1 : (t229 != t230) = true := bne_iff_ne.mpr c35
                  obtain rfl := Option.some.inj H
                  try go_wp2
                  have n0_ := Aside0.mk (Kd.V_drew HO_1.out)
                  have n1_ := Aside0.mk (below_drew1 HB.out)
                  clear HO_1
                  clear HB
                  have HO_1 := n0_
                  have HB := n1_
                  clear n0_ n1_
                  have q56 : (a2 : Int) ≤ ((l1.length : Int) : Int) := of_decide_eq_true (by first | (with_reducible assumption) | assumption)
                  obtain ⟨i056, hi056, _, hsz56, _⟩ := info_parts info5
                  have hroom56 : l1.length ≤ c1 := (Kd.V_reads' HO_1.out).2.1
                  have hC56 : Kd.F (Kd.int .u8) _ _ A1 l1.length l1 := (Kd.V_at (base := w.heap.size) HO_1.out).2.2
                  have hcut56 := cut_to (P := Try.prog) 24 5 .i64 Try.underlying24 hi056 A1 l1.length c1 a2 (of_decide_eq_true (by first | (with_reducible assumption) | assumption)) q56 hroom56
                  have hr56 := Kd.F_take (m := (a2 : Int).toNat) hC56 (by omega)
                  have hy56 : y184.length = (a2 : Int).toNat := (by rw [Ny184.out, List.length_take]; omega)
                  rw [← Ny184.out] at hr56
                  rw [← hy56] at hcut56
                  have HO188 := Aside0.mk (show Kd.V (Kd.int .u8) 5 _ w.heap.size _ (.slice A1 y184.length c1) y184 from Kd.V_mk (by omega) hr56)
                  have HC188 := Aside0.mk (show y184.length ≤ c1 from by omega)
                  clear hr56 hC56 hroom56 hi056 hsz56
                  have KY56 := Aside0.mk hy56
                  clear hy56
                  replace q56 := eq_true q56
                  have q57 : (a2 : Int) ≤ ((l1.length : Int) : Int) := of_decide_eq_true (by first | (with_reducible assumption) | assumption)
                  obtain ⟨i057, hi057, _, hsz57, _⟩ := info_parts info5
                  have hroom57 : l1.length ≤ c1 := (Kd.V_reads' HO_1.out).2.1
                  have hC57 : Kd.F (Kd.int .u8) _ _ A1 l1.length l1 := (Kd.V_at (base := w.heap.size) HO_1.out).2.2
                  have q057 : (0 : Int) ≤ (a2 : Int) := of_decide_eq_true (by first | (with_reducible assumption) | assumption)
                  have hcut57 := cut_from (P := Try.prog) 24 5 .i64 Try.underlying24 hi057 1 hsz57 A1 l1.length c1 a2 q057 q57
                  have hr57 := Kd.F_cut (m := (a2 : Int).toNat) (c := c1) hC57 (by omega) hroom57
                  obtain ⟨A57, hA57⟩ : ∃ A_x, A_x = (if c1 = (a2 : Int).toNat then A1 else (A1 : Option Addr).map (·.add ((a2 : Int).toNat * 1))) := ⟨_, rfl⟩
                  have KXA57 := Aside0.mk hA57
                  obtain ⟨c57, hc57⟩ : ∃ c_x, c_x = c1 - (a2 : Int).toNat := ⟨_, rfl⟩
                  have KXc57 := Aside0.mk hc57
                  have hy57 : y190.length = l1.length - (a2 : Int).toNat := (by rw [Ny190.out, List.length_drop] <;> omega)
                  rw [show (l1).drop (a2 : Int).toNat = y190 from Ny190.out.symm] at hr57
                  replace hr57 : Kd.F (Kd.int .u8) _ _ A57 y190.length y190 := (by rw [hA57]; exact hr57)
                  rw [← hy57, ← hA57, ← hc57] at hcut57
                  have HO194 := Aside0.mk (show Kd.V (Kd.int .u8) 5 _ w.heap.size _ (.slice A57 y190.length c57) y190 from Kd.V_mk (by rw [hy57, hc57]; exact Nat.sub_le_sub_right hroom57 _) hr57)
                  have HC194 := Aside0.mk (show y190.length ≤ c57 from by rw [hy57, hc57]; exact Nat.sub_le_sub_right hroom57 _)
                  clear hr57 hC57 hroom57 hi057 hsz57 hc57
                  have KY57 := Aside0.mk hy57
                  have KA57 := Aside0.mk hA57
                  clear hy57 hA57
                  replace q57 := eq_true q57
                  refine start_ (n := 13) (S := fun w' => True) (ds := []) #[false, false, false, false, false, false, false, false, false, false, false, false, false] (by kernel_rfl) rfl rfl trivial (fun hHeld => ?_); refine with_tabW crosswaylaw22_MixParts.tab6 crosswaylaw22_MixParts.bits6 (fun HT_ HW_ => ?_)
                  generalize wc.drew = w55 at HO_1 HB HO188 HO194 hHeld ⊢
                  refine pure_ (i := 0) (N := some 24) (v := ?_) (a' := ?_) #[true, false, false, false, false, false, false, false, false, false, false, false, false] rfl rfl (any_of HT_.out (by kernel_rfl)) (fun _ _ _ h => h) (Or.inl ⟨by rfl, ?_⟩) ?_ ?_
                  rotate_left
                  · intro w'
                    go_simp
                    with_reducible rfl
                  rotate_left
                  · simp only [Act.put, List.setIfInBounds_toArray, List.set_cons_zero, List.set_cons_succ, i64_w, i32_w]
                    rfl
                  refine pure_ (i := 1) (N := some 25) (v := ?_) (a' := ?_) #[true, true, false, false, false, false, false, false, false, false, false, false, false] rfl rfl (any_of HT_.out (by kernel_rfl)) (fun _ _ _ h => h) (Or.inl ⟨by rfl, ?_⟩) ?_ ?_
                  rotate_left
                  · intro w'
                    go_simp
                    with_reducible rfl
                  rotate_left
                  · simp only [Act.put, List.setIfInBounds_toArray, List.set_cons_zero, List.set_cons_succ, i64_w, i32_w]
                    rfl
                  refine pure_ (i := 3) (N := some 27) (v := ?_) (a' := ?_) #[true, true, false, true, false, false, false, false, false, false, false, false, false] rfl rfl (any_of HT_.out (by kernel_rfl)) (fun _ _ _ h => h) (Or.inl ⟨by rfl, ?_⟩) ?_ ?_
                  rotate_left
                  · intro w'
                    go_simp
                    with_reducible rfl
                  rotate_left
                  · simp only [Act.put, List.setIfInBounds_toArray, List.set_cons_zero, List.set_cons_succ, i64_w, i32_w]
                    rfl
                  refine pure_ (i := 4) (N := some 28) (v := ?_) (a' := ?_) #[true, true, false, true, true, false, false, false, false, false, false, false, false] rfl rfl (any_of HT_.out (by kernel_rfl)) (fun _ _ _ h => h) (Or.inl ⟨by rfl, ?_⟩) ?_ ?_
                  rotate_left
                  · intro w'
                    go_simp
                    with_reducible rfl
                  rotate_left
                  · simp only [Act.put, List.setIfInBounds_toArray, List.set_cons_zero, List.set_cons_succ, i64_w, i32_w]
                    rfl
                  refine pure_ (i := 5) (N := some 29) (v := ?_) (a' := ?_) #[true, true, false, true, true, true, false, false, false, false, false, false, false] rfl rfl (any_of HT_.out (by kernel_rfl)) (fun _ _ _ h => h) (Or.inl ⟨by rfl, ?_⟩) ?_ ?_
                  rotate_left
                  · intro w'
                    go_simp
                    with_reducible rfl
                  rotate_left
                  · simp only [Act.put, List.setIfInBounds_toArray, List.set_cons_zero, List.set_cons_succ, i64_w, i32_w]
                    rfl
                  refine pure_ (i := 6) (N := some 30) (v := ?_) (a' := ?_) #[true, true, false, true, true, true, true, false, false, false, false, false, false] rfl rfl (any_of HT_.out (by kernel_rfl)) (fun _ _ _ h => h) (Or.inl ⟨by rfl, ?_⟩) ?_ ?_
                  rotate_left
                  · intro w'
                    go_simp
                    with_reducible rfl
                  rotate_left
                  · simp only [Act.put, List.setIfInBounds_toArray, List.set_cons_zero, List.set_cons_succ, i64_w, i32_w]
                    rfl
                  refine pure_ (i := 8) (N := some 32) (v := ?_) (a' := ?_) #[true, true, false, true, true, true, true, false, true, false, false, false, false] rfl rfl (any_of HT_.out (by kernel_rfl)) (fun _ _ _ h => h) (Or.inl ⟨by rfl, ?_⟩) ?_ ?_
                  rotate_left
                  · intro w'
                    go_simp
                    with_reducible rfl
                  rotate_left
                  · simp only [Act.put, List.setIfInBounds_toArray, List.set_cons_zero, List.set_cons_succ, i64_w, i32_w]
                    rfl
                  refine pure_ (i := 9) (N := some 33) (v := ?_) (a' := ?_) #[true, true, false, true, true, true, true, false, true, true, false, false, false] rfl rfl (any_of HT_.out (by kernel_rfl)) (fun _ _ _ h => h) (Or.inl ⟨by rfl, ?_⟩) ?_ ?_
                  rotate_left
                  · intro w'
                    go_simp
                    with_reducible rfl
                  rotate_left
                  · simp only [Act.put, List.setIfInBounds_toArray, List.set_cons_zero, List.set_cons_succ, i64_w, i32_w]
                    rfl
                  refine pure_ (i := 10) (N := some 34) (v := ?_) (a' := ?_) #[true, true, false, true, true, true, true, false, true, true, true, false, false] rfl rfl (any_of HT_.out (by kernel_rfl)) (fun _ _ _ h => h) (Or.inl ⟨by rfl, ?_⟩) ?_ ?_
                  rotate_left
                  · intro w'
                    go_simp
                    with_reducible rfl
                  rotate_left
                  · simp only [Act.put, List.setIfInBounds_toArray, List.set_cons_zero, List.set_cons_succ, i64_w, i32_w]
                    rfl
                  refine one_ (i := 2) (N := some 26) #[true, true, true, true, true, true, true, false, true, true, true, false, false] rfl rfl (one_of HT_.out (by kernel_rfl)) (by decide) (fun K hK => ?_)
                  refine goes_ Try.func10 (by kernel_rfl) rfl #[.int .u64 a0, .slice A1 l1.length c1] (by rfl) rfl rfl (by (try simp only [List.map_toArray, List.map_cons, List.map_nil]); first | done | rfl | (simp only [List.length_drop, List.length_take]; rfl)) ?_
                  with_reducible refine (mix_Fold.calls kj5 a0 _ _ l1 t183 _ ?side1 ?side2 A11.out).mono ?_
                  (case side1 => repeat (first | exact (Kd.V_reads' HO_1.out).2.2 | (with_reducible refine Kd.C_alloc ?_ _) | (with_reducible refine Kd.C_drewN ?_ _) | (with_reducible refine Kd.C_drew ?_)))
                  (case side2 => exact (Kd.V_reads' HO_1.out).2.1)
                  rintro e w' ⟨rfl, ⟨nd, rfl⟩⟩
                  refine ⟨_, rfl, ?_⟩
                  refine hK.out _ _ trivial (fun hHeld => ?_)
                  clear hK K
                  refine norm_ (a' := ?_) ?_ ?_
                  rotate_left
                  · show Act.put _ (some 26) _ = _
                    simp only [Act.put, List.setIfInBounds_toArray, List.set_cons_zero, List.set_cons_succ, i64_w, i32_w]
                    rfl
                  refine one_ (i := 7) (N := some 31) #[true, true, true, true, true, true, true, true, true, true, true, false, false] rfl rfl (one_of HT_.out (by kernel_rfl)) (by decide) (fun K hK => ?_)
                  refine goes_ Try.func10 (by kernel_rfl) rfl #[.int .u64 a0, .slice A1 y184.length c1] (by rfl) rfl rfl (by (try simp only [List.map_toArray, List.map_cons, List.map_nil]); first | done | rfl | (simp only [List.length_drop, List.length_take]; rfl)) ?_
                  with_reducible refine (mix_Fold.calls kj5 a0 _ _ y184 t189 _ ?side1 ?side2 A14.out).mono ?_
                  (case side1 => repeat (first | exact (Kd.V_reads' HO188.out).2.2 | (with_reducible refine Kd.C_alloc ?_ _) | (with_reducible refine Kd.C_drewN ?_ _) | (with_reducible refine Kd.C_drew ?_)))
                  (case side2 => exact (Kd.V_reads' HO188.out).2.1)
                  rintro e w' ⟨rfl, ⟨nd, rfl⟩⟩
                  refine ⟨_, rfl, ?_⟩
                  refine hK.out _ _ trivial (fun hHeld => ?_)
                  clear hK K
                  refine norm_ (a' := ?_) ?_ ?_
                  rotate_left
                  · show Act.put _ (some 31) _ = _
                    simp only [Act.put, List.setIfInBounds_toArray, List.set_cons_zero, List.set_cons_succ, i64_w, i32_w]
                    rfl
                  refine one_ (i := 11) (N := some 35) #[true, true, true, true, true, true, true, true, true, true, true, true, false] rfl rfl (one_of HT_.out (by kernel_rfl)) (by decide) (fun K hK => ?_)
                  refine goes_ Try.func10 (by kernel_rfl) rfl #[.int .u64 t189, .slice A57 y190.length c57] (by rfl) rfl rfl (by (try simp only [List.map_toArray, List.map_cons, List.map_nil]); first | done | rfl | (simp only [List.length_drop, List.length_take]; rfl)) ?_
                  with_reducible refine (mix_Fold.calls kj5 t189 _ _ y190 t195 _ ?side1 ?side2 A17.out).mono ?_
                  (case side1 => repeat (first | exact (Kd.V_reads' HO194.out).2.2 | (with_reducible refine Kd.C_alloc ?_ _) | (with_reducible refine Kd.C_drewN ?_ _) | (with_reducible refine Kd.C_drew ?_)))
                  (case side2 => exact (Kd.V_reads' HO194.out).2.1)
                  rintro e w' ⟨rfl, ⟨nd, rfl⟩⟩
                  refine ⟨_, rfl, ?_⟩
                  refine hK.out _ _ trivial (fun hHeld => ?_)
                  clear hK K
                  refine norm_ (a' := ?_) ?_ ?_
                  rotate_left
                  · show Act.put _ (some 35) _ = _
                    simp only [Act.put, List.setIfInBounds_toArray, List.set_cons_zero, List.set_cons_succ, i64_w, i32_w]
                    rfl
                  refine pure_ (i := 12) (N := some 36) (v := ?_) (a' := ?_) #[true, true, true, true, true, true, true, true, true, true, true, true, true] rfl rfl (any_of HT_.out (by kernel_rfl)) (fun _ _ _ h => h) (Or.inl ⟨by rfl, ?_⟩) ?_ ?_
                  rotate_left
                  · intro w'
                    go_simp
                    with_reducible rfl
                  rotate_left
                  · simp only [Act.put, List.setIfInBounds_toArray, List.set_cons_zero, List.set_cons_succ, i64_w, i32_w]
                    rfl
                  refine done_ (done_of HT_.out (by kernel_rfl)) ?_
                  try go_wp2_with (first | ((with_reducible refine gate_tmp rfl ?_); refine goesLT_ _ (by rfl) (some 41) rfl rfl Try.func19 (by kernel_rfl) rfl #[.int .i64 a2] rfl (by (try simp only [List.map_toArray, List.map_cons, List.map_nil]); first | done | rfl | (simp only [List.length_drop, List.length_take]; rfl)) ?_; (with_reducible refine (crosswaylaw22_MixParts_1.calls a2 t196 _ A19.out).mono ?_); rintro e w58 ⟨v197, rfl, ho0, hb⟩; refine ⟨_, rfl, ?_⟩; have n0_ := Aside0.mk (Kd.V_elder' (by (with_reducible repeat (first | apply Kd.V_alloc | apply Kd.V_drewN | apply Kd.V_drew)); exact HO_1.out) (Kd.R_base ho0) hb); have n1_ := Aside0.mk (Kd.V_elder' (by (with_reducible repeat (first | apply Kd.V_alloc | apply Kd.V_drewN | apply Kd.V_drew)); exact HO188.out) (Kd.R_base ho0) hb); have n2_ := Aside0.mk (Kd.V_elder' (by (with_reducible repeat (first | apply Kd.V_alloc | apply Kd.V_drewN | apply Kd.V_drew)); exact HO194.out) (Kd.R_base ho0) hb); have n3_ := Aside0.mk (Kd.R_lower (Kd.R_newM (M := fun k_ => (w.heap.size ≤ k_)) ho0 (below_size (by repeat (first | (with_reducible first | exact HB.out | apply below_alloc | apply pw_below_drewN | apply below_drew1) | exact HB.out))) (fun k_ h_ => h_)) (below_size (by repeat (first | (with_reducible first | exact HB.out | apply below_alloc | apply pw_below_drewN | apply below_drew1) | exact HB.out)))); have n4_ := Aside0.mk (below_step (by repeat (first | (with_reducible first | exact HB.out | apply below_alloc | apply pw_below_drewN | apply below_drew1) | exact HB.out)) hb); clear HO_1; clear HO188; clear HO194; clear HB; have HO_1 := n0_; have HO188 := n1_; have HO194 := n2_; have HO198 := n3_; have HB := n4_; clear n0_ n1_ n2_ n3_ n4_; (try clear hb); (try clear hb2); (try clear hk); (try clear hi); (try clear ho0); obtain ⟨Ao59, co59, eo59⟩ := Kd.R_slice HO198.out; subst eo59) | ((with_reducible refine gate_callee (f := 10) rfl ?_); refine goesL_ (some 42) rfl rfl Try.func10 (by kernel_rfl) rfl #[.int .u64 (Go.bits .xor .u64 14695981039346656037 a0), .slice Ao59 t196.length co59] rfl (by (try simp only [List.map_toArray, List.map_cons, List.map_nil]); first | done | rfl | (simp only [List.length_drop, List.length_take]; rfl)) ?_; (with_reducible refine (mix_Fold.calls kj5 (Go.bits .xor .u64 14695981039346656037 a0) _ _ t196 t199 _ ?side1 ?side2 A20.out).mono ?_); (case side1 => repeat (first | exact (Kd.R_reads' HO198.out).2.2 | (with_reducible refine Kd.C_alloc ?_ _) | (with_reducible refine Kd.C_drewN ?_ _) | (with_reducible refine Kd.C_drew ?_))); (case side2 => exact (Kd.R_reads' HO198.out).2.1); rintro e w' ⟨rfl, ⟨nd, rfl⟩⟩; refine ⟨_, rfl, ?_⟩; have q60 : (a2 : Int) ≤ ((l1.length : Int) : Int) := of_decide_eq_true (by first | (with_reducible assumption) | assumption); obtain ⟨i060, hi060, _, hsz60, _⟩ := info_parts info5; have hroom60 : l1.length ≤ c1 := (Kd.V_reads' HO_1.out).2.1; have hC60 : Kd.F (Kd.int .u8) _ _ A1 l1.length l1 := (Kd.V_at (base := w.heap.size) HO_1.out).2.2; have hcut60 := cut_to (P := Try.prog) 24 5 .i64 Try.underlying24 hi060 A1 l1.length c1 a2 (of_decide_eq_true (by first | (with_reducible assumption) | assumption)) q60 hroom60; have hr60 := Kd.F_take (m := (a2 : Int).toNat) hC60 (by omega); have hy60 : y184.length = (a2 : Int).toNat := (by rw [Ny200.out, List.length_take]; omega); rw [← Ny200.out] at hr60; rw [← hy60] at hcut60; have HO204 := Aside0.mk (show Kd.V (Kd.int .u8) 5 _ w.heap.size _ (.slice A1 y184.length c1) y184 from Kd.V_mk (by omega) hr60); have HC204 := Aside0.mk (show y184.length ≤ c1 from by omega); clear hr60 hC60 hroom60 hi060 hsz60; have KY60 := Aside0.mk hy60; clear hy60; replace q60 := eq_true q60) | ((with_reducible refine gate_callee (f := 10) rfl ?_); refine goesL_ (some 47) rfl rfl Try.func10 (by kernel_rfl) rfl #[.int .u64 t199, .slice A1 y184.length c1] rfl (by (try simp only [List.map_toArray, List.map_cons, List.map_nil]); first | done | rfl | (simp only [List.length_drop, List.length_take]; rfl)) ?_; (with_reducible refine (mix_Fold.calls kj5 t199 _ _ y184 t205 _ ?side1 ?side2 A23.out).mono ?_); (case side1 => repeat (first | exact (Kd.V_reads' HO204.out).2.2 | (with_reducible refine Kd.C_alloc ?_ _) | (with_reducible refine Kd.C_drewN ?_ _) | (with_reducible refine Kd.C_drew ?_))); (case side2 => exact (Kd.V_reads' HO204.out).2.1); rintro e w' ⟨rfl, ⟨nd, rfl⟩⟩; refine ⟨_, rfl, ?_⟩) | ((with_reducible refine gate_tmp rfl ?_); refine goesLT_ _ (by rfl) (some 54) rfl rfl Try.func19 (by kernel_rfl) rfl #[.int .i64 (wrap64 ((l1.length : Int) - a2))] rfl (by (try simp only [List.map_toArray, List.map_cons, List.map_nil]); first | done | rfl | (simp only [List.length_drop, List.length_take]; rfl)) ?_; (with_reducible refine (crosswaylaw22_MixParts_1.calls (wrap64 ((l1.length : Int) - a2)) t206 _ A24.out).mono ?_); rintro e w61 ⟨v207, rfl, ho0, hb⟩; refine ⟨_, rfl, ?_⟩; have n0_ := Aside0.mk (Kd.V_elder' (by (with_reducible repeat (first | apply Kd.V_alloc | apply Kd.V_drewN | apply Kd.V_drew)); exact HO_1.out) (Kd.R_base ho0) hb); have n1_ := Aside0.mk (Kd.V_elder' (by (with_reducible repeat (first | apply Kd.V_alloc | apply Kd.V_drewN | apply Kd.V_drew)); exact HO188.out) (Kd.R_base ho0) hb); have n2_ := Aside0.mk (Kd.V_elder' (by (with_reducible repeat (first | apply Kd.V_alloc | apply Kd.V_drewN | apply Kd.V_drew)); exact HO194.out) (Kd.R_base ho0) hb); have n3_ := Aside0.mk (Kd.R_elder' (by (with_reducible repeat (first | apply Kd.R_alloc | apply Kd.R_drewN | apply Kd.R_drew)); exact HO198.out) (Kd.R_base ho0) hb); have n4_ := Aside0.mk (Kd.V_elder' (by (with_reducible repeat (first | apply Kd.V_alloc | apply Kd.V_drewN | apply Kd.V_drew)); exact HO204.out) (Kd.R_base ho0) hb); have n5_ := Aside0.mk (Kd.R_lower (Kd.R_new' (Kd.R_newM (M := fun k_ => (w.heap.size ≤ k_)) ho0 (below_size (by repeat (first | (with_reducible first | exact HB.out | apply below_alloc | apply pw_below_drewN | apply below_drew1) | exact HB.out))) (fun k_ h_ => h_)) (Kd.R_lt (by (with_reducible repeat (first | apply Kd.R_alloc | apply Kd.R_drewN | apply Kd.R_drew)); exact HO198.out))) (below_size (by repeat (first | (with_reducible first | exact HB.out | apply below_alloc | apply pw_below_drewN | apply below_drew1) | exact HB.out)))); have n6_ := Aside0.mk (below_step (by repeat (first | (with_reducible first | exact HB.out | apply below_alloc | apply pw_below_drewN | apply below_drew1) | exact HB.out)) hb); clear HO_1; clear HO188; clear HO194; clear HO198; clear HO204; clear HB; have HO_1 := n0_; have HO188 := n1_; have HO194 := n2_; have HO198 := n3_; have HO204 := n4_; have HO208 := n5_; have HB := n6_; clear n0_ n1_ n2_ n3_ n4_ n5_ n6_; (try clear hb); (try clear hb2); (try clear hk); (try clear hi); (try clear ho0); obtain ⟨Ao62, co62, eo62⟩ := Kd.R_slice HO208.out; subst eo62) | ((with_reducible refine gate_callee (f := 10) rfl ?_); refine goesL_ (some 55) rfl rfl Try.func10 (by kernel_rfl) rfl #[.int .u64 t205, .slice Ao62 t206.length co62] rfl (by (try simp only [List.map_toArray, List.map_cons, List.map_nil]); first | done | rfl | (simp only [List.length_drop, List.length_take]; rfl)) ?_; (with_reducible refine (mix_Fold.calls kj5 t205 _ _ t206 t209 _ ?side1 ?side2 A25.out).mono ?_); (case side1 => repeat (first | exact (Kd.R_reads' HO208.out).2.2 | (with_reducible refine Kd.C_alloc ?_ _) | (with_reducible refine Kd.C_drewN ?_ _) | (with_reducible refine Kd.C_drew ?_))); (case side2 => exact (Kd.R_reads' HO208.out).2.1); rintro e w' ⟨rfl, ⟨nd, rfl⟩⟩; refine ⟨_, rfl, ?_⟩; have q63 : (a2 : Int) ≤ ((l1.length : Int) : Int) := of_decide_eq_true (by first | (with_reducible assumption) | assumption); obtain ⟨i063, hi063, _, hsz63, _⟩ := info_parts info5; have hroom63 : l1.length ≤ c1 := (Kd.V_reads' HO_1.out).2.1; have hC63 : Kd.F (Kd.int .u8) _ _ A1 l1.length l1 := (Kd.V_at (base := w.heap.size) HO_1.out).2.2; have q063 : (0 : Int) ≤ (a2 : Int) := of_decide_eq_true (by first | (with_reducible assumption) | assumption); have hcut63 := cut_from (P := Try.prog) 24 5 .i64 Try.underlying24 hi063 1 hsz63 A1 l1.length c1 a2 q063 q63; have hr63 := Kd.F_cut (m := (a2 : Int).toNat) (c := c1) hC63 (by omega) hroom63; have hA63 : A57 = (if c1 = (a2 : Int).toNat then A1 else (A1 : Option Addr).map (·.add ((a2 : Int).toNat * 1))) := KXA57.out; have hc63 : c57 = c1 - (a2 : Int).toNat := KXc57.out; have hy63 : y190.length = l1.length - (a2 : Int).toNat := (by rw [Ny210.out, List.length_drop] <;> omega); rw [show (l1).drop (a2 : Int).toNat = y190 from Ny210.out.symm] at hr63; replace hr63 : Kd.F (Kd.int .u8) _ _ A57 y190.length y190 := (by rw [hA63]; exact hr63); rw [← hy63, ← hA63, ← hc63] at hcut63; have HO214 := Aside0.mk (show Kd.V (Kd.int .u8) 5 _ w.heap.size _ (.slice A57 y190.length c57) y190 from Kd.V_mk (by rw [hy63, hc63]; exact Nat.sub_le_sub_right hroom63 _) hr63); have HC214 := Aside0.mk (show y190.length ≤ c57 from by rw [hy63, hc63]; exact Nat.sub_le_sub_right hroom63 _); clear hr63 hC63 hroom63 hi063 hsz63 hc63; have KY63 := Aside0.mk hy63; have KA63 := Aside0.mk hA63; clear hy63 hA63; replace q63 := eq_true q63) | ((with_reducible refine gate_callee (f := 10) rfl ?_); refine goesL_ (some 60) rfl rfl Try.func10 (by kernel_rfl) rfl #[.int .u64 t209, .slice A57 y190.length c57] rfl (by (try simp only [List.map_toArray, List.map_cons, List.map_nil]); first | done | rfl | (simp only [List.length_drop, List.length_take]; rfl)) ?_; (with_reducible refine (mix_Fold.calls kj5 t209 _ _ y190 t215 _ ?side1 ?side2 A28.out).mono ?_); (case side1 => repeat (first | exact (Kd.V_reads' HO214.out).2.2 | (with_reducible refine Kd.C_alloc ?_ _) | (with_reducible refine Kd.C_drewN ?_ _) | (with_reducible refine Kd.C_drew ?_))); (case side2 => exact (Kd.V_reads' HO214.out).2.1); rintro e w' ⟨rfl, ⟨nd, rfl⟩⟩; refine ⟨_, rfl, ?_⟩))
                  (try (rw [drewN_self w61]; generalize hq_ : World.drewN w61 _ = w61; have n0_ : Aside0 (Kd.V (Kd.int .u8) 5 w61 w.heap.size (fun k_ => (P1_ k_ ∨ w.heap.size ≤ k_) ∧ some k_ ≠ (.slice Ao59 t196.length co59 : Value).ownBlock ∧ some k_ ≠ (.slice Ao62 t206.length co62 : Value).ownBlock) (.slice A1 y184.length c1) y184) := ⟨by rw [← hq_]; exact (by (with_reducible repeat (first | apply Kd.V_alloc | apply Kd.V_drewN | apply Kd.V_drew)); exact Kd.V_mono HO188.out (fun _ hk => ⟨hk.1.1, ⟨hk.1.2, hk.2⟩⟩))⟩; have n1_ : Aside0 (Kd.V (Kd.int .u8) 5 w61 w.heap.size (fun k_ => (P1_ k_ ∨ w.heap.size ≤ k_) ∧ some k_ ≠ (.slice Ao59 t196.length co59 : Value).ownBlock ∧ some k_ ≠ (.slice Ao62 t206.length co62 : Value).ownBlock) (.slice A57 y190.length c57) y190) := ⟨by rw [← hq_]; exact (by (with_reducible repeat (first | apply Kd.V_alloc | apply Kd.V_drewN | apply Kd.V_drew)); exact Kd.V_mono HO194.out (fun _ hk => ⟨hk.1.1, ⟨hk.1.2, hk.2⟩⟩))⟩; have n2_ : Aside0 (Kd.R (Kd.int .u8) 5 w61 w.heap.size (fun k_ => (w.heap.size ≤ k_) ∧ some k_ ≠ (.slice Ao62 t206.length co62 : Value).ownBlock) (.slice Ao59 t196.length co59) t196) := ⟨by rw [← hq_]; exact (by (with_reducible repeat (first | apply Kd.R_alloc | apply Kd.R_drewN | apply Kd.R_drew)); exact Kd.R_mono HO198.out (fun _ hk => ⟨hk.1.1, hk.2⟩))⟩; have n3_ : Aside0 (Kd.V (Kd.int .u8) 5 w61 w.heap.size (fun k_ => (P1_ k_ ∨ w.heap.size ≤ k_) ∧ some k_ ≠ (.slice Ao59 t196.length co59 : Value).ownBlock ∧ some k_ ≠ (.slice Ao62 t206.length co62 : Value).ownBlock) (.slice A1 y184.length c1) y184) := ⟨by rw [← hq_]; exact (by (with_reducible repeat (first | apply Kd.V_alloc | apply Kd.V_drewN | apply Kd.V_drew)); exact Kd.V_mono HO204.out (fun _ hk => ⟨hk.1.1, ⟨hk.1.2, hk.2⟩⟩))⟩; have n4_ : Aside0 (Kd.R (Kd.int .u8) 5 w61 w.heap.size (fun k_ => (w.heap.size ≤ k_) ∧ some k_ ≠ (.slice Ao59 t196.length co59 : Value).ownBlock) (.slice Ao62 t206.length co62) t206) := ⟨by rw [← hq_]; exact (by (with_reducible repeat (first | apply Kd.R_alloc | apply Kd.R_drewN | apply Kd.R_drew)); exact Kd.R_mono HO208.out (fun _ hk => ⟨hk.1.1, hk.2⟩))⟩; have n5_ : Aside0 (Kd.V (Kd.int .u8) 5 w61 w.heap.size (fun k_ => (P1_ k_ ∨ w.heap.size ≤ k_) ∧ some k_ ≠ (.slice Ao59 t196.length co59 : Value).ownBlock ∧ some k_ ≠ (.slice Ao62 t206.length co62 : Value).ownBlock) (.slice A57 y190.length c57) y190) := ⟨by rw [← hq_]; exact (by (with_reducible repeat (first | apply Kd.V_alloc | apply Kd.V_drewN | apply Kd.V_drew)); exact Kd.V_mono HO214.out (fun _ hk => ⟨hk.1.1, ⟨hk.1.2, hk.2⟩⟩))⟩; have n6_ : Aside0 (Kd.V (Kd.int .u8) 5 w61 w.heap.size (fun k_ => (P1_ k_ ∨ w.heap.size ≤ k_) ∧ some k_ ≠ (.slice Ao59 t196.length co59 : Value).ownBlock ∧ some k_ ≠ (.slice Ao62 t206.length co62 : Value).ownBlock) (.slice A1 l1.length c1) l1) := ⟨by rw [← hq_]; exact (by (with_reducible repeat (first | apply Kd.V_alloc | apply Kd.V_drewN | apply Kd.V_drew)); exact Kd.V_mono HO_1.out (fun _ hk => ⟨hk.1.1, ⟨hk.1.2, hk.2⟩⟩))⟩; have n7_ : Aside0 (Below w.heap.size w w61) := ⟨by rw [← hq_]; exact (by repeat (first | (with_reducible first | exact HB.out | apply below_alloc | apply pw_below_drewN | apply below_drew1) | exact HB.out))⟩; clear HO188 HO194 HO198 HO204 HO208 HO214 HO_1 HB hq_; have HO188 := n0_; have HO194 := n1_; have HO198 := n2_; have HO204 := n3_; have HO208 := n4_; have HO214 := n5_; have HO_1 := n6_; have HB := n7_; clear n0_ n1_ n2_ n3_ n4_ n5_ n6_ n7_))
                  have n0_ := Aside0.mk (Kd.V_drew HO_1.out)
                  have n1_ := Aside0.mk (Kd.V_drew HO188.out)
                  have n2_ := Aside0.mk (Kd.V_drew HO194.out)
                  have n3_ := Aside0.mk (Kd.R_drew HO198.out)
                  have n4_ := Aside0.mk (Kd.V_drew HO204.out)
                  have n5_ := Aside0.mk (Kd.R_drew HO208.out)
                  have n6_ := Aside0.mk (Kd.V_drew HO214.out)
                  have n7_ := Aside0.mk (below_drew1 HB.out)
                  clear HO_1
                  clear HO188
                  clear HO194
                  clear HO198
                  clear HO204
                  clear HO208
                  clear HO214
                  clear HB
                  have HO_1 := n0_
                  have HO188 := n1_
                  have HO194 := n2_
                  have HO198 := n3_
                  have HO204 := n4_
                  have HO208 := n5_
                  have HO214 := n6_
                  have HB := n7_
                  clear n0_ n1_ n2_ n3_ n4_ n5_ n6_ n7_
                  have q65 : (a2 : Int) ≤ ((l1.length : Int) : Int) := of_decide_eq_true (by first | (with_reducible assumption) | assumption)
                  obtain ⟨i065, hi065, _, hsz65, _⟩ := info_parts info5
                  have hroom65 : l1.length ≤ c1 := (Kd.V_reads' HO_1.out).2.1
                  have hC65 : Kd.F (Kd.int .u8) _ _ A1 l1.length l1 := (Kd.V_at (base := w.heap.size) HO_1.out).2.2
                  have hcut65 := cut_to (P := Try.prog) 24 5 .i64 Try.underlying24 hi065 A1 l1.length c1 a2 (of_decide_eq_true (by first | (with_reducible assumption) | assumption)) q65 hroom65
                  have hr65 := Kd.F_take (m := (a2 : Int).toNat) hC65 (by omega)
                  have hy65 : y184.length = (a2 : Int).toNat := (by rw [Ny216.out, List.length_take]; omega)
                  rw [← Ny216.out] at hr65
                  rw [← hy65] at hcut65
                  have HO220 := Aside0.mk (show Kd.V (Kd.int .u8) 5 _ w.heap.size _ (.slice A1 y184.length c1) y184 from Kd.V_mk (by omega) hr65)
                  have HC220 := Aside0.mk (show y184.length ≤ c1 from by omega)
                  clear hr65 hC65 hroom65 hi065 hsz65
                  have KY65 := Aside0.mk hy65
                  clear hy65
                  replace q65 := eq_true q65
                  have q66 : (a2 : Int) ≤ ((l1.length : Int) : Int) := of_decide_eq_true (by first | (with_reducible assumption) | assumption)
                  obtain ⟨i066, hi066, _, hsz66, _⟩ := info_parts info5
                  have hroom66 : l1.length ≤ c1 := (Kd.V_reads' HO_1.out).2.1
                  have hC66 : Kd.F (Kd.int .u8) _ _ A1 l1.length l1 := (Kd.V_at (base := w.heap.size) HO_1.out).2.2
                  have q066 : (0 : Int) ≤ (a2 : Int) := of_decide_eq_true (by first | (with_reducible assumption) | assumption)
                  have hcut66 := cut_from (P := Try.prog) 24 5 .i64 Try.underlying24 hi066 1 hsz66 A1 l1.length c1 a2 q066 q66
                  have hr66 := Kd.F_cut (m := (a2 : Int).toNat) (c := c1) hC66 (by omega) hroom66
                  have hA66 : A57 = (if c1 = (a2 : Int).toNat then A1 else (A1 : Option Addr).map (·.add ((a2 : Int).toNat * 1))) := KXA57.out
                  have hc66 : c57 = c1 - (a2 : Int).toNat := KXc57.out
                  have hy66 : y190.length = l1.length - (a2 : Int).toNat := (by rw [Ny221.out, List.length_drop] <;> omega)
                  rw [show (l1).drop (a2 : Int).toNat = y190 from Ny221.out.symm] at hr66
                  replace hr66 : Kd.F (Kd.int .u8) _ _ A57 y190.length y190 := (by rw [hA66]; exact hr66)
                  rw [← hy66, ← hA66, ← hc66] at hcut66
                  have HO225 := Aside0.mk (show Kd.V (Kd.int .u8) 5 _ w.heap.size _ (.slice A57 y190.length c57) y190 from Kd.V_mk (by rw [hy66, hc66]; exact Nat.sub_le_sub_right hroom66 _) hr66)
                  have HC225 := Aside0.mk (show y190.length ≤ c57 from by rw [hy66, hc66]; exact Nat.sub_le_sub_right hroom66 _)
                  clear hr66 hC66 hroom66 hi066 hsz66 hc66
                  have KY66 := Aside0.mk hy66
                  have KA66 := Aside0.mk hA66
                  clear hy66 hA66
                  replace q66 := eq_true q66
                  refine start_ (n := 21) (S := fun w' => True) (ds := []) #[false, false, false, false, false, false, false, false, false, false, false, false, false, false, false, false, false, false, false, false, false] (by kernel_rfl) rfl rfl trivial (fun hHeld => ?_); refine with_tabW crosswaylaw22_MixParts.tab12 crosswaylaw22_MixParts.bits12 (fun HT_ HW_ => ?_)
                  generalize w61.drew = w64 at HO_1 HO188 HO194 HO198 HO204 HO208 HO214 HB HO220 HO225 hHeld ⊢
                  refine pure_ (i := 0) (N := some 61) (v := ?_) (a' := ?_) #[true, false, false, false, false, false, false, false, false, false, false, false, false, false, false, false, false, false, false, false, false] rfl rfl (any_of HT_.out (by kernel_rfl)) (fun _ _ _ h => h) (Or.inl ⟨by rfl, ?_⟩) ?_ ?_
                  rotate_left
                  · intro w'
                    go_simp
                    with_reducible rfl
                  rotate_left
                  · simp only [Act.put, List.setIfInBounds_toArray, List.set_cons_zero, List.set_cons_succ, i64_w, i32_w]
                    rfl
                  refine pure_ (i := 1) (N := some 62) (v := ?_) (a' := ?_) #[true, true, false, false, false, false, false, false, false, false, false, false, false, false, false, false, false, false, false, false, false] rfl rfl (any_of HT_.out (by kernel_rfl)) (fun _ _ _ h => h) (Or.inl ⟨by rfl, ?_⟩) ?_ ?_
                  rotate_left
                  · intro w'
                    go_simp
                    with_reducible rfl
                  rotate_left
                  · simp only [Act.put, List.setIfInBounds_toArray, List.set_cons_zero, List.set_cons_succ, i64_w, i32_w]
                    rfl
                  refine pure_ (i := 2) (N := some 63) (v := ?_) (a' := ?_) #[true, true, true, false, false, false, false, false, false, false, false, false, false, false, false, false, false, false, false, false, false] rfl rfl (any_of HT_.out (by kernel_rfl)) (fun _ _ _ h => h) (Or.inl ⟨by rfl, ?_⟩) ?_ ?_
                  rotate_left
                  · intro w'
                    go_simp
                    with_reducible rfl
                  rotate_left
                  · simp only [Act.put, List.setIfInBounds_toArray, List.set_cons_zero, List.set_cons_succ, i64_w, i32_w]
                    rfl
                  refine pure_ (i := 3) (N := some 64) (v := ?_) (a' := ?_) #[true, true, true, true, false, false, false, false, false, false, false, false, false, false, false, false, false, false, false, false, false] rfl rfl (any_of HT_.out (by kernel_rfl)) (fun _ _ _ h => h) (Or.inl ⟨by rfl, ?_⟩) ?_ ?_
                  rotate_left
                  · intro w'
                    go_simp
                    with_reducible rfl
                  rotate_left
                  · simp only [Act.put, List.setIfInBounds_toArray, List.set_cons_zero, List.set_cons_succ, i64_w, i32_w]
                    rfl
                  refine pure_ (i := 4) (N := some 65) (v := ?_) (a' := ?_) #[true, true, true, true, true, false, false, false, false, false, false, false, false, false, false, false, false, false, false, false, false] rfl rfl (any_of HT_.out (by kernel_rfl)) (fun _ _ _ h => h) (Or.inl ⟨by rfl, ?_⟩) ?_ ?_
                  rotate_left
                  · intro w'
                    go_simp
                    with_reducible rfl
                  rotate_left
                  · simp only [Act.put, List.setIfInBounds_toArray, List.set_cons_zero, List.set_cons_succ, i64_w, i32_w]
                    rfl
                  refine pure_ (i := 5) (N := some 66) (v := ?_) (a' := ?_) #[true, true, true, true, true, true, false, false, false, false, false, false, false, false, false, false, false, false, false, false, false] rfl rfl (any_of HT_.out (by kernel_rfl)) (fun _ _ _ h => h) (Or.inl ⟨by rfl, ?_⟩) ?_ ?_
                  rotate_left
                  · intro w'
                    go_simp
                    with_reducible rfl
                  rotate_left
                  · simp only [Act.put, List.setIfInBounds_toArray, List.set_cons_zero, List.set_cons_succ, i64_w, i32_w]
                    rfl
                  refine pure_ (i := 6) (N := some 67) (v := ?_) (a' := ?_) #[true, true, true, true, true, true, true, false, false, false, false, false, false, false, false, false, false, false, false, false, false] rfl rfl (any_of HT_.out (by kernel_rfl)) (fun _ _ _ h => h) (Or.inl ⟨by rfl, ?_⟩) ?_ ?_
                  rotate_left
                  · intro w'
                    go_simp
                    with_reducible rfl
                  rotate_left
                  · simp only [Act.put, List.setIfInBounds_toArray, List.set_cons_zero, List.set_cons_succ, i64_w, i32_w]
                    rfl
                  refine pure_ (i := 9) (N := some 70) (v := ?_) (a' := ?_) #[true, true, true, true, true, true, true, false, false, true, false, false, false, false, false, false, false, false, false, false, false] rfl rfl (any_of HT_.out (by kernel_rfl)) (fun _ _ _ h => h) (Or.inl ⟨by rfl, ?_⟩) ?_ ?_
                  rotate_left
                  · intro w'
                    go_simp
                    with_reducible rfl
                  rotate_left
                  · simp only [Act.put, List.setIfInBounds_toArray, List.set_cons_zero, List.set_cons_succ, i64_w, i32_w]
                    rfl
                  refine one_ (i := 7) (N := some 68) #[true, true, true, true, true, true, true, true, false, true, false, false, false, false, false, false, false, false, false, false, false] rfl rfl (one_of HT_.out (by kernel_rfl)) (by decide) (fun K hK => ?_)
                  refine Kd.N_lit_step (Kd.slice 5 (Kd.int .u8)) _ 24 ?hg (N' := 68) ?hd (xs := ([y184, y190] : List (List Int))) (inner := [.slice A1 y184.length c1, .slice A57 y190.length c57]) (ok := (fun k_ => (P1_ k_ ∨ w.heap.size ≤ k_) ∧ some k_ ≠ (.slice Ao59 t196.length co59 : Value).ownBlock ∧ some k_ ≠ (.slice Ao62 t206.length co62 : Value).ownBlock)) (okp := (fun k_ => (P1_ k_ ∨ w.heap.size ≤ k_) ∧ some k_ ≠ (.slice Ao59 t196.length co59 : Value).ownBlock ∧ some k_ ≠ (.slice Ao62 t206.length co62 : Value).ownBlock)) ?hr ?hp (fun _ hk => hk) ((show ∀ k_, w64.heap.size ≤ k_ → (fun k_ => (P1_ k_ ∨ w.heap.size ≤ k_) ∧ some k_ ≠ (.slice Ao59 t196.length co59 : Value).ownBlock ∧ some k_ ≠ (.slice Ao62 t206.length co62 : Value).ownBlock) k_ from fun k_ hk => ⟨(.inr (Nat.le_trans (below_size (by repeat (first | (with_reducible first | exact HB.out | apply below_alloc | apply pw_below_drewN | apply below_drew1) | exact HB.out))) hk)), Kd.fresh' (Kd.R_lt (by (with_reducible repeat (first | apply Kd.R_alloc | apply Kd.R_drewN | apply Kd.R_drew)); exact HO198.out)) k_ hk, Kd.fresh' (Kd.R_lt (by (with_reducible repeat (first | apply Kd.R_alloc | apply Kd.R_drewN | apply Kd.R_drew)); exact HO208.out)) k_ hk⟩) _ (Nat.le_refl _)) (Below.refl _ _) (Nat.le_refl _) (by simp) ?_; (case hd => rfl); (case hg => rfl); (case hr => first | (go_simp; done) | (go_simp; rfl)); (case hp => exact (Reps.one (show Kd.FK (Kd.slice 5 (Kd.int .u8)) _ _ y184 [.slice A1 y184.length c1] from (Kd.FK_slice_mk (Kd.V_reads' (Kd.V_mono (ok' := (fun k_ => (P1_ k_ ∨ w.heap.size ≤ k_) ∧ some k_ ≠ (.slice Ao59 t196.length co59 : Value).ownBlock ∧ some k_ ≠ (.slice Ao62 t206.length co62 : Value).ownBlock)) (HO220.out) (fun k_ hk => by first | exact ⟨hk.1.1, ⟨hk.1.2, hk.2⟩⟩ | exact hk | (simp only [and_assoc] at hk ⊢; exact hk)))).2.1 (Kd.V_F (Kd.V_mono (ok' := (fun k_ => (P1_ k_ ∨ w.heap.size ≤ k_) ∧ some k_ ≠ (.slice Ao59 t196.length co59 : Value).ownBlock ∧ some k_ ≠ (.slice Ao62 t206.length co62 : Value).ownBlock)) (HO220.out) (fun k_ hk => by first | exact ⟨hk.1.1, ⟨hk.1.2, hk.2⟩⟩ | exact hk | (simp only [and_assoc] at hk ⊢; exact hk)))))) (Reps.one (show Kd.FK (Kd.slice 5 (Kd.int .u8)) _ _ y190 [.slice A57 y190.length c57] from (Kd.FK_slice_mk (Kd.V_reads' (Kd.V_mono (ok' := (fun k_ => (P1_ k_ ∨ w.heap.size ≤ k_) ∧ some k_ ≠ (.slice Ao59 t196.length co59 : Value).ownBlock ∧ some k_ ≠ (.slice Ao62 t206.length co62 : Value).ownBlock)) (HO225.out) (fun k_ hk => by first | exact ⟨hk.1.1, ⟨hk.1.2, hk.2⟩⟩ | exact hk | (simp only [and_assoc] at hk ⊢; exact hk)))).2.1 (Kd.V_F (Kd.V_mono (ok' := (fun k_ => (P1_ k_ ∨ w.heap.size ≤ k_) ∧ some k_ ≠ (.slice Ao59 t196.length co59 : Value).ownBlock ∧ some k_ ≠ (.slice Ao62 t206.length co62 : Value).ownBlock)) (HO225.out) (fun k_ hk => by first | exact ⟨hk.1.1, ⟨hk.1.2, hk.2⟩⟩ | exact hk | (simp only [and_assoc] at hk ⊢; exact hk)))))) (Reps.none _ _))))
                  intro v227 w67 ho68 hb hg_ hnew_
                  clear hg_ hnew_
                  (first | rw [← Ny226.out] at ho68 | (simp only [Int.reduceToNat] at ho68; rw [← Ny226.out] at ho68))
                  have n0_ := Aside0.mk (Kd.V_elder' (by (with_reducible repeat (first | apply Kd.V_alloc | apply Kd.V_drewN | apply Kd.V_drew)); exact HO_1.out) (Kd.N_base ho68) hb)
                  have n1_ := Aside0.mk (Kd.V_elder' (by (with_reducible repeat (first | apply Kd.V_alloc | apply Kd.V_drewN | apply Kd.V_drew)); exact HO188.out) (Kd.N_base ho68) hb)
                  have n2_ := Aside0.mk (Kd.V_elder' (by (with_reducible repeat (first | apply Kd.V_alloc | apply Kd.V_drewN | apply Kd.V_drew)); exact HO194.out) (Kd.N_base ho68) hb)
                  have n3_ := Aside0.mk (Kd.R_below (by (with_reducible repeat (first | apply Kd.R_alloc | apply Kd.R_drewN | apply Kd.R_drew)); exact HO198.out) hb)
                  have n4_ := Aside0.mk (Kd.V_elder' (by (with_reducible repeat (first | apply Kd.V_alloc | apply Kd.V_drewN | apply Kd.V_drew)); exact HO204.out) (Kd.N_base ho68) hb)
                  have n5_ := Aside0.mk (Kd.R_below (by (with_reducible repeat (first | apply Kd.R_alloc | apply Kd.R_drewN | apply Kd.R_drew)); exact HO208.out) hb)
                  have n6_ := Aside0.mk (Kd.V_elder' (by (with_reducible repeat (first | apply Kd.V_alloc | apply Kd.V_drewN | apply Kd.V_drew)); exact HO214.out) (Kd.N_base ho68) hb)
                  have n7_ := Aside0.mk (Kd.V_elder' (by (with_reducible repeat (first | apply Kd.V_alloc | apply Kd.V_drewN | apply Kd.V_drew)); exact HO220.out) (Kd.N_base ho68) hb)
                  have n8_ := Aside0.mk (Kd.V_elder' (by (with_reducible repeat (first | apply Kd.V_alloc | apply Kd.V_drewN | apply Kd.V_drew)); exact HO225.out) (Kd.N_base ho68) hb)
                  have n9_ := Aside0.mk (Kd.N_lower ho68 (below_size (by repeat (first | (with_reducible first | exact HB.out | apply below_alloc | apply pw_below_drewN | apply below_drew1) | exact HB.out))))
                  have n10_ := Aside0.mk (below_step (by repeat (first | (with_reducible first | exact HB.out | apply below_alloc | apply pw_below_drewN | apply below_drew1) | exact HB.out)) hb)
                  clear HO_1
                  clear HO188
                  clear HO194
                  clear HO198
                  clear HO204
                  clear HO208
                  clear HO214
                  clear HO220
                  clear HO225
                  clear HB
                  have HO_1 := n0_
                  have HO188 := n1_
                  have HO194 := n2_
                  have HO198 := n3_
                  have HO204 := n4_
                  have HO208 := n5_
                  have HO214 := n6_
                  have HO220 := n7_
                  have HO225 := n8_
                  have HO228 := n9_
                  have HB := n10_
                  clear n0_ n1_ n2_ n3_ n4_ n5_ n6_ n7_ n8_ n9_ n10_
                  clear hb ho68
                  obtain ⟨Ao69, co69, eo69⟩ := Kd.N_slice HO228.out
                  (first | subst eo69 | (injection eo69 with f1_ f2_ f3_; have f4_ := f1_.symm; have f5_ := f3_.symm; clear f1_ f2_ f3_; subst f4_; subst f5_))
                  refine hK.out _ _ trivial (fun hHeld => ?_)
                  clear hK K
                  refine norm_ (a' := ?_) ?_ ?_
                  rotate_left
                  · show Act.put _ (some 68) _ = _
                    simp only [Act.put, List.setIfInBounds_toArray, List.set_cons_zero, List.set_cons_succ, i64_w, i32_w]
                    rfl
                  refine one_ (i := 8) (N := some 69) #[true, true, true, true, true, true, true, true, true, true, false, false, false, false, false, false, false, false, false, false, false] rfl rfl (one_of HT_.out (by kernel_rfl)) (by decide) (fun K hK => ?_)
                  refine goes_ Try.func14 (by kernel_rfl) rfl #[.int .u64 a0, .slice Ao69 y226.length co69] (by rfl) rfl rfl (by (try simp only [List.map_toArray, List.map_cons, List.map_nil]); first | done | rfl | (simp only [List.length_drop, List.length_take]; rfl)) ?_
                  with_reducible refine (mix_Mix.calls kj5 a0 _ _ y226 t229 _ ?side1 ?side2 A33.out).mono ?_
                  (case side1 => repeat (first | exact (Kd.N_reads' HO228.out).2.2 | (with_reducible refine Kd.C_alloc ?_ _) | (with_reducible refine Kd.C_drewN ?_ _) | (with_reducible refine Kd.C_drew ?_)))
                  (case side2 => exact (Kd.N_reads' HO228.out).2.1)
                  rintro e w70 ⟨rfl, hb⟩
                  refine ⟨_, rfl, ?_⟩
                  have n0_ := Aside0.mk (Kd.V_below (by (with_reducible repeat (first | apply Kd.V_alloc | apply Kd.V_drewN | apply Kd.V_drew)); exact HO_1.out) hb)
                  have n1_ := Aside0.mk (Kd.V_below (by (with_reducible repeat (first | apply Kd.V_alloc | apply Kd.V_drewN | apply Kd.V_drew)); exact HO188.out) hb)
                  have n2_ := Aside0.mk (Kd.V_below (by (with_reducible repeat (first | apply Kd.V_alloc | apply Kd.V_drewN | apply Kd.V_drew)); exact HO194.out) hb)
                  have n3_ := Aside0.mk (Kd.R_below (by (with_reducible repeat (first | apply Kd.R_alloc | apply Kd.R_drewN | apply Kd.R_drew)); exact HO198.out) hb)
                  have n4_ := Aside0.mk (Kd.V_below (by (with_reducible repeat (first | apply Kd.V_alloc | apply Kd.V_drewN | apply Kd.V_drew)); exact HO204.out) hb)
                  have n5_ := Aside0.mk (Kd.R_below (by (with_reducible repeat (first | apply Kd.R_alloc | apply Kd.R_drewN | apply Kd.R_drew)); exact HO208.out) hb)
                  have n6_ := Aside0.mk (Kd.V_below (by (with_reducible repeat (first | apply Kd.V_alloc | apply Kd.V_drewN | apply Kd.V_drew)); exact HO214.out) hb)
                  have n7_ := Aside0.mk (Kd.V_below (by (with_reducible repeat (first | apply Kd.V_alloc | apply Kd.V_drewN | apply Kd.V_drew)); exact HO220.out) hb)
                  have n8_ := Aside0.mk (Kd.V_below (by (with_reducible repeat (first | apply Kd.V_alloc | apply Kd.V_drewN | apply Kd.V_drew)); exact HO225.out) hb)
                  have n9_ := Aside0.mk (Kd.N_below (by (with_reducible repeat (first | apply Kd.N_alloc | apply Kd.N_drewN | apply Kd.N_drew)); exact HO228.out) hb)
                  have n10_ := Aside0.mk (below_step (by repeat (first | (with_reducible first | exact HB.out | apply below_alloc | apply pw_below_drewN | apply below_drew1) | exact HB.out)) hb)
                  clear HO_1
                  clear HO188
                  clear HO194
                  clear HO198
                  clear HO204
                  clear HO208
                  clear HO214
                  clear HO220
                  clear HO225
                  clear HO228
                  clear HB
                  have HO_1 := n0_
                  have HO188 := n1_
                  have HO194 := n2_
                  have HO198 := n3_
                  have HO204 := n4_
                  have HO208 := n5_
                  have HO214 := n6_
                  have HO220 := n7_
                  have HO225 := n8_
                  have HO228 := n9_
                  have HB := n10_
                  clear n0_ n1_ n2_ n3_ n4_ n5_ n6_ n7_ n8_ n9_ n10_
                  (try clear hb)
                  (try clear hb2)
                  (try clear hk)
                  (try clear hi)
                  refine hK.out _ _ trivial (fun hHeld => ?_)
                  clear hK K
                  refine norm_ (a' := ?_) ?_ ?_
                  rotate_left
                  · show Act.put _ (some 69) _ = _
                    simp only [Act.put, List.setIfInBounds_toArray, List.set_cons_zero, List.set_cons_succ, i64_w, i32_w]
                    rfl
                  refine one_ (i := 10) (N := some 71) #[true, true, true, true, true, true, true, true, true, true, true, false, false, false, false, false, false, false, false, false, false] rfl rfl (one_of HT_.out (by kernel_rfl)) (by decide) (fun K hK => ?_)
                  refine goes_ Try.func12 (by kernel_rfl) rfl #[.int .u64 t215] (by rfl) rfl rfl (by (try simp only [List.map_toArray, List.map_cons, List.map_nil]); first | done | rfl | (simp only [List.length_drop, List.length_take]; rfl)) ?_
                  with_reducible refine (mix_End.calls t215 t230 _ A34.out).mono ?_
                  rintro e w' ⟨rfl, ⟨nd, rfl⟩⟩
                  refine ⟨_, rfl, ?_⟩
                  refine hK.out _ _ trivial (fun hHeld => ?_)
                  clear hK K
                  refine norm_ (a' := ?_) ?_ ?_
                  rotate_left
                  · show Act.put _ (some 71) _ = _
                    simp only [Act.put, List.setIfInBounds_toArray, List.set_cons_zero, List.set_cons_succ, i64_w, i32_w]
                    rfl
                  refine pure_ (i := 11) (N := some 72) (v := ?_) (a' := ?_) #[true, true, true, true, true, true, true, true, true, true, true, true, false, false, false, false, false, false, false, false, false] rfl rfl (any_of HT_.out (by kernel_rfl)) (fun _ _ _ h => h) (Or.inl ⟨by rfl, ?_⟩) ?_ ?_
                  rotate_left
                  · intro w'
                    go_simp
                    with_reducible rfl
                  rotate_left
                  · simp only [Act.put, List.setIfInBounds_toArray, List.set_cons_zero, List.set_cons_succ, i64_w, i32_w]
                    rfl
                  refine pure_ (i := 12) (N := some 73) (v := ?_) (a' := ?_) #[true, true, true, true, true, true, true, true, true, true, true, true, true, false, false, false, false, false, false, false, false] rfl rfl (any_of HT_.out (by kernel_rfl)) (fun _ _ _ h => h) (Or.inl ⟨by rfl, ?_⟩) ?_ ?_
                  rotate_left
                  · intro w'
                    go_simp
                    with_reducible rfl
                  rotate_left
                  · simp only [Act.put, List.setIfInBounds_toArray, List.set_cons_zero, List.set_cons_succ, i64_w, i32_w]
                    rfl
                  refine pure_ (i := 13) (N := some 74) (v := undef) (a' := ?_) #[true, true, true, true, true, true, true, true, true, true, true, true, true, true, false, false, false, false, false, false, false] rfl rfl (any_of HT_.out (by kernel_rfl)) (fun _ _ _ h => h) (Or.inr ⟨by rfl, rfl⟩) ?_ ?_
                  rotate_left
                  · simp only [Act.put, List.setIfInBounds_toArray, List.set_cons_zero, List.set_cons_succ, i64_w, i32_w]
                    rfl
                  refine pure_ (i := 14) (N := some 75) (v := undef) (a' := ?_) #[true, true, true, true, true, true, true, true, true, true, true, true, true, true, true, false, false, false, false, false, false] rfl rfl (any_of HT_.out (by kernel_rfl)) (fun _ _ _ h => h) (Or.inr ⟨by rfl, rfl⟩) ?_ ?_
                  rotate_left
                  · simp only [Act.put, List.setIfInBounds_toArray, List.set_cons_zero, List.set_cons_succ, i64_w, i32_w]
                    rfl
                  refine pure_ (i := 15) (N := some 76) (v := undef) (a' := ?_) #[true, true, true, true, true, true, true, true, true, true, true, true, true, true, true, true, false, false, false, false, false] rfl rfl (any_of HT_.out (by kernel_rfl)) (fun _ _ _ h => h) (Or.inr ⟨by rfl, rfl⟩) ?_ ?_
                  rotate_left
                  · simp only [Act.put, List.setIfInBounds_toArray, List.set_cons_zero, List.set_cons_succ, i64_w, i32_w]
                    rfl
                  refine pure_ (i := 16) (N := some 77) (v := undef) (a' := ?_) #[true, true, true, true, true, true, true, true, true, true, true, true, true, true, true, true, true, false, false, false, false] rfl rfl (any_of HT_.out (by kernel_rfl)) (fun _ _ _ h => h) (Or.inr ⟨by rfl, rfl⟩) ?_ ?_
                  rotate_left
                  · simp only [Act.put, List.setIfInBounds_toArray, List.set_cons_zero, List.set_cons_succ, i64_w, i32_w]
                    rfl
                  refine pure_ (i := 17) (N := some 78) (v := undef) (a' := ?_) #[true, true, true, true, true, true, true, true, true, true, true, true, true, true, true, true, true, true, false, false, false] rfl rfl (any_of HT_.out (by kernel_rfl)) (fun _ _ _ h => h) (Or.inr ⟨by rfl, rfl⟩) ?_ ?_
                  rotate_left
                  · simp only [Act.put, List.setIfInBounds_toArray, List.set_cons_zero, List.set_cons_succ, i64_w, i32_w]
                    rfl
                  refine pure_ (i := 18) (N := some 79) (v := undef) (a' := ?_) #[true, true, true, true, true, true, true, true, true, true, true, true, true, true, true, true, true, true, true, false, false] rfl rfl (any_of HT_.out (by kernel_rfl)) (fun _ _ _ h => h) (Or.inr ⟨by rfl, rfl⟩) ?_ ?_
                  rotate_left
                  · simp only [Act.put, List.setIfInBounds_toArray, List.set_cons_zero, List.set_cons_succ, i64_w, i32_w]
                    rfl
                  refine pure_ (i := 19) (N := some 80) (v := ?_) (a' := ?_) #[true, true, true, true, true, true, true, true, true, true, true, true, true, true, true, true, true, true, true, true, false] rfl rfl (any_of HT_.out (by kernel_rfl)) (fun _ _ _ h => h) (Or.inl ⟨by rfl, ?_⟩) ?_ ?_
                  rotate_left
                  · intro w'
                    go_simp
                    with_reducible rfl
                  rotate_left
                  · simp only [Act.put, List.setIfInBounds_toArray, List.set_cons_zero, List.set_cons_succ, i64_w, i32_w]
                    rfl
                  refine pure_ (i := 20) (N := some 6) (v := ?_) (a' := ?_) #[true, true, true, true, true, true, true, true, true, true, true, true, true, true, true, true, true, true, true, true, true] rfl rfl (any_of HT_.out (by kernel_rfl)) (fun _ _ _ h => h) (Or.inl ⟨by rfl, ?_⟩) ?_ ?_
                  rotate_left
                  · intro w'
                    go_simp
                    with_reducible rfl
                  rotate_left
                  · simp only [Act.put, List.setIfInBounds_toArray, List.set_cons_zero, List.set_cons_succ, i64_w, i32_w]
                    rfl
                  refine done_ (done_of HT_.out (by kernel_rfl)) ?_
                  try go_wp2
                  go_ret
                  exact ⟨by first | rfl | (simp [errW_none, errW_some] <;> rfl) | (simp [*, errW_none, errW_some] <;> rfl), by repeat (first | (with_reducible first | exact HB.out | apply below_alloc | apply pw_below_drewN | apply below_drew1) | exact HB.out)⟩
              · rw [if_neg c18] at H
                have c18b0 : (t183 == t195) = false := beq_eq_false_iff_ne.mpr c18
                have c18b1 : (t183 != t195) = true := bne_iff_ne.mpr c18
                obtain rfl := Option.some.inj H
                try go_wp2
                have n0_ := Aside0.mk (Kd.V_drew HO_1.out)
                have n1_ := Aside0.mk (below_drew1 HB.out)
                clear HO_1
                clear HB
                have HO_1 := n0_
                have HB := n1_
                clear n0_ n1_
                have q72 : (a2 : Int) ≤ ((l1.length : Int) : Int) := of_decide_eq_true (by first | (with_reducible assumption) | assumption)
                obtain ⟨i072, hi072, _, hsz72, _⟩ := info_parts info5
                have hroom72 : l1.length ≤ c1 := (Kd.V_reads' HO_1.out).2.1
                have hC72 : Kd.F (Kd.int .u8) _ _ A1 l1.length l1 := (Kd.V_at (base := w.heap.size) HO_1.out).2.2
                have hcut72 := cut_to (P := Try.prog) 24 5 .i64 Try.underlying24 hi072 A1 l1.length c1 a2 (of_decide_eq_true (by first | (with_reducible assumption) | assumption)) q72 hroom72
                have hr72 := Kd.F_take (m := (a2 : Int).toNat) hC72 (by omega)
                have hy72 : y184.length = (a2 : Int).toNat := (by rw [Ny184.out, List.length_take]; omega)
                rw [← Ny184.out] at hr72
                rw [← hy72] at hcut72
                have HO188 := Aside0.mk (show Kd.V (Kd.int .u8) 5 _ w.heap.size _ (.slice A1 y184.length c1) y184 from Kd.V_mk (by omega) hr72)
                have HC188 := Aside0.mk (show y184.length ≤ c1 from by omega)
                clear hr72 hC72 hroom72 hi072 hsz72
                have KY72 := Aside0.mk hy72
                clear hy72
                replace q72 := eq_true q72
                have q73 : (a2 : Int) ≤ ((l1.length : Int) : Int) := of_decide_eq_true (by first | (with_reducible assumption) | assumption)
                obtain ⟨i073, hi073, _, hsz73, _⟩ := info_parts info5
                have hroom73 : l1.length ≤ c1 := (Kd.V_reads' HO_1.out).2.1
                have hC73 : Kd.F (Kd.int .u8) _ _ A1 l1.length l1 := (Kd.V_at (base := w.heap.size) HO_1.out).2.2
                have q073 : (0 : Int) ≤ (a2 : Int) := of_decide_eq_true (by first | (with_reducible assumption) | assumption)
                have hcut73 := cut_from (P := Try.prog) 24 5 .i64 Try.underlying24 hi073 1 hsz73 A1 l1.length c1 a2 q073 q73
                have hr73 := Kd.F_cut (m := (a2 : Int).toNat) (c := c1) hC73 (by omega) hroom73
                obtain ⟨A73, hA73⟩ : ∃ A_x, A_x = (if c1 = (a2 : Int).toNat then A1 else (A1 : Option Addr).map (·.add ((a2 : Int).toNat * 1))) := ⟨_, rfl⟩
                have KXA73 := Aside0.mk hA73
                obtain ⟨c73, hc73⟩ : ∃ c_x, c_x = c1 - (a2 : Int).toNat := ⟨_, rfl⟩
                have KXc73 := Aside0.mk hc73
                have hy73 : y190.length = l1.length - (a2 : Int).toNat := (by rw [Ny190.out, List.length_drop] <;> omega)
                rw [show (l1).drop (a2 : Int).toNat = y190 from Ny190.out.symm] at hr73
                replace hr73 : Kd.F (Kd.int .u8) _ _ A73 y190.length y190 := (by rw [hA73]; exact hr73)
                rw [← hy73, ← hA73, ← hc73] at hcut73
                have HO194 := Aside0.mk (show Kd.V (Kd.int .u8) 5 _ w.heap.size _ (.slice A73 y190.length c73) y190 from Kd.V_mk (by rw [hy73, hc73]; exact Nat.sub_le_sub_right hroom73 _) hr73)
                have HC194 := Aside0.mk (show y190.length ≤ c73 from by rw [hy73, hc73]; exact Nat.sub_le_sub_right hroom73 _)
                clear hr73 hC73 hroom73 hi073 hsz73 hc73
                have KY73 := Aside0.mk hy73
                have KA73 := Aside0.mk hA73
                clear hy73 hA73
                replace q73 := eq_true q73
                refine start_ (n := 13) (S := fun w' => True) (ds := []) #[false, false, false, false, false, false, false, false, false, false, false, false, false] (by kernel_rfl) rfl rfl trivial (fun hHeld => ?_); refine with_tabW crosswaylaw22_MixParts.tab6 crosswaylaw22_MixParts.bits6 (fun HT_ HW_ => ?_)
                generalize wc.drew = w71 at HO_1 HB HO188 HO194 hHeld ⊢
                refine pure_ (i := 0) (N := some 24) (v := ?_) (a' := ?_) #[true, false, false, false, false, false, false, false, false, false, false, false, false] rfl rfl (any_of HT_.out (by kernel_rfl)) (fun _ _ _ h => h) (Or.inl ⟨by rfl, ?_⟩) ?_ ?_
                rotate_left
                · intro w'
                  go_simp
                  with_reducible rfl
                rotate_left
                · simp only [Act.put, List.setIfInBounds_toArray, List.set_cons_zero, List.set_cons_succ, i64_w, i32_w]
                  rfl
                refine pure_ (i := 1) (N := some 25) (v := ?_) (a' := ?_) #[true, true, false, false, false, false, false, false, false, false, false, false, false] rfl rfl (any_of HT_.out (by kernel_rfl)) (fun _ _ _ h => h) (Or.inl ⟨by rfl, ?_⟩) ?_ ?_
                rotate_left
                · intro w'
                  go_simp
                  with_reducible rfl
                rotate_left
                · simp only [Act.put, List.setIfInBounds_toArray, List.set_cons_zero, List.set_cons_succ, i64_w, i32_w]
                  rfl
                refine pure_ (i := 3) (N := some 27) (v := ?_) (a' := ?_) #[true, true, false, true, false, false, false, false, false, false, false, false, false] rfl rfl (any_of HT_.out (by kernel_rfl)) (fun _ _ _ h => h) (Or.inl ⟨by rfl, ?_⟩) ?_ ?_
                rotate_left
                · intro w'
                  go_simp
                  with_reducible rfl
                rotate_left
                · simp only [Act.put, List.setIfInBounds_toArray, List.set_cons_zero, List.set_cons_succ, i64_w, i32_w]
                  rfl
                refine pure_ (i := 4) (N := some 28) (v := ?_) (a' := ?_) #[true, true, false, true, true, false, false, false, false, false, false, false, false] rfl rfl (any_of HT_.out (by kernel_rfl)) (fun _ _ _ h => h) (Or.inl ⟨by rfl, ?_⟩) ?_ ?_
                rotate_left
                · intro w'
                  go_simp
                  with_reducible rfl
                rotate_left
                · simp only [Act.put, List.setIfInBounds_toArray, List.set_cons_zero, List.set_cons_succ, i64_w, i32_w]
                  rfl
                refine pure_ (i := 5) (N := some 29) (v := ?_) (a' := ?_) #[true, true, false, true, true, true, false, false, false, false, false, false, false] rfl rfl (any_of HT_.out (by kernel_rfl)) (fun _ _ _ h => h) (Or.inl ⟨by rfl, ?_⟩) ?_ ?_
                rotate_left
                · intro w'
                  go_simp
                  with_reducible rfl
                rotate_left
                · simp only [Act.put, List.setIfInBounds_toArray, List.set_cons_zero, List.set_cons_succ, i64_w, i32_w]
                  rfl
                refine pure_ (i := 6) (N := some 30) (v := ?_) (a' := ?_) #[true, true, false, true, true, true, true, false, false, false, false, false, false] rfl rfl (any_of HT_.out (by kernel_rfl)) (fun _ _ _ h => h) (Or.inl ⟨by rfl, ?_⟩) ?_ ?_
                rotate_left
                · intro w'
                  go_simp
                  with_reducible rfl
                rotate_left
                · simp only [Act.put, List.setIfInBounds_toArray, List.set_cons_zero, List.set_cons_succ, i64_w, i32_w]
                  rfl
                refine pure_ (i := 8) (N := some 32) (v := ?_) (a' := ?_) #[true, true, false, true, true, true, true, false, true, false, false, false, false] rfl rfl (any_of HT_.out (by kernel_rfl)) (fun _ _ _ h => h) (Or.inl ⟨by rfl, ?_⟩) ?_ ?_
                rotate_left
                · intro w'
                  go_simp
                  with_reducible rfl
                rotate_left
                · simp only [Act.put, List.setIfInBounds_toArray, List.set_cons_zero, List.set_cons_succ, i64_w, i32_w]
                  rfl
                refine pure_ (i := 9) (N := some 33) (v := ?_) (a' := ?_) #[true, true, false, true, true, true, true, false, true, true, false, false, false] rfl rfl (any_of HT_.out (by kernel_rfl)) (fun _ _ _ h => h) (Or.inl ⟨by rfl, ?_⟩) ?_ ?_
                rotate_left
                · intro w'
                  go_simp
                  with_reducible rfl
                rotate_left
                · simp only [Act.put, List.setIfInBounds_toArray, List.set_cons_zero, List.set_cons_succ, i64_w, i32_w]
                  rfl
                refine pure_ (i := 10) (N := some 34) (v := ?_) (a' := ?_) #[true, true, false, true, true, true, true, false, true, true, true, false, false] rfl rfl (any_of HT_.out (by kernel_rfl)) (fun _ _ _ h => h) (Or.inl ⟨by rfl, ?_⟩) ?_ ?_
                rotate_left
                · intro w'
                  go_simp
                  with_reducible rfl
                rotate_left
                · simp only [Act.put, List.setIfInBounds_toArray, List.set_cons_zero, List.set_cons_succ, i64_w, i32_w]
                  rfl
                refine one_ (i := 2) (N := some 26) #[true, true, true, true, true, true, true, false, true, true, true, false, false] rfl rfl (one_of HT_.out (by kernel_rfl)) (by decide) (fun K hK => ?_)
                refine goes_ Try.func10 (by kernel_rfl) rfl #[.int .u64 a0, .slice A1 l1.length c1] (by rfl) rfl rfl (by (try simp only [List.map_toArray, List.map_cons, List.map_nil]); first | done | rfl | (simp only [List.length_drop, List.length_take]; rfl)) ?_
                with_reducible refine (mix_Fold.calls kj5 a0 _ _ l1 t183 _ ?side1 ?side2 A11.out).mono ?_
                (case side1 => repeat (first | exact (Kd.V_reads' HO_1.out).2.2 | (with_reducible refine Kd.C_alloc ?_ _) | (with_reducible refine Kd.C_drewN ?_ _) | (with_reducible refine Kd.C_drew ?_)))
                (case side2 => exact (Kd.V_reads' HO_1.out).2.1)
                rintro e w' ⟨rfl, ⟨nd, rfl⟩⟩
                refine ⟨_, rfl, ?_⟩
                refine hK.out _ _ trivial (fun hHeld => ?_)
                clear hK K
                refine norm_ (a' := ?_) ?_ ?_
                rotate_left
                · show Act.put _ (some 26) _ = _
                  simp only [Act.put, List.setIfInBounds_toArray, List.set_cons_zero, List.set_cons_succ, i64_w, i32_w]
                  rfl
                refine one_ (i := 7) (N := some 31) #[true, true, true, true, true, true, true, true, true, true, true, false, false] rfl rfl (one_of HT_.out (by kernel_rfl)) (by decide) (fun K hK => ?_)
                refine goes_ Try.func10 (by kernel_rfl) rfl #[.int .u64 a0, .slice A1 y184.length c1] (by rfl) rfl rfl (by (try simp only [List.map_toArray, List.map_cons, List.map_nil]); first | done | rfl | (simp only [List.length_drop, List.length_take]; rfl)) ?_
                with_reducible refine (mix_Fold.calls kj5 a0 _ _ y184 t189 _ ?side1 ?side2 A14.out).mono ?_
                (case side1 => repeat (first | exact (Kd.V_reads' HO188.out).2.2 | (with_reducible refine Kd.C_alloc ?_ _) | (with_reducible refine Kd.C_drewN ?_ _) | (with_reducible refine Kd.C_drew ?_)))
                (case side2 => exact (Kd.V_reads' HO188.out).2.1)
                rintro e w' ⟨rfl, ⟨nd, rfl⟩⟩
                refine ⟨_, rfl, ?_⟩
                refine hK.out _ _ trivial (fun hHeld => ?_)
                clear hK K
                refine norm_ (a' := ?_) ?_ ?_
                rotate_left
                · show Act.put _ (some 31) _ = _
                  simp only [Act.put, List.setIfInBounds_toArray, List.set_cons_zero, List.set_cons_succ, i64_w, i32_w]
                  rfl
                refine one_ (i := 11) (N := some 35) #[true, true, true, true, true, true, true, true, true, true, true, true, false] rfl rfl (one_of HT_.out (by kernel_rfl)) (by decide) (fun K hK => ?_)
                refine goes_ Try.func10 (by kernel_rfl) rfl #[.int .u64 t189, .slice A73 y190.length c73] (by rfl) rfl rfl (by (try simp only [List.map_toArray, List.map_cons, List.map_nil]); first | done | rfl | (simp only [List.length_drop, List.length_take]; rfl)) ?_
                with_reducible refine (mix_Fold.calls kj5 t189 _ _ y190 t195 _ ?side1 ?side2 A17.out).mono ?_
                (case side1 => repeat (first | exact (Kd.V_reads' HO194.out).2.2 | (with_reducible refine Kd.C_alloc ?_ _) | (with_reducible refine Kd.C_drewN ?_ _) | (with_reducible refine Kd.C_drew ?_)))
                (case side2 => exact (Kd.V_reads' HO194.out).2.1)
                rintro e w' ⟨rfl, ⟨nd, rfl⟩⟩
                refine ⟨_, rfl, ?_⟩
                refine hK.out _ _ trivial (fun hHeld => ?_)
                clear hK K
                refine norm_ (a' := ?_) ?_ ?_
                rotate_left
                · show Act.put _ (some 35) _ = _
                  simp only [Act.put, List.setIfInBounds_toArray, List.set_cons_zero, List.set_cons_succ, i64_w, i32_w]
                  rfl
                refine pure_ (i := 12) (N := some 36) (v := ?_) (a' := ?_) #[true, true, true, true, true, true, true, true, true, true, true, true, true] rfl rfl (any_of HT_.out (by kernel_rfl)) (fun _ _ _ h => h) (Or.inl ⟨by rfl, ?_⟩) ?_ ?_
                rotate_left
                · intro w'
                  go_simp
                  with_reducible rfl
                rotate_left
                · simp only [Act.put, List.setIfInBounds_toArray, List.set_cons_zero, List.set_cons_succ, i64_w, i32_w]
                  rfl
                refine done_ (done_of HT_.out (by kernel_rfl)) ?_
                try go_wp2
                go_ret
                exact ⟨by first | rfl | (simp [errW_none, errW_some] <;> rfl) | (simp [*, errW_none, errW_some] <;> rfl), by repeat (first | (with_reducible first | exact HB.out | apply below_alloc | apply pw_below_drewN | apply below_drew1) | exact HB.out)⟩
            · rw [if_neg c13] at H
              exact absurd H (by simp)
          · rw [if_neg c12] at H
            exact absurd H (by simp)
  · replace c5 := Bool.eq_false_iff.mpr c5
    subst c5
    have H1 : (some false) = some r := by rw [if_neg (show ¬ (false = true) by decide)] at H; exact H
    clear H
    have H := H1
    clear H1
    obtain rfl := Option.some.inj H
    go_enter Try.func5, Try.ntmps5
    go_wp2_with (first | ((with_reducible refine gate_callee (f := 7) rfl ?_); refine goesL_ (some 9) rfl rfl Try.func7 (by kernel_rfl) rfl #[] rfl (by (try simp only [List.map_toArray, List.map_cons, List.map_nil]); first | done | rfl | (simp only [List.length_drop, List.length_take]; rfl)) ?_; (with_reducible refine (crosswaylaw22_alive.calls k  false _ A4.out).mono ?_); rintro e w74 ⟨rfl, hb⟩; refine ⟨_, rfl, ?_⟩; have n0_ := Aside0.mk (Kd.V_below (by (with_reducible repeat (first | apply Kd.V_alloc | apply Kd.V_drewN | apply Kd.V_drew)); exact HO1.out) hb); have n1_ := Aside0.mk (below_step (by repeat (first | (with_reducible first | exact HB.out | apply below_alloc | apply pw_below_drewN | apply below_drew1) | exact HB.out)) hb); clear HO1; clear HB; have HO1 := n0_; have HB := n1_; clear n0_ n1_; (try clear hb); (try clear hb2); (try clear hk); (try clear hi)))
    go_ret
    exact ⟨by first | rfl | (simp [errW_none, errW_some] <;> rfl) | (simp [*, errW_none, errW_some] <;> rfl), by repeat (first | (with_reducible first | exact HB.out | apply below_alloc | apply pw_below_drewN | apply below_drew1) | exact HB.out)⟩

/-- The one pure statement of crosswaylaw22_MixParts. -/
def crosswaylaw22_MixParts.Pure : Prop := ∀ (a0 : Int) (l1 : List Int) (a2 : Int), (Lit.int .u64 a0).wf = true → l1.length ≤ maxLen → (∀ x ∈ l1, (Lit.int .u8 x).wf = true) → (Lit.int .i64 a2).wf = true → ∃ k, crosswaylaw22_MixParts.f k a0 l1 a2 = some true

end Go.Proofs.Ytbiiccgheblhpaa.M
