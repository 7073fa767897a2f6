/- Contracts of the Go functions that the laws reach, each as a plain Lean function: written by xprint.py, a program of this repo. -/
import Derived.Test.YtnagjckjibfimaaM0
import Derived.Test.YtnagjckjibfimaaM1
import Derived.Test.YtnagjckjibfimaaM2
import Derived.Test.YtnagjckjibfimaaM3
import Derived.Test.YtnagjckjibfimaaM4
import Derived.Test.YtnagjckjibfimaaM5
namespace Go.Proofs.Ytnagjckjibfimaa.M
open Go.RowKit Go.Proofs.YtnagjckjibfimaaW.PrintWords Go.Proofs.YtnagjckjibfimaaW.PrintLast Go.Proofs.YtnagjckjibfimaaW.PrintMore Go.Proofs.Ytnagjckjibfimaa.X
attribute [local go_sem] max2_int min2_int max_two min_two max_three min_three max_four min_four   -- for this text's walks alone
set_option linter.unusedVariables false
set_option linter.unusedSimpArgs false

/-! ### crosswaylaw01_OctetBack: function 5 -/
mutual
def crosswaylaw01_OctetBack.j0 : Nat → List Int → List Int → Int → Int → Bool → Option (Bool)
  | 0, _, _, _, _, _ => none
  | k + 1, x0, x1, x2, x3, x32 => if x32 = true then (some true) else ((octet_Put.f k x2 x3).bind fun bt301 => (if bt301.2 = 0 then ((octet_Num.f k bt301.1).bind fun bt305 => (if bt305.2 = 0 then (if bt305.1 = x2 then (if (bt301.1.length : Int) = x3 then (crosswaylaw01_OctetBack.j1 k x0 x1) else (some false)) else (some false)) else (some false))) else (crosswaylaw01_OctetBack.j1 k x0 x1)))
def crosswaylaw01_OctetBack.j1 : Nat → List Int → List Int → Option (Bool)
  | 0, _, _ => none
  | k + 1, x0, x1 => (octet_Hex.f x0).bind fun t307 => ((octet_Unhex.f k t307).bind fun bt308 => (if bt308.2 = 0 then ((octet_Equal.f k bt308.1 x0).bind fun t312 => (crosswaylaw01_OctetBack.j2 k x0 x1 (!t312))) else (crosswaylaw01_OctetBack.j2 k x0 x1 true)))
def crosswaylaw01_OctetBack.j2 : Nat → List Int → List Int → Bool → Option (Bool)
  | 0, _, _, _ => none
  | k + 1, x0, x1, x72 => if x72 = true then (some false) else ((octet_Xor.f k x0 x1).bind fun bt313 => (if bt313.2 = 0 then ((octet_Xor.f k bt313.1 x1).bind fun bt317 => ((octet_Xor.f k x1 x0).bind fun bt321 => ((crosswayref00_CopyBytes.f x0).bind fun t325 => (crosswaylaw01_OctetBack.l0 k x0 bt313.1 bt317.1 bt317.2 bt321.1 bt321.2 t325 0)))) else (some ((x0.length : Int) != (x1.length : Int)))))
def crosswaylaw01_OctetBack.l0 : Nat → List Int → List Int → List Int → Int → List Int → Int → List Int → Int → Option (Bool)
  | 0, _, _, _, _, _, _, _, _ => none
  | k + 1, x0, x15, x17, x18, x19, x20, x21, x22 => if x22 < (x15.length : Int) then (if 0 ≤ x22 then (crosswaylaw01_OctetBack.l0 k x0 (x15.set (x22 : Int).toNat (((rd x15 x22) + 1) % 256)) x17 x18 x19 x20 x21 (wrap64 (x22 + 1))) else (none)) else (if x18 = 0 then (if x20 = 0 then ((octet_Equal.f k x17 x0).bind fun t330 => (if t330 = true then (if (x19.length : Int) = (x0.length : Int) then ((octet_Equal.f k x0 x21).bind fun t331 => (some t331)) else (some false)) else (some false))) else (some false)) else (some false))
end
def crosswaylaw01_OctetBack.f (k : Nat) (l0 : List Int) (l1 : List Int) (a2 : Int) (a3 : Int) : Option (Bool) := (crosswaylaw01_alive.f k).bind fun t300 => (if t300 = true then (if (l0.length : Int) > 3000 then (crosswaylaw01_OctetBack.j0 k l0 l1 a2 a3 true) else (crosswaylaw01_OctetBack.j0 k l0 l1 a2 a3 (decide ((l1.length : Int) > 3000)))) else (some false))
theorem crosswaylaw01_OctetBack.mono_l : ∀ k, (∀ y0 y1 y2 y3 y4, LeO (crosswaylaw01_OctetBack.j0 k y0 y1 y2 y3 y4) (crosswaylaw01_OctetBack.j0 (k + 1) y0 y1 y2 y3 y4)) ∧ (∀ y0 y1, LeO (crosswaylaw01_OctetBack.j1 k y0 y1) (crosswaylaw01_OctetBack.j1 (k + 1) y0 y1)) ∧ (∀ y0 y1 y2, LeO (crosswaylaw01_OctetBack.j2 k y0 y1 y2) (crosswaylaw01_OctetBack.j2 (k + 1) y0 y1 y2)) ∧ (∀ y0 y1 y2 y3 y4 y5 y6 y7, LeO (crosswaylaw01_OctetBack.l0 k y0 y1 y2 y3 y4 y5 y6 y7) (crosswaylaw01_OctetBack.l0 (k + 1) y0 y1 y2 y3 y4 y5 y6 y7))
  | 0 => ⟨fun _ _ _ _ _ r h => by simp [crosswaylaw01_OctetBack.j0] at h, fun _ _ r h => by simp [crosswaylaw01_OctetBack.j1] at h, fun _ _ _ r h => by simp [crosswaylaw01_OctetBack.j2] at h, fun _ _ _ _ _ _ _ _ r h => by simp [crosswaylaw01_OctetBack.l0] at h⟩
  | k + 1 => by
    obtain ⟨ih0, ih1, ih2, ih3⟩ := crosswaylaw01_OctetBack.mono_l k
    refine ⟨?_, ?_, ?_, ?_⟩
    · intro y0 y1 y2 y3 y4
      unfold crosswaylaw01_OctetBack.j0
      repeat' first
      | (with_reducible exact ih0 _ _ _ _ _)
      | (with_reducible exact ih1 _ _)
      | (with_reducible exact ih2 _ _ _)
      | (with_reducible exact ih3 _ _ _ _ _ _ _ _)
      | (with_reducible exact crosswaylaw01_alive.mono _)
      | (with_reducible exact octet_Equal.mono _ _ _)
      | (with_reducible exact octet_Num.mono _ _)
      | (with_reducible exact octet_Put.mono _ _ _)
      | (with_reducible exact octet_Unhex.mono _ _)
      | (with_reducible exact octet_Xor.mono _ _ _)
      | (with_reducible exact LeO.refl _)
      | (with_reducible exact LeO.none _)
      | (with_reducible refine LeO.ite ?_ ?_)
      | (with_reducible refine LeO.bind ?_ (fun _ => ?_))
      | exact ih0 _ _ _ _ _
      | exact ih1 _ _
      | exact ih2 _ _ _
      | exact ih3 _ _ _ _ _ _ _ _
      | exact crosswaylaw01_alive.mono _
      | exact octet_Equal.mono _ _ _
      | exact octet_Num.mono _ _
      | exact octet_Put.mono _ _ _
      | exact octet_Unhex.mono _ _
      | exact octet_Xor.mono _ _ _
      | exact LeO.none _
      | refine LeO.ite ?_ ?_
      | refine LeO.bind ?_ (fun _ => ?_)
    · intro y0 y1
      unfold crosswaylaw01_OctetBack.j1
      repeat' first
      | (with_reducible exact ih0 _ _ _ _ _)
      | (with_reducible exact ih1 _ _)
      | (with_reducible exact ih2 _ _ _)
      | (with_reducible exact ih3 _ _ _ _ _ _ _ _)
      | (with_reducible exact crosswaylaw01_alive.mono _)
      | (with_reducible exact octet_Equal.mono _ _ _)
      | (with_reducible exact octet_Num.mono _ _)
      | (with_reducible exact octet_Put.mono _ _ _)
      | (with_reducible exact octet_Unhex.mono _ _)
      | (with_reducible exact octet_Xor.mono _ _ _)
      | (with_reducible exact LeO.refl _)
      | (with_reducible exact LeO.none _)
      | (with_reducible refine LeO.ite ?_ ?_)
      | (with_reducible refine LeO.bind ?_ (fun _ => ?_))
      | exact ih0 _ _ _ _ _
      | exact ih1 _ _
      | exact ih2 _ _ _
      | exact ih3 _ _ _ _ _ _ _ _
      | exact crosswaylaw01_alive.mono _
      | exact octet_Equal.mono _ _ _
      | exact octet_Num.mono _ _
      | exact octet_Put.mono _ _ _
      | exact octet_Unhex.mono _ _
      | exact octet_Xor.mono _ _ _
      | exact LeO.none _
      | refine LeO.ite ?_ ?_
      | refine LeO.bind ?_ (fun _ => ?_)
    · intro y0 y1 y2
      unfold crosswaylaw01_OctetBack.j2
      repeat' first
      | (with_reducible exact ih0 _ _ _ _ _)
      | (with_reducible exact ih1 _ _)
      | (with_reducible exact ih2 _ _ _)
      | (with_reducible exact ih3 _ _ _ _ _ _ _ _)
      | (with_reducible exact crosswaylaw01_alive.mono _)
      | (with_reducible exact octet_Equal.mono _ _ _)
      | (with_reducible exact octet_Num.mono _ _)
      | (with_reducible exact octet_Put.mono _ _ _)
      | (with_reducible exact octet_Unhex.mono _ _)
      | (with_reducible exact octet_Xor.mono _ _ _)
      | (with_reducible exact LeO.refl _)
      | (with_reducible exact LeO.none _)
      | (with_reducible refine LeO.ite ?_ ?_)
      | (with_reducible refine LeO.bind ?_ (fun _ => ?_))
      | exact ih0 _ _ _ _ _
      | exact ih1 _ _
      | exact ih2 _ _ _
      | exact ih3 _ _ _ _ _ _ _ _
      | exact crosswaylaw01_alive.mono _
      | exact octet_Equal.mono _ _ _
      | exact octet_Num.mono _ _
      | exact octet_Put.mono _ _ _
      | exact octet_Unhex.mono _ _
      | exact octet_Xor.mono _ _ _
      | exact LeO.none _
      | refine LeO.ite ?_ ?_
      | refine LeO.bind ?_ (fun _ => ?_)
    · intro y0 y1 y2 y3 y4 y5 y6 y7
      unfold crosswaylaw01_OctetBack.l0
      repeat' first
      | (with_reducible exact ih0 _ _ _ _ _)
      | (with_reducible exact ih1 _ _)
      | (with_reducible exact ih2 _ _ _)
      | (with_reducible exact ih3 _ _ _ _ _ _ _ _)
      | (with_reducible exact crosswaylaw01_alive.mono _)
      | (with_reducible exact octet_Equal.mono _ _ _)
      | (with_reducible exact octet_Num.mono _ _)
      | (with_reducible exact octet_Put.mono _ _ _)
      | (with_reducible exact octet_Unhex.mono _ _)
      | (with_reducible exact octet_Xor.mono _ _ _)
      | (with_reducible exact LeO.refl _)
      | (with_reducible exact LeO.none _)
      | (with_reducible refine LeO.ite ?_ ?_)
      | (with_reducible refine LeO.bind ?_ (fun _ => ?_))
      | exact ih0 _ _ _ _ _
      | exact ih1 _ _
      | exact ih2 _ _ _
      | exact ih3 _ _ _ _ _ _ _ _
      | exact crosswaylaw01_alive.mono _
      | exact octet_Equal.mono _ _ _
      | exact octet_Num.mono _ _
      | exact octet_Put.mono _ _ _
      | exact octet_Unhex.mono _ _
      | exact octet_Xor.mono _ _ _
      | exact LeO.none _
      | refine LeO.ite ?_ ?_
      | refine LeO.bind ?_ (fun _ => ?_)
theorem crosswaylaw01_OctetBack.mono : ∀ a0 a1 a2 a3 k, LeO (crosswaylaw01_OctetBack.f k a0 a1 a2 a3) (crosswaylaw01_OctetBack.f (k + 1) a0 a1 a2 a3) := by
  intro a0 a1 a2 a3 k
  obtain ⟨ih0, ih1, ih2, ih3⟩ := crosswaylaw01_OctetBack.mono_l k
  unfold crosswaylaw01_OctetBack.f
  repeat' first
      | (with_reducible exact ih0 _ _ _ _ _)
      | (with_reducible exact ih1 _ _)
      | (with_reducible exact ih2 _ _ _)
      | (with_reducible exact ih3 _ _ _ _ _ _ _ _)
      | (with_reducible exact crosswaylaw01_alive.mono _)
      | (with_reducible exact octet_Equal.mono _ _ _)
      | (with_reducible exact octet_Num.mono _ _)
      | (with_reducible exact octet_Put.mono _ _ _)
      | (with_reducible exact octet_Unhex.mono _ _)
      | (with_reducible exact octet_Xor.mono _ _ _)
      | (with_reducible exact LeO.refl _)
      | (with_reducible exact LeO.none _)
      | (with_reducible refine LeO.ite ?_ ?_)
      | (with_reducible refine LeO.bind ?_ (fun _ => ?_))
      | exact ih0 _ _ _ _ _
      | exact ih1 _ _
      | exact ih2 _ _ _
      | exact ih3 _ _ _ _ _ _ _ _
      | exact crosswaylaw01_alive.mono _
      | exact octet_Equal.mono _ _ _
      | exact octet_Num.mono _ _
      | exact octet_Put.mono _ _ _
      | exact octet_Unhex.mono _ _
      | exact octet_Xor.mono _ _ _
      | exact LeO.none _
      | refine LeO.ite ?_ ?_
      | refine LeO.bind ?_ (fun _ => ?_)
set_option maxHeartbeats 8000000 in
set_option maxRecDepth 100000 in
theorem crosswaylaw01_OctetBack.calls (k : Nat) (A0 : Option Addr) (c0 : Nat) (l0 : List Int) (A1 : Option Addr) (c1 : Nat) (l1 : List Int) (a2 : Int) (a3 : Int) (r : Bool) (w : World) (hr0 : Kd.C (Kd.int .u8) w A0 l0.length l0) (hc0 : l0.length ≤ c0) (hr1 : Kd.C (Kd.int .u8) w A1 l1.length l1) (hc1 : l1.length ≤ c1) (h : crosswaylaw01_OctetBack.f k l0 l1 a2 a3 = some r) :
    Calls Try.prog 5 #[.slice A0 l0.length c0, .slice A1 l1.length c1, .int .u64 a2, .int .i64 a3] w fun e w' => e = .returned (.bool r) ∧ Below w.heap.size w w' := by
  have HR0 := Aside0.mk hr0
  have HC0 := Aside0.mk hc0
  clear hr0 hc0
  have HR1 := Aside0.mk hr1
  have HC1 := Aside0.mk hc1
  clear hr1 hc1
  have HB := Aside0.mk (Below.refl w.heap.size w)
  have H : ((crosswaylaw01_alive.f k).bind fun t300 => (if t300 = true then (if (l0.length : Int) > 3000 then (crosswaylaw01_OctetBack.j0 k l0 l1 a2 a3 true) else (crosswaylaw01_OctetBack.j0 k l0 l1 a2 a3 (decide ((l1.length : Int) > 3000)))) else (some false))) = some r := h
  clear h
  replace H := Option.bind_eq_some_iff.mp H
  obtain ⟨t300, A50, H⟩ := H
  replace H : (if t300 = true then (if (l0.length : Int) > 3000 then (crosswaylaw01_OctetBack.j0 k l0 l1 a2 a3 true) else (crosswaylaw01_OctetBack.j0 k l0 l1 a2 a3 (decide ((l1.length : Int) > 3000)))) else (some false)) = some r := H
  have A5 := Aside0.mk A50
  clear A50
  by_cases c6 : t300 = true
  · subst c6
    have H1 : (if (l0.length : Int) > 3000 then (crosswaylaw01_OctetBack.j0 k l0 l1 a2 a3 true) else (crosswaylaw01_OctetBack.j0 k l0 l1 a2 a3 (decide ((l1.length : Int) > 3000)))) = some r := by rw [if_pos rfl] at H; exact H
    clear H
    have H := H1
    clear H1
    have HC7 := Aside0.mk H
    clear H
    go_enter Try.func5, Try.ntmps5
    go_upto_region 3 with (first | ((with_reducible refine gate_callee (f := 8) rfl ?_); refine goesL_ (some 23) rfl rfl Try.func8 (by kernel_rfl) rfl #[] rfl (by (try simp only [List.map_toArray, List.map_cons, List.map_nil]); first | done | rfl | (simp only [List.length_drop, List.length_take]; rfl)) ?_; (with_reducible refine (crosswaylaw01_alive.calls k  true _ A5.out).mono ?_); rintro e w8 ⟨rfl, hb⟩; refine ⟨_, rfl, ?_⟩; have n0_ := Aside0.mk (below_step (by repeat (first | (with_reducible first | exact HB.out | apply below_alloc | apply pw_below_drewN | apply below_drew1) | exact HB.out)) hb); clear HB; have HB := n0_; clear n0_; (try clear hb); (try clear hb2); (try clear hk); (try clear hi)))
    (try simp only [Act.put, List.setIfInBounds_toArray, List.set_cons_zero, List.set_cons_succ])
    go_cut [32] (fun v32 wc => ∃ (kq : Nat) (x32_6 : Bool), v32 = .bool x32_6 ∧ Aside0 (crosswaylaw01_OctetBack.j0 kq l0 l1 a2 a3 x32_6 = some r) ∧ Aside0 (kq ≤ k) ∧ Aside0 (Below w.heap.size w wc))
    case first =>
      have H := HC7.out
      clear HC7
      by_cases c9 : (l0.length : Int) > 3000
      · rw [if_pos c9] at H
        have c9b0 : decide (3000 < (l0.length : Int)) = true := decide_eq_true c9
        have c9b1 : decide (3000 < l0.length) = true := decide_eq_true (by omega)
        clear c9
        (first | rw [c9b0] | (simp only [i64_w, i32_w]; rw [c9b0]) | skip)
        have H' := Aside0.mk H
        clear H
        go_wp2
        go_meet
        case rel => exact ⟨_, (true), (by first | rfl | (simp; done) | (simp [*]; done) | (simp only [i64_w]; done) | (simp [i64_w]; done)), H', ⟨by first | omega | exact Nat.le_refl _⟩, ⟨by repeat (first | (with_reducible first | exact HB.out | apply below_alloc | apply pw_below_drewN | apply below_drew1) | exact HB.out)⟩⟩
      · rw [if_neg c9] at H
        have c9b0 : decide (3000 < (l0.length : Int)) = false := decide_eq_false c9
        have c9b1 : decide (3000 < l0.length) = false := decide_eq_false (by omega)
        clear c9
        (first | rw [c9b0] | (simp only [i64_w, i32_w]; rw [c9b0]) | skip)
        have H' := Aside0.mk H
        clear H
        go_wp2
        go_meet
        case rel => exact ⟨_, (decide ((l1.length : Int) > 3000)), (by first | rfl | (simp; done) | (simp [*]; done) | (simp only [i64_w]; done) | (simp [i64_w]; done)), H', ⟨by first | omega | exact Nat.le_refl _⟩, ⟨by repeat (first | (with_reducible first | exact HB.out | apply below_alloc | apply pw_below_drewN | apply below_drew1) | exact HB.out)⟩⟩
    case rest =>
      clear HC7
      try clear c1
      try clear p2
      try clear c5
      try clear c6
      try clear c8
      try clear c9
      try clear c9b0
      try clear c9b1
      obtain ⟨kq, x32_6, rfl, HA, HJ6, HB⟩ := hcut
      cases kq with
      | zero => exact absurd HA.out (by simp [crosswaylaw01_OctetBack.j0])
      | succ kj6 =>
        have H := HA.out
        clear HA
        simp only [crosswaylaw01_OctetBack.j0] at H
        by_cases c10 : x32_6 = true
        · subst c10
          have H1 : (some true) = some r := by rw [if_pos rfl] at H; exact H
          clear H
          have H := H1
          clear H1
          obtain rfl := Option.some.inj H
          go_wp2
          go_ret
          exact ⟨by first | rfl | (simp [errW_none, errW_some] <;> rfl) | (simp [*, errW_none, errW_some] <;> rfl), by repeat (first | (with_reducible first | exact HB.out | apply below_alloc | apply pw_below_drewN | apply below_drew1) | exact HB.out)⟩
        · replace c10 := Bool.eq_false_iff.mpr c10
          subst c10
          have H1 : ((octet_Put.f kj6 a2 a3).bind fun bt301 => (if bt301.2 = 0 then ((octet_Num.f kj6 bt301.1).bind fun bt305 => (if bt305.2 = 0 then (if bt305.1 = a2 then (if (bt301.1.length : Int) = a3 then (crosswaylaw01_OctetBack.j1 kj6 l0 l1) else (some false)) else (some false)) else (some false))) else (crosswaylaw01_OctetBack.j1 kj6 l0 l1))) = some r := by rw [if_neg (show ¬ (false = true) by decide)] at H; exact H
          clear H
          have H := H1
          clear H1
          replace H := Option.bind_eq_some_iff.mp H
          obtain ⟨⟨t301, t302⟩, A110, H⟩ := H
          replace H : (if t302 = 0 then ((octet_Num.f kj6 t301).bind fun bt305 => (if bt305.2 = 0 then (if bt305.1 = a2 then (if (t301.length : Int) = a3 then (crosswaylaw01_OctetBack.j1 kj6 l0 l1) else (some false)) else (some false)) else (some false))) else (crosswaylaw01_OctetBack.j1 kj6 l0 l1)) = some r := H
          have A11 := Aside0.mk A110
          clear A110
          have HC12 := Aside0.mk H
          clear H
          go_upto_if 40 with (first | ((with_reducible refine gate_callee (f := 19) rfl ?_); refine goesL_ (some 36) rfl rfl Try.func19 (by kernel_rfl) rfl #[.int .u64 a2, .int .i64 a3] rfl (by (try simp only [List.map_toArray, List.map_cons, List.map_nil]); first | done | rfl | (simp only [List.length_drop, List.length_take]; rfl)) ?_; (with_reducible refine (octet_Put.calls kj6 a2 a3 t301 t302 _ A11.out).mono ?_); rintro e w13 ⟨v303, rfl, ho0, hb⟩; refine ⟨_, rfl, ?_⟩; have n0_ := Aside0.mk (Kd.R_lower ho0 (below_size (by repeat (first | (with_reducible first | exact HB.out | apply below_alloc | apply pw_below_drewN | apply below_drew1) | exact HB.out)))); have n1_ := Aside0.mk (below_step (by repeat (first | (with_reducible first | exact HB.out | apply below_alloc | apply pw_below_drewN | apply below_drew1) | exact HB.out)) hb); clear HB; have HO304 := n0_; have HB := n1_; clear n0_ n1_; (try clear hb); (try clear hb2); (try clear hk); (try clear hi); (try clear ho0)))
          (try simp only [Act.put, List.setIfInBounds_toArray, List.set_cons_zero, List.set_cons_succ])
          go_cut [] (fun wc => ∃ (kq : Nat), Aside0 (crosswaylaw01_OctetBack.j1 kq l0 l1 = some r) ∧ Aside0 (kq ≤ kj6) ∧ Aside0 (Below w.heap.size w wc))
          case first =>
            have H := HC12.out
            clear HC12
            by_cases c14 : t302 = 0
            · rw [if_pos c14] at H
              have c14b0 : (t302 == 0) = true := beq_iff_eq.mpr c14
              have c14b1 : (t302 != 0) = false := bne_eq_false_iff_eq.mpr c14
              clear c14
              (first | rw [c14b0] | (simp only [i64_w, i32_w]; rw [c14b0]) | skip)
              replace H := Option.bind_eq_some_iff.mp H
              obtain ⟨⟨t305, t306⟩, A150, H⟩ := H
              replace H : (if t306 = 0 then (if t305 = a2 then (if (t301.length : Int) = a3 then (crosswaylaw01_OctetBack.j1 kj6 l0 l1) else (some false)) else (some false)) else (some false)) = some r := H
              have A15 := Aside0.mk A150
              clear A150
              by_cases c16 : t306 = 0
              · rw [if_pos c16] at H
                have c16b0 : (t306 == 0) = true := beq_iff_eq.mpr c16
                have c16b1 : (t306 != 0) = false := bne_eq_false_iff_eq.mpr c16
                clear c16
                by_cases c17 : t305 = a2
                · rw [if_pos c17] at H
                  have c17b0 : (t305 == a2) = true := beq_iff_eq.mpr c17
                  have c17b1 : (t305 != a2) = false := bne_eq_false_iff_eq.mpr c17
                  clear c17
                  by_cases c18 : (t301.length : Int) = a3
                  · rw [if_pos c18] at H
                    have c18b0 : ((t301.length : Int) == a3) = true := beq_iff_eq.mpr c18
                    have c18b1 : ((t301.length : Int) != a3) = false := bne_eq_false_iff_eq.mpr c18
                    clear c18
                    have H' := Aside0.mk H
                    clear H
                    obtain ⟨Ao19, co19, eo19⟩ := Kd.R_slice HO304.out
                    subst eo19
                    go_wp2_with (first | ((with_reducible refine gate_callee (f := 11) rfl ?_); refine goesL_ (some 43) rfl rfl Try.func11 (by kernel_rfl) rfl #[.slice Ao19 t301.length co19] rfl (by (try simp only [List.map_toArray, List.map_cons, List.map_nil]); first | done | rfl | (simp only [List.length_drop, List.length_take]; rfl)) ?_; (with_reducible refine (octet_Num.calls kj6 _ _ t301 t305 t306 _ ?side1 ?side2 A15.out).mono ?_); (case side1 => repeat (first | exact (Kd.R_reads' HO304.out).2.2 | (with_reducible refine Kd.C_alloc ?_ _) | (with_reducible refine Kd.C_drewN ?_ _) | (with_reducible refine Kd.C_drew ?_))); (case side2 => exact (Kd.R_reads' HO304.out).2.1); rintro e w' ⟨rfl, ⟨nd, rfl⟩⟩; refine ⟨_, rfl, ?_⟩))
                    go_meet
                    case rel => exact ⟨_, H', ⟨by have := HJ6.out; first | omega | exact Nat.le_refl _⟩, ⟨by repeat (first | (with_reducible first | exact HB.out | apply below_alloc | apply pw_below_drewN | apply below_drew1) | exact HB.out)⟩⟩
                  · rw [if_neg c18] at H
                    have c18b0 : ((t301.length : Int) == a3) = false := beq_eq_false_iff_ne.mpr c18
                    have c18b1 : ((t301.length : Int) != a3) = true := bne_iff_ne.mpr c18
                    obtain rfl := Option.some.inj H
                    obtain ⟨Ao20, co20, eo20⟩ := Kd.R_slice HO304.out
                    subst eo20
                    go_wp2_with (first | ((with_reducible refine gate_callee (f := 11) rfl ?_); refine goesL_ (some 43) rfl rfl Try.func11 (by kernel_rfl) rfl #[.slice Ao20 t301.length co20] rfl (by (try simp only [List.map_toArray, List.map_cons, List.map_nil]); first | done | rfl | (simp only [List.length_drop, List.length_take]; rfl)) ?_; (with_reducible refine (octet_Num.calls kj6 _ _ t301 t305 t306 _ ?side1 ?side2 A15.out).mono ?_); (case side1 => repeat (first | exact (Kd.R_reads' HO304.out).2.2 | (with_reducible refine Kd.C_alloc ?_ _) | (with_reducible refine Kd.C_drewN ?_ _) | (with_reducible refine Kd.C_drew ?_))); (case side2 => exact (Kd.R_reads' HO304.out).2.1); rintro e w' ⟨rfl, ⟨nd, rfl⟩⟩; refine ⟨_, rfl, ?_⟩))
                    go_ret
                    exact ⟨by first | rfl | (simp [errW_none, errW_some] <;> rfl) | (simp [*, errW_none, errW_some] <;> rfl), by repeat (first | (with_reducible first | exact HB.out | apply below_alloc | apply pw_below_drewN | apply below_drew1) | exact HB.out)⟩
                · rw [if_neg c17] at H
                  have c17b0 : (t305 == a2) = false := beq_eq_false_iff_ne.mpr c17
                  have c17b1 : (t305 != a2) = true := bne_iff_ne.mpr c17
                  obtain rfl := Option.some.inj H
                  obtain ⟨Ao21, co21, eo21⟩ := Kd.R_slice HO304.out
                  subst eo21
                  go_wp2_with (first | ((with_reducible refine gate_callee (f := 11) rfl ?_); refine goesL_ (some 43) rfl rfl Try.func11 (by kernel_rfl) rfl #[.slice Ao21 t301.length co21] rfl (by (try simp only [List.map_toArray, List.map_cons, List.map_nil]); first | done | rfl | (simp only [List.length_drop, List.length_take]; rfl)) ?_; (with_reducible refine (octet_Num.calls kj6 _ _ t301 t305 t306 _ ?side1 ?side2 A15.out).mono ?_); (case side1 => repeat (first | exact (Kd.R_reads' HO304.out).2.2 | (with_reducible refine Kd.C_alloc ?_ _) | (with_reducible refine Kd.C_drewN ?_ _) | (with_reducible refine Kd.C_drew ?_))); (case side2 => exact (Kd.R_reads' HO304.out).2.1); rintro e w' ⟨rfl, ⟨nd, rfl⟩⟩; refine ⟨_, rfl, ?_⟩))
                  go_ret
                  exact ⟨by first | rfl | (simp [errW_none, errW_some] <;> rfl) | (simp [*, errW_none, errW_some] <;> rfl), by repeat (first | (with_reducible first | exact HB.out | apply below_alloc | apply pw_below_drewN | apply below_drew1) | exact HB.out)⟩
              · rw [if_neg c16] at H
                have c16b0 : (t306 == 0) = false := beq_eq_false_iff_ne.mpr c16
                have c16b1 : (t306 != 0) = true := bne_iff_ne.mpr c16
                obtain rfl := Option.some.inj H
                obtain ⟨Ao22, co22, eo22⟩ := Kd.R_slice HO304.out
                subst eo22
                go_wp2_with (first | ((with_reducible refine gate_callee (f := 11) rfl ?_); refine goesL_ (some 43) rfl rfl Try.func11 (by kernel_rfl) rfl #[.slice Ao22 t301.length co22] rfl (by (try simp only [List.map_toArray, List.map_cons, List.map_nil]); first | done | rfl | (simp only [List.length_drop, List.length_take]; rfl)) ?_; (with_reducible refine (octet_Num.calls kj6 _ _ t301 t305 t306 _ ?side1 ?side2 A15.out).mono ?_); (case side1 => repeat (first | exact (Kd.R_reads' HO304.out).2.2 | (with_reducible refine Kd.C_alloc ?_ _) | (with_reducible refine Kd.C_drewN ?_ _) | (with_reducible refine Kd.C_drew ?_))); (case side2 => exact (Kd.R_reads' HO304.out).2.1); rintro e w' ⟨rfl, ⟨nd, rfl⟩⟩; refine ⟨_, rfl, ?_⟩))
                go_ret
                exact ⟨by first | rfl | (simp [errW_none, errW_some] <;> rfl) | (simp [*, errW_none, errW_some] <;> rfl), by repeat (first | (with_reducible first | exact HB.out | apply below_alloc | apply pw_below_drewN | apply below_drew1) | exact HB.out)⟩
            · rw [if_neg c14] at H
              have c14b0 : (t302 == 0) = false := beq_eq_false_iff_ne.mpr c14
              have c14b1 : (t302 != 0) = true := bne_iff_ne.mpr c14
              (first | rw [c14b0] | (simp only [i64_w, i32_w]; rw [c14b0]) | skip)
              have H' := Aside0.mk H
              clear H
              go_wp2
              go_meet
              case rel => exact ⟨_, H', ⟨by have := HJ6.out; first | omega | exact Nat.le_refl _⟩, ⟨by repeat (first | (with_reducible first | exact HB.out | apply below_alloc | apply pw_below_drewN | apply below_drew1) | exact HB.out)⟩⟩
          case rest =>
            clear HC12
            try clear c1
            try clear p2
            try clear c5
            try clear c6
            try clear c8
            try clear c9
            try clear c9b0
            try clear c9b1
            try clear c10
            try clear c11
            try clear c14
            try clear c14b0
            try clear c14b1
            try clear c16
            try clear c16b0
            try clear c16b1
            try clear c17
            try clear c17b0
            try clear c17b1
            try clear c18
            try clear c18b0
            try clear c18b1
            try clear c19
            try clear p2
            obtain ⟨kq, HA, HJ11, HB⟩ := hcut
            cases kq with
            | zero => exact absurd HA.out (by simp [crosswaylaw01_OctetBack.j1])
            | succ kj11 =>
              have H := HA.out
              clear HA
              simp only [crosswaylaw01_OctetBack.j1] at H
              replace H := Option.bind_eq_some_iff.mp H
              obtain ⟨t307, A230, H⟩ := H
              replace H : ((octet_Unhex.f kj11 t307).bind fun bt308 => (if bt308.2 = 0 then ((octet_Equal.f kj11 bt308.1 l0).bind fun t312 => (crosswaylaw01_OctetBack.j2 kj11 l0 l1 (!t312))) else (crosswaylaw01_OctetBack.j2 kj11 l0 l1 true))) = some r := H
              have A23 := Aside0.mk A230
              clear A230
              replace H := Option.bind_eq_some_iff.mp H
              obtain ⟨⟨t308, t309⟩, A240, H⟩ := H
              replace H : (if t309 = 0 then ((octet_Equal.f kj11 t308 l0).bind fun t312 => (crosswaylaw01_OctetBack.j2 kj11 l0 l1 (!t312))) else (crosswaylaw01_OctetBack.j2 kj11 l0 l1 true)) = some r := H
              have A24 := Aside0.mk A240
              clear A240
              have HC25 := Aside0.mk H
              clear H
              go_upto_region 11 with (first | ((with_reducible refine gate_callee (f := 16) rfl ?_); refine goesL_ (some 61) rfl rfl Try.func16 (by kernel_rfl) rfl #[.slice A0 l0.length c0] rfl (by (try simp only [List.map_toArray, List.map_cons, List.map_nil]); first | done | rfl | (simp only [List.length_drop, List.length_take]; rfl)) ?_; (with_reducible refine (octet_Hex.calls _ _ l0 t307 _ ?side1 ?side2 A23.out).mono ?_); (case side1 => repeat (first | exact (Kd.C_below HR0.out HB.out) | (with_reducible refine Kd.C_alloc ?_ _) | (with_reducible refine Kd.C_drewN ?_ _) | (with_reducible refine Kd.C_drew ?_))); (case side2 => exact HC0.out); rintro e w26 ⟨rfl, hb⟩; refine ⟨_, rfl, ?_⟩; have n0_ := Aside0.mk (below_step (by repeat (first | (with_reducible first | exact HB.out | apply below_alloc | apply pw_below_drewN | apply below_drew1) | exact HB.out)) hb); clear HB; have HB := n0_; clear n0_; (try clear hb); (try clear hb2); (try clear hk); (try clear hi)) | ((with_reducible refine gate_callee (f := 21) rfl ?_); refine goesL_ (some 62) rfl rfl Try.func21 (by kernel_rfl) rfl #[.string t307] rfl (by (try simp only [List.map_toArray, List.map_cons, List.map_nil]); first | done | rfl | (simp only [List.length_drop, List.length_take]; rfl)) ?_; (with_reducible refine (octet_Unhex.calls kj11 t307 t308 t309 _ A24.out).mono ?_); rintro e w27 ⟨v310, rfl, ho0, hb⟩; refine ⟨_, rfl, ?_⟩; have n0_ := Aside0.mk (Kd.R_lower ho0 (below_size (by repeat (first | (with_reducible first | exact HB.out | apply below_alloc | apply pw_below_drewN | apply below_drew1) | exact HB.out)))); have n1_ := Aside0.mk (below_step (by repeat (first | (with_reducible first | exact HB.out | apply below_alloc | apply pw_below_drewN | apply below_drew1) | exact HB.out)) hb); clear HB; have HO311 := n0_; have HB := n1_; clear n0_ n1_; (try clear hb); (try clear hb2); (try clear hk); (try clear hi); (try clear ho0)))
              (try simp only [Act.put, List.setIfInBounds_toArray, List.set_cons_zero, List.set_cons_succ])
              go_cut [72] (fun v72 wc => ∃ (kq : Nat) (x72_24 : Bool), v72 = .bool x72_24 ∧ Aside0 (crosswaylaw01_OctetBack.j2 kq l0 l1 x72_24 = some r) ∧ Aside0 (kq ≤ kj11) ∧ Aside0 (Below w.heap.size w wc))
              case first =>
                have H := HC25.out
                clear HC25
                by_cases c28 : t309 = 0
                · rw [if_pos c28] at H
                  have c28b0 : (t309 == 0) = true := beq_iff_eq.mpr c28
                  have c28b1 : (t309 != 0) = false := bne_eq_false_iff_eq.mpr c28
                  clear c28
                  (first | rw [c28b0] | (simp only [i64_w, i32_w]; rw [c28b0]) | skip)
                  replace H := Option.bind_eq_some_iff.mp H
                  obtain ⟨t312, A290, H⟩ := H
                  replace H : (crosswaylaw01_OctetBack.j2 kj11 l0 l1 (!t312)) = some r := H
                  have A29 := Aside0.mk A290
                  clear A290
                  have H' := Aside0.mk H
                  clear H
                  obtain ⟨Ao30, co30, eo30⟩ := Kd.R_slice HO311.out
                  subst eo30
                  go_wp2_with (first | (go_at_call 14; (with_reducible refine (octet_Equal.calls kj11 _ _ t308 _ _ l0 t312 _ ?side1 ?side2 ?side3 ?side4 A29.out).mono ?_); (case side1 => repeat (first | exact (Kd.R_reads' HO311.out).2.2 | (with_reducible refine Kd.C_alloc ?_ _) | (with_reducible refine Kd.C_drewN ?_ _) | (with_reducible refine Kd.C_drew ?_))); (case side2 => exact (Kd.R_reads' HO311.out).2.1); (case side3 => repeat (first | exact (Kd.C_below HR0.out HB.out) | (with_reducible refine Kd.C_alloc ?_ _) | (with_reducible refine Kd.C_drewN ?_ _) | (with_reducible refine Kd.C_drew ?_))); (case side4 => exact HC0.out); rintro e w' ⟨rfl, ⟨nd, rfl⟩⟩))
                  go_meet
                  case rel => exact ⟨_, (!t312), (by first | rfl | (simp; done) | (simp [*]; done) | (simp only [i64_w]; done) | (simp [i64_w]; done)), H', ⟨by have := HJ6.out; have := HJ11.out; first | omega | exact Nat.le_refl _⟩, ⟨by repeat (first | (with_reducible first | exact HB.out | apply below_alloc | apply pw_below_drewN | apply below_drew1) | exact HB.out)⟩⟩
                · rw [if_neg c28] at H
                  have c28b0 : (t309 == 0) = false := beq_eq_false_iff_ne.mpr c28
                  have c28b1 : (t309 != 0) = true := bne_iff_ne.mpr c28
                  (first | rw [c28b0] | (simp only [i64_w, i32_w]; rw [c28b0]) | skip)
                  have H' := Aside0.mk H
                  clear H
                  go_wp2
                  go_meet
                  case rel => exact ⟨_, (true), (by first | rfl | (simp; done) | (simp [*]; done) | (simp only [i64_w]; done) | (simp [i64_w]; done)), H', ⟨by have := HJ6.out; have := HJ11.out; first | omega | exact Nat.le_refl _⟩, ⟨by repeat (first | (with_reducible first | exact HB.out | apply below_alloc | apply pw_below_drewN | apply below_drew1) | exact HB.out)⟩⟩
              case rest =>
                clear HC25
                try clear c1
                try clear c2
                try clear p2
                try clear c5
                try clear c6
                try clear c8
                try clear c9
                try clear c9b0
                try clear c9b1
                try clear c10
                try clear c11
                try clear c14
                try clear c14b0
                try clear c14b1
                try clear c16
                try clear c16b0
                try clear c16b1
                try clear c17
                try clear c17b0
                try clear c17b1
                try clear c18
                try clear c18b0
                try clear c18b1
                try clear c19
                try clear c21
                try clear c28
                try clear c28b0
                try clear c28b1
                try clear p2
                obtain ⟨kq, x72_24, rfl, HA, HJ24, HB⟩ := hcut
                cases kq with
                | zero => exact absurd HA.out (by simp [crosswaylaw01_OctetBack.j2])
                | succ kj24 =>
                  have H := HA.out
                  clear HA
                  simp only [crosswaylaw01_OctetBack.j2] at H
                  by_cases c31 : x72_24 = true
                  · subst c31
                    have H1 : (some false) = some r := by rw [if_pos rfl] at H; exact H
                    clear H
                    have H := H1
                    clear H1
                    obtain rfl := Option.some.inj H
                    go_wp2
                    go_ret
                    exact ⟨by first | rfl | (simp [errW_none, errW_some] <;> rfl) | (simp [*, errW_none, errW_some] <;> rfl), by repeat (first | (with_reducible first | exact HB.out | apply below_alloc | apply pw_below_drewN | apply below_drew1) | exact HB.out)⟩
                  · replace c31 := Bool.eq_false_iff.mpr c31
                    subst c31
                    have H1 : ((octet_Xor.f kj24 l0 l1).bind fun bt313 => (if bt313.2 = 0 then ((octet_Xor.f kj24 bt313.1 l1).bind fun bt317 => ((octet_Xor.f kj24 l1 l0).bind fun bt321 => ((crosswayref00_CopyBytes.f l0).bind fun t325 => (crosswaylaw01_OctetBack.l0 kj24 l0 bt313.1 bt317.1 bt317.2 bt321.1 bt321.2 t325 0)))) else (some ((l0.length : Int) != (l1.length : Int))))) = some r := by rw [if_neg (show ¬ (false = true) by decide)] at H; exact H
                    clear H
                    have H := H1
                    clear H1
                    replace H := Option.bind_eq_some_iff.mp H
                    obtain ⟨⟨t313, t314⟩, A320, H⟩ := H
                    replace H : (if t314 = 0 then ((octet_Xor.f kj24 t313 l1).bind fun bt317 => ((octet_Xor.f kj24 l1 l0).bind fun bt321 => ((crosswayref00_CopyBytes.f l0).bind fun t325 => (crosswaylaw01_OctetBack.l0 kj24 l0 t313 bt317.1 bt317.2 bt321.1 bt321.2 t325 0)))) else (some ((l0.length : Int) != (l1.length : Int)))) = some r := H
                    have A32 := Aside0.mk A320
                    clear A320
                    by_cases c33 : t314 = 0
                    · rw [if_pos c33] at H
                      have c33b0 : (t314 == 0) = true := beq_iff_eq.mpr c33
                      have c33b1 : (t314 != 0) = false := bne_eq_false_iff_eq.mpr c33
                      clear c33
                      replace H := Option.bind_eq_some_iff.mp H
                      obtain ⟨⟨t317, t318⟩, A340, H⟩ := H
                      replace H : ((octet_Xor.f kj24 l1 l0).bind fun bt321 => ((crosswayref00_CopyBytes.f l0).bind fun t325 => (crosswaylaw01_OctetBack.l0 kj24 l0 t313 t317 t318 bt321.1 bt321.2 t325 0))) = some r := H
                      have A34 := Aside0.mk A340
                      clear A340
                      replace H := Option.bind_eq_some_iff.mp H
                      obtain ⟨⟨t321, t322⟩, A350, H⟩ := H
                      replace H : ((crosswayref00_CopyBytes.f l0).bind fun t325 => (crosswaylaw01_OctetBack.l0 kj24 l0 t313 t317 t318 t321 t322 t325 0)) = some r := H
                      have A35 := Aside0.mk A350
                      clear A350
                      replace H := Option.bind_eq_some_iff.mp H
                      obtain ⟨t325, A360, H⟩ := H
                      replace H : (crosswaylaw01_OctetBack.l0 kj24 l0 t313 t317 t318 t321 t322 t325 0) = some r := H
                      have A36 := Aside0.mk A360
                      clear A360
                      have H' := Aside0.mk H
                      clear H
                      go_wp2_with (first | ((with_reducible refine gate_callee (f := 9) rfl ?_); refine goesL_ (some 76) rfl rfl Try.func9 (by kernel_rfl) rfl #[.slice A0 l0.length c0, .slice A1 l1.length c1] rfl (by (try simp only [List.map_toArray, List.map_cons, List.map_nil]); first | done | rfl | (simp only [List.length_drop, List.length_take]; rfl)) ?_; (with_reducible refine (octet_Xor.calls kj24 _ _ l0 _ _ l1 t313 t314 _ ?side1 ?side2 ?side3 ?side4 A32.out).mono ?_); (case side1 => repeat (first | exact (Kd.C_below HR0.out HB.out) | (with_reducible refine Kd.C_alloc ?_ _) | (with_reducible refine Kd.C_drewN ?_ _) | (with_reducible refine Kd.C_drew ?_))); (case side2 => exact HC0.out); (case side3 => repeat (first | exact (Kd.C_below HR1.out HB.out) | (with_reducible refine Kd.C_alloc ?_ _) | (with_reducible refine Kd.C_drewN ?_ _) | (with_reducible refine Kd.C_drew ?_))); (case side4 => exact HC1.out); rintro e w37 ⟨v315, rfl, ho0, hb⟩; refine ⟨_, rfl, ?_⟩; have n0_ := Aside0.mk (Kd.R_lower ho0 (below_size (by repeat (first | (with_reducible first | exact HB.out | apply below_alloc | apply pw_below_drewN | apply below_drew1) | exact HB.out)))); have n1_ := Aside0.mk (below_step (by repeat (first | (with_reducible first | exact HB.out | apply below_alloc | apply pw_below_drewN | apply below_drew1) | exact HB.out)) hb); clear HB; have HO316 := n0_; have HB := n1_; clear n0_ n1_; (try clear hb); (try clear hb2); (try clear hk); (try clear hi); (try clear ho0); obtain ⟨Ao38, co38, eo38⟩ := Kd.R_slice HO316.out; subst eo38) | ((with_reducible refine gate_callee (f := 9) rfl ?_); refine goesL_ (some 89) rfl rfl Try.func9 (by kernel_rfl) rfl #[.slice Ao38 t313.length co38, .slice A1 l1.length c1] rfl (by (try simp only [List.map_toArray, List.map_cons, List.map_nil]); first | done | rfl | (simp only [List.length_drop, List.length_take]; rfl)) ?_; (with_reducible refine (octet_Xor.calls kj24 _ _ t313 _ _ l1 t317 t318 _ ?side1 ?side2 ?side3 ?side4 A34.out).mono ?_); (case side1 => repeat (first | exact (Kd.R_reads' HO316.out).2.2 | (with_reducible refine Kd.C_alloc ?_ _) | (with_reducible refine Kd.C_drewN ?_ _) | (with_reducible refine Kd.C_drew ?_))); (case side2 => exact (Kd.R_reads' HO316.out).2.1); (case side3 => repeat (first | exact (Kd.C_below HR1.out HB.out) | (with_reducible refine Kd.C_alloc ?_ _) | (with_reducible refine Kd.C_drewN ?_ _) | (with_reducible refine Kd.C_drew ?_))); (case side4 => exact HC1.out); rintro e w39 ⟨v319, rfl, ho0, hb⟩; refine ⟨_, rfl, ?_⟩; have n0_ := Aside0.mk (Kd.R_elder' (by (with_reducible repeat (first | apply Kd.R_alloc | apply Kd.R_drewN | apply Kd.R_drew)); exact HO316.out) (Kd.R_base ho0) hb); have n1_ := Aside0.mk (Kd.R_lower (Kd.R_new' ho0 (Kd.R_lt (by (with_reducible repeat (first | apply Kd.R_alloc | apply Kd.R_drewN | apply Kd.R_drew)); exact HO316.out))) (below_size (by repeat (first | (with_reducible first | exact HB.out | apply below_alloc | apply pw_below_drewN | apply below_drew1) | exact HB.out)))); have n2_ := Aside0.mk (below_step (by repeat (first | (with_reducible first | exact HB.out | apply below_alloc | apply pw_below_drewN | apply below_drew1) | exact HB.out)) hb); clear HO316; clear HB; have HO316 := n0_; have HO320 := n1_; have HB := n2_; clear n0_ n1_ n2_; (try clear hb); (try clear hb2); (try clear hk); (try clear hi); (try clear ho0)) | ((with_reducible refine gate_callee (f := 9) rfl ?_); refine goesL_ (some 95) rfl rfl Try.func9 (by kernel_rfl) rfl #[.slice A1 l1.length c1, .slice A0 l0.length c0] rfl (by (try simp only [List.map_toArray, List.map_cons, List.map_nil]); first | done | rfl | (simp only [List.length_drop, List.length_take]; rfl)) ?_; (with_reducible refine (octet_Xor.calls kj24 _ _ l1 _ _ l0 t321 t322 _ ?side1 ?side2 ?side3 ?side4 A35.out).mono ?_); (case side1 => repeat (first | exact (Kd.C_below HR1.out HB.out) | (with_reducible refine Kd.C_alloc ?_ _) | (with_reducible refine Kd.C_drewN ?_ _) | (with_reducible refine Kd.C_drew ?_))); (case side2 => exact HC1.out); (case side3 => repeat (first | exact (Kd.C_below HR0.out HB.out) | (with_reducible refine Kd.C_alloc ?_ _) | (with_reducible refine Kd.C_drewN ?_ _) | (with_reducible refine Kd.C_drew ?_))); (case side4 => exact HC0.out); rintro e w40 ⟨v323, rfl, ho0, hb⟩; refine ⟨_, rfl, ?_⟩; have n0_ := Aside0.mk (Kd.R_elder' (by (with_reducible repeat (first | apply Kd.R_alloc | apply Kd.R_drewN | apply Kd.R_drew)); exact HO316.out) (Kd.R_base ho0) hb); have n1_ := Aside0.mk (Kd.R_elder' (by (with_reducible repeat (first | apply Kd.R_alloc | apply Kd.R_drewN | apply Kd.R_drew)); exact HO320.out) (Kd.R_base ho0) hb); have n2_ := Aside0.mk (Kd.R_lower (Kd.R_new' (Kd.R_new' ho0 (Kd.R_lt (by (with_reducible repeat (first | apply Kd.R_alloc | apply Kd.R_drewN | apply Kd.R_drew)); exact HO316.out))) (Kd.R_lt (by (with_reducible repeat (first | apply Kd.R_alloc | apply Kd.R_drewN | apply Kd.R_drew)); exact HO320.out))) (below_size (by repeat (first | (with_reducible first | exact HB.out | apply below_alloc | apply pw_below_drewN | apply below_drew1) | exact HB.out)))); have n3_ := Aside0.mk (below_step (by repeat (first | (with_reducible first | exact HB.out | apply below_alloc | apply pw_below_drewN | apply below_drew1) | exact HB.out)) hb); clear HO316; clear HO320; clear HB; have HO316 := n0_; have HO320 := n1_; have HO324 := n2_; have HB := n3_; clear n0_ n1_ n2_ n3_; (try clear hb); (try clear hb2); (try clear hk); (try clear hi); (try clear ho0)) | ((with_reducible refine gate_callee (f := 15) rfl ?_); refine goesL_ (some 99) rfl rfl Try.func15 (by kernel_rfl) rfl #[.slice A0 l0.length c0] rfl (by (try simp only [List.map_toArray, List.map_cons, List.map_nil]); first | done | rfl | (simp only [List.length_drop, List.length_take]; rfl)) ?_; (with_reducible refine (crosswayref00_CopyBytes.calls _ _ l0 t325 _ ?side1 ?side2 A36.out).mono ?_); (case side1 => repeat (first | exact (Kd.C_below HR0.out HB.out) | (with_reducible refine Kd.C_alloc ?_ _) | (with_reducible refine Kd.C_drewN ?_ _) | (with_reducible refine Kd.C_drew ?_))); (case side2 => exact HC0.out); rintro e w41 ⟨v326, rfl, ho0, hb⟩; refine ⟨_, rfl, ?_⟩; have n0_ := Aside0.mk (Kd.R_elder' (by (with_reducible repeat (first | apply Kd.R_alloc | apply Kd.R_drewN | apply Kd.R_drew)); exact HO316.out) (Kd.R_base ho0) hb); have n1_ := Aside0.mk (Kd.R_elder' (by (with_reducible repeat (first | apply Kd.R_alloc | apply Kd.R_drewN | apply Kd.R_drew)); exact HO320.out) (Kd.R_base ho0) hb); have n2_ := Aside0.mk (Kd.R_elder' (by (with_reducible repeat (first | apply Kd.R_alloc | apply Kd.R_drewN | apply Kd.R_drew)); exact HO324.out) (Kd.R_base ho0) hb); have n3_ := Aside0.mk (Kd.R_lower (Kd.R_new' (Kd.R_new' (Kd.R_new' ho0 (Kd.R_lt (by (with_reducible repeat (first | apply Kd.R_alloc | apply Kd.R_drewN | apply Kd.R_drew)); exact HO316.out))) (Kd.R_lt (by (with_reducible repeat (first | apply Kd.R_alloc | apply Kd.R_drewN | apply Kd.R_drew)); exact HO320.out))) (Kd.R_lt (by (with_reducible repeat (first | apply Kd.R_alloc | apply Kd.R_drewN | apply Kd.R_drew)); exact HO324.out))) (below_size (by repeat (first | (with_reducible first | exact HB.out | apply below_alloc | apply pw_below_drewN | apply below_drew1) | exact HB.out)))); have n4_ := Aside0.mk (below_step (by repeat (first | (with_reducible first | exact HB.out | apply below_alloc | apply pw_below_drewN | apply below_drew1) | exact HB.out)) hb); clear HO316; clear HO320; clear HO324; clear HB; have HO316 := n0_; have HO320 := n1_; have HO324 := n2_; have HO327 := n3_; have HB := n4_; clear n0_ n1_ n2_ n3_ n4_; (try clear hb); (try clear hb2); (try clear hk); (try clear hi); (try clear ho0)))
                      go_loopg [22] kj24 (fun kq v22 w' => ∃ (x15_4 : List Int) (x22_4 : Int), v22 = .int .i64 x22_4 ∧ Aside0 (crosswaylaw01_OctetBack.l0 kq l0 x15_4 t317 t318 t321 t322 t325 x22_4 = some r) ∧ Aside0 (kq ≤ kj24) ∧ Aside0 (Kd.R (Kd.int .u8) 5 w' w.heap.size (fun k_ => some k_ ≠ (v319 : Value).ownBlock ∧ some k_ ≠ (v323 : Value).ownBlock ∧ some k_ ≠ (v326 : Value).ownBlock) (.slice Ao38 t313.length co38) x15_4) ∧ Aside0 (Kd.R (Kd.int .u8) 5 w' w.heap.size (fun k_ => some k_ ≠ ((.slice Ao38 t313.length co38) : Value).ownBlock ∧ some k_ ≠ (v323 : Value).ownBlock ∧ some k_ ≠ (v326 : Value).ownBlock) v319 t317) ∧ Aside0 (Kd.R (Kd.int .u8) 5 w' w.heap.size (fun k_ => some k_ ≠ ((.slice Ao38 t313.length co38) : Value).ownBlock ∧ some k_ ≠ (v319 : Value).ownBlock ∧ some k_ ≠ (v326 : Value).ownBlock) v323 t321) ∧ Aside0 (Kd.R (Kd.int .u8) 5 w' w.heap.size (fun k_ => some k_ ≠ ((.slice Ao38 t313.length co38) : Value).ownBlock ∧ some k_ ≠ (v319 : Value).ownBlock ∧ some k_ ≠ (v323 : Value).ownBlock) v326 t325) ∧ Aside0 (Below w.heap.size w w'))
                      case atStart => exact ⟨(t313), (0), (by first | rfl | (simp; done) | (simp [*]; done) | (simp only [i64_w]; done) | (simp [i64_w]; done)), H', ⟨Nat.le_refl _⟩, ⟨by (with_reducible repeat (first | apply Kd.R_alloc | apply Kd.R_drewN | apply Kd.R_drew)); exact Kd.R_mono HO316.out (fun _ hk => ⟨hk.1.1.2, ⟨hk.1.2, hk.2⟩⟩)⟩, ⟨by (with_reducible repeat (first | apply Kd.R_alloc | apply Kd.R_drewN | apply Kd.R_drew)); exact Kd.R_mono HO320.out (fun _ hk => ⟨hk.1.1.2, ⟨hk.1.2, hk.2⟩⟩)⟩, ⟨by (with_reducible repeat (first | apply Kd.R_alloc | apply Kd.R_drewN | apply Kd.R_drew)); exact Kd.R_mono HO324.out (fun _ hk => ⟨hk.1.1.2, ⟨hk.1.2, hk.2⟩⟩)⟩, ⟨by (with_reducible repeat (first | apply Kd.R_alloc | apply Kd.R_drewN | apply Kd.R_drew)); exact Kd.R_mono HO327.out (fun _ hk => ⟨hk.1.1.2, ⟨hk.1.2, hk.2⟩⟩)⟩, ⟨by repeat (first | (with_reducible first | exact HB.out | apply below_alloc | apply pw_below_drewN | apply below_drew1) | exact HB.out)⟩⟩
                      case round =>
                        clear H'
                        try clear c1
                        try clear c2
                        try clear p2
                        try clear c3
                        try clear c5
                        try clear c6
                        try clear c8
                        try clear c9
                        try clear c9b0
                        try clear c9b1
                        try clear c10
                        try clear c11
                        try clear c14
                        try clear c14b0
                        try clear c14b1
                        try clear c15
                        try clear c16
                        try clear c16b0
                        try clear c16b1
                        try clear c17
                        try clear c17b0
                        try clear c17b1
                        try clear c18
                        try clear c18b0
                        try clear c18b1
                        try clear c19
                        try clear c21
                        try clear c28
                        try clear c28b0
                        try clear c28b1
                        try clear c31
                        try clear c33
                        try clear c33b0
                        try clear c33b1
                        try clear p2
                        obtain ⟨x15_4, x22_4, rfl, HA, HK4, HO_15, HO_17, HO_19, HO_21, HB⟩ := hrel
                        have hl15_4 := (Kd.R_reads' HO_15.out).1
                        rw [hl15_4] at HO_15
                        (try simp only [hl15_4])
                        (try simp only [hl15_4] at HO_17)
                        (try simp only [hl15_4] at HO_19)
                        (try simp only [hl15_4] at HO_21)
                        cases gk with
                        | zero => exact absurd HA.out (by simp [crosswaylaw01_OctetBack.l0])
                        | succ k4 =>
                          have H := HA.out
                          clear HA
                          simp only [crosswaylaw01_OctetBack.l0] at H
                          by_cases c42 : x22_4 < (x15_4.length : Int)
                          · rw [if_pos c42] at H
                            have c42b0 : decide (x22_4 < (x15_4.length : Int)) = true := decide_eq_true c42
                            clear c42
                            by_cases c43 : 0 ≤ x22_4
                            · rw [if_pos c43] at H
                              have c43b0 : decide (0 ≤ x22_4) = true := decide_eq_true c43
                              clear c43
                              obtain ⟨y329, hy329⟩ : ∃ y_ : List Int, y_ = (x15_4.set (x22_4 : Int).toNat (((rd x15_4 x22_4) + 1) % 256)) := ⟨_, rfl⟩
                              replace H : (crosswaylaw01_OctetBack.l0 k4 l0 y329 t317 t318 t321 t322 t325 (wrap64 (x22_4 + 1))) = some r := by first | (rw [hy329]; with_reducible exact H) | (have H2_ := (Option.bind_some _ _).symm.trans H; rw [hy329]; with_reducible exact H2_) | (have H2_ := (Option.bind_some _ _).symm.trans H; with_reducible exact H2_) | with_reducible exact H | (rw [hy329]; exact H) | exact H
                              have Ny329 := Aside0.mk hy329
                              clear hy329
                              have H' := Aside0.mk H
                              clear H
                              have p328 : 0 ≤ (x22_4 : Int) := of_decide_eq_true (by first | (with_reducible assumption) | assumption)
                              have q328 : x22_4 < (x15_4.length : Int) := of_decide_eq_true (by first | (with_reducible assumption) | assumption)
                              obtain ⟨ad328, e328, hx328_0⟩ := Kd.at_int (Kd.R_reads' HO_15.out).2.2 x22_4 p328 q328
                              cases e328
                              replace p328 := eq_true p328
                              replace q328 := eq_true q328
                              have p44 : 0 ≤ (x22_4 : Int) := of_decide_eq_true (by first | (with_reducible assumption) | assumption)
                              have q44 : (x22_4 : Int) < ((x15_4.length : Int) : Int) := of_decide_eq_true (by first | (with_reducible assumption) | assumption)
                              obtain ⟨go44, co44, eo44, gb44, gl44, cl44, HG44⟩ := Kd.R_form HO_15.out (by omega)
                              (first | cases eo44 | (injection eo44 with ea_ en_ ec_; (first | subst ea_ | (injection ea_ with ea_; subst ea_)); subst ec_; clear en_))
                              have GB44 := Aside0.mk gb44
                              have GG44 := Aside0.mk HG44
                              clear gb44 gl44 HG44
                              (first | simp only [add_plain] at hx328_0 | skip)
                              obtain ⟨hx44_0, hf44_0⟩ := Kd.R_celln 0 HO_15.out (x22_4 : Int) p44 q44
                              replace p44 := eq_true p44
                              replace q44 := eq_true q44
                              have HP45 := Kd.R_putg HO_15.out (x22_4 : Int) (((rd x15_4 x22_4) + 1) % 256)
                              go_wp2_with (first | ((with_reducible refine gate_store (t := 5) (p := 111) rfl ?_); refine store_event (t := 5) (p := 111) (v := ?vo_w46) (w1 := (wr.setCell ⟨go44, (x22_4 : Int).toNat, none⟩ (.int .u8 (((rd x15_4 x22_4) + 1) % 256)))) ?hg ?ho ?hn ?hr ?_; (case ho => rfl); (case hg => rfl); (case hn => rfl); (case hr => first | (go_simp; done) | (go_simp; rfl)); intro w46 hw; have hg : wr.grownBy w46 (some go44) := (by rw [hw]; exact HP45.2); have hp_ : Kd.R (Kd.int .u8) 5 w46 w.heap.size (fun k_ => some k_ ≠ (v319 : Value).ownBlock ∧ some k_ ≠ (v323 : Value).ownBlock ∧ some k_ ≠ (v326 : Value).ownBlock) (.slice (some ⟨go44, 0, none⟩) x15_4.length co38) y329 := (by rw [hw, Ny329.out]; exact HP45.1); clear HP45; have n0_ := Aside0.mk (hp_); have n1_ := Aside0.mk (Kd.R_after (v := (.slice (some ⟨go44, 0, none⟩) x15_4.length co38)) (v1 := (.slice (some ⟨go44, 0, none⟩) x15_4.length co38)) (ok := (fun k_ => some k_ ≠ (v323 : Value).ownBlock ∧ some k_ ≠ (v326 : Value).ownBlock)) (by (with_reducible repeat (first | apply Kd.R_alloc | apply Kd.R_drewN | apply Kd.R_drew)); exact Kd.R_mono HO_17.out (fun _ hk => ⟨⟨hk.2.1, hk.2.2⟩, hk.1⟩)) hg (.inl rfl)); have n2_ := Aside0.mk (Kd.R_after (v := (.slice (some ⟨go44, 0, none⟩) x15_4.length co38)) (v1 := (.slice (some ⟨go44, 0, none⟩) x15_4.length co38)) (ok := (fun k_ => some k_ ≠ (v319 : Value).ownBlock ∧ some k_ ≠ (v326 : Value).ownBlock)) (by (with_reducible repeat (first | apply Kd.R_alloc | apply Kd.R_drewN | apply Kd.R_drew)); exact Kd.R_mono HO_19.out (fun _ hk => ⟨⟨hk.2.1, hk.2.2⟩, hk.1⟩)) hg (.inl rfl)); have n3_ := Aside0.mk (Kd.R_after (v := (.slice (some ⟨go44, 0, none⟩) x15_4.length co38)) (v1 := (.slice (some ⟨go44, 0, none⟩) x15_4.length co38)) (ok := (fun k_ => some k_ ≠ (v319 : Value).ownBlock ∧ some k_ ≠ (v323 : Value).ownBlock)) (by (with_reducible repeat (first | apply Kd.R_alloc | apply Kd.R_drewN | apply Kd.R_drew)); exact Kd.R_mono HO_21.out (fun _ hk => ⟨⟨hk.2.1, hk.2.2⟩, hk.1⟩)) hg (.inl rfl)); have n4_ := Aside0.mk ((by rw [hw]; exact below_set (HB.out) GB44.out : Below w.heap.size w w46)); clear HO_15; clear HO_17; clear HO_19; clear HO_21; clear HB; have HO_15 := n0_; have HO_17 := n1_; have HO_19 := n2_; have HO_21 := n3_; have HB := n4_; clear n0_ n1_ n2_ n3_ n4_; clear hg hw hp_))
                              (try simp only [← hl15_4])
                              go_roundg k4
                              case measure => have := HJ6.out; have := HJ11.out; have := HJ24.out; have := HK4.out; omega
                              case rel => exact ⟨(y329), (wrap64 (x22_4 + 1)), (by first | rfl | (simp; done) | (simp [*]; done) | (simp only [i64_w]; done) | (simp [i64_w]; done)), H', ⟨by have := HJ6.out; have := HJ11.out; have := HJ24.out; have := HK4.out; omega⟩, ⟨by (try simp only [hl15_4]); (with_reducible repeat (first | apply Kd.R_alloc | apply Kd.R_drewN | apply Kd.R_drew)); exact HO_15.out⟩, ⟨by (try simp only [hl15_4]); (with_reducible repeat (first | apply Kd.R_alloc | apply Kd.R_drewN | apply Kd.R_drew)); exact Kd.R_mono HO_17.out (fun _ hk => ⟨hk.2, ⟨hk.1.1, hk.1.2⟩⟩)⟩, ⟨by (try simp only [hl15_4]); (with_reducible repeat (first | apply Kd.R_alloc | apply Kd.R_drewN | apply Kd.R_drew)); exact Kd.R_mono HO_19.out (fun _ hk => ⟨hk.2, ⟨hk.1.1, hk.1.2⟩⟩)⟩, ⟨by (try simp only [hl15_4]); (with_reducible repeat (first | apply Kd.R_alloc | apply Kd.R_drewN | apply Kd.R_drew)); exact Kd.R_mono HO_21.out (fun _ hk => ⟨hk.2, ⟨hk.1.1, hk.1.2⟩⟩)⟩, ⟨by repeat (first | (with_reducible first | exact HB.out | apply below_alloc | apply pw_below_drewN | apply below_drew1) | exact HB.out)⟩⟩
                            · rw [if_neg c43] at H
                              exact absurd H (by simp)
                          · rw [if_neg c42] at H
                            have c42b0 : decide (x22_4 < (x15_4.length : Int)) = false := decide_eq_false c42
                            clear c42
                            by_cases c47 : t318 = 0
                            · rw [if_pos c47] at H
                              have c47b0 : (t318 == 0) = true := beq_iff_eq.mpr c47
                              have c47b1 : (t318 != 0) = false := bne_eq_false_iff_eq.mpr c47
                              clear c47
                              by_cases c48 : t322 = 0
                              · rw [if_pos c48] at H
                                have c48b0 : (t322 == 0) = true := beq_iff_eq.mpr c48
                                have c48b1 : (t322 != 0) = false := bne_eq_false_iff_eq.mpr c48
                                clear c48
                                replace H := Option.bind_eq_some_iff.mp H
                                obtain ⟨t330, A490, H⟩ := H
                                replace H : (if t330 = true then (if (t321.length : Int) = (l0.length : Int) then ((octet_Equal.f k4 l0 t325).bind fun t331 => (some t331)) else (some false)) else (some false)) = some r := H
                                have A49 := Aside0.mk A490
                                clear A490
                                by_cases c50 : t330 = true
                                · subst c50
                                  have H1 : (if (t321.length : Int) = (l0.length : Int) then ((octet_Equal.f k4 l0 t325).bind fun t331 => (some t331)) else (some false)) = some r := by rw [if_pos rfl] at H; exact H
                                  clear H
                                  have H := H1
                                  clear H1
                                  by_cases c51 : (t321.length : Int) = (l0.length : Int)
                                  · rw [if_pos c51] at H
                                    have c51b0 : ((t321.length : Int) == (l0.length : Int)) = true := beq_iff_eq.mpr c51
                                    have c51b1 : ((t321.length : Int) != (l0.length : Int)) = false := bne_eq_false_iff_eq.mpr c51
                                    have c51b2 : (t321.length == l0.length) = true := by first | simpa using c51 | (simp at c51 ⊢; omega)
                                    clear c51
                                    replace H := Option.bind_eq_some_iff.mp H
                                    obtain ⟨t331, A520, H⟩ := H
                                    replace H : (some t331) = some r := H
                                    have A52 := Aside0.mk A520
                                    clear A520
                                    obtain rfl := Option.some.inj H
                                    obtain ⟨Ao53, co53, eo53⟩ := Kd.R_slice HO_17.out
                                    subst eo53
                                    go_wp2_with (first | (go_at_call 14; (with_reducible refine (octet_Equal.calls k4 _ _ t317 _ _ l0 true _ ?side1 ?side2 ?side3 ?side4 A49.out).mono ?_); (case side1 => repeat (first | exact (Kd.R_reads' HO_17.out).2.2 | (with_reducible refine Kd.C_alloc ?_ _) | (with_reducible refine Kd.C_drewN ?_ _) | (with_reducible refine Kd.C_drew ?_))); (case side2 => exact (Kd.R_reads' HO_17.out).2.1); (case side3 => repeat (first | exact (Kd.C_below HR0.out HB.out) | (with_reducible refine Kd.C_alloc ?_ _) | (with_reducible refine Kd.C_drewN ?_ _) | (with_reducible refine Kd.C_drew ?_))); (case side4 => exact HC0.out); rintro e w' ⟨rfl, ⟨nd, rfl⟩⟩; obtain ⟨Ao54, co54, eo54⟩ := Kd.R_slice HO_19.out; subst eo54; obtain ⟨Ao55, co55, eo55⟩ := Kd.R_slice HO_21.out; subst eo55) | (go_at_call 14; (with_reducible refine (octet_Equal.calls k4 _ _ l0 _ _ t325 t331 _ ?side1 ?side2 ?side3 ?side4 A52.out).mono ?_); (case side1 => repeat (first | exact (Kd.C_below HR0.out (by repeat (first | (with_reducible first | exact HB.out | apply below_alloc | apply pw_below_drewN | apply below_drew1) | exact HB.out))) | (with_reducible refine Kd.C_alloc ?_ _) | (with_reducible refine Kd.C_drewN ?_ _) | (with_reducible refine Kd.C_drew ?_))); (case side2 => exact HC0.out); (case side3 => repeat (first | exact (Kd.R_reads' HO_21.out).2.2 | (with_reducible refine Kd.C_alloc ?_ _) | (with_reducible refine Kd.C_drewN ?_ _) | (with_reducible refine Kd.C_drew ?_))); (case side4 => exact (Kd.R_reads' HO_21.out).2.1); rintro e w' ⟨rfl, ⟨nd, rfl⟩⟩))
                                    go_ret
                                    exact ⟨by first | rfl | (simp [errW_none, errW_some] <;> rfl) | (simp [*, errW_none, errW_some] <;> rfl), by repeat (first | (with_reducible first | exact HB.out | apply below_alloc | apply pw_below_drewN | apply below_drew1) | exact HB.out)⟩
                                  · rw [if_neg c51] at H
                                    have c51b0 : ((t321.length : Int) == (l0.length : Int)) = false := beq_eq_false_iff_ne.mpr c51
                                    have c51b1 : ((t321.length : Int) != (l0.length : Int)) = true := bne_iff_ne.mpr c51
                                    have c51b2 : (t321.length == l0.length) = false := by first | simpa using c51 | (simp at c51 ⊢; omega)
                                    obtain rfl := Option.some.inj H
                                    obtain ⟨Ao56, co56, eo56⟩ := Kd.R_slice HO_17.out
                                    subst eo56
                                    go_wp2_with (first | (go_at_call 14; (with_reducible refine (octet_Equal.calls k4 _ _ t317 _ _ l0 true _ ?side1 ?side2 ?side3 ?side4 A49.out).mono ?_); (case side1 => repeat (first | exact (Kd.R_reads' HO_17.out).2.2 | (with_reducible refine Kd.C_alloc ?_ _) | (with_reducible refine Kd.C_drewN ?_ _) | (with_reducible refine Kd.C_drew ?_))); (case side2 => exact (Kd.R_reads' HO_17.out).2.1); (case side3 => repeat (first | exact (Kd.C_below HR0.out HB.out) | (with_reducible refine Kd.C_alloc ?_ _) | (with_reducible refine Kd.C_drewN ?_ _) | (with_reducible refine Kd.C_drew ?_))); (case side4 => exact HC0.out); rintro e w' ⟨rfl, ⟨nd, rfl⟩⟩; obtain ⟨Ao57, co57, eo57⟩ := Kd.R_slice HO_19.out; subst eo57))
                                    go_ret
                                    exact ⟨by first | rfl | (simp [errW_none, errW_some] <;> rfl) | (simp [*, errW_none, errW_some] <;> rfl), by repeat (first | (with_reducible first | exact HB.out | apply below_alloc | apply pw_below_drewN | apply below_drew1) | exact HB.out)⟩
                                · replace c50 := Bool.eq_false_iff.mpr c50
                                  subst c50
                                  have H1 : (some false) = some r := by rw [if_neg (show ¬ (false = true) by decide)] at H; exact H
                                  clear H
                                  have H := H1
                                  clear H1
                                  obtain rfl := Option.some.inj H
                                  obtain ⟨Ao58, co58, eo58⟩ := Kd.R_slice HO_17.out
                                  subst eo58
                                  go_wp2_with (first | (go_at_call 14; (with_reducible refine (octet_Equal.calls k4 _ _ t317 _ _ l0 false _ ?side1 ?side2 ?side3 ?side4 A49.out).mono ?_); (case side1 => repeat (first | exact (Kd.R_reads' HO_17.out).2.2 | (with_reducible refine Kd.C_alloc ?_ _) | (with_reducible refine Kd.C_drewN ?_ _) | (with_reducible refine Kd.C_drew ?_))); (case side2 => exact (Kd.R_reads' HO_17.out).2.1); (case side3 => repeat (first | exact (Kd.C_below HR0.out HB.out) | (with_reducible refine Kd.C_alloc ?_ _) | (with_reducible refine Kd.C_drewN ?_ _) | (with_reducible refine Kd.C_drew ?_))); (case side4 => exact HC0.out); rintro e w' ⟨rfl, ⟨nd, rfl⟩⟩))
                                  go_ret
                                  exact ⟨by first | rfl | (simp [errW_none, errW_some] <;> rfl) | (simp [*, errW_none, errW_some] <;> rfl), by repeat (first | (with_reducible first | exact HB.out | apply below_alloc | apply pw_below_drewN | apply below_drew1) | exact HB.out)⟩
                              · rw [if_neg c48] at H
                                have c48b0 : (t322 == 0) = false := beq_eq_false_iff_ne.mpr c48
                                have c48b1 : (t322 != 0) = true := bne_iff_ne.mpr c48
                                obtain rfl := Option.some.inj H
                                go_wp2
                                go_ret
                                exact ⟨by first | rfl | (simp [errW_none, errW_some] <;> rfl) | (simp [*, errW_none, errW_some] <;> rfl), by repeat (first | (with_reducible first | exact HB.out | apply below_alloc | apply pw_below_drewN | apply below_drew1) | exact HB.out)⟩
                            · rw [if_neg c47] at H
                              have c47b0 : (t318 == 0) = false := beq_eq_false_iff_ne.mpr c47
                              have c47b1 : (t318 != 0) = true := bne_iff_ne.mpr c47
                              obtain rfl := Option.some.inj H
                              go_wp2
                              go_ret
                              exact ⟨by first | rfl | (simp [errW_none, errW_some] <;> rfl) | (simp [*, errW_none, errW_some] <;> rfl), by repeat (first | (with_reducible first | exact HB.out | apply below_alloc | apply pw_below_drewN | apply below_drew1) | exact HB.out)⟩
                    · rw [if_neg c33] at H
                      have c33b0 : (t314 == 0) = false := beq_eq_false_iff_ne.mpr c33
                      have c33b1 : (t314 != 0) = true := bne_iff_ne.mpr c33
                      obtain rfl := Option.some.inj H
                      go_wp2_with (first | ((with_reducible refine gate_callee (f := 9) rfl ?_); refine goesL_ (some 76) rfl rfl Try.func9 (by kernel_rfl) rfl #[.slice A0 l0.length c0, .slice A1 l1.length c1] rfl (by (try simp only [List.map_toArray, List.map_cons, List.map_nil]); first | done | rfl | (simp only [List.length_drop, List.length_take]; rfl)) ?_; (with_reducible refine (octet_Xor.calls kj24 _ _ l0 _ _ l1 t313 t314 _ ?side1 ?side2 ?side3 ?side4 A32.out).mono ?_); (case side1 => repeat (first | exact (Kd.C_below HR0.out HB.out) | (with_reducible refine Kd.C_alloc ?_ _) | (with_reducible refine Kd.C_drewN ?_ _) | (with_reducible refine Kd.C_drew ?_))); (case side2 => exact HC0.out); (case side3 => repeat (first | exact (Kd.C_below HR1.out HB.out) | (with_reducible refine Kd.C_alloc ?_ _) | (with_reducible refine Kd.C_drewN ?_ _) | (with_reducible refine Kd.C_drew ?_))); (case side4 => exact HC1.out); rintro e w59 ⟨v315, rfl, ho0, hb⟩; refine ⟨_, rfl, ?_⟩; have n0_ := Aside0.mk (Kd.R_lower ho0 (below_size (by repeat (first | (with_reducible first | exact HB.out | apply below_alloc | apply pw_below_drewN | apply below_drew1) | exact HB.out)))); have n1_ := Aside0.mk (below_step (by repeat (first | (with_reducible first | exact HB.out | apply below_alloc | apply pw_below_drewN | apply below_drew1) | exact HB.out)) hb); clear HB; have HO316 := n0_; have HB := n1_; clear n0_ n1_; (try clear hb); (try clear hb2); (try clear hk); (try clear hi); (try clear ho0)))
                      go_ret
                      exact ⟨by first | rfl | (simp [errW_none, errW_some] <;> rfl) | (simp [*, errW_none, errW_some] <;> rfl), by repeat (first | (with_reducible first | exact HB.out | apply below_alloc | apply pw_below_drewN | apply below_drew1) | exact HB.out)⟩
  · replace c6 := Bool.eq_false_iff.mpr c6
    subst c6
    have H1 : (some false) = some r := by rw [if_neg (show ¬ (false = true) by decide)] at H; exact H
    clear H
    have H := H1
    clear H1
    obtain rfl := Option.some.inj H
    go_enter Try.func5, Try.ntmps5
    go_wp2_with (first | ((with_reducible refine gate_callee (f := 8) rfl ?_); refine goesL_ (some 23) rfl rfl Try.func8 (by kernel_rfl) rfl #[] rfl (by (try simp only [List.map_toArray, List.map_cons, List.map_nil]); first | done | rfl | (simp only [List.length_drop, List.length_take]; rfl)) ?_; (with_reducible refine (crosswaylaw01_alive.calls k  false _ A5.out).mono ?_); rintro e w60 ⟨rfl, hb⟩; refine ⟨_, rfl, ?_⟩; have n0_ := Aside0.mk (below_step (by repeat (first | (with_reducible first | exact HB.out | apply below_alloc | apply pw_below_drewN | apply below_drew1) | exact HB.out)) hb); clear HB; have HB := n0_; clear n0_; (try clear hb); (try clear hb2); (try clear hk); (try clear hi)))
    go_ret
    exact ⟨by first | rfl | (simp [errW_none, errW_some] <;> rfl) | (simp [*, errW_none, errW_some] <;> rfl), by repeat (first | (with_reducible first | exact HB.out | apply below_alloc | apply pw_below_drewN | apply below_drew1) | exact HB.out)⟩

/-- The one pure statement of crosswaylaw01_OctetBack. -/
def crosswaylaw01_OctetBack.Pure : Prop := ∀ (l0 : List Int) (l1 : List Int) (a2 : Int) (a3 : Int), l0.length ≤ maxLen → (∀ x ∈ l0, (Lit.int .u8 x).wf = true) → l1.length ≤ maxLen → (∀ x ∈ l1, (Lit.int .u8 x).wf = true) → (Lit.int .u64 a2).wf = true → (Lit.int .i64 a3).wf = true → ∃ k, crosswaylaw01_OctetBack.f k l0 l1 a2 a3 = some true

end Go.Proofs.Ytnagjckjibfimaa.M
