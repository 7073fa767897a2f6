/- Contracts of the Go functions that the laws reach, each as a plain Lean function: written by xprint.py, a program of this repo. -/
import Derived.Test.YtnmhnihhlakinacM0
import Derived.Test.YtnmhnihhlakinacM6
import Derived.Test.YtnmhnihhlakinacM7
import Derived.Test.YtnmhnihhlakinacM8
import Derived.Test.YtnmhnihhlakinacM11
import Derived.Test.YtnmhnihhlakinacM13
import Derived.Test.YtnmhnihhlakinacM14
namespace Go.Proofs.Ytnmhnihhlakinac.M
open Go.RowKit Go.Proofs.YtnmhnihhlakinacW.PrintWords Go.Proofs.YtnmhnihhlakinacW.PrintLast Go.Proofs.YtnmhnihhlakinacW.PrintMore Go.Proofs.Ytnmhnihhlakinac.X
attribute [local go_sem] max2_int min2_int max_two min_two max_three min_three max_four min_four   -- for this text's walks alone
set_option linter.unusedVariables false
set_option linter.unusedSimpArgs false

/-! ### crosswaylaw13_OfferParses: function 4 -/
def crosswaylaw13_OfferParses.f (k : Nat) (l0 : List Int) (a1 : Int) : Option (Bool) := (crosswaylaw13_alive.f k).bind fun t348 => (if t348 = true then (if (l0.length : Int) > 3000 then (some true) else ((crosswayref00_CopyBytes.f l0).bind fun t349 => ((offer_Parse.f k t349).bind fun bt352 => ((crosswayref13_Parse.f k l0).bind fun bt365 => (if bt352.2.2.2.2.2 = bt365.2.2.2.2.2 then ((crosswaylaw10_Of.f bt352.1 bt352.2.1 bt352.2.2.1 bt352.2.2.2.1).bind fun bt378 => ((crosswayref10_Same.f bt378.1 bt378.2.1 bt378.2.2.1 bt378.2.2.2 bt365.1 bt365.2.1 bt365.2.2.1 bt365.2.2.2.1).bind fun t386 => (if t386 = true then ((crosswaylaw13_same.f k bt352.2.2.2.2.1 bt365.2.2.2.2.1).bind fun t387 => (if t387 = true then ((offer_Has.f k t349 a1).bind fun t388 => ((crosswayref13_Has.f k l0 a1).bind fun t389 => (if (t388 == t389) = true then ((crosswayref00_SameBytes.f k t349 l0).bind fun t390 => (some t390)) else (none)))) else (none))) else (none)))) else (none)))))) else (none))
theorem crosswaylaw13_OfferParses.mono : ∀ a0 a1 k, LeO (crosswaylaw13_OfferParses.f k a0 a1) (crosswaylaw13_OfferParses.f (k + 1) a0 a1) := by
  intro a0 a1 k
  unfold crosswaylaw13_OfferParses.f
  repeat' first
      | (with_reducible exact crosswaylaw13_alive.mono _)
      | (with_reducible exact crosswaylaw13_same.mono _ _ _)
      | (with_reducible exact crosswayref00_SameBytes.mono _ _ _)
      | (with_reducible exact crosswayref13_Has.mono _ _ _)
      | (with_reducible exact crosswayref13_Parse.mono _ _)
      | (with_reducible exact offer_Has.mono _ _ _)
      | (with_reducible exact offer_Parse.mono _ _)
      | (with_reducible exact LeO.refl _)
      | (with_reducible exact LeO.none _)
      | (with_reducible refine LeO.ite ?_ ?_)
      | (with_reducible refine LeO.bind ?_ (fun _ => ?_))
      | exact crosswaylaw13_alive.mono _
      | exact crosswaylaw13_same.mono _ _ _
      | exact crosswayref00_SameBytes.mono _ _ _
      | exact crosswayref13_Has.mono _ _ _
      | exact crosswayref13_Parse.mono _ _
      | exact offer_Has.mono _ _ _
      | exact offer_Parse.mono _ _
      | exact LeO.none _
      | refine LeO.ite ?_ ?_
      | refine LeO.bind ?_ (fun _ => ?_)
def crosswaylaw13_OfferParses.T8 : Bool × List (List Nat × List Nat) := (true, [([], []), ([], []), ([0, 1], [0, 1]), ([2], [2]), ([3], [3]), ([4, 3, 3], [3, 4]), ([3], [3]), ([5, 6, 5, 3], [3, 5, 6]), ([3, 7], [3, 7]), ([8, 7], [8]), ([9], [9]), ([9], [9]), ([10, 11, 9, 9], [9, 10, 11]), ([9, 12], [9, 12]), ([13, 12], [13]), ([14], [14]), ([14], [14]), ([15, 16, 14, 14], [14, 15, 16]), ([14], [14]), ([14], [14]), ([18, 19, 17, 14], [14, 18, 19]), ([17, 20, 14], [14, 17, 20]), ([14, 21], [14, 21]), ([22, 20], [22]), ([23], [23]), ([23], [23]), ([24, 25, 23, 23], [23, 24, 25]), ([23, 26], [23, 26]), ([27, 26, 0, 1, 2, 3, 4, 5, 6, 7, 8, 9, 10, 11, 12, 13, 14, 15, 16, 17, 18, 19, 20, 21, 22, 23, 24, 25, 26, 27], [27])])
def crosswaylaw13_OfferParses.B8 : List Nat := [0, 0, 3, 7, 15, 31, 15, 127, 255, 511, 1023, 1023, 4095, 8191, 16383, 32767, 32767, 131071, 32767, 32767, 1048575, 2097151, 4194303, 8388607, 16777215, 16777215, 67108863, 134217727, 268435455]
theorem crosswaylaw13_OfferParses.tab8 : rtab .any (opsOf Try.f4 8) = crosswaylaw13_OfferParses.T8 := by kernel_rfl
theorem crosswaylaw13_OfferParses.bits8 : waitsOk crosswaylaw13_OfferParses.T8.2 crosswaylaw13_OfferParses.B8 = true := by kernel_rfl
set_option maxHeartbeats 8000000 in
set_option maxRecDepth 100000 in
theorem crosswaylaw13_OfferParses.calls (k : Nat) (A0 : Option Addr) (c0 : Nat) (l0 : List Int) (a1 : Int) (r : Bool) (w : World) (hr0 : Kd.C (Kd.int .u8) w A0 l0.length l0) (hc0 : l0.length ≤ c0) (h : crosswaylaw13_OfferParses.f k l0 a1 = some r) :
    Calls Try.prog 4 #[.slice A0 l0.length c0, .int .u32 a1] w fun e w' => e = .returned (.bool r) ∧ Below w.heap.size w w' := by
  have hu37 := Try.underlying37
  have hu40 := Try.underlying40
  have HR0 := Aside0.mk hr0
  have HC0 := Aside0.mk hc0
  clear hr0 hc0
  have HB := Aside0.mk (Below.refl w.heap.size w)
  have H : ((crosswaylaw13_alive.f k).bind fun t348 => (if t348 = true then (if (l0.length : Int) > 3000 then (some true) else ((crosswayref00_CopyBytes.f l0).bind fun t349 => ((offer_Parse.f k t349).bind fun bt352 => ((crosswayref13_Parse.f k l0).bind fun bt365 => (if bt352.2.2.2.2.2 = bt365.2.2.2.2.2 then ((crosswaylaw10_Of.f bt352.1 bt352.2.1 bt352.2.2.1 bt352.2.2.2.1).bind fun bt378 => ((crosswayref10_Same.f bt378.1 bt378.2.1 bt378.2.2.1 bt378.2.2.2 bt365.1 bt365.2.1 bt365.2.2.1 bt365.2.2.2.1).bind fun t386 => (if t386 = true then ((crosswaylaw13_same.f k bt352.2.2.2.2.1 bt365.2.2.2.2.1).bind fun t387 => (if t387 = true then ((offer_Has.f k t349 a1).bind fun t388 => ((crosswayref13_Has.f k l0 a1).bind fun t389 => (if (t388 == t389) = true then ((crosswayref00_SameBytes.f k t349 l0).bind fun t390 => (some t390)) else (none)))) else (none))) else (none)))) else (none)))))) else (none))) = some r := h
  clear h
  replace H := Option.bind_eq_some_iff.mp H
  obtain ⟨t348, A30, H⟩ := H
  replace H : (if t348 = true then (if (l0.length : Int) > 3000 then (some true) else ((crosswayref00_CopyBytes.f l0).bind fun t349 => ((offer_Parse.f k t349).bind fun bt352 => ((crosswayref13_Parse.f k l0).bind fun bt365 => (if bt352.2.2.2.2.2 = bt365.2.2.2.2.2 then ((crosswaylaw10_Of.f bt352.1 bt352.2.1 bt352.2.2.1 bt352.2.2.2.1).bind fun bt378 => ((crosswayref10_Same.f bt378.1 bt378.2.1 bt378.2.2.1 bt378.2.2.2 bt365.1 bt365.2.1 bt365.2.2.1 bt365.2.2.2.1).bind fun t386 => (if t386 = true then ((crosswaylaw13_same.f k bt352.2.2.2.2.1 bt365.2.2.2.2.1).bind fun t387 => (if t387 = true then ((offer_Has.f k t349 a1).bind fun t388 => ((crosswayref13_Has.f k l0 a1).bind fun t389 => (if (t388 == t389) = true then ((crosswayref00_SameBytes.f k t349 l0).bind fun t390 => (some t390)) else (none)))) else (none))) else (none)))) else (none)))))) else (none)) = some r := H
  have A3 := Aside0.mk A30
  clear A30
  by_cases c4 : t348 = true
  · subst c4
    have H1 : (if (l0.length : Int) > 3000 then (some true) else ((crosswayref00_CopyBytes.f l0).bind fun t349 => ((offer_Parse.f k t349).bind fun bt352 => ((crosswayref13_Parse.f k l0).bind fun bt365 => (if bt352.2.2.2.2.2 = bt365.2.2.2.2.2 then ((crosswaylaw10_Of.f bt352.1 bt352.2.1 bt352.2.2.1 bt352.2.2.2.1).bind fun bt378 => ((crosswayref10_Same.f bt378.1 bt378.2.1 bt378.2.2.1 bt378.2.2.2 bt365.1 bt365.2.1 bt365.2.2.1 bt365.2.2.2.1).bind fun t386 => (if t386 = true then ((crosswaylaw13_same.f k bt352.2.2.2.2.1 bt365.2.2.2.2.1).bind fun t387 => (if t387 = true then ((offer_Has.f k t349 a1).bind fun t388 => ((crosswayref13_Has.f k l0 a1).bind fun t389 => (if (t388 == t389) = true then ((crosswayref00_SameBytes.f k t349 l0).bind fun t390 => (some t390)) else (none)))) else (none))) else (none)))) else (none)))))) = some r := by rw [if_pos rfl] at H; exact H
    clear H
    have H := H1
    clear H1
    by_cases c5 : (l0.length : Int) > 3000
    · rw [if_pos c5] at H
      have c5b0 : decide (3000 < (l0.length : Int)) = true := decide_eq_true c5
      have c5b1 : decide (3000 < l0.length) = true := decide_eq_true (by omega)
      clear c5
      obtain rfl := Option.some.inj H
      go_enter Try.func4, Try.ntmps4
      go_wp2_with (first | ((with_reducible refine gate_callee (f := 7) rfl ?_); refine goesL_ (some 12) rfl rfl Try.func7 (by kernel_rfl) rfl #[] rfl (by (try simp only [List.map_toArray, List.map_cons, List.map_nil]); first | done | rfl | (simp only [List.length_drop, List.length_take]; rfl)) ?_; (with_reducible refine (crosswaylaw13_alive.calls k  true _ A3.out).mono ?_); rintro e w6 ⟨rfl, hb⟩; refine ⟨_, rfl, ?_⟩; have n0_ := Aside0.mk (below_step (by repeat (first | (with_reducible first | exact HB.out | apply below_alloc | apply pw_below_drewN | apply below_drew1) | exact HB.out)) hb); clear HB; have HB := n0_; clear n0_; (try clear hb); (try clear hb2); (try clear hk); (try clear hi)))
      go_ret
      exact ⟨by first | rfl | (simp [errW_none, errW_some] <;> rfl) | (simp [*, errW_none, errW_some] <;> rfl), by repeat (first | (with_reducible first | exact HB.out | apply below_alloc | apply pw_below_drewN | apply below_drew1) | exact HB.out)⟩
    · rw [if_neg c5] at H
      have c5b0 : decide (3000 < (l0.length : Int)) = false := decide_eq_false c5
      have c5b1 : decide (3000 < l0.length) = false := decide_eq_false (by omega)
      clear c5
      replace H := Option.bind_eq_some_iff.mp H
      obtain ⟨t349, A70, H⟩ := H
      replace H : ((offer_Parse.f k t349).bind fun bt352 => ((crosswayref13_Parse.f k l0).bind fun bt365 => (if bt352.2.2.2.2.2 = bt365.2.2.2.2.2 then ((crosswaylaw10_Of.f bt352.1 bt352.2.1 bt352.2.2.1 bt352.2.2.2.1).bind fun bt378 => ((crosswayref10_Same.f bt378.1 bt378.2.1 bt378.2.2.1 bt378.2.2.2 bt365.1 bt365.2.1 bt365.2.2.1 bt365.2.2.2.1).bind fun t386 => (if t386 = true then ((crosswaylaw13_same.f k bt352.2.2.2.2.1 bt365.2.2.2.2.1).bind fun t387 => (if t387 = true then ((offer_Has.f k t349 a1).bind fun t388 => ((crosswayref13_Has.f k l0 a1).bind fun t389 => (if (t388 == t389) = true then ((crosswayref00_SameBytes.f k t349 l0).bind fun t390 => (some t390)) else (none)))) else (none))) else (none)))) else (none)))) = some r := H
      have A7 := Aside0.mk A70
      clear A70
      replace H := Option.bind_eq_some_iff.mp H
      obtain ⟨⟨t352, t353, t354, t357, t360, t363⟩, A80, H⟩ := H
      replace H : ((crosswayref13_Parse.f k l0).bind fun bt365 => (if t363 = bt365.2.2.2.2.2 then ((crosswaylaw10_Of.f t352 t353 t354 t357).bind fun bt378 => ((crosswayref10_Same.f bt378.1 bt378.2.1 bt378.2.2.1 bt378.2.2.2 bt365.1 bt365.2.1 bt365.2.2.1 bt365.2.2.2.1).bind fun t386 => (if t386 = true then ((crosswaylaw13_same.f k t360 bt365.2.2.2.2.1).bind fun t387 => (if t387 = true then ((offer_Has.f k t349 a1).bind fun t388 => ((crosswayref13_Has.f k l0 a1).bind fun t389 => (if (t388 == t389) = true then ((crosswayref00_SameBytes.f k t349 l0).bind fun t390 => (some t390)) else (none)))) else (none))) else (none)))) else (none))) = some r := H
      have A8 := Aside0.mk A80
      clear A80
      replace H := Option.bind_eq_some_iff.mp H
      obtain ⟨⟨t365, t366, t367, t370, t373, t376⟩, A90, H⟩ := H
      replace H : (if t363 = t376 then ((crosswaylaw10_Of.f t352 t353 t354 t357).bind fun bt378 => ((crosswayref10_Same.f bt378.1 bt378.2.1 bt378.2.2.1 bt378.2.2.2 t365 t366 t367 t370).bind fun t386 => (if t386 = true then ((crosswaylaw13_same.f k t360 t373).bind fun t387 => (if t387 = true then ((offer_Has.f k t349 a1).bind fun t388 => ((crosswayref13_Has.f k l0 a1).bind fun t389 => (if (t388 == t389) = true then ((crosswayref00_SameBytes.f k t349 l0).bind fun t390 => (some t390)) else (none)))) else (none))) else (none)))) else (none)) = some r := H
      have A9 := Aside0.mk A90
      clear A90
      by_cases c10 : t363 = t376
      · rw [if_pos c10] at H
        have c10b0 : (t363 == t376) = true := beq_iff_eq.mpr c10
        have c10b1 : (t363 != t376) = false := bne_eq_false_iff_eq.mpr c10
        clear c10
        replace H := Option.bind_eq_some_iff.mp H
        obtain ⟨⟨t378, t379, t380, t383⟩, A110, H⟩ := H
        replace H : ((crosswayref10_Same.f t378 t379 t380 t383 t365 t366 t367 t370).bind fun t386 => (if t386 = true then ((crosswaylaw13_same.f k t360 t373).bind fun t387 => (if t387 = true then ((offer_Has.f k t349 a1).bind fun t388 => ((crosswayref13_Has.f k l0 a1).bind fun t389 => (if (t388 == t389) = true then ((crosswayref00_SameBytes.f k t349 l0).bind fun t390 => (some t390)) else (none)))) else (none))) else (none))) = some r := H
        have A11 := Aside0.mk A110
        clear A110
        replace H := Option.bind_eq_some_iff.mp H
        obtain ⟨t386, A120, H⟩ := H
        replace H : (if t386 = true then ((crosswaylaw13_same.f k t360 t373).bind fun t387 => (if t387 = true then ((offer_Has.f k t349 a1).bind fun t388 => ((crosswayref13_Has.f k l0 a1).bind fun t389 => (if (t388 == t389) = true then ((crosswayref00_SameBytes.f k t349 l0).bind fun t390 => (some t390)) else (none)))) else (none))) else (none)) = some r := H
        have A12 := Aside0.mk A120
        clear A120
        by_cases c13 : t386 = true
        · subst c13
          have H1 : ((crosswaylaw13_same.f k t360 t373).bind fun t387 => (if t387 = true then ((offer_Has.f k t349 a1).bind fun t388 => ((crosswayref13_Has.f k l0 a1).bind fun t389 => (if (t388 == t389) = true then ((crosswayref00_SameBytes.f k t349 l0).bind fun t390 => (some t390)) else (none)))) else (none))) = some r := by rw [if_pos rfl] at H; exact H
          clear H
          have H := H1
          clear H1
          replace H := Option.bind_eq_some_iff.mp H
          obtain ⟨t387, A140, H⟩ := H
          replace H : (if t387 = true then ((offer_Has.f k t349 a1).bind fun t388 => ((crosswayref13_Has.f k l0 a1).bind fun t389 => (if (t388 == t389) = true then ((crosswayref00_SameBytes.f k t349 l0).bind fun t390 => (some t390)) else (none)))) else (none)) = some r := H
          have A14 := Aside0.mk A140
          clear A140
          by_cases c15 : t387 = true
          · subst c15
            have H1 : ((offer_Has.f k t349 a1).bind fun t388 => ((crosswayref13_Has.f k l0 a1).bind fun t389 => (if (t388 == t389) = true then ((crosswayref00_SameBytes.f k t349 l0).bind fun t390 => (some t390)) else (none)))) = some r := by rw [if_pos rfl] at H; exact H
            clear H
            have H := H1
            clear H1
            replace H := Option.bind_eq_some_iff.mp H
            obtain ⟨t388, A160, H⟩ := H
            replace H : ((crosswayref13_Has.f k l0 a1).bind fun t389 => (if (t388 == t389) = true then ((crosswayref00_SameBytes.f k t349 l0).bind fun t390 => (some t390)) else (none))) = some r := H
            have A16 := Aside0.mk A160
            clear A160
            replace H := Option.bind_eq_some_iff.mp H
            obtain ⟨t389, A170, H⟩ := H
            replace H : (if (t388 == t389) = true then ((crosswayref00_SameBytes.f k t349 l0).bind fun t390 => (some t390)) else (none)) = some r := H
            have A17 := Aside0.mk A170
            clear A170
            by_cases c18 : (t388 == t389) = true
            · rw [if_pos c18] at H
              have c18b0 : (t388 == t389) = true := c18
              (try (have c18b1 : decide (t388 = t389) = true := by simpa using c18))
              (try (have c18b2 : (t388 == t389) = true := by simpa using c18))
              clear c18
              replace H := Option.bind_eq_some_iff.mp H
              obtain ⟨t390, A190, H⟩ := H
              replace H : (some t390) = some r := H
              have A19 := Aside0.mk A190
              clear A190
              obtain rfl := Option.some.inj H
              go_enter Try.func4, Try.ntmps4
              try go_wp2_with (first | ((with_reducible refine gate_callee (f := 7) rfl ?_); refine goesL_ (some 12) rfl rfl Try.func7 (by kernel_rfl) rfl #[] rfl (by (try simp only [List.map_toArray, List.map_cons, List.map_nil]); first | done | rfl | (simp only [List.length_drop, List.length_take]; rfl)) ?_; (with_reducible refine (crosswaylaw13_alive.calls k  true _ A3.out).mono ?_); rintro e w20 ⟨rfl, hb⟩; refine ⟨_, rfl, ?_⟩; have n0_ := Aside0.mk (below_step (by repeat (first | (with_reducible first | exact HB.out | apply below_alloc | apply pw_below_drewN | apply below_drew1) | exact HB.out)) hb); clear HB; have HB := n0_; clear n0_; (try clear hb); (try clear hb2); (try clear hk); (try clear hi)) | ((with_reducible refine gate_callee (f := 14) rfl ?_); refine goesL_ (some 18) rfl rfl Try.func14 (by kernel_rfl) rfl #[.slice A0 l0.length c0] rfl (by (try simp only [List.map_toArray, List.map_cons, List.map_nil]); first | done | rfl | (simp only [List.length_drop, List.length_take]; rfl)) ?_; (with_reducible refine (crosswayref00_CopyBytes.calls _ _ l0 t349 _ ?side1 ?side2 A7.out).mono ?_); (case side1 => repeat (first | exact (Kd.C_below HR0.out HB.out) | (with_reducible refine Kd.C_alloc ?_ _) | (with_reducible refine Kd.C_drewN ?_ _) | (with_reducible refine Kd.C_drew ?_))); (case side2 => exact HC0.out); rintro e w21 ⟨v350, rfl, ho0, hb⟩; refine ⟨_, rfl, ?_⟩; have n0_ := Aside0.mk (Kd.R_lower ho0 (below_size (by repeat (first | (with_reducible first | exact HB.out | apply below_alloc | apply pw_below_drewN | apply below_drew1) | exact HB.out)))); have n1_ := Aside0.mk (below_step (by repeat (first | (with_reducible first | exact HB.out | apply below_alloc | apply pw_below_drewN | apply below_drew1) | exact HB.out)) hb); clear HB; have HO351 := n0_; have HB := n1_; clear n0_ n1_; (try clear hb); (try clear hb2); (try clear hk); (try clear hi); (try clear ho0); obtain ⟨Ao22, co22, eo22⟩ := Kd.R_slice HO351.out; subst eo22) | ((with_reducible refine gate_callee (f := 15) rfl ?_); refine goesL_ (some 21) rfl rfl Try.func15 (by kernel_rfl) rfl #[.slice Ao22 t349.length co22] rfl (by (try simp only [List.map_toArray, List.map_cons, List.map_nil]); first | done | rfl | (simp only [List.length_drop, List.length_take]; rfl)) ?_; (with_reducible refine (offer_Parse.calls k _ _ t349 t352 t353 t354 t357 t360 t363 _ ?side1 ?side2 A8.out).mono ?_); (case side1 => repeat (first | exact (Kd.R_reads' HO351.out).2.2 | (with_reducible refine Kd.C_alloc ?_ _) | (with_reducible refine Kd.C_drewN ?_ _) | (with_reducible refine Kd.C_drew ?_))); (case side2 => exact (Kd.R_reads' HO351.out).2.1); rintro e w23 ⟨v355, v358, v361, rfl, ho0, ho1, ho2, hb⟩; refine ⟨_, rfl, ?_⟩; have n0_ := Aside0.mk (Kd.R_mono (Kd.R_told (Kd.R_told (Kd.R_old (by (with_reducible repeat (first | apply Kd.R_alloc | apply Kd.R_drewN | apply Kd.R_drew)); exact HO351.out) hb) (Kd.R_base ho0)) (Kd.R_base ho1)) (fun _ h_ => h_.1)); have n1_ := Aside0.mk (Kd.R_lower (Kd.R_new' ho0 (Kd.R_lt (by (with_reducible repeat (first | apply Kd.R_alloc | apply Kd.R_drewN | apply Kd.R_drew)); exact HO351.out))) (below_size (by repeat (first | (with_reducible first | exact HB.out | apply below_alloc | apply pw_below_drewN | apply below_drew1) | exact HB.out)))); have n2_ := Aside0.mk (Kd.R_lower (Kd.R_new' ho1 (Kd.R_lt (by (with_reducible repeat (first | apply Kd.R_alloc | apply Kd.R_drewN | apply Kd.R_drew)); exact HO351.out))) (below_size (by repeat (first | (with_reducible first | exact HB.out | apply below_alloc | apply pw_below_drewN | apply below_drew1) | exact HB.out)))); have n3_ := Aside0.mk (Kd.R_lower ho2 (below_size (by repeat (first | (with_reducible first | exact HB.out | apply below_alloc | apply pw_below_drewN | apply below_drew1) | exact HB.out)))); have n4_ := Aside0.mk (below_step (by repeat (first | (with_reducible first | exact HB.out | apply below_alloc | apply pw_below_drewN | apply below_drew1) | exact HB.out)) hb); clear HO351; clear HB; have HO351 := n0_; have HO356 := n1_; have HO359 := n2_; have HO362 := n3_; have HB := n4_; clear n0_ n1_ n2_ n3_ n4_; (try clear hb); (try clear hb2); (try clear hk); (try clear hi); (try clear ho0); (try clear ho1); (try clear ho2)) | ((with_reducible refine gate_dst (N := 6) rfl ?_); refine box_event ?hg (N := 6) ?hd (cs := #[.int .u8 0, .int .u32 0, .slice none 0 0, .slice none 0 0]) (t := 37) ?hr ?_; (case hd => rfl); (case hg => rfl); (case hr => first | (go_simp; done) | (go_simp; rfl)); intro gb364 hg w24 hbox hb; have n0_ := Aside0.mk (Kd.R_below (by (with_reducible repeat (first | apply Kd.R_alloc | apply Kd.R_drewN | apply Kd.R_drew)); exact HO351.out) hb); have n1_ := Aside0.mk (Kd.R_below (by (with_reducible repeat (first | apply Kd.R_alloc | apply Kd.R_drewN | apply Kd.R_drew)); exact HO356.out) hb); have n2_ := Aside0.mk (Kd.R_below (by (with_reducible repeat (first | apply Kd.R_alloc | apply Kd.R_drewN | apply Kd.R_drew)); exact HO359.out) hb); have n3_ := Aside0.mk (Kd.R_below (by (with_reducible repeat (first | apply Kd.R_alloc | apply Kd.R_drewN | apply Kd.R_drew)); exact HO362.out) hb); have n4_ := Aside0.mk (below_step (by repeat (first | (with_reducible first | exact HB.out | apply below_alloc | apply pw_below_drewN | apply below_drew1) | exact HB.out)) hb); have n5_ := Aside0.mk (hbox); have n6_ := Aside0.mk ((by rw [hg]; exact (below_size (by repeat (first | (with_reducible first | exact HB.out | apply below_alloc | apply pw_below_drewN | apply below_drew1) | exact HB.out))) : w.heap.size ≤ gb364)); have n7_ := Aside0.mk ((by rw [hg]; exact (below_size (by repeat (first | (with_reducible first | exact HB.out | apply below_alloc | apply pw_below_drewN | apply below_drew1) | exact HB.out))) : w.heap.size ≤ gb364)); clear HO351; clear HO356; clear HO359; clear HO362; clear HB; have HO351 := n0_; have HO356 := n1_; have HO359 := n2_; have HO362 := n3_; have HB := n4_; have BK364 := n5_; have GW364 := n6_; have GE364 := n7_; clear n0_ n1_ n2_ n3_ n4_ n5_ n6_ n7_; clear hb hbox hg; have hcz25_0 : w24.cell? ⟨gb364, 0, none⟩ = some (.int .u8 0) := (blk_cell BK364.out 0).trans rfl; have hcz25_1 : w24.cell? ⟨gb364, 1, none⟩ = some (.int .u32 0) := (blk_cell BK364.out 1).trans rfl; have hcz25_2 : w24.cell? ⟨gb364, 2, none⟩ = some (.slice none 0 0) := (blk_cell BK364.out 2).trans rfl; have hcz25_3 : w24.cell? ⟨gb364, 3, none⟩ = some (.slice none 0 0) := (blk_cell BK364.out 3).trans rfl; have hfz25_0 := blk_frozen BK364.out 0; have hfz25_1 := blk_frozen BK364.out 1; have hfz25_2 := blk_frozen BK364.out 2; have hfz25_3 := blk_frozen BK364.out 3; obtain ⟨Ao26, co26, eo26⟩ := Kd.R_slice HO356.out; subst eo26; obtain ⟨Ao27, co27, eo27⟩ := Kd.R_slice HO359.out; subst eo27) | ((with_reducible refine gate_callee (f := 16) rfl ?_); refine goesL_ (some 27) rfl rfl Try.func16 (by kernel_rfl) rfl #[.slice A0 l0.length c0] rfl (by (try simp only [List.map_toArray, List.map_cons, List.map_nil]); first | done | rfl | (simp only [List.length_drop, List.length_take]; rfl)) ?_; (with_reducible refine (crosswayref13_Parse.calls k _ _ l0 t365 t366 t367 t370 t373 t376 _ ?side1 ?side2 A9.out).mono ?_); (case side1 => exact Kd.C_below HR0.out (by repeat (first | (with_reducible first | exact HB.out | apply below_alloc | apply pw_below_drewN | apply below_drew1 | refine below_set ?_ GE364.out) | exact HB.out))); (case side2 => exact HC0.out); rintro e w28 ⟨v368, v371, v374, rfl, ho0, ho1, ho2, hb⟩; refine ⟨_, rfl, ?_⟩; have n0_ := Aside0.mk (Kd.R_mono (Kd.R_told (Kd.R_told (Kd.R_old (by (with_reducible repeat (first | apply Kd.R_alloc | apply Kd.R_drewN | apply Kd.R_drew)); exact (Kd.R_mono (Kd.R_far (p := ⟨gb364, 3, none⟩) (Kd.R_far (p := ⟨gb364, 2, none⟩) (Kd.R_far (p := ⟨gb364, 1, none⟩) (Kd.R_far (p := ⟨gb364, 0, none⟩) (Kd.R_types HO351.out BK364.out (by decide)) (fun _ hk => hk.2) (.int .u8 t352)) (fun _ hk => hk.2) (.int .u32 t353)) (fun _ hk => hk.2) (.slice Ao26 t354.length co26)) (fun _ hk => hk.2) (.slice Ao27 t357.length co27)) (fun _ h_ => h_.1))) hb) (Kd.R_base ho0)) (Kd.R_base ho1)) (fun _ h_ => h_.1)); have n1_ := Aside0.mk (Kd.R_mono (Kd.R_told (Kd.R_told (Kd.R_old (by (with_reducible repeat (first | apply Kd.R_alloc | apply Kd.R_drewN | apply Kd.R_drew)); exact (Kd.R_mono (Kd.R_far (p := ⟨gb364, 3, none⟩) (Kd.R_far (p := ⟨gb364, 2, none⟩) (Kd.R_far (p := ⟨gb364, 1, none⟩) (Kd.R_far (p := ⟨gb364, 0, none⟩) (Kd.R_types HO356.out BK364.out (by decide)) (fun _ hk => hk.2) (.int .u8 t352)) (fun _ hk => hk.2) (.int .u32 t353)) (fun _ hk => hk.2) (.slice Ao26 t354.length co26)) (fun _ hk => hk.2) (.slice Ao27 t357.length co27)) (fun _ h_ => h_.1))) hb) (Kd.R_base ho0)) (Kd.R_base ho1)) (fun _ h_ => h_.1)); have n2_ := Aside0.mk (Kd.R_mono (Kd.R_told (Kd.R_told (Kd.R_old (by (with_reducible repeat (first | apply Kd.R_alloc | apply Kd.R_drewN | apply Kd.R_drew)); exact (Kd.R_mono (Kd.R_far (p := ⟨gb364, 3, none⟩) (Kd.R_far (p := ⟨gb364, 2, none⟩) (Kd.R_far (p := ⟨gb364, 1, none⟩) (Kd.R_far (p := ⟨gb364, 0, none⟩) (Kd.R_types HO359.out BK364.out (by decide)) (fun _ hk => hk.2) (.int .u8 t352)) (fun _ hk => hk.2) (.int .u32 t353)) (fun _ hk => hk.2) (.slice Ao26 t354.length co26)) (fun _ hk => hk.2) (.slice Ao27 t357.length co27)) (fun _ h_ => h_.1))) hb) (Kd.R_base ho0)) (Kd.R_base ho1)) (fun _ h_ => h_.1)); have n3_ := Aside0.mk (Kd.R_elder' (by (with_reducible repeat (first | apply Kd.R_alloc | apply Kd.R_drewN | apply Kd.R_drew)); exact (Kd.R_mono (Kd.R_far (p := ⟨gb364, 3, none⟩) (Kd.R_far (p := ⟨gb364, 2, none⟩) (Kd.R_far (p := ⟨gb364, 1, none⟩) (Kd.R_far (p := ⟨gb364, 0, none⟩) (Kd.R_types HO362.out BK364.out (by decide)) (fun _ hk => hk.2) (.int .u8 t352)) (fun _ hk => hk.2) (.int .u32 t353)) (fun _ hk => hk.2) (.slice Ao26 t354.length co26)) (fun _ hk => hk.2) (.slice Ao27 t357.length co27)) (fun _ h_ => h_.1))) (Kd.R_base ho2) hb); have n4_ := Aside0.mk (Kd.R_lower (Kd.R_new' (Kd.R_new' (Kd.R_new' ho0 (Kd.R_lt (by (with_reducible repeat (first | apply Kd.R_alloc | apply Kd.R_drewN | apply Kd.R_drew)); exact (Kd.R_mono (Kd.R_far (p := ⟨gb364, 3, none⟩) (Kd.R_far (p := ⟨gb364, 2, none⟩) (Kd.R_far (p := ⟨gb364, 1, none⟩) (Kd.R_far (p := ⟨gb364, 0, none⟩) (Kd.R_types HO351.out BK364.out (by decide)) (fun _ hk => hk.2) (.int .u8 t352)) (fun _ hk => hk.2) (.int .u32 t353)) (fun _ hk => hk.2) (.slice Ao26 t354.length co26)) (fun _ hk => hk.2) (.slice Ao27 t357.length co27)) (fun _ h_ => h_.1))))) (Kd.R_lt (by (with_reducible repeat (first | apply Kd.R_alloc | apply Kd.R_drewN | apply Kd.R_drew)); exact (Kd.R_mono (Kd.R_far (p := ⟨gb364, 3, none⟩) (Kd.R_far (p := ⟨gb364, 2, none⟩) (Kd.R_far (p := ⟨gb364, 1, none⟩) (Kd.R_far (p := ⟨gb364, 0, none⟩) (Kd.R_types HO356.out BK364.out (by decide)) (fun _ hk => hk.2) (.int .u8 t352)) (fun _ hk => hk.2) (.int .u32 t353)) (fun _ hk => hk.2) (.slice Ao26 t354.length co26)) (fun _ hk => hk.2) (.slice Ao27 t357.length co27)) (fun _ h_ => h_.1))))) (Kd.R_lt (by (with_reducible repeat (first | apply Kd.R_alloc | apply Kd.R_drewN | apply Kd.R_drew)); exact (Kd.R_mono (Kd.R_far (p := ⟨gb364, 3, none⟩) (Kd.R_far (p := ⟨gb364, 2, none⟩) (Kd.R_far (p := ⟨gb364, 1, none⟩) (Kd.R_far (p := ⟨gb364, 0, none⟩) (Kd.R_types HO359.out BK364.out (by decide)) (fun _ hk => hk.2) (.int .u8 t352)) (fun _ hk => hk.2) (.int .u32 t353)) (fun _ hk => hk.2) (.slice Ao26 t354.length co26)) (fun _ hk => hk.2) (.slice Ao27 t357.length co27)) (fun _ h_ => h_.1))))) (below_size (by repeat (first | (with_reducible first | exact HB.out | apply below_alloc | apply pw_below_drewN | apply below_drew1 | refine below_set ?_ GE364.out) | exact HB.out)))); have n5_ := Aside0.mk (Kd.R_lower (Kd.R_new' (Kd.R_new' (Kd.R_new' ho1 (Kd.R_lt (by (with_reducible repeat (first | apply Kd.R_alloc | apply Kd.R_drewN | apply Kd.R_drew)); exact (Kd.R_mono (Kd.R_far (p := ⟨gb364, 3, none⟩) (Kd.R_far (p := ⟨gb364, 2, none⟩) (Kd.R_far (p := ⟨gb364, 1, none⟩) (Kd.R_far (p := ⟨gb364, 0, none⟩) (Kd.R_types HO351.out BK364.out (by decide)) (fun _ hk => hk.2) (.int .u8 t352)) (fun _ hk => hk.2) (.int .u32 t353)) (fun _ hk => hk.2) (.slice Ao26 t354.length co26)) (fun _ hk => hk.2) (.slice Ao27 t357.length co27)) (fun _ h_ => h_.1))))) (Kd.R_lt (by (with_reducible repeat (first | apply Kd.R_alloc | apply Kd.R_drewN | apply Kd.R_drew)); exact (Kd.R_mono (Kd.R_far (p := ⟨gb364, 3, none⟩) (Kd.R_far (p := ⟨gb364, 2, none⟩) (Kd.R_far (p := ⟨gb364, 1, none⟩) (Kd.R_far (p := ⟨gb364, 0, none⟩) (Kd.R_types HO356.out BK364.out (by decide)) (fun _ hk => hk.2) (.int .u8 t352)) (fun _ hk => hk.2) (.int .u32 t353)) (fun _ hk => hk.2) (.slice Ao26 t354.length co26)) (fun _ hk => hk.2) (.slice Ao27 t357.length co27)) (fun _ h_ => h_.1))))) (Kd.R_lt (by (with_reducible repeat (first | apply Kd.R_alloc | apply Kd.R_drewN | apply Kd.R_drew)); exact (Kd.R_mono (Kd.R_far (p := ⟨gb364, 3, none⟩) (Kd.R_far (p := ⟨gb364, 2, none⟩) (Kd.R_far (p := ⟨gb364, 1, none⟩) (Kd.R_far (p := ⟨gb364, 0, none⟩) (Kd.R_types HO359.out BK364.out (by decide)) (fun _ hk => hk.2) (.int .u8 t352)) (fun _ hk => hk.2) (.int .u32 t353)) (fun _ hk => hk.2) (.slice Ao26 t354.length co26)) (fun _ hk => hk.2) (.slice Ao27 t357.length co27)) (fun _ h_ => h_.1))))) (below_size (by repeat (first | (with_reducible first | exact HB.out | apply below_alloc | apply pw_below_drewN | apply below_drew1 | refine below_set ?_ GE364.out) | exact HB.out)))); have n6_ := Aside0.mk (Kd.R_lower (Kd.R_new' ho2 (Kd.R_lt (by (with_reducible repeat (first | apply Kd.R_alloc | apply Kd.R_drewN | apply Kd.R_drew)); exact (Kd.R_mono (Kd.R_far (p := ⟨gb364, 3, none⟩) (Kd.R_far (p := ⟨gb364, 2, none⟩) (Kd.R_far (p := ⟨gb364, 1, none⟩) (Kd.R_far (p := ⟨gb364, 0, none⟩) (Kd.R_types HO362.out BK364.out (by decide)) (fun _ hk => hk.2) (.int .u8 t352)) (fun _ hk => hk.2) (.int .u32 t353)) (fun _ hk => hk.2) (.slice Ao26 t354.length co26)) (fun _ hk => hk.2) (.slice Ao27 t357.length co27)) (fun _ h_ => h_.1))))) (below_size (by repeat (first | (with_reducible first | exact HB.out | apply below_alloc | apply pw_below_drewN | apply below_drew1 | refine below_set ?_ GE364.out) | exact HB.out)))); have n7_ := Aside0.mk (blk_below (g := gb364) (o := .cells #[.int .u8 t352, .int .u32 t353, .slice Ao26 t354.length co26, .slice Ao27 t357.length co27] 37 (0, 0)) (by (with_reducible repeat (first | refine blk_drewN ?_ _ | refine blk_drew ?_ | refine blk_alloc ?_ _)); refine blk_put (cs := #[.int .u8 t352, .int .u32 t353, .slice Ao26 t354.length co26, .slice none 0 0]) ?_ 3 _ rfl; (with_reducible repeat (first | refine blk_drewN ?_ _ | refine blk_drew ?_ | refine blk_alloc ?_ _)); refine blk_put (cs := #[.int .u8 t352, .int .u32 t353, .slice none 0 0, .slice none 0 0]) ?_ 2 _ rfl; (with_reducible repeat (first | refine blk_drewN ?_ _ | refine blk_drew ?_ | refine blk_alloc ?_ _)); refine blk_put (cs := #[.int .u8 t352, .int .u32 0, .slice none 0 0, .slice none 0 0]) ?_ 1 _ rfl; (with_reducible repeat (first | refine blk_drewN ?_ _ | refine blk_drew ?_ | refine blk_alloc ?_ _)); refine blk_put (cs := #[.int .u8 0, .int .u32 0, .slice none 0 0, .slice none 0 0]) ?_ 0 _ rfl; (with_reducible repeat (first | refine blk_drewN ?_ _ | refine blk_drew ?_ | refine blk_alloc ?_ _)); exact BK364.out) hb); have n8_ := Aside0.mk (below_step (by repeat (first | (with_reducible first | exact HB.out | apply below_alloc | apply pw_below_drewN | apply below_drew1 | refine below_set ?_ GE364.out) | exact HB.out)) hb); clear HO351; clear HO356; clear HO359; clear HO362; clear BK364; clear HB; have HO351 := n0_; have HO356 := n1_; have HO359 := n2_; have HO362 := n3_; have HO369 := n4_; have HO372 := n5_; have HO375 := n6_; have BK364 := n7_; have HB := n8_; clear n0_ n1_ n2_ n3_ n4_ n5_ n6_ n7_ n8_; (try clear hb); (try clear hb2); (try clear hk); (try clear hi); (try clear ho0); (try clear ho1); (try clear ho2)) | ((with_reducible refine gate_dst (N := 9) rfl ?_); refine box_event ?hg (N := 9) ?hd (cs := #[.int .u8 0, .int .u32 0, .slice none 0 0, .slice none 0 0]) (t := 40) ?hr ?_; (case hd => rfl); (case hg => rfl); (case hr => first | (go_simp; done) | (go_simp; rfl)); intro gb377 hg w29 hbox hb; have n0_ := Aside0.mk (Kd.R_below (by (with_reducible repeat (first | apply Kd.R_alloc | apply Kd.R_drewN | apply Kd.R_drew)); exact HO351.out) hb); have n1_ := Aside0.mk (Kd.R_below (by (with_reducible repeat (first | apply Kd.R_alloc | apply Kd.R_drewN | apply Kd.R_drew)); exact HO356.out) hb); have n2_ := Aside0.mk (Kd.R_below (by (with_reducible repeat (first | apply Kd.R_alloc | apply Kd.R_drewN | apply Kd.R_drew)); exact HO359.out) hb); have n3_ := Aside0.mk (Kd.R_below (by (with_reducible repeat (first | apply Kd.R_alloc | apply Kd.R_drewN | apply Kd.R_drew)); exact HO362.out) hb); have n4_ := Aside0.mk (Kd.R_below (by (with_reducible repeat (first | apply Kd.R_alloc | apply Kd.R_drewN | apply Kd.R_drew)); exact HO369.out) hb); have n5_ := Aside0.mk (Kd.R_below (by (with_reducible repeat (first | apply Kd.R_alloc | apply Kd.R_drewN | apply Kd.R_drew)); exact HO372.out) hb); have n6_ := Aside0.mk (Kd.R_below (by (with_reducible repeat (first | apply Kd.R_alloc | apply Kd.R_drewN | apply Kd.R_drew)); exact HO375.out) hb); have n7_ := Aside0.mk (blk_below (g := gb364) (o := .cells #[.int .u8 t352, .int .u32 t353, .slice Ao26 t354.length co26, .slice Ao27 t357.length co27] 37 (0, 0)) (by (with_reducible repeat (first | refine blk_drewN ?_ _ | refine blk_drew ?_ | refine blk_alloc ?_ _)); exact BK364.out) hb); have n8_ := Aside0.mk (below_step (by repeat (first | (with_reducible first | exact HB.out | apply below_alloc | apply pw_below_drewN | apply below_drew1 | refine below_set ?_ GE364.out) | exact HB.out)) hb); have n9_ := Aside0.mk (hbox); have n10_ := Aside0.mk ((by rw [hg]; exact (below_size (by repeat (first | (with_reducible first | exact HB.out | apply below_alloc | apply pw_below_drewN | apply below_drew1 | refine below_set ?_ GE364.out) | exact HB.out))) : w.heap.size ≤ gb377)); have n11_ := Aside0.mk ((by rw [hg]; exact (below_size (by repeat (first | (with_reducible first | exact HB.out | apply below_alloc | apply pw_below_drewN | apply below_drew1 | refine below_set ?_ GE364.out) | exact HB.out))) : w.heap.size ≤ gb377)); have n12_ := Aside0.mk ((by rw [hg]; exact Nat.ne_of_lt (blk_lt (g := gb364) (o := .cells #[.int .u8 t352, .int .u32 t353, .slice Ao26 t354.length co26, .slice Ao27 t357.length co27] 37 (0, 0)) (by (with_reducible repeat (first | refine blk_drewN ?_ _ | refine blk_drew ?_ | refine blk_alloc ?_ _)); exact BK364.out)) : gb364 ≠ gb377)); have n13_ := Aside0.mk ((by rw [hg]; exact Nat.ne_of_gt (blk_lt (g := gb364) (o := .cells #[.int .u8 t352, .int .u32 t353, .slice Ao26 t354.length co26, .slice Ao27 t357.length co27] 37 (0, 0)) (by (with_reducible repeat (first | refine blk_drewN ?_ _ | refine blk_drew ?_ | refine blk_alloc ?_ _)); exact BK364.out)) : gb377 ≠ gb364)); clear HO351; clear HO356; clear HO359; clear HO362; clear HO369; clear HO372; clear HO375; clear BK364; clear HB; have HO351 := n0_; have HO356 := n1_; have HO359 := n2_; have HO362 := n3_; have HO369 := n4_; have HO372 := n5_; have HO375 := n6_; have BK364 := n7_; have HB := n8_; have BK377 := n9_; have GW377 := n10_; have GE377 := n11_; have NB364_377 := n12_; have NB377_364 := n13_; clear n0_ n1_ n2_ n3_ n4_ n5_ n6_ n7_ n8_ n9_ n10_ n11_ n12_ n13_; clear hb hbox hg; have hnb30 := NB377_364.out; have hnc30 := NB364_377.out; have hcz31_0 : w29.cell? ⟨gb377, 0, none⟩ = some (.int .u8 0) := (blk_cell BK377.out 0).trans rfl; have hcz31_1 : w29.cell? ⟨gb377, 1, none⟩ = some (.int .u32 0) := (blk_cell BK377.out 1).trans rfl; have hcz31_2 : w29.cell? ⟨gb377, 2, none⟩ = some (.slice none 0 0) := (blk_cell BK377.out 2).trans rfl; have hcz31_3 : w29.cell? ⟨gb377, 3, none⟩ = some (.slice none 0 0) := (blk_cell BK377.out 3).trans rfl; have hfz31_0 := blk_frozen BK377.out 0; have hfz31_1 := blk_frozen BK377.out 1; have hfz31_2 := blk_frozen BK377.out 2; have hfz31_3 := blk_frozen BK377.out 3; obtain ⟨Ao32, co32, eo32⟩ := Kd.R_slice HO369.out; subst eo32; obtain ⟨Ao33, co33, eo33⟩ := Kd.R_slice HO372.out; subst eo33))
              have n0_ : Aside0 (Kd.R (Kd.int .u8) 5 ((((w29.setCell ⟨gb377, 0, none⟩ (.int .u8 t365)).setCell ⟨gb377, 1, none⟩ (.int .u32 t366)).setCell ⟨gb377, 2, none⟩ (.slice Ao32 t367.length co32)).setCell ⟨gb377, 3, none⟩ (.slice Ao33 t370.length co33)) w.heap.size (fun k_ => some k_ ≠ (.slice Ao26 t354.length co26 : Value).ownBlock ∧ some k_ ≠ (.slice Ao27 t357.length co27 : Value).ownBlock ∧ some k_ ≠ (.slice Ao32 t367.length co32 : Value).ownBlock ∧ some k_ ≠ (.slice Ao33 t370.length co33 : Value).ownBlock) (.slice Ao22 t349.length co22) t349) := ⟨by (with_reducible repeat (first | apply Kd.R_alloc | apply Kd.R_drewN | apply Kd.R_drew)); exact Kd.R_mono (Kd.R_far (p := ⟨gb377, 3, none⟩) (Kd.R_far (p := ⟨gb377, 2, none⟩) (Kd.R_far (p := ⟨gb377, 1, none⟩) (Kd.R_far (p := ⟨gb377, 0, none⟩) (Kd.R_types HO351.out BK377.out (by decide)) (fun _ hk => hk.2) (.int .u8 t365)) (fun _ hk => hk.2) (.int .u32 t366)) (fun _ hk => hk.2) (.slice Ao32 t367.length co32)) (fun _ hk => hk.2) (.slice Ao33 t370.length co33)) (fun _ hk => ⟨hk.1.1.1.1.2, ⟨hk.1.1.1.2, ⟨hk.1.1.2, hk.1.2⟩⟩⟩)⟩
              have n1_ : Aside0 (Kd.R (Kd.int .u8) 5 ((((w29.setCell ⟨gb377, 0, none⟩ (.int .u8 t365)).setCell ⟨gb377, 1, none⟩ (.int .u32 t366)).setCell ⟨gb377, 2, none⟩ (.slice Ao32 t367.length co32)).setCell ⟨gb377, 3, none⟩ (.slice Ao33 t370.length co33)) w.heap.size (fun k_ => some k_ ≠ (.slice Ao22 t349.length co22 : Value).ownBlock ∧ some k_ ≠ (.slice Ao27 t357.length co27 : Value).ownBlock ∧ some k_ ≠ (.slice Ao32 t367.length co32 : Value).ownBlock ∧ some k_ ≠ (.slice Ao33 t370.length co33 : Value).ownBlock) (.slice Ao26 t354.length co26) t354) := ⟨by (with_reducible repeat (first | apply Kd.R_alloc | apply Kd.R_drewN | apply Kd.R_drew)); exact Kd.R_mono (Kd.R_far (p := ⟨gb377, 3, none⟩) (Kd.R_far (p := ⟨gb377, 2, none⟩) (Kd.R_far (p := ⟨gb377, 1, none⟩) (Kd.R_far (p := ⟨gb377, 0, none⟩) (Kd.R_types HO356.out BK377.out (by decide)) (fun _ hk => hk.2) (.int .u8 t365)) (fun _ hk => hk.2) (.int .u32 t366)) (fun _ hk => hk.2) (.slice Ao32 t367.length co32)) (fun _ hk => hk.2) (.slice Ao33 t370.length co33)) (fun _ hk => ⟨hk.1.1.1.2, ⟨hk.1.1.1.1, ⟨hk.1.1.2, hk.1.2⟩⟩⟩)⟩
              have n2_ : Aside0 (Kd.R (Kd.int .u8) 5 ((((w29.setCell ⟨gb377, 0, none⟩ (.int .u8 t365)).setCell ⟨gb377, 1, none⟩ (.int .u32 t366)).setCell ⟨gb377, 2, none⟩ (.slice Ao32 t367.length co32)).setCell ⟨gb377, 3, none⟩ (.slice Ao33 t370.length co33)) w.heap.size (fun k_ => some k_ ≠ (.slice Ao22 t349.length co22 : Value).ownBlock ∧ some k_ ≠ (.slice Ao26 t354.length co26 : Value).ownBlock ∧ some k_ ≠ (.slice Ao32 t367.length co32 : Value).ownBlock ∧ some k_ ≠ (.slice Ao33 t370.length co33 : Value).ownBlock) (.slice Ao27 t357.length co27) t357) := ⟨by (with_reducible repeat (first | apply Kd.R_alloc | apply Kd.R_drewN | apply Kd.R_drew)); exact Kd.R_mono (Kd.R_far (p := ⟨gb377, 3, none⟩) (Kd.R_far (p := ⟨gb377, 2, none⟩) (Kd.R_far (p := ⟨gb377, 1, none⟩) (Kd.R_far (p := ⟨gb377, 0, none⟩) (Kd.R_types HO359.out BK377.out (by decide)) (fun _ hk => hk.2) (.int .u8 t365)) (fun _ hk => hk.2) (.int .u32 t366)) (fun _ hk => hk.2) (.slice Ao32 t367.length co32)) (fun _ hk => hk.2) (.slice Ao33 t370.length co33)) (fun _ hk => ⟨hk.1.1.1.2, ⟨hk.1.1.1.1, ⟨hk.1.1.2, hk.1.2⟩⟩⟩)⟩
              have n3_ : Aside0 (Kd.R (Kd.int .u32) 34 ((((w29.setCell ⟨gb377, 0, none⟩ (.int .u8 t365)).setCell ⟨gb377, 1, none⟩ (.int .u32 t366)).setCell ⟨gb377, 2, none⟩ (.slice Ao32 t367.length co32)).setCell ⟨gb377, 3, none⟩ (.slice Ao33 t370.length co33)) w.heap.size (fun k_ => some k_ ≠ (v374 : Value).ownBlock) v361 t360) := ⟨by (with_reducible repeat (first | apply Kd.R_alloc | apply Kd.R_drewN | apply Kd.R_drew)); exact Kd.R_mono (Kd.R_far (p := ⟨gb377, 3, none⟩) (Kd.R_far (p := ⟨gb377, 2, none⟩) (Kd.R_far (p := ⟨gb377, 1, none⟩) (Kd.R_far (p := ⟨gb377, 0, none⟩) (Kd.R_types HO362.out BK377.out (by decide)) (fun _ hk => hk.2) (.int .u8 t365)) (fun _ hk => hk.2) (.int .u32 t366)) (fun _ hk => hk.2) (.slice Ao32 t367.length co32)) (fun _ hk => hk.2) (.slice Ao33 t370.length co33)) (fun _ hk => hk.1.2)⟩
              have n4_ : Aside0 (Kd.R (Kd.int .u8) 5 ((((w29.setCell ⟨gb377, 0, none⟩ (.int .u8 t365)).setCell ⟨gb377, 1, none⟩ (.int .u32 t366)).setCell ⟨gb377, 2, none⟩ (.slice Ao32 t367.length co32)).setCell ⟨gb377, 3, none⟩ (.slice Ao33 t370.length co33)) w.heap.size (fun k_ => some k_ ≠ (.slice Ao22 t349.length co22 : Value).ownBlock ∧ some k_ ≠ (.slice Ao26 t354.length co26 : Value).ownBlock ∧ some k_ ≠ (.slice Ao27 t357.length co27 : Value).ownBlock ∧ some k_ ≠ (.slice Ao33 t370.length co33 : Value).ownBlock) (.slice Ao32 t367.length co32) t367) := ⟨by (with_reducible repeat (first | apply Kd.R_alloc | apply Kd.R_drewN | apply Kd.R_drew)); exact Kd.R_mono (Kd.R_far (p := ⟨gb377, 3, none⟩) (Kd.R_far (p := ⟨gb377, 2, none⟩) (Kd.R_far (p := ⟨gb377, 1, none⟩) (Kd.R_far (p := ⟨gb377, 0, none⟩) (Kd.R_types HO369.out BK377.out (by decide)) (fun _ hk => hk.2) (.int .u8 t365)) (fun _ hk => hk.2) (.int .u32 t366)) (fun _ hk => hk.2) (.slice Ao32 t367.length co32)) (fun _ hk => hk.2) (.slice Ao33 t370.length co33)) (fun _ hk => ⟨hk.1.1.1.2, ⟨hk.1.1.2, ⟨hk.1.2, hk.1.1.1.1⟩⟩⟩)⟩
              have n5_ : Aside0 (Kd.R (Kd.int .u8) 5 ((((w29.setCell ⟨gb377, 0, none⟩ (.int .u8 t365)).setCell ⟨gb377, 1, none⟩ (.int .u32 t366)).setCell ⟨gb377, 2, none⟩ (.slice Ao32 t367.length co32)).setCell ⟨gb377, 3, none⟩ (.slice Ao33 t370.length co33)) w.heap.size (fun k_ => some k_ ≠ (.slice Ao22 t349.length co22 : Value).ownBlock ∧ some k_ ≠ (.slice Ao26 t354.length co26 : Value).ownBlock ∧ some k_ ≠ (.slice Ao27 t357.length co27 : Value).ownBlock ∧ some k_ ≠ (.slice Ao32 t367.length co32 : Value).ownBlock) (.slice Ao33 t370.length co33) t370) := ⟨by (with_reducible repeat (first | apply Kd.R_alloc | apply Kd.R_drewN | apply Kd.R_drew)); exact Kd.R_mono (Kd.R_far (p := ⟨gb377, 3, none⟩) (Kd.R_far (p := ⟨gb377, 2, none⟩) (Kd.R_far (p := ⟨gb377, 1, none⟩) (Kd.R_far (p := ⟨gb377, 0, none⟩) (Kd.R_types HO372.out BK377.out (by decide)) (fun _ hk => hk.2) (.int .u8 t365)) (fun _ hk => hk.2) (.int .u32 t366)) (fun _ hk => hk.2) (.slice Ao32 t367.length co32)) (fun _ hk => hk.2) (.slice Ao33 t370.length co33)) (fun _ hk => ⟨hk.1.1.1.2, ⟨hk.1.1.2, ⟨hk.1.2, hk.1.1.1.1⟩⟩⟩)⟩
              have n6_ : Aside0 (Kd.R (Kd.int .u32) 34 ((((w29.setCell ⟨gb377, 0, none⟩ (.int .u8 t365)).setCell ⟨gb377, 1, none⟩ (.int .u32 t366)).setCell ⟨gb377, 2, none⟩ (.slice Ao32 t367.length co32)).setCell ⟨gb377, 3, none⟩ (.slice Ao33 t370.length co33)) w.heap.size (fun k_ => some k_ ≠ (v361 : Value).ownBlock) v374 t373) := ⟨by (with_reducible repeat (first | apply Kd.R_alloc | apply Kd.R_drewN | apply Kd.R_drew)); exact Kd.R_mono (Kd.R_far (p := ⟨gb377, 3, none⟩) (Kd.R_far (p := ⟨gb377, 2, none⟩) (Kd.R_far (p := ⟨gb377, 1, none⟩) (Kd.R_far (p := ⟨gb377, 0, none⟩) (Kd.R_types HO375.out BK377.out (by decide)) (fun _ hk => hk.2) (.int .u8 t365)) (fun _ hk => hk.2) (.int .u32 t366)) (fun _ hk => hk.2) (.slice Ao32 t367.length co32)) (fun _ hk => hk.2) (.slice Ao33 t370.length co33)) (fun _ hk => hk.1.2)⟩
              have n7_ : Aside0 (((((w29.setCell ⟨gb377, 0, none⟩ (.int .u8 t365)).setCell ⟨gb377, 1, none⟩ (.int .u32 t366)).setCell ⟨gb377, 2, none⟩ (.slice Ao32 t367.length co32)).setCell ⟨gb377, 3, none⟩ (.slice Ao33 t370.length co33)).heap[gb364]? = some (.cells #[.int .u8 t352, .int .u32 t353, .slice Ao26 t354.length co26, .slice Ao27 t357.length co27] 37 (0, 0))) := ⟨by (with_reducible repeat (first | refine blk_drewN ?_ _ | refine blk_drew ?_ | refine blk_alloc ?_ _)); refine blk_far ?_ NB364_377.out _; (with_reducible repeat (first | refine blk_drewN ?_ _ | refine blk_drew ?_ | refine blk_alloc ?_ _)); refine blk_far ?_ NB364_377.out _; (with_reducible repeat (first | refine blk_drewN ?_ _ | refine blk_drew ?_ | refine blk_alloc ?_ _)); refine blk_far ?_ NB364_377.out _; (with_reducible repeat (first | refine blk_drewN ?_ _ | refine blk_drew ?_ | refine blk_alloc ?_ _)); refine blk_far ?_ NB364_377.out _; (with_reducible repeat (first | refine blk_drewN ?_ _ | refine blk_drew ?_ | refine blk_alloc ?_ _)); exact BK364.out⟩
              have n8_ : Aside0 (((((w29.setCell ⟨gb377, 0, none⟩ (.int .u8 t365)).setCell ⟨gb377, 1, none⟩ (.int .u32 t366)).setCell ⟨gb377, 2, none⟩ (.slice Ao32 t367.length co32)).setCell ⟨gb377, 3, none⟩ (.slice Ao33 t370.length co33)).heap[gb377]? = some (.cells #[.int .u8 t365, .int .u32 t366, .slice Ao32 t367.length co32, .slice Ao33 t370.length co33] 40 (0, 0))) := ⟨by (with_reducible repeat (first | refine blk_drewN ?_ _ | refine blk_drew ?_ | refine blk_alloc ?_ _)); refine blk_put (cs := #[.int .u8 t365, .int .u32 t366, .slice Ao32 t367.length co32, .slice none 0 0]) ?_ 3 _ rfl; (with_reducible repeat (first | refine blk_drewN ?_ _ | refine blk_drew ?_ | refine blk_alloc ?_ _)); refine blk_put (cs := #[.int .u8 t365, .int .u32 t366, .slice none 0 0, .slice none 0 0]) ?_ 2 _ rfl; (with_reducible repeat (first | refine blk_drewN ?_ _ | refine blk_drew ?_ | refine blk_alloc ?_ _)); refine blk_put (cs := #[.int .u8 t365, .int .u32 0, .slice none 0 0, .slice none 0 0]) ?_ 1 _ rfl; (with_reducible repeat (first | refine blk_drewN ?_ _ | refine blk_drew ?_ | refine blk_alloc ?_ _)); refine blk_put (cs := #[.int .u8 0, .int .u32 0, .slice none 0 0, .slice none 0 0]) ?_ 0 _ rfl; (with_reducible repeat (first | refine blk_drewN ?_ _ | refine blk_drew ?_ | refine blk_alloc ?_ _)); exact BK377.out⟩
              have n9_ : Aside0 (Below w.heap.size w ((((w29.setCell ⟨gb377, 0, none⟩ (.int .u8 t365)).setCell ⟨gb377, 1, none⟩ (.int .u32 t366)).setCell ⟨gb377, 2, none⟩ (.slice Ao32 t367.length co32)).setCell ⟨gb377, 3, none⟩ (.slice Ao33 t370.length co33))) := ⟨by repeat (first | (with_reducible first | exact HB.out | apply below_alloc | apply pw_below_drewN | apply below_drew1 | refine below_set ?_ GE364.out | refine below_set ?_ GE377.out) | exact HB.out)⟩
              (try clear HO351)
              (try clear HO356)
              (try clear HO359)
              (try clear HO362)
              (try clear HO369)
              (try clear HO372)
              (try clear HO375)
              (try clear BK364)
              (try clear BK377)
              (try clear HB)
              generalize ((((w29.setCell ⟨gb377, 0, none⟩ (.int .u8 t365)).setCell ⟨gb377, 1, none⟩ (.int .u32 t366)).setCell ⟨gb377, 2, none⟩ (.slice Ao32 t367.length co32)).setCell ⟨gb377, 3, none⟩ (.slice Ao33 t370.length co33)) = w34 at n0_ n1_ n2_ n3_ n4_ n5_ n6_ n7_ n8_ n9_ ⊢
              have HO351 := n0_
              have HO356 := n1_
              have HO359 := n2_
              have HO362 := n3_
              have HO369 := n4_
              have HO372 := n5_
              have HO375 := n6_
              have BK364 := n7_
              have BK377 := n8_
              have HB := n9_
              clear n0_ n1_ n2_ n3_ n4_ n5_ n6_ n7_ n8_ n9_
              have n0_ := Aside0.mk (Kd.R_drew HO351.out)
              have n1_ := Aside0.mk (Kd.R_drew HO356.out)
              have n2_ := Aside0.mk (Kd.R_drew HO359.out)
              have n3_ := Aside0.mk (Kd.R_drew HO362.out)
              have n4_ := Aside0.mk (Kd.R_drew HO369.out)
              have n5_ := Aside0.mk (Kd.R_drew HO372.out)
              have n6_ := Aside0.mk (Kd.R_drew HO375.out)
              have n7_ := Aside0.mk (blk_drew BK364.out)
              have n8_ := Aside0.mk (blk_drew BK377.out)
              have n9_ := Aside0.mk (below_drew1 HB.out)
              clear HO351
              clear HO356
              clear HO359
              clear HO362
              clear HO369
              clear HO372
              clear HO375
              clear BK364
              clear BK377
              clear HB
              have HO351 := n0_
              have HO356 := n1_
              have HO359 := n2_
              have HO362 := n3_
              have HO369 := n4_
              have HO372 := n5_
              have HO375 := n6_
              have BK364 := n7_
              have BK377 := n8_
              have HB := n9_
              clear n0_ n1_ n2_ n3_ n4_ n5_ n6_ n7_ n8_ n9_
              refine start_ (n := 29) (S := fun w' => w'.cell? ⟨gb364, 0, none⟩ = some (.int .u8 t352) ∧ w'.cell? ⟨gb364, 1, none⟩ = some (.int .u32 t353) ∧ w'.cell? ⟨gb364, 2, none⟩ = some (.slice Ao26 t354.length co26) ∧ w'.cell? ⟨gb364, 3, none⟩ = some (.slice Ao27 t357.length co27) ∧ w'.cell? ⟨gb377, 0, none⟩ = some (.int .u8 t365) ∧ w'.cell? ⟨gb377, 1, none⟩ = some (.int .u32 t366) ∧ w'.cell? ⟨gb377, 2, none⟩ = some (.slice Ao32 t367.length co32) ∧ w'.cell? ⟨gb377, 3, none⟩ = some (.slice Ao33 t370.length co33)) (ds := []) #[false, false, false, false, false, false, false, false, false, false, false, false, false, false, false, false, false, false, false, false, false, false, false, false, false, false, false, false, false] (by kernel_rfl) rfl rfl ⟨(blk_cell BK364.out 0).trans rfl, (blk_cell BK364.out 1).trans rfl, (blk_cell BK364.out 2).trans rfl, (blk_cell BK364.out 3).trans rfl, (blk_cell BK377.out 0).trans rfl, (blk_cell BK377.out 1).trans rfl, (blk_cell BK377.out 2).trans rfl, (blk_cell BK377.out 3).trans rfl⟩ (fun hHeld => ?_); refine with_tabW crosswaylaw13_OfferParses.tab8 crosswaylaw13_OfferParses.bits8 (fun HT_ HW_ => ?_)
              generalize w34.drew = w35 at HO351 HO356 HO359 HO362 HO369 HO372 HO375 BK364 BK377 HB hHeld ⊢
              refine pure_ (i := 0) (N := some 31) (v := ?_) (a' := ?_) #[true, false, false, false, false, false, false, false, false, false, false, false, false, false, false, false, false, false, false, false, false, false, false, false, false, false, false, false, false] rfl rfl (any_of HT_.out (by kernel_rfl)) (fun _ _ _ h => h) (Or.inl ⟨by rfl, ?_⟩) ?_ ?_
              rotate_left
              · intro w'
                go_simp
                with_reducible rfl
              rotate_left
              · simp only [Act.put, List.setIfInBounds_toArray, List.set_cons_zero, List.set_cons_succ, i64_w, i32_w]
                rfl
              refine pure_ (i := 1) (N := some 32) (v := ?_) (a' := ?_) #[true, true, false, false, false, false, false, false, false, false, false, false, false, false, false, false, false, false, false, false, false, false, false, false, false, false, false, false, false] rfl rfl (any_of HT_.out (by kernel_rfl)) (fun _ _ _ h => h) (Or.inl ⟨by rfl, ?_⟩) ?_ ?_
              rotate_left
              · intro w'
                go_simp
                with_reducible rfl
              rotate_left
              · simp only [Act.put, List.setIfInBounds_toArray, List.set_cons_zero, List.set_cons_succ, i64_w, i32_w]
                rfl
              refine pure_ (i := 2) (N := some 33) (v := ?_) (a' := ?_) #[true, true, true, false, false, false, false, false, false, false, false, false, false, false, false, false, false, false, false, false, false, false, false, false, false, false, false, false, false] rfl rfl (any_of HT_.out (by kernel_rfl)) (fun _ _ _ h => h) (Or.inl ⟨by rfl, ?_⟩) ?_ ?_
              rotate_left
              · intro w'
                go_simp
                with_reducible rfl
              rotate_left
              · simp only [Act.put, List.setIfInBounds_toArray, List.set_cons_zero, List.set_cons_succ, i64_w, i32_w]
                rfl
              refine pure_ (i := 3) (N := some 34) (v := ?_) (a' := ?_) #[true, true, true, true, false, false, false, false, false, false, false, false, false, false, false, false, false, false, false, false, false, false, false, false, false, false, false, false, false] rfl rfl (any_of HT_.out (by kernel_rfl)) (fun _ _ _ h => h) (Or.inl ⟨by rfl, ?_⟩) ?_ ?_
              rotate_left
              · intro w'
                go_simp
                with_reducible rfl
              rotate_left
              · simp only [Act.put, List.setIfInBounds_toArray, List.set_cons_zero, List.set_cons_succ, i64_w, i32_w]
                rfl
              refine take_ (i := 4) (N := some 35) (v := ?_) (a' := ?_) #[true, true, true, true, true, false, false, false, false, false, false, false, false, false, false, false, false, false, false, false, false, false, false, false, false, false, false, false, false] rfl rfl (take_ofW HT_.out HW_.out (by kernel_rfl)) (fun _ _ _ h => h) (Or.inl ⟨by rfl, ?_⟩) hHeld ?_ ?_
              rotate_left
              · rintro w' ⟨s0, s1, s2, s3, s4, s5, s6, s7⟩
                go_simp
                with_reducible rfl
              rotate_left
              · simp only [Act.put, List.setIfInBounds_toArray, List.set_cons_zero, List.set_cons_succ, i64_w, i32_w]
                rfl
              refine take_ (i := 6) (N := some 37) (v := ?_) (a' := ?_) #[true, true, true, true, true, false, true, false, false, false, false, false, false, false, false, false, false, false, false, false, false, false, false, false, false, false, false, false, false] rfl rfl (take_ofW HT_.out HW_.out (by kernel_rfl)) (fun _ _ _ h => h) (Or.inl ⟨by rfl, ?_⟩) hHeld ?_ ?_
              rotate_left
              · rintro w' ⟨s0, s1, s2, s3, s4, s5, s6, s7⟩
                go_simp
                with_reducible rfl
              rotate_left
              · simp only [Act.put, List.setIfInBounds_toArray, List.set_cons_zero, List.set_cons_succ, i64_w, i32_w]
                rfl
              refine one_ (i := 5) (N := some 36) #[true, true, true, true, true, true, true, false, false, false, false, false, false, false, false, false, false, false, false, false, false, false, false, false, false, false, false, false, false] rfl rfl (one_of HT_.out (by kernel_rfl)) (by decide) (fun K hK => ?_)
              refine goes_ Try.func18 (by kernel_rfl) rfl #[.agg #[.int .u8 t352, .int .u32 t353, .slice Ao26 t354.length co26, .slice Ao27 t357.length co27]] (by rfl) rfl rfl (by (try simp only [List.map_toArray, List.map_cons, List.map_nil]); first | done | rfl | (simp only [List.length_drop, List.length_take]; rfl)) ?_
              with_reducible refine (crosswaylaw10_Of.calls t352 t353 _ _ t354 _ _ t357 t378 t379 t380 t383 _ ?side1 ?side2 ?side3 ?side4 A11.out).mono ?_
              (case side1 => repeat (first | exact (Kd.R_reads' HO356.out).2.2 | (with_reducible refine Kd.C_alloc ?_ _) | (with_reducible refine Kd.C_drewN ?_ _) | (with_reducible refine Kd.C_drew ?_)))
              (case side2 => exact (Kd.R_reads' HO356.out).2.1)
              (case side3 => repeat (first | exact (Kd.R_reads' HO359.out).2.2 | (with_reducible refine Kd.C_alloc ?_ _) | (with_reducible refine Kd.C_drewN ?_ _) | (with_reducible refine Kd.C_drew ?_)))
              (case side4 => exact (Kd.R_reads' HO359.out).2.1)
              rintro e w36 ⟨v381, v384, rfl, ho0, ho1, hb⟩
              refine ⟨_, rfl, ?_⟩
              have n0_ := Aside0.mk (Kd.R_mono (Kd.R_told (Kd.R_told (Kd.R_old (by (with_reducible repeat (first | apply Kd.R_alloc | apply Kd.R_drewN | apply Kd.R_drew)); exact HO351.out) hb) (Kd.R_base ho0)) (Kd.R_base ho1)) (fun _ h_ => h_.1))
              have n3_ := Aside0.mk (Kd.R_below (by (with_reducible repeat (first | apply Kd.R_alloc | apply Kd.R_drewN | apply Kd.R_drew)); exact HO362.out) hb)
              have n4_ := Aside0.mk (Kd.R_mono (Kd.R_told (Kd.R_told (Kd.R_old (by (with_reducible repeat (first | apply Kd.R_alloc | apply Kd.R_drewN | apply Kd.R_drew)); exact HO369.out) hb) (Kd.R_base ho0)) (Kd.R_base ho1)) (fun _ h_ => h_.1))
              have n5_ := Aside0.mk (Kd.R_mono (Kd.R_told (Kd.R_told (Kd.R_old (by (with_reducible repeat (first | apply Kd.R_alloc | apply Kd.R_drewN | apply Kd.R_drew)); exact HO372.out) hb) (Kd.R_base ho0)) (Kd.R_base ho1)) (fun _ h_ => h_.1))
              have n6_ := Aside0.mk (Kd.R_below (by (with_reducible repeat (first | apply Kd.R_alloc | apply Kd.R_drewN | apply Kd.R_drew)); exact HO375.out) hb)
              have n7_ := Aside0.mk (Kd.R_lower (Kd.R_new' (Kd.R_new' (Kd.R_new' (Kd.R_new' (Kd.R_new' ho0 (Kd.R_lt (by (with_reducible repeat (first | apply Kd.R_alloc | apply Kd.R_drewN | apply Kd.R_drew)); exact HO351.out))) (Kd.R_lt (by (with_reducible repeat (first | apply Kd.R_alloc | apply Kd.R_drewN | apply Kd.R_drew)); exact HO356.out))) (Kd.R_lt (by (with_reducible repeat (first | apply Kd.R_alloc | apply Kd.R_drewN | apply Kd.R_drew)); exact HO359.out))) (Kd.R_lt (by (with_reducible repeat (first | apply Kd.R_alloc | apply Kd.R_drewN | apply Kd.R_drew)); exact HO369.out))) (Kd.R_lt (by (with_reducible repeat (first | apply Kd.R_alloc | apply Kd.R_drewN | apply Kd.R_drew)); exact HO372.out))) (below_size (by repeat (first | (with_reducible first | exact HB.out | apply below_alloc | apply pw_below_drewN | apply below_drew1 | refine below_set ?_ GE364.out | refine below_set ?_ GE377.out) | exact HB.out))))
              have n8_ := Aside0.mk (Kd.R_lower (Kd.R_new' (Kd.R_new' (Kd.R_new' (Kd.R_new' (Kd.R_new' ho1 (Kd.R_lt (by (with_reducible repeat (first | apply Kd.R_alloc | apply Kd.R_drewN | apply Kd.R_drew)); exact HO351.out))) (Kd.R_lt (by (with_reducible repeat (first | apply Kd.R_alloc | apply Kd.R_drewN | apply Kd.R_drew)); exact HO356.out))) (Kd.R_lt (by (with_reducible repeat (first | apply Kd.R_alloc | apply Kd.R_drewN | apply Kd.R_drew)); exact HO359.out))) (Kd.R_lt (by (with_reducible repeat (first | apply Kd.R_alloc | apply Kd.R_drewN | apply Kd.R_drew)); exact HO369.out))) (Kd.R_lt (by (with_reducible repeat (first | apply Kd.R_alloc | apply Kd.R_drewN | apply Kd.R_drew)); exact HO372.out))) (below_size (by repeat (first | (with_reducible first | exact HB.out | apply below_alloc | apply pw_below_drewN | apply below_drew1 | refine below_set ?_ GE364.out | refine below_set ?_ GE377.out) | exact HB.out))))
              have n9_ := Aside0.mk (blk_below (g := gb364) (o := .cells #[.int .u8 t352, .int .u32 t353, .slice Ao26 t354.length co26, .slice Ao27 t357.length co27] 37 (0, 0)) (by (with_reducible repeat (first | refine blk_drewN ?_ _ | refine blk_drew ?_ | refine blk_alloc ?_ _)); exact BK364.out) hb)
              have n10_ := Aside0.mk (blk_below (g := gb377) (o := .cells #[.int .u8 t365, .int .u32 t366, .slice Ao32 t367.length co32, .slice Ao33 t370.length co33] 40 (0, 0)) (by (with_reducible repeat (first | refine blk_drewN ?_ _ | refine blk_drew ?_ | refine blk_alloc ?_ _)); exact BK377.out) hb)
              have n11_ := Aside0.mk (below_step (by repeat (first | (with_reducible first | exact HB.out | apply below_alloc | apply pw_below_drewN | apply below_drew1 | refine below_set ?_ GE364.out | refine below_set ?_ GE377.out) | exact HB.out)) hb)
              clear HO351
              clear HO362
              clear HO369
              clear HO372
              clear HO375
              clear BK364
              clear BK377
              clear HB
              have HO351 := n0_
              have HO362 := n3_
              have HO369 := n4_
              have HO372 := n5_
              have HO375 := n6_
              have HO382 := n7_
              have HO385 := n8_
              have BK364 := n9_
              have BK377 := n10_
              have HB := n11_
              clear n0_ n3_ n4_ n5_ n6_ n7_ n8_ n9_ n10_ n11_
              (try clear hb)
              (try clear hb2)
              (try clear hk)
              (try clear hi)
              (try clear ho0)
              (try clear ho1)
              obtain ⟨Ao37, co37, eo37⟩ := Kd.R_slice HO382.out
              (first | subst eo37 | (injection eo37 with f1_ f2_ f3_; have f4_ := f1_.symm; have f5_ := f3_.symm; clear f1_ f2_ f3_; subst f4_; subst f5_))
              obtain ⟨Ao38, co38, eo38⟩ := Kd.R_slice HO385.out
              (first | subst eo38 | (injection eo38 with f1_ f2_ f3_; have f4_ := f1_.symm; have f5_ := f3_.symm; clear f1_ f2_ f3_; subst f4_; subst f5_))
              refine hK.out _ _ ⟨(blk_cell BK364.out 0).trans rfl, (blk_cell BK364.out 1).trans rfl, (blk_cell BK364.out 2).trans rfl, (blk_cell BK364.out 3).trans rfl, (blk_cell BK377.out 0).trans rfl, (blk_cell BK377.out 1).trans rfl, (blk_cell BK377.out 2).trans rfl, (blk_cell BK377.out 3).trans rfl⟩ (fun hHeld => ?_)
              clear hK K
              refine norm_ (a' := ?_) ?_ ?_
              rotate_left
              · show Act.put _ (some 36) _ = _
                simp only [Act.put, List.setIfInBounds_toArray, List.set_cons_zero, List.set_cons_succ, i64_w, i32_w]
                rfl
              refine one_ (i := 7) (N := some 38) #[true, true, true, true, true, true, true, true, false, false, false, false, false, false, false, false, false, false, false, false, false, false, false, false, false, false, false, false, false] rfl rfl (one_of HT_.out (by kernel_rfl)) (by decide) (fun K hK => ?_)
              refine goes_ Try.func17 (by kernel_rfl) rfl #[.agg #[.int .u8 t378, .int .u32 t379, .slice Ao37 t380.length co37, .slice Ao38 t383.length co38], .agg #[.int .u8 t365, .int .u32 t366, .slice Ao32 t367.length co32, .slice Ao33 t370.length co33]] (by rfl) rfl rfl (by (try simp only [List.map_toArray, List.map_cons, List.map_nil]); first | done | rfl | (simp only [List.length_drop, List.length_take]; rfl)) ?_
              with_reducible refine (crosswayref10_Same.calls t378 t379 _ _ t380 _ _ t383 t365 t366 _ _ t367 _ _ t370 true _ ?side1 ?side2 ?side3 ?side4 ?side5 ?side6 ?side7 ?side8 A12.out).mono ?_
              (case side1 => repeat (first | exact (Kd.R_reads' HO382.out).2.2 | (with_reducible refine Kd.C_alloc ?_ _) | (with_reducible refine Kd.C_drewN ?_ _) | (with_reducible refine Kd.C_drew ?_)))
              (case side2 => exact (Kd.R_reads' HO382.out).2.1)
              (case side3 => repeat (first | exact (Kd.R_reads' HO385.out).2.2 | (with_reducible refine Kd.C_alloc ?_ _) | (with_reducible refine Kd.C_drewN ?_ _) | (with_reducible refine Kd.C_drew ?_)))
              (case side4 => exact (Kd.R_reads' HO385.out).2.1)
              (case side5 => repeat (first | exact (Kd.R_reads' HO369.out).2.2 | (with_reducible refine Kd.C_alloc ?_ _) | (with_reducible refine Kd.C_drewN ?_ _) | (with_reducible refine Kd.C_drew ?_)))
              (case side6 => exact (Kd.R_reads' HO369.out).2.1)
              (case side7 => repeat (first | exact (Kd.R_reads' HO372.out).2.2 | (with_reducible refine Kd.C_alloc ?_ _) | (with_reducible refine Kd.C_drewN ?_ _) | (with_reducible refine Kd.C_drew ?_)))
              (case side8 => exact (Kd.R_reads' HO372.out).2.1)
              rintro e w39 ⟨rfl, hb⟩
              refine ⟨_, rfl, ?_⟩
              have n0_ := Aside0.mk (Kd.R_below (by (with_reducible repeat (first | apply Kd.R_alloc | apply Kd.R_drewN | apply Kd.R_drew)); exact HO351.out) hb)
              have n3_ := Aside0.mk (Kd.R_below (by (with_reducible repeat (first | apply Kd.R_alloc | apply Kd.R_drewN | apply Kd.R_drew)); exact HO362.out) hb)
              have n6_ := Aside0.mk (Kd.R_below (by (with_reducible repeat (first | apply Kd.R_alloc | apply Kd.R_drewN | apply Kd.R_drew)); exact HO375.out) hb)
              have n9_ := Aside0.mk (blk_below (g := gb364) (o := .cells #[.int .u8 t352, .int .u32 t353, .slice Ao26 t354.length co26, .slice Ao27 t357.length co27] 37 (0, 0)) (by (with_reducible repeat (first | refine blk_drewN ?_ _ | refine blk_drew ?_ | refine blk_alloc ?_ _)); exact BK364.out) hb)
              have n10_ := Aside0.mk (blk_below (g := gb377) (o := .cells #[.int .u8 t365, .int .u32 t366, .slice Ao32 t367.length co32, .slice Ao33 t370.length co33] 40 (0, 0)) (by (with_reducible repeat (first | refine blk_drewN ?_ _ | refine blk_drew ?_ | refine blk_alloc ?_ _)); exact BK377.out) hb)
              have n11_ := Aside0.mk (below_step (by repeat (first | (with_reducible first | exact HB.out | apply below_alloc | apply pw_below_drewN | apply below_drew1 | refine below_set ?_ GE364.out | refine below_set ?_ GE377.out) | exact HB.out)) hb)
              clear HO351
              clear HO362
              clear HO375
              clear BK364
              clear BK377
              clear HB
              have HO351 := n0_
              have HO362 := n3_
              have HO375 := n6_
              have BK364 := n9_
              have BK377 := n10_
              have HB := n11_
              clear n0_ n3_ n6_ n9_ n10_ n11_
              (try clear hb)
              (try clear hb2)
              (try clear hk)
              (try clear hi)
              obtain ⟨Ao40, co40, eo40⟩ := Kd.R_slice HO362.out
              (first | subst eo40 | (injection eo40 with f1_ f2_ f3_; have f4_ := f1_.symm; have f5_ := f3_.symm; clear f1_ f2_ f3_; subst f4_; subst f5_))
              obtain ⟨Ao41, co41, eo41⟩ := Kd.R_slice HO375.out
              (first | subst eo41 | (injection eo41 with f1_ f2_ f3_; have f4_ := f1_.symm; have f5_ := f3_.symm; clear f1_ f2_ f3_; subst f4_; subst f5_))
              refine hK.out _ _ ⟨(blk_cell BK364.out 0).trans rfl, (blk_cell BK364.out 1).trans rfl, (blk_cell BK364.out 2).trans rfl, (blk_cell BK364.out 3).trans rfl, (blk_cell BK377.out 0).trans rfl, (blk_cell BK377.out 1).trans rfl, (blk_cell BK377.out 2).trans rfl, (blk_cell BK377.out 3).trans rfl⟩ (fun hHeld => ?_)
              clear hK K
              refine norm_ (a' := ?_) ?_ ?_
              rotate_left
              · show Act.put _ (some 38) _ = _
                simp only [Act.put, List.setIfInBounds_toArray, List.set_cons_zero, List.set_cons_succ, i64_w, i32_w]
                rfl
              refine pure_ (i := 8) (N := some 39) (v := ?_) (a' := ?_) #[true, true, true, true, true, true, true, true, true, false, false, false, false, false, false, false, false, false, false, false, false, false, false, false, false, false, false, false, false] rfl rfl (any_of HT_.out (by kernel_rfl)) (fun _ _ _ h => h) (Or.inl ⟨by rfl, ?_⟩) ?_ ?_
              rotate_left
              · intro w'
                go_simp
                with_reducible rfl
              rotate_left
              · simp only [Act.put, List.setIfInBounds_toArray, List.set_cons_zero, List.set_cons_succ, i64_w, i32_w]
                rfl
              refine pure_ (i := 9) (N := some 40) (v := ?_) (a' := ?_) #[true, true, true, true, true, true, true, true, true, true, false, false, false, false, false, false, false, false, false, false, false, false, false, false, false, false, false, false, false] rfl rfl (any_of HT_.out (by kernel_rfl)) (fun _ _ _ h => h) (Or.inl ⟨by rfl, ?_⟩) ?_ ?_
              rotate_left
              · intro w'
                go_simp
                with_reducible rfl
              rotate_left
              · simp only [Act.put, List.setIfInBounds_toArray, List.set_cons_zero, List.set_cons_succ, i64_w, i32_w]
                rfl
              refine pure_ (i := 10) (N := some 41) (v := ?_) (a' := ?_) #[true, true, true, true, true, true, true, true, true, true, true, false, false, false, false, false, false, false, false, false, false, false, false, false, false, false, false, false, false] rfl rfl (any_of HT_.out (by kernel_rfl)) (fun _ _ _ h => h) (Or.inl ⟨by rfl, ?_⟩) ?_ ?_
              rotate_left
              · intro w'
                go_simp
                with_reducible rfl
              rotate_left
              · simp only [Act.put, List.setIfInBounds_toArray, List.set_cons_zero, List.set_cons_succ, i64_w, i32_w]
                rfl
              refine pure_ (i := 11) (N := some 42) (v := ?_) (a' := ?_) #[true, true, true, true, true, true, true, true, true, true, true, true, false, false, false, false, false, false, false, false, false, false, false, false, false, false, false, false, false] rfl rfl (any_of HT_.out (by kernel_rfl)) (fun _ _ _ h => h) (Or.inl ⟨by rfl, ?_⟩) ?_ ?_
              rotate_left
              · intro w'
                go_simp
                with_reducible rfl
              rotate_left
              · simp only [Act.put, List.setIfInBounds_toArray, List.set_cons_zero, List.set_cons_succ, i64_w, i32_w]
                rfl
              refine one_ (i := 12) (N := some 43) #[true, true, true, true, true, true, true, true, true, true, true, true, true, false, false, false, false, false, false, false, false, false, false, false, false, false, false, false, false] rfl rfl (one_of HT_.out (by kernel_rfl)) (by decide) (fun K hK => ?_)
              refine goes_ Try.func13 (by kernel_rfl) rfl #[.slice Ao40 t360.length co40, .slice Ao41 t373.length co41] (by rfl) rfl rfl (by (try simp only [List.map_toArray, List.map_cons, List.map_nil]); first | done | rfl | (simp only [List.length_drop, List.length_take]; rfl)) ?_
              with_reducible refine (crosswaylaw13_same.calls k _ _ t360 _ _ t373 true _ ?side1 ?side2 ?side3 ?side4 A14.out).mono ?_
              (case side1 => repeat (first | exact (Kd.R_reads' HO362.out).2.2 | (with_reducible refine Kd.C_alloc ?_ _) | (with_reducible refine Kd.C_drewN ?_ _) | (with_reducible refine Kd.C_drew ?_)))
              (case side2 => exact (Kd.R_reads' HO362.out).2.1)
              (case side3 => repeat (first | exact (Kd.R_reads' HO375.out).2.2 | (with_reducible refine Kd.C_alloc ?_ _) | (with_reducible refine Kd.C_drewN ?_ _) | (with_reducible refine Kd.C_drew ?_)))
              (case side4 => exact (Kd.R_reads' HO375.out).2.1)
              rintro e w' ⟨rfl, ⟨nd, rfl⟩⟩
              refine ⟨_, rfl, ?_⟩
              refine hK.out _ _ ⟨(blk_cell BK364.out 0).trans rfl, (blk_cell BK364.out 1).trans rfl, (blk_cell BK364.out 2).trans rfl, (blk_cell BK364.out 3).trans rfl, (blk_cell BK377.out 0).trans rfl, (blk_cell BK377.out 1).trans rfl, (blk_cell BK377.out 2).trans rfl, (blk_cell BK377.out 3).trans rfl⟩ (fun hHeld => ?_)
              clear hK K
              refine norm_ (a' := ?_) ?_ ?_
              rotate_left
              · show Act.put _ (some 43) _ = _
                simp only [Act.put, List.setIfInBounds_toArray, List.set_cons_zero, List.set_cons_succ, i64_w, i32_w]
                rfl
              refine pure_ (i := 13) (N := some 44) (v := ?_) (a' := ?_) #[true, true, true, true, true, true, true, true, true, true, true, true, true, true, false, false, false, false, false, false, false, false, false, false, false, false, false, false, false] rfl rfl (any_of HT_.out (by kernel_rfl)) (fun _ _ _ h => h) (Or.inl ⟨by rfl, ?_⟩) ?_ ?_
              rotate_left
              · intro w'
                go_simp
                with_reducible rfl
              rotate_left
              · simp only [Act.put, List.setIfInBounds_toArray, List.set_cons_zero, List.set_cons_succ, i64_w, i32_w]
                rfl
              refine pure_ (i := 14) (N := some 45) (v := ?_) (a' := ?_) #[true, true, true, true, true, true, true, true, true, true, true, true, true, true, true, false, false, false, false, false, false, false, false, false, false, false, false, false, false] rfl rfl (any_of HT_.out (by kernel_rfl)) (fun _ _ _ h => h) (Or.inl ⟨by rfl, ?_⟩) ?_ ?_
              rotate_left
              · intro w'
                go_simp
                with_reducible rfl
              rotate_left
              · simp only [Act.put, List.setIfInBounds_toArray, List.set_cons_zero, List.set_cons_succ, i64_w, i32_w]
                rfl
              refine pure_ (i := 15) (N := some 46) (v := ?_) (a' := ?_) #[true, true, true, true, true, true, true, true, true, true, true, true, true, true, true, true, false, false, false, false, false, false, false, false, false, false, false, false, false] rfl rfl (any_of HT_.out (by kernel_rfl)) (fun _ _ _ h => h) (Or.inl ⟨by rfl, ?_⟩) ?_ ?_
              rotate_left
              · intro w'
                go_simp
                with_reducible rfl
              rotate_left
              · simp only [Act.put, List.setIfInBounds_toArray, List.set_cons_zero, List.set_cons_succ, i64_w, i32_w]
                rfl
              refine pure_ (i := 16) (N := some 47) (v := ?_) (a' := ?_) #[true, true, true, true, true, true, true, true, true, true, true, true, true, true, true, true, true, false, false, false, false, false, false, false, false, false, false, false, false] rfl rfl (any_of HT_.out (by kernel_rfl)) (fun _ _ _ h => h) (Or.inl ⟨by rfl, ?_⟩) ?_ ?_
              rotate_left
              · intro w'
                go_simp
                with_reducible rfl
              rotate_left
              · simp only [Act.put, List.setIfInBounds_toArray, List.set_cons_zero, List.set_cons_succ, i64_w, i32_w]
                rfl
              refine pure_ (i := 18) (N := some 49) (v := ?_) (a' := ?_) #[true, true, true, true, true, true, true, true, true, true, true, true, true, true, true, true, true, false, true, false, false, false, false, false, false, false, false, false, false] rfl rfl (any_of HT_.out (by kernel_rfl)) (fun _ _ _ h => h) (Or.inl ⟨by rfl, ?_⟩) ?_ ?_
              rotate_left
              · intro w'
                go_simp
                with_reducible rfl
              rotate_left
              · simp only [Act.put, List.setIfInBounds_toArray, List.set_cons_zero, List.set_cons_succ, i64_w, i32_w]
                rfl
              refine pure_ (i := 19) (N := some 50) (v := ?_) (a' := ?_) #[true, true, true, true, true, true, true, true, true, true, true, true, true, true, true, true, true, false, true, true, false, false, false, false, false, false, false, false, false] rfl rfl (any_of HT_.out (by kernel_rfl)) (fun _ _ _ h => h) (Or.inl ⟨by rfl, ?_⟩) ?_ ?_
              rotate_left
              · intro w'
                go_simp
                with_reducible rfl
              rotate_left
              · simp only [Act.put, List.setIfInBounds_toArray, List.set_cons_zero, List.set_cons_succ, i64_w, i32_w]
                rfl
              refine one_ (i := 17) (N := some 48) #[true, true, true, true, true, true, true, true, true, true, true, true, true, true, true, true, true, true, true, true, false, false, false, false, false, false, false, false, false] rfl rfl (one_of HT_.out (by kernel_rfl)) (by decide) (fun K hK => ?_)
              refine goes_ Try.func19 (by kernel_rfl) rfl #[.slice Ao22 t349.length co22, .int .u32 a1] (by rfl) rfl rfl (by (try simp only [List.map_toArray, List.map_cons, List.map_nil]); first | done | rfl | (simp only [List.length_drop, List.length_take]; rfl)) ?_
              with_reducible refine (offer_Has.calls k _ _ t349 a1 t388 _ ?side1 ?side2 A16.out).mono ?_
              (case side1 => repeat (first | exact (Kd.R_reads' HO351.out).2.2 | (with_reducible refine Kd.C_alloc ?_ _) | (with_reducible refine Kd.C_drewN ?_ _) | (with_reducible refine Kd.C_drew ?_)))
              (case side2 => exact (Kd.R_reads' HO351.out).2.1)
              rintro e w42 ⟨rfl, hb⟩
              refine ⟨_, rfl, ?_⟩
              have n0_ := Aside0.mk (Kd.R_below (by (with_reducible repeat (first | apply Kd.R_alloc | apply Kd.R_drewN | apply Kd.R_drew)); exact HO351.out) hb)
              have n9_ := Aside0.mk (blk_below (g := gb364) (o := .cells #[.int .u8 t352, .int .u32 t353, .slice Ao26 t354.length co26, .slice Ao27 t357.length co27] 37 (0, 0)) (by (with_reducible repeat (first | refine blk_drewN ?_ _ | refine blk_drew ?_ | refine blk_alloc ?_ _)); exact BK364.out) hb)
              have n10_ := Aside0.mk (blk_below (g := gb377) (o := .cells #[.int .u8 t365, .int .u32 t366, .slice Ao32 t367.length co32, .slice Ao33 t370.length co33] 40 (0, 0)) (by (with_reducible repeat (first | refine blk_drewN ?_ _ | refine blk_drew ?_ | refine blk_alloc ?_ _)); exact BK377.out) hb)
              have n11_ := Aside0.mk (below_step (by repeat (first | (with_reducible first | exact HB.out | apply below_alloc | apply pw_below_drewN | apply below_drew1 | refine below_set ?_ GE364.out | refine below_set ?_ GE377.out) | exact HB.out)) hb)
              clear HO351
              clear BK364
              clear BK377
              clear HB
              have HO351 := n0_
              have BK364 := n9_
              have BK377 := n10_
              have HB := n11_
              clear n0_ n9_ n10_ n11_
              (try clear hb)
              (try clear hb2)
              (try clear hk)
              (try clear hi)
              refine hK.out _ _ ⟨(blk_cell BK364.out 0).trans rfl, (blk_cell BK364.out 1).trans rfl, (blk_cell BK364.out 2).trans rfl, (blk_cell BK364.out 3).trans rfl, (blk_cell BK377.out 0).trans rfl, (blk_cell BK377.out 1).trans rfl, (blk_cell BK377.out 2).trans rfl, (blk_cell BK377.out 3).trans rfl⟩ (fun hHeld => ?_)
              clear hK K
              refine norm_ (a' := ?_) ?_ ?_
              rotate_left
              · show Act.put _ (some 48) _ = _
                simp only [Act.put, List.setIfInBounds_toArray, List.set_cons_zero, List.set_cons_succ, i64_w, i32_w]
                rfl
              refine one_ (i := 20) (N := some 51) #[true, true, true, true, true, true, true, true, true, true, true, true, true, true, true, true, true, true, true, true, true, false, false, false, false, false, false, false, false] rfl rfl (one_of HT_.out (by kernel_rfl)) (by decide) (fun K hK => ?_)
              refine goes_ Try.func20 (by kernel_rfl) rfl #[.slice A0 l0.length c0, .int .u32 a1] (by rfl) rfl rfl (by (try simp only [List.map_toArray, List.map_cons, List.map_nil]); first | done | rfl | (simp only [List.length_drop, List.length_take]; rfl)) ?_
              with_reducible refine (crosswayref13_Has.calls k _ _ l0 a1 t389 _ ?side1 ?side2 A17.out).mono ?_
              (case side1 => repeat (first | exact (Kd.C_below HR0.out HB.out) | (with_reducible refine Kd.C_alloc ?_ _) | (with_reducible refine Kd.C_drewN ?_ _) | (with_reducible refine Kd.C_drew ?_)))
              (case side2 => exact HC0.out)
              rintro e w43 ⟨rfl, hb⟩
              refine ⟨_, rfl, ?_⟩
              have n0_ := Aside0.mk (Kd.R_below (by (with_reducible repeat (first | apply Kd.R_alloc | apply Kd.R_drewN | apply Kd.R_drew)); exact HO351.out) hb)
              have n9_ := Aside0.mk (blk_below (g := gb364) (o := .cells #[.int .u8 t352, .int .u32 t353, .slice Ao26 t354.length co26, .slice Ao27 t357.length co27] 37 (0, 0)) (by (with_reducible repeat (first | refine blk_drewN ?_ _ | refine blk_drew ?_ | refine blk_alloc ?_ _)); exact BK364.out) hb)
              have n10_ := Aside0.mk (blk_below (g := gb377) (o := .cells #[.int .u8 t365, .int .u32 t366, .slice Ao32 t367.length co32, .slice Ao33 t370.length co33] 40 (0, 0)) (by (with_reducible repeat (first | refine blk_drewN ?_ _ | refine blk_drew ?_ | refine blk_alloc ?_ _)); exact BK377.out) hb)
              have n11_ := Aside0.mk (below_step (by repeat (first | (with_reducible first | exact HB.out | apply below_alloc | apply pw_below_drewN | apply below_drew1 | refine below_set ?_ GE364.out | refine below_set ?_ GE377.out) | exact HB.out)) hb)
              clear HO351
              clear BK364
              clear BK377
              clear HB
              have HO351 := n0_
              have BK364 := n9_
              have BK377 := n10_
              have HB := n11_
              clear n0_ n9_ n10_ n11_
              (try clear hb)
              (try clear hb2)
              (try clear hk)
              (try clear hi)
              refine hK.out _ _ ⟨(blk_cell BK364.out 0).trans rfl, (blk_cell BK364.out 1).trans rfl, (blk_cell BK364.out 2).trans rfl, (blk_cell BK364.out 3).trans rfl, (blk_cell BK377.out 0).trans rfl, (blk_cell BK377.out 1).trans rfl, (blk_cell BK377.out 2).trans rfl, (blk_cell BK377.out 3).trans rfl⟩ (fun hHeld => ?_)
              clear hK K
              refine norm_ (a' := ?_) ?_ ?_
              rotate_left
              · show Act.put _ (some 51) _ = _
                simp only [Act.put, List.setIfInBounds_toArray, List.set_cons_zero, List.set_cons_succ, i64_w, i32_w]
                rfl
              refine pure_ (i := 21) (N := some 52) (v := ?_) (a' := ?_) #[true, true, true, true, true, true, true, true, true, true, true, true, true, true, true, true, true, true, true, true, true, true, false, false, false, false, false, false, false] rfl rfl (any_of HT_.out (by kernel_rfl)) (fun _ _ _ h => h) (Or.inl ⟨by rfl, ?_⟩) ?_ ?_
              rotate_left
              · intro w'
                go_simp
                with_reducible rfl
              rotate_left
              · simp only [Act.put, List.setIfInBounds_toArray, List.set_cons_zero, List.set_cons_succ, i64_w, i32_w]
                rfl
              refine pure_ (i := 22) (N := some 53) (v := ?_) (a' := ?_) #[true, true, true, true, true, true, true, true, true, true, true, true, true, true, true, true, true, true, true, true, true, true, true, false, false, false, false, false, false] rfl rfl (any_of HT_.out (by kernel_rfl)) (fun _ _ _ h => h) (Or.inl ⟨by rfl, ?_⟩) ?_ ?_
              rotate_left
              · intro w'
                go_simp
                with_reducible rfl
              rotate_left
              · simp only [Act.put, List.setIfInBounds_toArray, List.set_cons_zero, List.set_cons_succ, i64_w, i32_w]
                rfl
              refine pure_ (i := 23) (N := some 54) (v := ?_) (a' := ?_) #[true, true, true, true, true, true, true, true, true, true, true, true, true, true, true, true, true, true, true, true, true, true, true, true, false, false, false, false, false] rfl rfl (any_of HT_.out (by kernel_rfl)) (fun _ _ _ h => h) (Or.inl ⟨by rfl, ?_⟩) ?_ ?_
              rotate_left
              · intro w'
                go_simp
                with_reducible rfl
              rotate_left
              · simp only [Act.put, List.setIfInBounds_toArray, List.set_cons_zero, List.set_cons_succ, i64_w, i32_w]
                rfl
              refine pure_ (i := 24) (N := some 55) (v := ?_) (a' := ?_) #[true, true, true, true, true, true, true, true, true, true, true, true, true, true, true, true, true, true, true, true, true, true, true, true, true, false, false, false, false] rfl rfl (any_of HT_.out (by kernel_rfl)) (fun _ _ _ h => h) (Or.inl ⟨by rfl, ?_⟩) ?_ ?_
              rotate_left
              · intro w'
                go_simp
                with_reducible rfl
              rotate_left
              · simp only [Act.put, List.setIfInBounds_toArray, List.set_cons_zero, List.set_cons_succ, i64_w, i32_w]
                rfl
              refine pure_ (i := 25) (N := some 56) (v := ?_) (a' := ?_) #[true, true, true, true, true, true, true, true, true, true, true, true, true, true, true, true, true, true, true, true, true, true, true, true, true, true, false, false, false] rfl rfl (any_of HT_.out (by kernel_rfl)) (fun _ _ _ h => h) (Or.inl ⟨by rfl, ?_⟩) ?_ ?_
              rotate_left
              · intro w'
                go_simp
                with_reducible rfl
              rotate_left
              · simp only [Act.put, List.setIfInBounds_toArray, List.set_cons_zero, List.set_cons_succ, i64_w, i32_w]
                rfl
              refine one_ (i := 26) (N := some 57) #[true, true, true, true, true, true, true, true, true, true, true, true, true, true, true, true, true, true, true, true, true, true, true, true, true, true, true, false, false] rfl rfl (one_of HT_.out (by kernel_rfl)) (by decide) (fun K hK => ?_)
              refine goes_ Try.func12 (by kernel_rfl) rfl #[.slice Ao22 t349.length co22, .slice A0 l0.length c0] (by rfl) rfl rfl (by (try simp only [List.map_toArray, List.map_cons, List.map_nil]); first | done | rfl | (simp only [List.length_drop, List.length_take]; rfl)) ?_
              with_reducible refine (crosswayref00_SameBytes.calls k _ _ t349 _ _ l0 t390 _ ?side1 ?side2 ?side3 ?side4 A19.out).mono ?_
              (case side1 => repeat (first | exact (Kd.R_reads' HO351.out).2.2 | (with_reducible refine Kd.C_alloc ?_ _) | (with_reducible refine Kd.C_drewN ?_ _) | (with_reducible refine Kd.C_drew ?_)))
              (case side2 => exact (Kd.R_reads' HO351.out).2.1)
              (case side3 => repeat (first | exact (Kd.C_below HR0.out HB.out) | (with_reducible refine Kd.C_alloc ?_ _) | (with_reducible refine Kd.C_drewN ?_ _) | (with_reducible refine Kd.C_drew ?_)))
              (case side4 => exact HC0.out)
              rintro e w' ⟨rfl, ⟨nd, rfl⟩⟩
              refine ⟨_, rfl, ?_⟩
              refine hK.out _ _ ⟨(blk_cell BK364.out 0).trans rfl, (blk_cell BK364.out 1).trans rfl, (blk_cell BK364.out 2).trans rfl, (blk_cell BK364.out 3).trans rfl, (blk_cell BK377.out 0).trans rfl, (blk_cell BK377.out 1).trans rfl, (blk_cell BK377.out 2).trans rfl, (blk_cell BK377.out 3).trans rfl⟩ (fun hHeld => ?_)
              clear hK K
              refine norm_ (a' := ?_) ?_ ?_
              rotate_left
              · show Act.put _ (some 57) _ = _
                simp only [Act.put, List.setIfInBounds_toArray, List.set_cons_zero, List.set_cons_succ, i64_w, i32_w]
                rfl
              refine pure_ (i := 27) (N := some 58) (v := ?_) (a' := ?_) #[true, true, true, true, true, true, true, true, true, true, true, true, true, true, true, true, true, true, true, true, true, true, true, true, true, true, true, true, false] rfl rfl (any_of HT_.out (by kernel_rfl)) (fun _ _ _ h => h) (Or.inl ⟨by rfl, ?_⟩) ?_ ?_
              rotate_left
              · intro w'
                go_simp
                with_reducible rfl
              rotate_left
              · simp only [Act.put, List.setIfInBounds_toArray, List.set_cons_zero, List.set_cons_succ, i64_w, i32_w]
                rfl
              refine pure_ (i := 28) (N := some 4) (v := ?_) (a' := ?_) #[true, true, true, true, true, true, true, true, true, true, true, true, true, true, true, true, true, true, true, true, true, true, true, true, true, true, true, true, true] rfl rfl (any_of HT_.out (by kernel_rfl)) (fun _ _ _ h => h) (Or.inl ⟨by rfl, ?_⟩) ?_ ?_
              rotate_left
              · intro w'
                go_simp
                with_reducible rfl
              rotate_left
              · simp only [Act.put, List.setIfInBounds_toArray, List.set_cons_zero, List.set_cons_succ, i64_w, i32_w]
                rfl
              refine done_ (done_of HT_.out (by kernel_rfl)) ?_
              try go_wp2
              go_ret
              exact ⟨by first | rfl | (simp [errW_none, errW_some] <;> rfl) | (simp [*, errW_none, errW_some] <;> rfl), by repeat (first | (with_reducible first | exact HB.out | apply below_alloc | apply pw_below_drewN | apply below_drew1 | refine below_set ?_ GE364.out | refine below_set ?_ GE377.out) | exact HB.out)⟩
            · rw [if_neg c18] at H
              exact absurd H (by simp)
          · replace c15 := Bool.eq_false_iff.mpr c15
            subst c15
            have H1 : (none) = some r := by rw [if_neg (show ¬ (false = true) by decide)] at H; exact H
            clear H
            have H := H1
            clear H1
            exact absurd H (by simp)
        · replace c13 := Bool.eq_false_iff.mpr c13
          subst c13
          have H1 : (none) = some r := by rw [if_neg (show ¬ (false = true) by decide)] at H; exact H
          clear H
          have H := H1
          clear H1
          exact absurd H (by simp)
      · rw [if_neg c10] at H
        exact absurd H (by simp)
  · replace c4 := Bool.eq_false_iff.mpr c4
    subst c4
    have H1 : (none) = some r := by rw [if_neg (show ¬ (false = true) by decide)] at H; exact H
    clear H
    have H := H1
    clear H1
    exact absurd H (by simp)

/-- The one pure statement of crosswaylaw13_OfferParses. -/
def crosswaylaw13_OfferParses.Pure : Prop := ∀ (l0 : List Int) (a1 : Int), l0.length ≤ maxLen → (∀ x ∈ l0, (Lit.int .u8 x).wf = true) → (Lit.int .u32 a1).wf = true → ∃ k, crosswaylaw13_OfferParses.f k l0 a1 = some true

end Go.Proofs.Ytnmhnihhlakinac.M
