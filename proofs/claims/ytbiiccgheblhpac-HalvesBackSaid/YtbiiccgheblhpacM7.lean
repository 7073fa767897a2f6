/- Contracts of the Go functions that the laws reach, each as a plain Lean function: written by xprint.py, a program of this repo. -/
import Derived.Test.YtbiiccgheblhpacM0
import Derived.Test.YtbiiccgheblhpacM4
import Derived.Test.YtbiiccgheblhpacM5
namespace Go.Proofs.Ytbiiccgheblhpac.M
open Go.RowKit Go.Proofs.YtbiiccgheblhpacW.PrintWords Go.Proofs.YtbiiccgheblhpacW.PrintLast Go.Proofs.YtbiiccgheblhpacW.PrintMore Go.Proofs.Ytbiiccgheblhpac.X
attribute [local go_sem] max2_int min2_int max_two min_two max_three min_three max_four min_four   -- for this text's walks alone
set_option linter.unusedVariables false
set_option linter.unusedSimpArgs false

/-! ### crosswayref14_fit: function 25 -/
def crosswayref14_fit.f (l0 : List Int) (a1 : Int) : Option (Bool) := if a1 ≥ 2 then (if a1 ≤ 28 then ((crosswayref14_Size.f a1).bind fun t292 => (some ((l0.length : Int) == t292))) else (some false)) else (some false)
set_option maxHeartbeats 8000000 in
set_option maxRecDepth 100000 in
theorem crosswayref14_fit.calls (A0 : Option Addr) (c0 : Nat) (l0 : List Int) (a1 : Int) (r : Bool) (w : World) (hr0 : Kd.C (Kd.int .u8) w A0 l0.length l0) (hc0 : l0.length ≤ c0) (h : crosswayref14_fit.f l0 a1 = some r) :
    Calls Try.prog 25 #[.slice A0 l0.length c0, .int .i64 a1] w fun e w' => e = .returned (.bool r) ∧ Drawn0 w w' := by
  have HR0 := Aside0.mk hr0
  have HC0 := Aside0.mk hc0
  clear hr0 hc0
  have H : (if a1 ≥ 2 then (if a1 ≤ 28 then ((crosswayref14_Size.f a1).bind fun t292 => (some ((l0.length : Int) == t292))) else (some false)) else (some false)) = some r := h
  clear h
  by_cases c3 : a1 ≥ 2
  · rw [if_pos c3] at H
    have c3b0 : decide (2 ≤ a1) = true := decide_eq_true c3
    clear c3
    by_cases c4 : a1 ≤ 28
    · rw [if_pos c4] at H
      have c4b0 : decide (a1 ≤ 28) = true := decide_eq_true c4
      clear c4
      replace H := Option.bind_eq_some_iff.mp H
      obtain ⟨t292, A50, H⟩ := H
      replace H : (some ((l0.length : Int) == t292)) = some r := H
      have A5 := Aside0.mk A50
      clear A50
      obtain rfl := Option.some.inj H
      go_enter Try.func25, Try.ntmps25
      go_wp2_with (first | (go_at_call 13; (with_reducible refine (crosswayref14_Size.calls a1 t292 _ A5.out).mono ?_); rintro e w' ⟨rfl, ⟨nd, rfl⟩⟩))
      go_ret
      exact ⟨by first | rfl | (simp; done) | (simp [*]; done), by repeat (first | exact Drawn0.refl _ | apply Drawn0.step)⟩
    · rw [if_neg c4] at H
      have c4b0 : decide (a1 ≤ 28) = false := decide_eq_false c4
      clear c4
      obtain rfl := Option.some.inj H
      go_enter Try.func25, Try.ntmps25
      go_wp2
      go_ret
      exact ⟨by first | rfl | (simp; done) | (simp [*]; done), by repeat (first | exact Drawn0.refl _ | apply Drawn0.step)⟩
  · rw [if_neg c3] at H
    have c3b0 : decide (2 ≤ a1) = false := decide_eq_false c3
    clear c3
    obtain rfl := Option.some.inj H
    go_enter Try.func25, Try.ntmps25
    go_wp2
    go_ret
    exact ⟨by first | rfl | (simp; done) | (simp [*]; done), by repeat (first | exact Drawn0.refl _ | apply Drawn0.step)⟩

/-! ### crosswayref14_Join: function 15, typed by hand -/
def crosswayref14_Join.tail (k : Nat) (n : Int) (l r : List Int) : Option (List Int × Int) := if 0 ≤ n ∧ n ≤ (l.length : Int) ∧ 0 < r.length ∧ l.length + r.length ≤ 140737488355328 then (crosswayref14_Bytes.f k (l.take n.toNat ++ r)).bind fun t => some (t, 0) else none
def crosswayref14_Join.f (k : Nat) (l0 l1 : List Int) (a2 : Int) : Option (List Int × Int) := (crosswayref14_fit.f l0 a2).bind fun p => if p = true then ((crosswayref14_fit.f l1 a2).bind fun q => if q = true then ((crosswayref14_Fours.f k l0).bind fun l => (crosswayref14_Fours.f k l1).bind fun r => if Int.tmod a2 2 = 1 then (if 0 ≤ a2 ∧ a2 < (l.length : Int) ∧ 0 < r.length then (if rd l a2 ≠ 0 ∨ rd r 0 ≠ 0 then some ([], 10) else crosswayref14_Join.tail k a2 l (r.drop 1)) else none) else crosswayref14_Join.tail k a2 l r) else some ([], 11)) else some ([], 11)
theorem crosswayref14_Join.mono : ∀ a0 a1 a2 k, LeO (crosswayref14_Join.f k a0 a1 a2) (crosswayref14_Join.f (k + 1) a0 a1 a2) := by
  intro a0 a1 a2 k
  unfold crosswayref14_Join.f crosswayref14_Join.tail
  repeat' first
      | (with_reducible exact crosswayref14_Bytes.mono _ _)
      | (with_reducible exact crosswayref14_Fours.mono _ _)
      | (with_reducible exact LeO.refl _)
      | (with_reducible exact LeO.none _)
      | (with_reducible refine LeO.ite ?_ ?_)
      | (with_reducible refine LeO.bind ?_ (fun _ => ?_))
theorem crosswayref14_Join.drop1 {w : World} {A : Option Addr} {c : Nat} {xs : List Int} (h : Kd.C (Kd.int .u8) w A xs.length xs) (h1 : 1 ≤ xs.length) (hc : xs.length ≤ c) :
    ∃ A2 c2 y, y = xs.drop 1 ∧ (∀ W : World, (Instr.slice 22 (.slice A xs.length c) (some (.int .i64 1)) none none).run Try.prog W = .ok (.slice A2 y.length c2) W) ∧ Kd.C (Kd.int .u8) w A2 y.length y ∧ y.length ≤ c2 := by
  obtain ⟨i0, hi0, _, hs, _⟩ := info_parts info5
  have hd := Kd.C_drop (m := 1) h h1 hc
  refine ⟨_, c - 1, _, rfl, fun W => ?_, hd, by rw [List.length_drop]; omega⟩
  have := cut_from (P := Try.prog) 22 5 .i64 Try.underlying22 hi0 1 hs A xs.length c 1 (by omega) (by omega) W
  rw [List.length_drop]
  exact this
set_option maxHeartbeats 4000000 in
set_option maxRecDepth 100000 in
theorem crosswayref14_Join.calls (k : Nat) (A0 : Option Addr) (c0 : Nat) (l0 : List Int) (A1 : Option Addr) (c1 : Nat) (l1 : List Int) (a2 : Int) (r1 : List Int) (r2 : Int) (w : World) (hr0 : Kd.C (Kd.int .u8) w A0 l0.length l0) (hc0 : l0.length ≤ c0) (hr1 : Kd.C (Kd.int .u8) w A1 l1.length l1) (hc1 : l1.length ≤ c1) (h : crosswayref14_Join.f k l0 l1 a2 = some (r1, r2)) :
    Calls Try.prog 15 #[.slice A0 l0.length c0, .slice A1 l1.length c1, .int .i64 a2] w fun e w' => ∃ v0_ : Value, e = .returned (.tuple #[v0_, .int .i64 r2]) ∧ Kd.R (Kd.int .u8) 5 w' w.heap.size (fun _ => True) v0_ r1 ∧ Below w.heap.size w w' := by
  unfold crosswayref14_Join.f at h
  have HR0 := Aside0.mk hr0
  have HC0 := Aside0.mk hc0
  have HR1 := Aside0.mk hr1
  have HC1 := Aside0.mk hc1
  clear hr0 hc0 hr1 hc1
  obtain ⟨p, hp, h⟩ := Option.bind_eq_some_iff.1 h
  have HP := Aside0.mk hp
  clear hp
  cases p with
  | false =>
    rw [if_neg (by decide)] at h
    simp only [Option.some.injEq, Prod.mk.injEq] at h
    obtain ⟨rfl, rfl⟩ := h
    go_enter Try.func15, Try.ntmps15
    go_wp2_with (go_at_call 25; (with_reducible refine (crosswayref14_fit.calls A0 c0 l0 a2 false _ HR0.out HC0.out HP.out).mono ?_); rintro e w' ⟨rfl, ⟨nd, rfl⟩⟩)
    go_ret2
    exact ⟨_, rfl, Kd.R_nil _ _ _ _ _, pw_below_drewN (Below.refl _ _) _⟩
  | true =>
    rw [if_pos rfl] at h
    obtain ⟨q, hq, h⟩ := Option.bind_eq_some_iff.1 h
    have HQ := Aside0.mk hq
    clear hq
    cases q with
    | false =>
      rw [if_neg (by decide)] at h
      simp only [Option.some.injEq, Prod.mk.injEq] at h
      obtain ⟨rfl, rfl⟩ := h
      go_enter Try.func15, Try.ntmps15
      go_wp2_with (first | (go_at_call 25; (with_reducible refine (crosswayref14_fit.calls A0 c0 l0 a2 true _ HR0.out HC0.out HP.out).mono ?_); rintro e w' ⟨rfl, ⟨nd, rfl⟩⟩) | (go_at_call 25; (with_reducible refine (crosswayref14_fit.calls A1 c1 l1 a2 false _ (Kd.C_drewN HR1.out _) HC1.out HQ.out).mono ?_); rintro e w' ⟨rfl, ⟨nd2, rfl⟩⟩))
      go_ret2
      exact ⟨_, rfl, Kd.R_nil _ _ _ _ _, pw_below_drewN (Below.refl _ _) _⟩
    | true =>
      rw [if_pos rfl] at h
      obtain ⟨l, hl, h⟩ := Option.bind_eq_some_iff.1 h
      obtain ⟨r, hr, h⟩ := Option.bind_eq_some_iff.1 h
      have HL := Aside0.mk hl
      have HRR := Aside0.mk hr
      clear hl hr
      have HH := Aside0.mk h
      clear h
      go_enter Try.func15, Try.ntmps15
      go_upto_region 5 with (first | (go_at_call 25; (with_reducible refine (crosswayref14_fit.calls A0 c0 l0 a2 true _ HR0.out HC0.out HP.out).mono ?_); rintro e w' ⟨rfl, ⟨nd, rfl⟩⟩) | (go_at_call 25; (with_reducible refine (crosswayref14_fit.calls A1 c1 l1 a2 true _ (Kd.C_drewN HR1.out _) HC1.out HQ.out).mono ?_); rintro e w' ⟨rfl, ⟨nd2, rfl⟩⟩) | (go_at_call 21; (with_reducible refine (crosswayref14_Fours.calls k A0 c0 l0 l _ (Kd.C_drewN HR0.out _) HC0.out HL.out).mono ?_); rintro e w3 ⟨v3, rfl, ho3, hb3⟩; obtain ⟨Al, cl, rfl⟩ := Kd.R_slice ho3; have HB3 := Aside0.mk (below_step (pw_below_drewN (Below.refl w.heap.size w) _) hb3); have HO3 := Aside0.mk ho3; clear hb3 ho3) | (go_at_call 21; (with_reducible refine (crosswayref14_Fours.calls k A1 c1 l1 r _ (Kd.C_below HR1.out HB3.out) HC1.out HRR.out).mono ?_); rintro e w4 ⟨v4, rfl, ho4, hb4⟩; obtain ⟨Ar, cr, rfl⟩ := Kd.R_slice ho4; have HB4 := Aside0.mk (below_step HB3.out hb4); have HCL := Aside0.mk (Kd.C_below (Kd.R_reads' HO3.out).2.2 hb4); have HLC := Aside0.mk (Kd.R_reads' HO3.out).2.1; have HCR := Aside0.mk (Kd.R_reads' ho4).2.2; have HRC := Aside0.mk (Kd.R_reads' ho4).2.1; clear hb4 ho4))
      have h := HH.out
      clear HH
      by_cases c5 : Int.tmod a2 2 = 1
      · rw [if_pos c5] at h
        have c5b : (Int.tmod a2 2 == 1) = true := beq_iff_eq.2 c5
        clear c5
        by_cases c6 : 0 ≤ a2 ∧ a2 < (l.length : Int) ∧ 0 < r.length
        · rw [if_pos c6] at h
          obtain ⟨g1, g2, g3⟩ := c6
          have c5c : (a2 % 2 == 1) = true := by rw [← Int.tmod_eq_emod_of_nonneg g1]; exact c5b
          obtain ⟨adl, rfl, hcl⟩ := Kd.at_int HCL.out a2 g1 g2
          obtain ⟨adr, rfl, hcr⟩ := Kd.at_int HCR.out 0 (by omega) (by omega)
          rw [Int.toNat_zero, show adr.add 0 = adr from rfl] at hcr
          by_cases c7 : rd l a2 ≠ 0 ∨ rd r 0 ≠ 0
          · rw [if_pos c7] at h
            simp only [Option.some.injEq, Prod.mk.injEq] at h
            obtain ⟨rfl, rfl⟩ := h
            by_cases c9 : rd l a2 = 0
            · have c10 : (rd r 0 != 0) = true := bne_iff_ne.2 (by rcases c7 with c7 | c7; exact absurd c9 c7; exact c7)
              have c9b : (rd l a2 != 0) = false := by rw [c9]; rfl
              clear c7 c9
              go_wp2
              go_ret2
              exact ⟨_, rfl, Kd.R_nil _ _ _ _ _, HB4.out⟩
            · have c9b : (rd l a2 != 0) = true := bne_iff_ne.2 c9
              clear c7 c9
              go_wp2
              go_ret2
              exact ⟨_, rfl, Kd.R_nil _ _ _ _ _, HB4.out⟩
          · rw [if_neg c7] at h
            have c9 : rd l a2 = 0 := by by_cases q : rd l a2 = 0; exact q; exact absurd (Or.inl q) c7
            have c10 : rd r 0 = 0 := by by_cases q : rd r 0 = 0; exact q; exact absurd (Or.inr q) c7
            have c9b : (rd l a2 != 0) = false := by rw [c9]; rfl
            have c10b : (rd r 0 != 0) = false := by rw [c10]; rfl
            clear c7 c9 c10
            obtain ⟨A2, cr2, r', hr', hc1, hC2, hl2⟩ := crosswayref14_Join.drop1 HCR.out g3 HRC.out
            have HCR2 := Aside0.mk hC2
            rw [← hr'] at h
            clear hC2 hl2 hr'
            unfold crosswayref14_Join.tail at h
            by_cases c8 : 0 ≤ a2 ∧ a2 ≤ (l.length : Int) ∧ 0 < r'.length ∧ l.length + r'.length ≤ 140737488355328
            · rw [if_pos c8] at h
              obtain ⟨g4, g5, g6, g7⟩ := c8
              obtain ⟨t, ht, h⟩ := Option.bind_eq_some_iff.1 h
              simp only [Option.some.injEq, Prod.mk.injEq] at h
              obtain ⟨rfl, rfl⟩ := h
              obtain ⟨y, hy⟩ : ∃ y_ : List Int, y_ = l.take a2.toNat ++ r' := ⟨_, rfl⟩
              rw [← hy] at ht
              have HY := Aside0.mk hy
              have HT := Aside0.mk ht
              clear ht hy
              have HLT := Aside0.mk (show (l.take a2.toNat).length = a2.toNat by rw [List.length_take]; omega)
              obtain ⟨i0, hi0, _, _, _⟩ := info_parts info5
              have hcm := cut_max (P := Try.prog) 22 5 .i64 .i64 Try.underlying22 hi0 (some adl) l.length cl a2 g4 g5 HLC.out
              clear hi0
              go_wp2_with (first | (at_builtin; refine append_full (ik := .u8) (w0 := w) rfl (.tmp 43) (.tmp 44) 22 5 (.int .u8 0) 1 rfl Try.underlying22 info5 rfl (some adl) A2 cr2 (l.take a2.toNat) r' ?s1 ?s2 ?s3 ?s4 g6 ?s5 ?s6 HB4.out ?_; (case s1 => rw [HLT.out]; rfl); (case s2 => rfl); (case s3 => exact Kd.C_take HCL.out (by omega)); (case s4 => exact HCR2.out); (case s5 => rw [HLT.out]; omega); (case s6 => rw [HLT.out]; omega); intro v5 w5 ho5 hb5; rw [← HY.out] at ho5; obtain ⟨Ax, cx, rfl⟩ := Kd.R_slice ho5; have HB5 := Aside0.mk hb5; have HCX := Aside0.mk (Kd.R_reads' ho5).2.2; have HXC := Aside0.mk (Kd.R_reads' ho5).2.1; clear ho5 hb5) | (go_at_call 22; (with_reducible refine (crosswayref14_Bytes.calls k Ax cx y t _ HCX.out HXC.out HT.out).mono ?_); rintro e w6 ⟨v6, rfl, ho6, hb6⟩; have HB6 := Aside0.mk (below_step HB5.out hb6); have HO6 := Aside0.mk (Kd.R_lower ho6 (below_size HB5.out)); clear hb6 ho6))
              go_ret2
              exact ⟨_, rfl, HO6.out, HB6.out⟩
            · rw [if_neg c8] at h
              cases h
        · rw [if_neg c6] at h
          cases h
      · rw [if_neg c5] at h
        have c5b : (Int.tmod a2 2 == 1) = false := beq_eq_false_iff_ne.2 c5
        clear c5
        unfold crosswayref14_Join.tail at h
        by_cases c8 : 0 ≤ a2 ∧ a2 ≤ (l.length : Int) ∧ 0 < r.length ∧ l.length + r.length ≤ 140737488355328
        · rw [if_pos c8] at h
          obtain ⟨g4, g5, g6, g7⟩ := c8
          have c5c : (a2 % 2 == 1) = false := by rw [← Int.tmod_eq_emod_of_nonneg g4]; exact c5b
          obtain ⟨t, ht, h⟩ := Option.bind_eq_some_iff.1 h
          simp only [Option.some.injEq, Prod.mk.injEq] at h
          obtain ⟨rfl, rfl⟩ := h
          obtain ⟨y, hy⟩ : ∃ y_ : List Int, y_ = l.take a2.toNat ++ r := ⟨_, rfl⟩
          rw [← hy] at ht
          have HY := Aside0.mk hy
          have HT := Aside0.mk ht
          clear ht hy
          have HLT := Aside0.mk (show (l.take a2.toNat).length = a2.toNat by rw [List.length_take]; omega)
          obtain ⟨i0, hi0, _, _, _⟩ := info_parts info5
          have hcm := cut_max (P := Try.prog) 22 5 .i64 .i64 Try.underlying22 hi0 Al l.length cl a2 g4 g5 HLC.out
          clear hi0
          go_wp2_with (first | (at_builtin; refine append_full (ik := .u8) (w0 := w) rfl (.tmp 43) (.tmp 44) 22 5 (.int .u8 0) 1 rfl Try.underlying22 info5 rfl Al Ar cr (l.take a2.toNat) r ?s1 ?s2 ?s3 ?s4 g6 ?s5 ?s6 HB4.out ?_; (case s1 => rw [HLT.out]; rfl); (case s2 => rfl); (case s3 => exact Kd.C_take HCL.out (by omega)); (case s4 => exact HCR.out); (case s5 => rw [HLT.out]; omega); (case s6 => rw [HLT.out]; omega); intro v5 w5 ho5 hb5; rw [← HY.out] at ho5; obtain ⟨Ax, cx, rfl⟩ := Kd.R_slice ho5; have HB5 := Aside0.mk hb5; have HCX := Aside0.mk (Kd.R_reads' ho5).2.2; have HXC := Aside0.mk (Kd.R_reads' ho5).2.1; clear ho5 hb5) | (go_at_call 22; (with_reducible refine (crosswayref14_Bytes.calls k Ax cx y t _ HCX.out HXC.out HT.out).mono ?_); rintro e w6 ⟨v6, rfl, ho6, hb6⟩; have HB6 := Aside0.mk (below_step HB5.out hb6); have HO6 := Aside0.mk (Kd.R_lower ho6 (below_size HB5.out)); clear hb6 ho6))
          go_ret2
          exact ⟨_, rfl, HO6.out, HB6.out⟩
        · rw [if_neg c8] at h
          cases h


/-! ### crosswayref14_Trim: function 17 -/
def crosswayref14_Trim.j0 : Nat → Int → Bool → List Int → Bool → Option (List Int × Int)
  | 0, _, _, _, _ => none
  | k + 1, x1, x2, x8, x20 => if x20 = true then (if 0 ≤ x1 then (if x1 < (x8.length : Int) then ((some (x8.set (x1 : Int).toNat 0 : List Int)).bind fun y297 => (if (Int.tmod x1 2) = 1 then (if x2 = true then ((crosswayref14_Bytes.f k y297).bind fun t298 => (some (t298, 0))) else (if 0 < (x8.length : Int) then ((crosswayref14_Bytes.f k (y297.set (0 : Int).toNat 0)).bind fun t302 => (some (t302, 0))) else (none))) else ((crosswayref14_Bytes.f k y297).bind fun t305 => (some (t305, 0))))) else (none)) else (none)) else (if (Int.tmod x1 2) = 1 then (if x2 = true then ((crosswayref14_Bytes.f k x8).bind fun t308 => (some (t308, 0))) else (if 0 < (x8.length : Int) then ((crosswayref14_Bytes.f k (x8.set (0 : Int).toNat 0)).bind fun t312 => (some (t312, 0))) else (none))) else ((crosswayref14_Bytes.f k x8).bind fun t315 => (some (t315, 0))))
def crosswayref14_Trim.f (k : Nat) (l0 : List Int) (a1 : Int) (a2 : Bool) : Option (List Int × Int) := (crosswayref14_fit.f l0 a1).bind fun t293 => (if t293 = true then ((crosswayref14_Fours.f k l0).bind fun t294 => (if (Int.tmod a1 2) = 1 then (crosswayref14_Trim.j0 k a1 a2 t294 a2) else (crosswayref14_Trim.j0 k a1 a2 t294 false))) else (some (([] : List Int), 11)))
theorem crosswayref14_Trim.mono_l : ∀ k, (∀ y0 y1 y2 y3, LeO (crosswayref14_Trim.j0 k y0 y1 y2 y3) (crosswayref14_Trim.j0 (k + 1) y0 y1 y2 y3))
  | 0 => fun _ _ _ _ r h => by simp [crosswayref14_Trim.j0] at h
  | k + 1 => by
    have ih0 := crosswayref14_Trim.mono_l k
    · intro y0 y1 y2 y3
      unfold crosswayref14_Trim.j0
      repeat' first
      | (with_reducible exact ih0 _ _ _ _)
      | (with_reducible exact crosswayref14_Bytes.mono _ _)
      | (with_reducible exact crosswayref14_Fours.mono _ _)
      | (with_reducible exact LeO.refl _)
      | (with_reducible exact LeO.none _)
      | (with_reducible refine LeO.ite ?_ ?_)
      | (with_reducible refine LeO.bind ?_ (fun _ => ?_))
      | exact ih0 _ _ _ _
      | exact crosswayref14_Bytes.mono _ _
      | exact crosswayref14_Fours.mono _ _
      | exact LeO.none _
      | refine LeO.ite ?_ ?_
      | refine LeO.bind ?_ (fun _ => ?_)
theorem crosswayref14_Trim.mono : ∀ a0 a1 a2 k, LeO (crosswayref14_Trim.f k a0 a1 a2) (crosswayref14_Trim.f (k + 1) a0 a1 a2) := by
  intro a0 a1 a2 k
  have ih0 := crosswayref14_Trim.mono_l k
  unfold crosswayref14_Trim.f
  repeat' first
      | (with_reducible exact ih0 _ _ _ _)
      | (with_reducible exact crosswayref14_Bytes.mono _ _)
      | (with_reducible exact crosswayref14_Fours.mono _ _)
      | (with_reducible exact LeO.refl _)
      | (with_reducible exact LeO.none _)
      | (with_reducible refine LeO.ite ?_ ?_)
      | (with_reducible refine LeO.bind ?_ (fun _ => ?_))
      | exact ih0 _ _ _ _
      | exact crosswayref14_Bytes.mono _ _
      | exact crosswayref14_Fours.mono _ _
      | exact LeO.none _
      | refine LeO.ite ?_ ?_
      | refine LeO.bind ?_ (fun _ => ?_)
set_option maxHeartbeats 8000000 in
set_option maxRecDepth 100000 in
theorem crosswayref14_Trim.calls (k : Nat) (A0 : Option Addr) (c0 : Nat) (l0 : List Int) (a1 : Int) (a2 : Bool) (r1 : List Int) (r2 : Int) (w : World) (hr0 : Kd.C (Kd.int .u8) w A0 l0.length l0) (hc0 : l0.length ≤ c0) (h : crosswayref14_Trim.f k l0 a1 a2 = some (r1, r2)) :
    Calls Try.prog 17 #[.slice A0 l0.length c0, .int .i64 a1, .bool a2] w fun e w' => ∃ v0_ : Value, e = .returned (.tuple #[v0_, .int .i64 r2]) ∧ Kd.R (Kd.int .u8) 5 w' w.heap.size (fun _ => True) v0_ r1 ∧ Below w.heap.size w w' := by
  have HR0 := Aside0.mk hr0
  have HC0 := Aside0.mk hc0
  clear hr0 hc0
  have HB := Aside0.mk (Below.refl w.heap.size w)
  have H : ((crosswayref14_fit.f l0 a1).bind fun t293 => (if t293 = true then ((crosswayref14_Fours.f k l0).bind fun t294 => (if (Int.tmod a1 2) = 1 then (crosswayref14_Trim.j0 k a1 a2 t294 a2) else (crosswayref14_Trim.j0 k a1 a2 t294 false))) else (some (([] : List Int), 11)))) = some (r1, r2) := h
  clear h
  replace H := Option.bind_eq_some_iff.mp H
  obtain ⟨t293, A40, H⟩ := H
  replace H : (if t293 = true then ((crosswayref14_Fours.f k l0).bind fun t294 => (if (Int.tmod a1 2) = 1 then (crosswayref14_Trim.j0 k a1 a2 t294 a2) else (crosswayref14_Trim.j0 k a1 a2 t294 false))) else (some (([] : List Int), 11))) = some (r1, r2) := H
  have A4 := Aside0.mk A40
  clear A40
  by_cases c5 : t293 = true
  · subst c5
    have H1 : ((crosswayref14_Fours.f k l0).bind fun t294 => (if (Int.tmod a1 2) = 1 then (crosswayref14_Trim.j0 k a1 a2 t294 a2) else (crosswayref14_Trim.j0 k a1 a2 t294 false))) = some (r1, r2) := by rw [if_pos rfl] at H; exact H
    clear H
    have H := H1
    clear H1
    replace H := Option.bind_eq_some_iff.mp H
    obtain ⟨t294, A60, H⟩ := H
    replace H : (if (Int.tmod a1 2) = 1 then (crosswayref14_Trim.j0 k a1 a2 t294 a2) else (crosswayref14_Trim.j0 k a1 a2 t294 false)) = some (r1, r2) := H
    have A6 := Aside0.mk A60
    clear A60
    have HC7 := Aside0.mk H
    clear H
    go_enter Try.func17, Try.ntmps17
    go_upto_region 4 with (first | ((with_reducible refine gate_callee (f := 25) rfl ?_); refine goesL_ (some 11) rfl rfl Try.func25 (by kernel_rfl) rfl #[.slice A0 l0.length c0, .int .i64 a1] rfl (by (try simp only [List.map_toArray, List.map_cons, List.map_nil]); first | done | rfl | (simp only [List.length_drop, List.length_take]; rfl)) ?_; (with_reducible refine (crosswayref14_fit.calls _ _ l0 a1 true _ ?side1 ?side2 A4.out).mono ?_); (case side1 => repeat (first | exact HR0.out | (with_reducible refine Kd.C_alloc ?_ _) | (with_reducible refine Kd.C_drewN ?_ _) | (with_reducible refine Kd.C_drew ?_))); (case side2 => exact HC0.out); rintro e w' ⟨rfl, ⟨nd, rfl⟩⟩; refine ⟨_, rfl, ?_⟩) | ((with_reducible refine gate_callee (f := 21) rfl ?_); refine goesL_ (some 14) rfl rfl Try.func21 (by kernel_rfl) rfl #[.slice A0 l0.length c0] rfl (by (try simp only [List.map_toArray, List.map_cons, List.map_nil]); first | done | rfl | (simp only [List.length_drop, List.length_take]; rfl)) ?_; (with_reducible refine (crosswayref14_Fours.calls k _ _ l0 t294 _ ?side1 ?side2 A6.out).mono ?_); (case side1 => repeat (first | exact HR0.out | (with_reducible refine Kd.C_alloc ?_ _) | (with_reducible refine Kd.C_drewN ?_ _) | (with_reducible refine Kd.C_drew ?_))); (case side2 => exact HC0.out); rintro e w8 ⟨v295, rfl, ho0, hb⟩; refine ⟨_, rfl, ?_⟩; have n0_ := Aside0.mk (Kd.R_lower ho0 (below_size (by repeat (first | (with_reducible first | exact HB.out | apply below_alloc | apply pw_below_drewN | apply below_drew1) | exact HB.out)))); have n1_ := Aside0.mk (below_step (by repeat (first | (with_reducible first | exact HB.out | apply below_alloc | apply pw_below_drewN | apply below_drew1) | exact HB.out)) hb); clear HB; have HO296 := n0_; have HB := n1_; clear n0_ n1_; (try clear hb); (try clear hb2); (try clear hk); (try clear hi); (try clear ho0)))
    (try simp only [Act.put, List.setIfInBounds_toArray, List.set_cons_zero, List.set_cons_succ])
    go_cut [20] (fun v20 wc => ∃ (kq : Nat) (x20_6 : Bool), v20 = .bool x20_6 ∧ Aside0 (crosswayref14_Trim.j0 kq a1 a2 t294 x20_6 = some (r1, r2)) ∧ Aside0 (kq ≤ k) ∧ Aside0 (Kd.R (Kd.int .u8) 5 wc w.heap.size (fun _ => True) v295 t294) ∧ Aside0 (Below w.heap.size w wc))
    case first =>
      have H := HC7.out
      clear HC7
      by_cases c9 : (Int.tmod a1 2) = 1
      · rw [if_pos c9] at H
        have c9b0 : ((Int.tmod a1 2) == 1) = true := beq_iff_eq.mpr c9
        have c9b1 : ((Int.tmod a1 2) != 1) = false := bne_eq_false_iff_eq.mpr c9
        clear c9
        (first | rw [c9b0] | (simp only [i64_w, i32_w]; rw [c9b0]) | skip)
        have H' := Aside0.mk H
        clear H
        go_wp2
        go_meet
        case rel => exact ⟨_, (a2), (by first | rfl | (simp; done) | (simp [*]; done)), H', ⟨by first | omega | exact Nat.le_refl _⟩, ⟨by (with_reducible repeat (first | apply Kd.R_alloc | apply Kd.R_drewN | apply Kd.R_drew)); exact HO296.out⟩, ⟨by repeat (first | (with_reducible first | exact HB.out | apply below_alloc | apply pw_below_drewN | apply below_drew1) | exact HB.out)⟩⟩
      · rw [if_neg c9] at H
        have c9b0 : ((Int.tmod a1 2) == 1) = false := beq_eq_false_iff_ne.mpr c9
        have c9b1 : ((Int.tmod a1 2) != 1) = true := bne_iff_ne.mpr c9
        (first | rw [c9b0] | (simp only [i64_w, i32_w]; rw [c9b0]) | skip)
        have H' := Aside0.mk H
        clear H
        go_wp2
        go_meet
        case rel => exact ⟨_, (false), (by first | rfl | (simp; done) | (simp [*]; done)), H', ⟨by first | omega | exact Nat.le_refl _⟩, ⟨by (with_reducible repeat (first | apply Kd.R_alloc | apply Kd.R_drewN | apply Kd.R_drew)); exact HO296.out⟩, ⟨by repeat (first | (with_reducible first | exact HB.out | apply below_alloc | apply pw_below_drewN | apply below_drew1) | exact HB.out)⟩⟩
    case rest =>
      clear HC7
      try clear c1
      try clear c2
      try clear p2
      try clear c5
      try clear c9
      try clear c9b0
      try clear c9b1
      obtain ⟨kq, x20_6, rfl, HA, HJ6, HO_8, HB⟩ := hcut
      cases kq with
      | zero => exact absurd HA.out (by simp [crosswayref14_Trim.j0])
      | succ kj6 =>
        have H := HA.out
        clear HA
        simp only [crosswayref14_Trim.j0] at H
        by_cases c10 : x20_6 = true
        · subst c10
          have H1 : (if 0 ≤ a1 then (if a1 < (t294.length : Int) then ((some (t294.set (a1 : Int).toNat 0 : List Int)).bind fun y297 => (if (Int.tmod a1 2) = 1 then (if a2 = true then ((crosswayref14_Bytes.f kj6 y297).bind fun t298 => (some (t298, 0))) else (if 0 < (t294.length : Int) then ((crosswayref14_Bytes.f kj6 (y297.set (0 : Int).toNat 0)).bind fun t302 => (some (t302, 0))) else (none))) else ((crosswayref14_Bytes.f kj6 y297).bind fun t305 => (some (t305, 0))))) else (none)) else (none)) = some (r1, r2) := by rw [if_pos rfl] at H; exact H
          clear H
          have H := H1
          clear H1
          by_cases c11 : 0 ≤ a1
          · rw [if_pos c11] at H
            have c11b0 : decide (0 ≤ a1) = true := decide_eq_true c11
            clear c11
            by_cases c12 : a1 < (t294.length : Int)
            · rw [if_pos c12] at H
              have c12b0 : decide (a1 < (t294.length : Int)) = true := decide_eq_true c12
              clear c12
              obtain ⟨y297, hy297⟩ : ∃ y_ : List Int, y_ = (t294.set (a1 : Int).toNat 0) := ⟨_, rfl⟩
              replace H : (if (Int.tmod a1 2) = 1 then (if a2 = true then ((crosswayref14_Bytes.f kj6 y297).bind fun t298 => (some (t298, 0))) else (if 0 < (t294.length : Int) then ((crosswayref14_Bytes.f kj6 (y297.set (0 : Int).toNat 0)).bind fun t302 => (some (t302, 0))) else (none))) else ((crosswayref14_Bytes.f kj6 y297).bind fun t305 => (some (t305, 0)))) = some (r1, r2) := by first | (rw [hy297]; with_reducible exact H) | (have H2_ := (Option.bind_some _ _).symm.trans H; rw [hy297]; with_reducible exact H2_) | (have H2_ := (Option.bind_some _ _).symm.trans H; with_reducible exact H2_) | with_reducible exact H | (rw [hy297]; exact H) | exact H
              have Ny297 := Aside0.mk hy297
              clear hy297
              by_cases c14 : (Int.tmod a1 2) = 1
              · rw [if_pos c14] at H
                have c14b0 : ((Int.tmod a1 2) == 1) = true := beq_iff_eq.mpr c14
                have c14b1 : ((Int.tmod a1 2) != 1) = false := bne_eq_false_iff_eq.mpr c14
                clear c14
                by_cases c15 : a2 = true
                · subst c15
                  have H1 : ((crosswayref14_Bytes.f kj6 y297).bind fun t298 => (some (t298, 0))) = some (r1, r2) := by rw [if_pos rfl] at H; exact H
                  clear H
                  have H := H1
                  clear H1
                  replace H := Option.bind_eq_some_iff.mp H
                  obtain ⟨t298, A160, H⟩ := H
                  replace H : (some (t298, 0)) = some (r1, r2) := H
                  have A16 := Aside0.mk A160
                  clear A160
                  simp only [Option.some.injEq, Prod.mk.injEq] at H
                  obtain ⟨rfl, rfl⟩ := H
                  have p13 : 0 ≤ (a1 : Int) := of_decide_eq_true (by first | (with_reducible assumption) | assumption)
                  have q13 : (a1 : Int) < ((t294.length : Int) : Int) := of_decide_eq_true (by first | (with_reducible assumption) | assumption)
                  obtain ⟨go13, co13, eo13, gb13, gl13, cl13, HG13⟩ := Kd.R_form HO_8.out (by omega)
                  (first | cases eo13 | (injection eo13 with ea_ en_ ec_; (first | subst ea_ | (injection ea_ with ea_; subst ea_)); subst ec_; clear en_))
                  have GB13 := Aside0.mk gb13
                  have GG13 := Aside0.mk HG13
                  clear gb13 gl13 HG13
                  obtain ⟨hx13_0, hf13_0⟩ := Kd.R_celln 0 HO_8.out (a1 : Int) p13 q13
                  replace p13 := eq_true p13
                  replace q13 := eq_true q13
                  have HP17 := Kd.R_putg HO_8.out (a1 : Int) 0
                  go_wp2_with (first | ((with_reducible refine gate_store (t := 5) (p := 23) rfl ?_); refine store_event (t := 5) (p := 23) (v := ?vo_w18) (w1 := (wc.setCell ⟨go13, (a1 : Int).toNat, none⟩ (.int .u8 0))) ?hg ?ho ?hn ?hr ?_; (case ho => rfl); (case hg => rfl); (case hn => rfl); (case hr => first | (go_simp; done) | (go_simp; rfl)); intro w18 hw; have hg : wc.grownBy w18 (some go13) := (by rw [hw]; exact HP17.2); have hp_ : Kd.R (Kd.int .u8) 5 w18 w.heap.size (fun _ => True) (.slice (some ⟨go13, 0, none⟩) t294.length co13) y297 := (by rw [hw, Ny297.out]; exact HP17.1); clear HP17; have n0_ := Aside0.mk (hp_); have n1_ := Aside0.mk ((by rw [hw]; exact below_set (HB.out) GB13.out : Below w.heap.size w w18)); clear HO_8; clear HB; have HO_8 := n0_; have HB := n1_; clear n0_ n1_; clear hg hw hp_) | ((with_reducible refine gate_callee (f := 22) rfl ?_); refine goesL_ (some 34) rfl rfl Try.func22 (by kernel_rfl) rfl #[.slice (some ⟨go13, 0, none⟩) y297.length co13] rfl (by (try simp only [List.map_toArray, List.map_cons, List.map_nil]); first | done | (rw [show y297.length = t294.length from (Kd.R_reads' HO_8.out).1.symm] <;> rfl) | rfl | (simp only [List.length_drop, List.length_take]; rfl)) ?_; (with_reducible refine (crosswayref14_Bytes.calls kj6 _ _ y297 t298 _ ?side1 ?side2 A16.out).mono ?_); (case side1 => repeat (first | exact (Kd.R_reads' HO_8.out).2.2 | (with_reducible refine Kd.C_alloc ?_ _) | (with_reducible refine Kd.C_drewN ?_ _) | (with_reducible refine Kd.C_drew ?_))); (case side2 => rw [show y297.length = t294.length from (Kd.R_reads' HO_8.out).1.symm]; exact (Kd.R_reads' HO_8.out).2.1); rintro e w19 ⟨v299, rfl, ho0, hb⟩; refine ⟨_, rfl, ?_⟩; have n0_ := Aside0.mk (Kd.R_elder' (by (with_reducible repeat (first | apply Kd.R_alloc | apply Kd.R_drewN | apply Kd.R_drew)); exact HO_8.out) (Kd.R_base ho0) hb); have n1_ := Aside0.mk (Kd.R_lower (Kd.R_new' ho0 (Kd.R_lt (by (with_reducible repeat (first | apply Kd.R_alloc | apply Kd.R_drewN | apply Kd.R_drew)); exact HO_8.out))) (below_size (by repeat (first | (with_reducible first | exact HB.out | apply below_alloc | apply pw_below_drewN | apply below_drew1) | exact HB.out)))); have n2_ := Aside0.mk (below_step (by repeat (first | (with_reducible first | exact HB.out | apply below_alloc | apply pw_below_drewN | apply below_drew1) | exact HB.out)) hb); clear HO_8; clear HB; have HO_8 := n0_; have HO300 := n1_; have HB := n2_; clear n0_ n1_ n2_; (try clear hb); (try clear hb2); (try clear hk); (try clear hi); (try clear ho0)))
                  go_ret2
                  exact ⟨_, by first | rfl | (simp [errW_none, errW_some] <;> rfl) | (simp [*, errW_none, errW_some] <;> rfl), by (with_reducible repeat (first | apply Kd.R_alloc | apply Kd.R_drewN | apply Kd.R_drew)); exact Kd.R_mono HO300.out (fun _ hk => trivial), by repeat (first | (with_reducible first | exact HB.out | apply below_alloc | apply pw_below_drewN | apply below_drew1) | exact HB.out)⟩
                · replace c15 := Bool.eq_false_iff.mpr c15
                  subst c15
                  have H1 : (if 0 < (t294.length : Int) then ((crosswayref14_Bytes.f kj6 (y297.set (0 : Int).toNat 0)).bind fun t302 => (some (t302, 0))) else (none)) = some (r1, r2) := by rw [if_neg (show ¬ (false = true) by decide)] at H; exact H
                  clear H
                  have H := H1
                  clear H1
                  by_cases c20 : 0 < (t294.length : Int)
                  · rw [if_pos c20] at H
                    have c20b0 : decide (0 < (t294.length : Int)) = true := decide_eq_true c20
                    have c20b1 : decide (0 < t294.length) = true := decide_eq_true (by omega)
                    clear c20
                    obtain ⟨y301, hy301⟩ : ∃ y_ : List Int, y_ = (y297.set (0 : Int).toNat 0) := ⟨_, rfl⟩
                    replace H : ((crosswayref14_Bytes.f kj6 y301).bind fun t302 => (some (t302, 0))) = some (r1, r2) := by first | (rw [hy301]; with_reducible exact H) | (have H2_ := (Option.bind_some _ _).symm.trans H; rw [hy301]; with_reducible exact H2_) | (have H2_ := (Option.bind_some _ _).symm.trans H; with_reducible exact H2_) | with_reducible exact H | (rw [hy301]; exact H) | exact H
                    have Ny301 := Aside0.mk hy301
                    clear hy301
                    replace H := Option.bind_eq_some_iff.mp H
                    obtain ⟨t302, A220, H⟩ := H
                    replace H : (some (t302, 0)) = some (r1, r2) := H
                    have A22 := Aside0.mk A220
                    clear A220
                    simp only [Option.some.injEq, Prod.mk.injEq] at H
                    obtain ⟨rfl, rfl⟩ := H
                    have p13 : 0 ≤ (a1 : Int) := of_decide_eq_true (by first | (with_reducible assumption) | assumption)
                    have q13 : (a1 : Int) < ((t294.length : Int) : Int) := of_decide_eq_true (by first | (with_reducible assumption) | assumption)
                    obtain ⟨go13, co13, eo13, gb13, gl13, cl13, HG13⟩ := Kd.R_form HO_8.out (by omega)
                    (first | cases eo13 | (injection eo13 with ea_ en_ ec_; (first | subst ea_ | (injection ea_ with ea_; subst ea_)); subst ec_; clear en_))
                    have GB13 := Aside0.mk gb13
                    have GG13 := Aside0.mk HG13
                    clear gb13 gl13 HG13
                    obtain ⟨hx13_0, hf13_0⟩ := Kd.R_celln 0 HO_8.out (a1 : Int) p13 q13
                    replace p13 := eq_true p13
                    replace q13 := eq_true q13
                    have HP23 := Kd.R_putg HO_8.out (a1 : Int) 0
                    go_wp2_with (first | ((with_reducible refine gate_store (t := 5) (p := 23) rfl ?_); refine store_event (t := 5) (p := 23) (v := ?vo_w24) (w1 := (wc.setCell ⟨go13, (a1 : Int).toNat, none⟩ (.int .u8 0))) ?hg ?ho ?hn ?hr ?_; (case ho => rfl); (case hg => rfl); (case hn => rfl); (case hr => first | (go_simp; done) | (go_simp; rfl)); intro w24 hw; have hg : wc.grownBy w24 (some go13) := (by rw [hw]; exact HP23.2); have hp_ : Kd.R (Kd.int .u8) 5 w24 w.heap.size (fun _ => True) (.slice (some ⟨go13, 0, none⟩) t294.length co13) y297 := (by rw [hw, Ny297.out]; exact HP23.1); clear HP23; have n0_ := Aside0.mk (hp_); have n1_ := Aside0.mk ((by rw [hw]; exact below_set (HB.out) GB13.out : Below w.heap.size w w24)); clear HO_8; clear HB; have HO_8 := n0_; have HB := n1_; clear n0_ n1_; clear hg hw hp_; have p21 : 0 ≤ (0 : Int) := (by omega); have q21 : (0 : Int) < ((t294.length : Int) : Int) := of_decide_eq_true (by first | (with_reducible assumption) | assumption); have qi21 : (0 < t294.length) = True := eq_true (by omega); obtain ⟨hx21_0, hf21_0⟩ := Kd.R_celln 0 HO_8.out (0 : Int) p21 q21; (try rw [show ((0 : Int)).toNat = 0 from rfl] at hx21_0); (try simp only [Nat.reduceMul, Nat.zero_mul, Nat.zero_add, Nat.reduceAdd] at hx21_0); (try rw [show ((0 : Int)).toNat = 0 from rfl] at hf21_0); (try simp only [Nat.reduceMul, Nat.zero_mul, Nat.zero_add, Nat.reduceAdd] at hf21_0); replace p21 := eq_true p21; replace q21 := eq_true q21; obtain ⟨hy25_, hz25_⟩ := Kd.R_celln 0 HO_8.out (0 : Int) (by omega) (of_decide_eq_true (by first | (with_reducible assumption) | assumption)); (try simp only [Int.reduceToNat, Int.toNat_zero, Int.toNat_ofNat, Nat.reduceMul, Nat.zero_mul, Nat.zero_add] at hy25_ hz25_); (try rw [show ((0 : Int)).toNat = 0 from rfl] at hy25_); (try rw [show ((0 : Int)).toNat = 0 from rfl] at hz25_); have HP25 := Kd.R_putg HO_8.out (0 : Int) 0) | ((with_reducible refine gate_store (t := 5) (p := 32) rfl ?_); refine store_event (t := 5) (p := 32) (v := ?vo_w26) (w1 := (w24.setCell ⟨go13, (0 : Int).toNat, none⟩ (.int .u8 0))) ?hg ?ho ?hn ?hr ?_; (case ho => rfl); (case hg => rfl); (case hn => rfl); (case hr => first | (go_simp; done) | (go_simp; rfl)); intro w26 hw; have hg : w24.grownBy w26 (some go13) := (by rw [hw]; exact HP25.2); have hp_ : Kd.R (Kd.int .u8) 5 w26 w.heap.size (fun _ => True) (.slice (some ⟨go13, 0, none⟩) t294.length co13) y301 := (by rw [hw, Ny301.out]; exact HP25.1); clear HP25; have n0_ := Aside0.mk (hp_); have n1_ := Aside0.mk ((by rw [hw]; exact below_set (HB.out) GB13.out : Below w.heap.size w w26)); clear HO_8; clear HB; have HO_8 := n0_; have HB := n1_; clear n0_ n1_; clear hg hw hp_) | ((with_reducible refine gate_callee (f := 22) rfl ?_); refine goesL_ (some 34) rfl rfl Try.func22 (by kernel_rfl) rfl #[.slice (some ⟨go13, 0, none⟩) y301.length co13] rfl (by (try simp only [List.map_toArray, List.map_cons, List.map_nil]); first | done | (rw [show y301.length = t294.length from (Kd.R_reads' HO_8.out).1.symm] <;> rfl) | rfl | (simp only [List.length_drop, List.length_take]; rfl)) ?_; (with_reducible refine (crosswayref14_Bytes.calls kj6 _ _ y301 t302 _ ?side1 ?side2 A22.out).mono ?_); (case side1 => repeat (first | exact (Kd.R_reads' HO_8.out).2.2 | (with_reducible refine Kd.C_alloc ?_ _) | (with_reducible refine Kd.C_drewN ?_ _) | (with_reducible refine Kd.C_drew ?_))); (case side2 => rw [show y301.length = t294.length from (Kd.R_reads' HO_8.out).1.symm]; exact (Kd.R_reads' HO_8.out).2.1); rintro e w27 ⟨v303, rfl, ho0, hb⟩; refine ⟨_, rfl, ?_⟩; have n0_ := Aside0.mk (Kd.R_elder' (by (with_reducible repeat (first | apply Kd.R_alloc | apply Kd.R_drewN | apply Kd.R_drew)); exact HO_8.out) (Kd.R_base ho0) hb); have n1_ := Aside0.mk (Kd.R_lower (Kd.R_new' ho0 (Kd.R_lt (by (with_reducible repeat (first | apply Kd.R_alloc | apply Kd.R_drewN | apply Kd.R_drew)); exact HO_8.out))) (below_size (by repeat (first | (with_reducible first | exact HB.out | apply below_alloc | apply pw_below_drewN | apply below_drew1) | exact HB.out)))); have n2_ := Aside0.mk (below_step (by repeat (first | (with_reducible first | exact HB.out | apply below_alloc | apply pw_below_drewN | apply below_drew1) | exact HB.out)) hb); clear HO_8; clear HB; have HO_8 := n0_; have HO304 := n1_; have HB := n2_; clear n0_ n1_ n2_; (try clear hb); (try clear hb2); (try clear hk); (try clear hi); (try clear ho0)))
                    go_ret2
                    exact ⟨_, by first | rfl | (simp [errW_none, errW_some] <;> rfl) | (simp [*, errW_none, errW_some] <;> rfl), by (with_reducible repeat (first | apply Kd.R_alloc | apply Kd.R_drewN | apply Kd.R_drew)); exact Kd.R_mono HO304.out (fun _ hk => trivial), by repeat (first | (with_reducible first | exact HB.out | apply below_alloc | apply pw_below_drewN | apply below_drew1) | exact HB.out)⟩
                  · rw [if_neg c20] at H
                    exact absurd H (by simp)
              · rw [if_neg c14] at H
                have c14b0 : ((Int.tmod a1 2) == 1) = false := beq_eq_false_iff_ne.mpr c14
                have c14b1 : ((Int.tmod a1 2) != 1) = true := bne_iff_ne.mpr c14
                replace H := Option.bind_eq_some_iff.mp H
                obtain ⟨t305, A280, H⟩ := H
                replace H : (some (t305, 0)) = some (r1, r2) := H
                have A28 := Aside0.mk A280
                clear A280
                simp only [Option.some.injEq, Prod.mk.injEq] at H
                obtain ⟨rfl, rfl⟩ := H
                have p13 : 0 ≤ (a1 : Int) := of_decide_eq_true (by first | (with_reducible assumption) | assumption)
                have q13 : (a1 : Int) < ((t294.length : Int) : Int) := of_decide_eq_true (by first | (with_reducible assumption) | assumption)
                obtain ⟨go13, co13, eo13, gb13, gl13, cl13, HG13⟩ := Kd.R_form HO_8.out (by omega)
                (first | cases eo13 | (injection eo13 with ea_ en_ ec_; (first | subst ea_ | (injection ea_ with ea_; subst ea_)); subst ec_; clear en_))
                have GB13 := Aside0.mk gb13
                have GG13 := Aside0.mk HG13
                clear gb13 gl13 HG13
                obtain ⟨hx13_0, hf13_0⟩ := Kd.R_celln 0 HO_8.out (a1 : Int) p13 q13
                replace p13 := eq_true p13
                replace q13 := eq_true q13
                have HP29 := Kd.R_putg HO_8.out (a1 : Int) 0
                go_wp2_with (first | ((with_reducible refine gate_store (t := 5) (p := 23) rfl ?_); refine store_event (t := 5) (p := 23) (v := ?vo_w30) (w1 := (wc.setCell ⟨go13, (a1 : Int).toNat, none⟩ (.int .u8 0))) ?hg ?ho ?hn ?hr ?_; (case ho => rfl); (case hg => rfl); (case hn => rfl); (case hr => first | (go_simp; done) | (go_simp; rfl)); intro w30 hw; have hg : wc.grownBy w30 (some go13) := (by rw [hw]; exact HP29.2); have hp_ : Kd.R (Kd.int .u8) 5 w30 w.heap.size (fun _ => True) (.slice (some ⟨go13, 0, none⟩) t294.length co13) y297 := (by rw [hw, Ny297.out]; exact HP29.1); clear HP29; have n0_ := Aside0.mk (hp_); have n1_ := Aside0.mk ((by rw [hw]; exact below_set (HB.out) GB13.out : Below w.heap.size w w30)); clear HO_8; clear HB; have HO_8 := n0_; have HB := n1_; clear n0_ n1_; clear hg hw hp_) | ((with_reducible refine gate_callee (f := 22) rfl ?_); refine goesL_ (some 34) rfl rfl Try.func22 (by kernel_rfl) rfl #[.slice (some ⟨go13, 0, none⟩) y297.length co13] rfl (by (try simp only [List.map_toArray, List.map_cons, List.map_nil]); first | done | (rw [show y297.length = t294.length from (Kd.R_reads' HO_8.out).1.symm] <;> rfl) | rfl | (simp only [List.length_drop, List.length_take]; rfl)) ?_; (with_reducible refine (crosswayref14_Bytes.calls kj6 _ _ y297 t305 _ ?side1 ?side2 A28.out).mono ?_); (case side1 => repeat (first | exact (Kd.R_reads' HO_8.out).2.2 | (with_reducible refine Kd.C_alloc ?_ _) | (with_reducible refine Kd.C_drewN ?_ _) | (with_reducible refine Kd.C_drew ?_))); (case side2 => rw [show y297.length = t294.length from (Kd.R_reads' HO_8.out).1.symm]; exact (Kd.R_reads' HO_8.out).2.1); rintro e w31 ⟨v306, rfl, ho0, hb⟩; refine ⟨_, rfl, ?_⟩; have n0_ := Aside0.mk (Kd.R_elder' (by (with_reducible repeat (first | apply Kd.R_alloc | apply Kd.R_drewN | apply Kd.R_drew)); exact HO_8.out) (Kd.R_base ho0) hb); have n1_ := Aside0.mk (Kd.R_lower (Kd.R_new' ho0 (Kd.R_lt (by (with_reducible repeat (first | apply Kd.R_alloc | apply Kd.R_drewN | apply Kd.R_drew)); exact HO_8.out))) (below_size (by repeat (first | (with_reducible first | exact HB.out | apply below_alloc | apply pw_below_drewN | apply below_drew1) | exact HB.out)))); have n2_ := Aside0.mk (below_step (by repeat (first | (with_reducible first | exact HB.out | apply below_alloc | apply pw_below_drewN | apply below_drew1) | exact HB.out)) hb); clear HO_8; clear HB; have HO_8 := n0_; have HO307 := n1_; have HB := n2_; clear n0_ n1_ n2_; (try clear hb); (try clear hb2); (try clear hk); (try clear hi); (try clear ho0)))
                go_ret2
                exact ⟨_, by first | rfl | (simp [errW_none, errW_some] <;> rfl) | (simp [*, errW_none, errW_some] <;> rfl), by (with_reducible repeat (first | apply Kd.R_alloc | apply Kd.R_drewN | apply Kd.R_drew)); exact Kd.R_mono HO307.out (fun _ hk => trivial), by repeat (first | (with_reducible first | exact HB.out | apply below_alloc | apply pw_below_drewN | apply below_drew1) | exact HB.out)⟩
            · rw [if_neg c12] at H
              exact absurd H (by simp)
          · rw [if_neg c11] at H
            exact absurd H (by simp)
        · replace c10 := Bool.eq_false_iff.mpr c10
          subst c10
          have H1 : (if (Int.tmod a1 2) = 1 then (if a2 = true then ((crosswayref14_Bytes.f kj6 t294).bind fun t308 => (some (t308, 0))) else (if 0 < (t294.length : Int) then ((crosswayref14_Bytes.f kj6 (t294.set (0 : Int).toNat 0)).bind fun t312 => (some (t312, 0))) else (none))) else ((crosswayref14_Bytes.f kj6 t294).bind fun t315 => (some (t315, 0)))) = some (r1, r2) := by rw [if_neg (show ¬ (false = true) by decide)] at H; exact H
          clear H
          have H := H1
          clear H1
          by_cases c32 : (Int.tmod a1 2) = 1
          · rw [if_pos c32] at H
            have c32b0 : ((Int.tmod a1 2) == 1) = true := beq_iff_eq.mpr c32
            have c32b1 : ((Int.tmod a1 2) != 1) = false := bne_eq_false_iff_eq.mpr c32
            clear c32
            by_cases c33 : a2 = true
            · subst c33
              have H1 : ((crosswayref14_Bytes.f kj6 t294).bind fun t308 => (some (t308, 0))) = some (r1, r2) := by rw [if_pos rfl] at H; exact H
              clear H
              have H := H1
              clear H1
              replace H := Option.bind_eq_some_iff.mp H
              obtain ⟨t308, A340, H⟩ := H
              replace H : (some (t308, 0)) = some (r1, r2) := H
              have A34 := Aside0.mk A340
              clear A340
              simp only [Option.some.injEq, Prod.mk.injEq] at H
              obtain ⟨rfl, rfl⟩ := H
              obtain ⟨Ao35, co35, eo35⟩ := Kd.R_slice HO_8.out
              subst eo35
              go_wp2_with (first | ((with_reducible refine gate_callee (f := 22) rfl ?_); refine goesL_ (some 34) rfl rfl Try.func22 (by kernel_rfl) rfl #[.slice Ao35 t294.length co35] rfl (by (try simp only [List.map_toArray, List.map_cons, List.map_nil]); first | done | rfl | (simp only [List.length_drop, List.length_take]; rfl)) ?_; (with_reducible refine (crosswayref14_Bytes.calls kj6 _ _ t294 t308 _ ?side1 ?side2 A34.out).mono ?_); (case side1 => repeat (first | exact (Kd.R_reads' HO_8.out).2.2 | (with_reducible refine Kd.C_alloc ?_ _) | (with_reducible refine Kd.C_drewN ?_ _) | (with_reducible refine Kd.C_drew ?_))); (case side2 => exact (Kd.R_reads' HO_8.out).2.1); rintro e w36 ⟨v309, rfl, ho0, hb⟩; refine ⟨_, rfl, ?_⟩; have n0_ := Aside0.mk (Kd.R_elder' (by (with_reducible repeat (first | apply Kd.R_alloc | apply Kd.R_drewN | apply Kd.R_drew)); exact HO_8.out) (Kd.R_base ho0) hb); have n1_ := Aside0.mk (Kd.R_lower (Kd.R_new' ho0 (Kd.R_lt (by (with_reducible repeat (first | apply Kd.R_alloc | apply Kd.R_drewN | apply Kd.R_drew)); exact HO_8.out))) (below_size (by repeat (first | (with_reducible first | exact HB.out | apply below_alloc | apply pw_below_drewN | apply below_drew1) | exact HB.out)))); have n2_ := Aside0.mk (below_step (by repeat (first | (with_reducible first | exact HB.out | apply below_alloc | apply pw_below_drewN | apply below_drew1) | exact HB.out)) hb); clear HO_8; clear HB; have HO_8 := n0_; have HO310 := n1_; have HB := n2_; clear n0_ n1_ n2_; (try clear hb); (try clear hb2); (try clear hk); (try clear hi); (try clear ho0)))
              go_ret2
              exact ⟨_, by first | rfl | (simp [errW_none, errW_some] <;> rfl) | (simp [*, errW_none, errW_some] <;> rfl), by (with_reducible repeat (first | apply Kd.R_alloc | apply Kd.R_drewN | apply Kd.R_drew)); exact Kd.R_mono HO310.out (fun _ hk => trivial), by repeat (first | (with_reducible first | exact HB.out | apply below_alloc | apply pw_below_drewN | apply below_drew1) | exact HB.out)⟩
            · replace c33 := Bool.eq_false_iff.mpr c33
              subst c33
              have H1 : (if 0 < (t294.length : Int) then ((crosswayref14_Bytes.f kj6 (t294.set (0 : Int).toNat 0)).bind fun t312 => (some (t312, 0))) else (none)) = some (r1, r2) := by rw [if_neg (show ¬ (false = true) by decide)] at H; exact H
              clear H
              have H := H1
              clear H1
              by_cases c37 : 0 < (t294.length : Int)
              · rw [if_pos c37] at H
                have c37b0 : decide (0 < (t294.length : Int)) = true := decide_eq_true c37
                have c37b1 : decide (0 < t294.length) = true := decide_eq_true (by omega)
                clear c37
                obtain ⟨y311, hy311⟩ : ∃ y_ : List Int, y_ = (t294.set (0 : Int).toNat 0) := ⟨_, rfl⟩
                replace H : ((crosswayref14_Bytes.f kj6 y311).bind fun t312 => (some (t312, 0))) = some (r1, r2) := by first | (rw [hy311]; with_reducible exact H) | (have H2_ := (Option.bind_some _ _).symm.trans H; rw [hy311]; with_reducible exact H2_) | (have H2_ := (Option.bind_some _ _).symm.trans H; with_reducible exact H2_) | with_reducible exact H | (rw [hy311]; exact H) | exact H
                have Ny311 := Aside0.mk hy311
                clear hy311
                replace H := Option.bind_eq_some_iff.mp H
                obtain ⟨t312, A390, H⟩ := H
                replace H : (some (t312, 0)) = some (r1, r2) := H
                have A39 := Aside0.mk A390
                clear A390
                simp only [Option.some.injEq, Prod.mk.injEq] at H
                obtain ⟨rfl, rfl⟩ := H
                have p38 : 0 ≤ (0 : Int) := (by omega)
                have q38 : (0 : Int) < ((t294.length : Int) : Int) := of_decide_eq_true (by first | (with_reducible assumption) | assumption)
                have qi38 : (0 < t294.length) = True := eq_true (by omega)
                obtain ⟨go38, co38, eo38, gb38, gl38, cl38, HG38⟩ := Kd.R_form HO_8.out (by omega)
                (first | cases eo38 | (injection eo38 with ea_ en_ ec_; (first | subst ea_ | (injection ea_ with ea_; subst ea_)); subst ec_; clear en_))
                have GB38 := Aside0.mk gb38
                have GG38 := Aside0.mk HG38
                clear gb38 gl38 HG38
                obtain ⟨hx38_0, hf38_0⟩ := Kd.R_celln 0 HO_8.out (0 : Int) p38 q38
                (try rw [show ((0 : Int)).toNat = 0 from rfl] at hx38_0)
                (try simp only [Nat.reduceMul, Nat.zero_mul, Nat.zero_add, Nat.reduceAdd] at hx38_0)
                (try rw [show ((0 : Int)).toNat = 0 from rfl] at hf38_0)
                (try simp only [Nat.reduceMul, Nat.zero_mul, Nat.zero_add, Nat.reduceAdd] at hf38_0)
                replace p38 := eq_true p38
                replace q38 := eq_true q38
                have HP40 := Kd.R_putg HO_8.out (0 : Int) 0
                go_wp2_with (first | ((with_reducible refine gate_store (t := 5) (p := 32) rfl ?_); refine store_event (t := 5) (p := 32) (v := ?vo_w41) (w1 := (wc.setCell ⟨go38, (0 : Int).toNat, none⟩ (.int .u8 0))) ?hg ?ho ?hn ?hr ?_; (case ho => rfl); (case hg => rfl); (case hn => rfl); (case hr => first | (go_simp; done) | (go_simp; rfl)); intro w41 hw; have hg : wc.grownBy w41 (some go38) := (by rw [hw]; exact HP40.2); have hp_ : Kd.R (Kd.int .u8) 5 w41 w.heap.size (fun _ => True) (.slice (some ⟨go38, 0, none⟩) t294.length co38) y311 := (by rw [hw, Ny311.out]; exact HP40.1); clear HP40; have n0_ := Aside0.mk (hp_); have n1_ := Aside0.mk ((by rw [hw]; exact below_set (HB.out) GB38.out : Below w.heap.size w w41)); clear HO_8; clear HB; have HO_8 := n0_; have HB := n1_; clear n0_ n1_; clear hg hw hp_) | ((with_reducible refine gate_callee (f := 22) rfl ?_); refine goesL_ (some 34) rfl rfl Try.func22 (by kernel_rfl) rfl #[.slice (some ⟨go38, 0, none⟩) y311.length co38] rfl (by (try simp only [List.map_toArray, List.map_cons, List.map_nil]); first | done | (rw [show y311.length = t294.length from (Kd.R_reads' HO_8.out).1.symm] <;> rfl) | rfl | (simp only [List.length_drop, List.length_take]; rfl)) ?_; (with_reducible refine (crosswayref14_Bytes.calls kj6 _ _ y311 t312 _ ?side1 ?side2 A39.out).mono ?_); (case side1 => repeat (first | exact (Kd.R_reads' HO_8.out).2.2 | (with_reducible refine Kd.C_alloc ?_ _) | (with_reducible refine Kd.C_drewN ?_ _) | (with_reducible refine Kd.C_drew ?_))); (case side2 => rw [show y311.length = t294.length from (Kd.R_reads' HO_8.out).1.symm]; exact (Kd.R_reads' HO_8.out).2.1); rintro e w42 ⟨v313, rfl, ho0, hb⟩; refine ⟨_, rfl, ?_⟩; have n0_ := Aside0.mk (Kd.R_elder' (by (with_reducible repeat (first | apply Kd.R_alloc | apply Kd.R_drewN | apply Kd.R_drew)); exact HO_8.out) (Kd.R_base ho0) hb); have n1_ := Aside0.mk (Kd.R_lower (Kd.R_new' ho0 (Kd.R_lt (by (with_reducible repeat (first | apply Kd.R_alloc | apply Kd.R_drewN | apply Kd.R_drew)); exact HO_8.out))) (below_size (by repeat (first | (with_reducible first | exact HB.out | apply below_alloc | apply pw_below_drewN | apply below_drew1) | exact HB.out)))); have n2_ := Aside0.mk (below_step (by repeat (first | (with_reducible first | exact HB.out | apply below_alloc | apply pw_below_drewN | apply below_drew1) | exact HB.out)) hb); clear HO_8; clear HB; have HO_8 := n0_; have HO314 := n1_; have HB := n2_; clear n0_ n1_ n2_; (try clear hb); (try clear hb2); (try clear hk); (try clear hi); (try clear ho0)))
                go_ret2
                exact ⟨_, by first | rfl | (simp [errW_none, errW_some] <;> rfl) | (simp [*, errW_none, errW_some] <;> rfl), by (with_reducible repeat (first | apply Kd.R_alloc | apply Kd.R_drewN | apply Kd.R_drew)); exact Kd.R_mono HO314.out (fun _ hk => trivial), by repeat (first | (with_reducible first | exact HB.out | apply below_alloc | apply pw_below_drewN | apply below_drew1) | exact HB.out)⟩
              · rw [if_neg c37] at H
                exact absurd H (by simp)
          · rw [if_neg c32] at H
            have c32b0 : ((Int.tmod a1 2) == 1) = false := beq_eq_false_iff_ne.mpr c32
            have c32b1 : ((Int.tmod a1 2) != 1) = true := bne_iff_ne.mpr c32
            replace H := Option.bind_eq_some_iff.mp H
            obtain ⟨t315, A430, H⟩ := H
            replace H : (some (t315, 0)) = some (r1, r2) := H
            have A43 := Aside0.mk A430
            clear A430
            simp only [Option.some.injEq, Prod.mk.injEq] at H
            obtain ⟨rfl, rfl⟩ := H
            obtain ⟨Ao44, co44, eo44⟩ := Kd.R_slice HO_8.out
            subst eo44
            go_wp2_with (first | ((with_reducible refine gate_callee (f := 22) rfl ?_); refine goesL_ (some 34) rfl rfl Try.func22 (by kernel_rfl) rfl #[.slice Ao44 t294.length co44] rfl (by (try simp only [List.map_toArray, List.map_cons, List.map_nil]); first | done | rfl | (simp only [List.length_drop, List.length_take]; rfl)) ?_; (with_reducible refine (crosswayref14_Bytes.calls kj6 _ _ t294 t315 _ ?side1 ?side2 A43.out).mono ?_); (case side1 => repeat (first | exact (Kd.R_reads' HO_8.out).2.2 | (with_reducible refine Kd.C_alloc ?_ _) | (with_reducible refine Kd.C_drewN ?_ _) | (with_reducible refine Kd.C_drew ?_))); (case side2 => exact (Kd.R_reads' HO_8.out).2.1); rintro e w45 ⟨v316, rfl, ho0, hb⟩; refine ⟨_, rfl, ?_⟩; have n0_ := Aside0.mk (Kd.R_elder' (by (with_reducible repeat (first | apply Kd.R_alloc | apply Kd.R_drewN | apply Kd.R_drew)); exact HO_8.out) (Kd.R_base ho0) hb); have n1_ := Aside0.mk (Kd.R_lower (Kd.R_new' ho0 (Kd.R_lt (by (with_reducible repeat (first | apply Kd.R_alloc | apply Kd.R_drewN | apply Kd.R_drew)); exact HO_8.out))) (below_size (by repeat (first | (with_reducible first | exact HB.out | apply below_alloc | apply pw_below_drewN | apply below_drew1) | exact HB.out)))); have n2_ := Aside0.mk (below_step (by repeat (first | (with_reducible first | exact HB.out | apply below_alloc | apply pw_below_drewN | apply below_drew1) | exact HB.out)) hb); clear HO_8; clear HB; have HO_8 := n0_; have HO317 := n1_; have HB := n2_; clear n0_ n1_ n2_; (try clear hb); (try clear hb2); (try clear hk); (try clear hi); (try clear ho0)))
            go_ret2
            exact ⟨_, by first | rfl | (simp [errW_none, errW_some] <;> rfl) | (simp [*, errW_none, errW_some] <;> rfl), by (with_reducible repeat (first | apply Kd.R_alloc | apply Kd.R_drewN | apply Kd.R_drew)); exact Kd.R_mono HO317.out (fun _ hk => trivial), by repeat (first | (with_reducible first | exact HB.out | apply below_alloc | apply pw_below_drewN | apply below_drew1) | exact HB.out)⟩
  · replace c5 := Bool.eq_false_iff.mpr c5
    subst c5
    have H1 : (some (([] : List Int), 11)) = some (r1, r2) := by rw [if_neg (show ¬ (false = true) by decide)] at H; exact H
    clear H
    have H := H1
    clear H1
    simp only [Option.some.injEq, Prod.mk.injEq] at H
    obtain ⟨rfl, rfl⟩ := H
    go_enter Try.func17, Try.ntmps17
    go_wp2_with (first | ((with_reducible refine gate_callee (f := 25) rfl ?_); refine goesL_ (some 11) rfl rfl Try.func25 (by kernel_rfl) rfl #[.slice A0 l0.length c0, .int .i64 a1] rfl (by (try simp only [List.map_toArray, List.map_cons, List.map_nil]); first | done | rfl | (simp only [List.length_drop, List.length_take]; rfl)) ?_; (with_reducible refine (crosswayref14_fit.calls _ _ l0 a1 false _ ?side1 ?side2 A4.out).mono ?_); (case side1 => repeat (first | exact HR0.out | (with_reducible refine Kd.C_alloc ?_ _) | (with_reducible refine Kd.C_drewN ?_ _) | (with_reducible refine Kd.C_drew ?_))); (case side2 => exact HC0.out); rintro e w' ⟨rfl, ⟨nd, rfl⟩⟩; refine ⟨_, rfl, ?_⟩))
    go_ret2
    exact ⟨_, by first | rfl | (simp [errW_none, errW_some] <;> rfl) | (simp [*, errW_none, errW_some] <;> rfl), by first | exact Kd.R_nil _ _ _ _ _ | exact Kd.N_nil _ _ _ _ _ | exact Kd.V_nil _ _ _ _ _ | exact Kd.Q_nil _ _ _ _ _ | exact Kd.S_nil _ _ _ _ _, by repeat (first | (with_reducible first | exact HB.out | apply below_alloc | apply pw_below_drewN | apply below_drew1) | exact HB.out)⟩

end Go.Proofs.Ytbiiccgheblhpac.M
