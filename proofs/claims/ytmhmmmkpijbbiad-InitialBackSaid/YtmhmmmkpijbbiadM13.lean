/- Contracts of the Go functions that the laws reach, each as a plain Lean function: written by xprint.py, a program of this repo. -/
import Derived.Test.YtmhmmmkpijbbiadM0
import Derived.Test.YtmhmmmkpijbbiadM1
import Derived.Test.YtmhmmmkpijbbiadM4
import Derived.Test.YtmhmmmkpijbbiadM5
import Derived.Test.YtmhmmmkpijbbiadM8
import Derived.Test.YtmhmmmkpijbbiadM9
namespace Go.Proofs.Ytmhmmmkpijbbiad.M
open Go.RowKit Go.Proofs.YtmhmmmkpijbbiadW.PrintWords Go.Proofs.YtmhmmmkpijbbiadW.PrintLast Go.Proofs.YtmhmmmkpijbbiadW.PrintMore Go.Proofs.Ytmhmmmkpijbbiad.X
attribute [local go_sem] max2_int min2_int max_two min_two max_three min_three max_four min_four   -- for this text's walks alone
set_option linter.unusedVariables false
set_option linter.unusedSimpArgs false

/-! ### crosswaylaw11_InitialBack: function 4, typed by hand -/
/-- What InitialBack asks of what was made and parsed. -/
abbrev crosswaylaw11_InitialBack.good (k : Nat) (l0 l1 l2 l3 : List Int) (a4 : Int) (b : List Int) (r1 r2 : Int) (x y t z : List Int) (e : Int) : Prop :=
  e = 0 ∧ crosswayref00_SameBytes.f k x l0 = some true ∧ crosswayref00_SameBytes.f k y l1 = some true ∧ crosswayref00_SameBytes.f k t l2 = some true ∧ l3.length ≤ z.length ∧ crosswayref00_SameBytes.f k (z.take l3.length) l3 = some true ∧ a4 ≤ (b.length : Int) ∧ z.length ≤ b.length ∧
  (∀ i, i < z.length → l3.length ≤ i → rd z (i : Int) = 0) ∧ initial_Initial_Bytes.f k r1 r2 x y t z = some (b, 0) ∧ crosswayref00_SameBytes.f k b b = some true ∧
  (∀ j, j < b.length - z.length → (initial_Parse.f k (b.take j)).map (fun p => p.2.2.2.2.2.2) = some 12) ∧ (initial_Initial_Bytes.f k 240 1 x y t z).map (fun p => p.2) = some 14
def crosswaylaw11_InitialBack.f (k : Nat) (l0 l1 l2 l3 : List Int) (a4 : Int) : Option Bool :=
  if crosswaylaw11_alive.f k = some true then
    if 20 < l0.length ∨ 20 < l1.length ∨ 300 < l2.length ∨ 300 < l3.length ∨ 3000 < a4 then some true
    else (initial_Make.f k l0 l1 l2 l3 a4).bind fun m => (initial_Parse.f k m.1).bind fun p =>
      if m.2 = 0 ∧ crosswaylaw11_InitialBack.good k l0 l1 l2 l3 a4 m.1 p.1 p.2.1 p.2.2.1 p.2.2.2.1 p.2.2.2.2.1 p.2.2.2.2.2.1 p.2.2.2.2.2.2 then some true else none
  else none
set_option maxRecDepth 100000 in
set_option maxHeartbeats 4000000 in
theorem crosswaylaw11_InitialBack.calls (k : Nat) (A0 : Option Addr) (c0 : Nat) (l0 : List Int) (A1 : Option Addr) (c1 : Nat) (l1 : List Int) (A2 : Option Addr) (c2 : Nat) (l2 : List Int) (A3 : Option Addr) (c3 : Nat) (l3 : List Int) (a4 : Int) (r : Bool) (w : World) (hr0 : Kd.C (Kd.int .u8) w A0 l0.length l0) (hc0 : l0.length ≤ c0) (hr1 : Kd.C (Kd.int .u8) w A1 l1.length l1) (hc1 : l1.length ≤ c1) (hr2 : Kd.C (Kd.int .u8) w A2 l2.length l2) (hc2 : l2.length ≤ c2) (hr3 : Kd.C (Kd.int .u8) w A3 l3.length l3) (hc3 : l3.length ≤ c3) (h : crosswaylaw11_InitialBack.f k l0 l1 l2 l3 a4 = some r) :
    Calls Try.prog 4 #[.slice A0 l0.length c0, .slice A1 l1.length c1, .slice A2 l2.length c2, .slice A3 l3.length c3, .int .i64 a4] w fun e w' => e = .returned (.bool r) ∧ Below w.heap.size w w' := by
  unfold crosswaylaw11_InitialBack.f at h
  have hal : crosswaylaw11_alive.f k = some true := by
    by_cases ha : crosswaylaw11_alive.f k = some true
    · exact ha
    · rw [if_neg ha] at h; cases h
  rw [if_pos hal] at h
  have HAL := Aside0.mk hal
  have R0 := Aside0.mk hr0
  have R1 := Aside0.mk hr1
  have R2 := Aside0.mk hr2
  have R3 := Aside0.mk hr3
  have C0 := Aside0.mk hc0
  have C1 := Aside0.mk hc1
  have C2 := Aside0.mk hc2
  have C3 := Aside0.mk hc3
  clear hal hr0 hr1 hr2 hr3 hc0 hc1 hc2 hc3
  by_cases hl : 20 < l0.length ∨ 20 < l1.length ∨ 300 < l2.length ∨ 300 < l3.length ∨ 3000 < a4
  · rw [if_pos hl] at h
    cases h
    by_cases q0 : 20 < l0.length
    · clear hl
      go_enter Try.func4, Try.ntmps4
      go_wp2_with fail
      (with_reducible refine (crosswaylaw11_alive.calls k true _ HAL.out).mono ?_)
      rintro e w1 ⟨rfl, hb1⟩
      go_wp2_with fail
      go_ret
      exact ⟨rfl, hb1⟩
    · by_cases q1 : 20 < l1.length
      · clear hl
        go_enter Try.func4, Try.ntmps4
        go_wp2_with fail
        (with_reducible refine (crosswaylaw11_alive.calls k true _ HAL.out).mono ?_)
        rintro e w1 ⟨rfl, hb1⟩
        go_wp2_with fail
        go_ret
        exact ⟨rfl, hb1⟩
      · by_cases q2 : 300 < l2.length
        · clear hl
          go_enter Try.func4, Try.ntmps4
          go_wp2_with fail
          (with_reducible refine (crosswaylaw11_alive.calls k true _ HAL.out).mono ?_)
          rintro e w1 ⟨rfl, hb1⟩
          go_wp2_with fail
          go_ret
          exact ⟨rfl, hb1⟩
        · by_cases q3 : 300 < l3.length
          · clear hl
            go_enter Try.func4, Try.ntmps4
            go_wp2_with fail
            (with_reducible refine (crosswaylaw11_alive.calls k true _ HAL.out).mono ?_)
            rintro e w1 ⟨rfl, hb1⟩
            go_wp2_with fail
            go_ret
            exact ⟨rfl, hb1⟩
          · have q4 : 3000 < a4 := by omega
            clear hl
            go_enter Try.func4, Try.ntmps4
            go_wp2_with fail
            (with_reducible refine (crosswaylaw11_alive.calls k true _ HAL.out).mono ?_)
            rintro e w1 ⟨rfl, hb1⟩
            go_wp2_with fail
            go_ret
            exact ⟨rfl, hb1⟩
  · rw [if_neg hl] at h
    have q0 : l0.length ≤ 20 := by omega
    have q1 : l1.length ≤ 20 := by omega
    have q2 : l2.length ≤ 300 := by omega
    have q3 : l3.length ≤ 300 := by omega
    have q4 : a4 ≤ 3000 := by omega
    clear hl
    obtain ⟨⟨b, e0⟩, hm, h⟩ := Option.bind_eq_some_iff.1 h
    obtain ⟨⟨r1, r2, x, y, t, z, e1⟩, hp, h⟩ := Option.bind_eq_some_iff.1 h
    dsimp only at h hp
    by_cases hg : e0 = 0 ∧ crosswaylaw11_InitialBack.good k l0 l1 l2 l3 a4 b r1 r2 x y t z e1
    rotate_left
    · rw [if_neg hg] at h; cases h
    rw [if_pos hg] at h
    cases h
    obtain ⟨rfl, rfl, g1, g2, g3, g4, g5, g6, g7, g8, g9, g10, g11, g12⟩ := hg
    have M := Aside0.mk hm
    have PP := Aside0.mk hp
    have G1 := Aside0.mk g1
    have G2 := Aside0.mk g2
    have G3 := Aside0.mk g3
    have G5 := Aside0.mk g5
    have G8 := Aside0.mk g8
    have G9 := Aside0.mk g9
    have G10 := Aside0.mk g10
    have G11 := Aside0.mk g11
    have G12 := Aside0.mk g12
    clear hm hp g1 g2 g3 g5 g8 g9 g10 g11 g12
    have d0 : decide ((20 : Int) < (l0.length : Int)) = false := decide_eq_false (by omega)
    have d1 : decide ((20 : Int) < (l1.length : Int)) = false := decide_eq_false (by omega)
    have d2 : decide ((300 : Int) < (l2.length : Int)) = false := decide_eq_false (by omega)
    have d3 : decide ((300 : Int) < (l3.length : Int)) = false := decide_eq_false (by omega)
    have d4 : decide ((3000 : Int) < a4) = false := decide_eq_false (by omega)
    go_enter Try.func4, Try.ntmps4
    go_wp2_with fail
    (with_reducible refine (crosswaylaw11_alive.calls k true _ HAL.out).mono ?_)
    rintro e w1 ⟨rfl, hb1⟩
    have HB1 := Aside0.mk hb1
    clear hb1
    go_wp2_with fail
    (with_reducible refine (initial_Make.calls k _ _ _ _ _ _ _ _ _ _ _ _ _ _ _ _ (Kd.C_below R0.out HB1.out) C0.out (Kd.C_below R1.out HB1.out) C1.out (Kd.C_below R2.out HB1.out) C2.out (Kd.C_below R3.out HB1.out) C3.out M.out).mono ?_)
    rintro e w2 ⟨vb, rfl, hrb, hb2⟩
    have HB2 := Aside0.mk (HB1.out.trans (hb2.mono HB1.out.size))
    obtain ⟨Ab, cb, rfl, hcb, hCb⟩ := row_at hrb
    have RB := Aside0.mk hCb
    have CB := Aside0.mk hcb
    clear hb2 hrb hcb hCb HB1
    go_wp2_with fail
    (with_reducible refine (initial_Parse.calls k _ _ _ _ _ _ _ _ _ _ _ RB.out CB.out PP.out).mono ?_)
    rintro e w3 ⟨vx, vy, vt, vz, rfl, hrx, hry, hrt, hrz, hb3⟩
    have HB3 := Aside0.mk (HB2.out.trans (hb3.mono HB2.out.size))
    have RB3 := Aside0.mk (Kd.C_below RB.out hb3)
    obtain ⟨Ax, cx, rfl, hcx, hCx⟩ := row_at hrx
    obtain ⟨Ay, cy, rfl, hcy, hCy⟩ := row_at hry
    obtain ⟨At, ct, rfl, hct, hCt⟩ := row_at hrt
    obtain ⟨Az, cz, rfl, hcz, hCz⟩ := row_at hrz
    have RX := Aside0.mk hCx
    have RY := Aside0.mk hCy
    have RT := Aside0.mk hCt
    have RZ := Aside0.mk hCz
    have CX := Aside0.mk hcx
    have CY := Aside0.mk hcy
    have CT := Aside0.mk hct
    have CZ := Aside0.mk hcz
    clear hb3 hrx hry hrt hrz hCx hCy hCt hCz hcx hcy hct hcz RB HB2
    go_upto_region 7 with (fail)
    have HP4 := Aside0.mk (blk_new w3 (.cells #[.int .u8 r1, .int .u32 r2, .slice Ax x.length cx, .slice Ay y.length cy, .slice At t.length ct, .slice Az z.length cz] 29))
    have HB4 := Aside0.mk (HB3.out.alloc HB3.out.size (.cells #[.int .u8 r1, .int .u32 r2, .slice Ax x.length cx, .slice Ay y.length cy, .slice At t.length ct, .slice Az z.length cz] 29))
    have RX4 := Aside0.mk (Kd.C_alloc RX.out (.cells #[.int .u8 r1, .int .u32 r2, .slice Ax x.length cx, .slice Ay y.length cy, .slice At t.length ct, .slice Az z.length cz] 29))
    have RY4 := Aside0.mk (Kd.C_alloc RY.out (.cells #[.int .u8 r1, .int .u32 r2, .slice Ax x.length cx, .slice Ay y.length cy, .slice At t.length ct, .slice Az z.length cz] 29))
    have RT4 := Aside0.mk (Kd.C_alloc RT.out (.cells #[.int .u8 r1, .int .u32 r2, .slice Ax x.length cx, .slice Ay y.length cy, .slice At t.length ct, .slice Az z.length cz] 29))
    have RZ4 := Aside0.mk (Kd.C_alloc RZ.out (.cells #[.int .u8 r1, .int .u32 r2, .slice Ax x.length cx, .slice Ay y.length cy, .slice At t.length ct, .slice Az z.length cz] 29))
    have RB4 := Aside0.mk (Kd.C_alloc RB3.out (.cells #[.int .u8 r1, .int .u32 r2, .slice Ax x.length cx, .slice Ay y.length cy, .slice At t.length ct, .slice Az z.length cz] 29))
    generalize w3.alloc (.cells #[.int .u8 r1, .int .u32 r2, .slice Ax x.length cx, .slice Ay y.length cy, .slice At t.length ct, .slice Az z.length cz] 29) = w4 at HP4 HB4 RX4 RY4 RT4 RZ4 RB4 ⊢
    have HQ4 := Aside0.mk (Below.refl w4.heap.size w4)
    have hx2 := blk_cell HP4.out 2
    have hx3 := blk_cell HP4.out 3
    have hx4 := blk_cell HP4.out 4
    have hx5 := blk_cell HP4.out 5
    simp at hx2 hx3 hx4 hx5
    clear HB3 RX RY RT RZ RB3
    obtain ⟨i5, hi5, _⟩ := Option.map_eq_some_iff.1 info5
    obtain ⟨z3, hz3⟩ : ∃ z3, z3 = z.take l3.length := ⟨_, rfl⟩
    have hz3l : z3.length = l3.length := by rw [hz3, List.length_take]; omega
    have hcut : ∀ W : World, (Instr.slice 22 (.slice Az z.length cz) none (some (.int .i64 (l3.length : Int))) none).run Try.prog W = .ok (.slice Az z3.length cz) W := by
      intro W
      have := cut_to (P := Try.prog) 22 5 .i64 Try.underlying22 hi5 Az z.length cz (l3.length : Int) (by omega) (by omega) CZ.out W
      rw [Int.toNat_natCast] at this
      rw [hz3l]
      exact this
    have RZ3 := Aside0.mk (show Kd.C (Kd.int .u8) w4 Az z3.length z3 by rw [hz3]; exact Kd.C_take RZ4.out g4)
    have CZ3 := Aside0.mk (show z3.length ≤ cz by have := CZ.out; omega)
    have G5' := Aside0.mk (show crosswayref00_SameBytes.f k z3 l3 = some true by rw [hz3]; exact G5.out)
    have pz : decide ((z.length : Int) < (l3.length : Int)) = false := decide_eq_false (by omega)
    have pb : decide ((b.length : Int) < a4) = false := decide_eq_false (by omega)
    clear hz3 hz3l G5
    go_wp2_with fail
    (with_reducible refine (crosswayref00_SameBytes.calls k _ _ _ _ _ _ true _ (Kd.C_below RX4.out HQ4.out) CX.out (Kd.C_below R0.out (HB4.out.trans (HQ4.out.mono HB4.out.size))) C0.out G1.out).mono ?_)
    rintro e w5 ⟨rfl, hd⟩
    have HP5 := Aside0.mk (blk_below HP4.out hd.below)
    have HQ5 := Aside0.mk (HQ4.out.trans (hd.below.mono HQ4.out.size))
    clear hd hx2 hx3 hx4 hx5
    have hx2 := blk_cell HP5.out 2
    have hx3 := blk_cell HP5.out 3
    have hx4 := blk_cell HP5.out 4
    have hx5 := blk_cell HP5.out 5
    simp at hx2 hx3 hx4 hx5
    clear HP4 HQ4
    go_wp2_with fail
    (with_reducible refine (crosswayref00_SameBytes.calls k _ _ _ _ _ _ true _ (Kd.C_below RY4.out HQ5.out) CY.out (Kd.C_below R1.out (HB4.out.trans (HQ5.out.mono HB4.out.size))) C1.out G2.out).mono ?_)
    rintro e w6 ⟨rfl, hd⟩
    have HP6 := Aside0.mk (blk_below HP5.out hd.below)
    have HQ6 := Aside0.mk (HQ5.out.trans (hd.below.mono HQ5.out.size))
    clear hd hx2 hx3 hx4 hx5
    have hx2 := blk_cell HP6.out 2
    have hx3 := blk_cell HP6.out 3
    have hx4 := blk_cell HP6.out 4
    have hx5 := blk_cell HP6.out 5
    simp at hx2 hx3 hx4 hx5
    clear HP5 HQ5
    go_wp2_with fail
    (with_reducible refine (crosswayref00_SameBytes.calls k _ _ _ _ _ _ true _ (Kd.C_below RT4.out HQ6.out) CT.out (Kd.C_below R2.out (HB4.out.trans (HQ6.out.mono HB4.out.size))) C2.out G3.out).mono ?_)
    rintro e w7 ⟨rfl, hd⟩
    have HP7 := Aside0.mk (blk_below HP6.out hd.below)
    have HQ7 := Aside0.mk (HQ6.out.trans (hd.below.mono HQ6.out.size))
    clear hd hx2 hx3 hx4 hx5
    have hx2 := blk_cell HP7.out 2
    have hx3 := blk_cell HP7.out 3
    have hx4 := blk_cell HP7.out 4
    have hx5 := blk_cell HP7.out 5
    simp at hx2 hx3 hx4 hx5
    clear HP6 HQ6
    go_wp2_with fail
    (with_reducible refine (crosswayref00_SameBytes.calls k _ _ _ _ _ _ true _ (Kd.C_below RZ3.out HQ7.out) CZ3.out (Kd.C_below R3.out (HB4.out.trans (HQ7.out.mono HB4.out.size))) C3.out G5'.out).mono ?_)
    rintro e w8 ⟨rfl, hd⟩
    have HP8 := Aside0.mk (blk_below HP7.out hd.below)
    have HQ8 := Aside0.mk (HQ7.out.trans (hd.below.mono HQ7.out.size))
    clear hd hx2 hx3 hx4 hx5
    have hx2 := blk_cell HP8.out 2
    have hx3 := blk_cell HP8.out 3
    have hx4 := blk_cell HP8.out 4
    have hx5 := blk_cell HP8.out 5
    simp at hx2 hx3 hx4 hx5
    clear HP7 HQ7
    clear hcut pz RZ3 CZ3 G5' d0 d1 d2 d3 d4
    go_wp2_with fail
    clear pb
    have hzm := Kd.C_max RZ4.out
    have hbm := Kd.C_max RB4.out
    go_loop [15] (fun v15 => ∃ i : Nat, l3.length ≤ i ∧ i ≤ z.length ∧ v15 = .int .i64 i) (fun v15 => z.length - (intOf v15).toNat)
    case atStart => exact ⟨l3.length, Nat.le_refl _, g4, rfl⟩
    case round =>
      obtain ⟨i, hi0, hi1, rfl⟩ := hrel
      by_cases hlt : i < z.length
      · obtain ⟨ad, hAz, hcc⟩ := Kd.at_int (Kd.C_below RZ4.out HQ8.out) (i : Int) (by omega) (by omega)
        subst hAz
        rw [Int.toNat_natCast, G8.out i hlt hi0] at hcc
        have p1 : ((0 : Int) ≤ (i : Int)) = True := eq_true (by omega)
        have p2 : ((i : Int) < (z.length : Int)) = True := eq_true (by omega)
        have p3 : decide ((i : Int) < (z.length : Int)) = true := decide_eq_true (by omega)
        go_wp2_with fail
        go_round
        case rel => exact ⟨i + 1, by omega, by omega, by go_num⟩
        case measure => simp [intOf]; omega
      · obtain rfl : i = z.length := by omega
        have p3 : decide (((z.length : Nat) : Int) < (z.length : Int)) = false := decide_eq_false (by omega)
        have hx0 := blk_cell HP8.out 0
        have hx1 := blk_cell HP8.out 1
        simp at hx0 hx1
        clear hlt hi0 hi1
        have HBq := Aside0.mk (HB4.out.trans (HQ8.out.mono HB4.out.size))
        go_wp2_with fail
        clear p3
        (with_reducible refine (initial_Initial_Bytes.calls k _ _ _ _ _ _ _ _ _ _ _ _ _ _ _ _ _ (Kd.C_below RX4.out HQ8.out) CX.out (Kd.C_below RY4.out HQ8.out) CY.out (Kd.C_below RT4.out HQ8.out) CT.out (Kd.C_below RZ4.out HQ8.out) CZ.out G9.out).mono ?_)
        rintro e w9 ⟨vc, rfl, hrc, hb9⟩
        obtain ⟨Ac, cc, rfl, hcc, hCc⟩ := row_at hrc
        have RC := Aside0.mk hCc
        have CC := Aside0.mk hcc
        have HP9 := Aside0.mk (blk_below HP8.out hb9)
        have HQ9 := Aside0.mk (HQ8.out.trans (hb9.mono HQ8.out.size))
        clear hb9 hrc hcc hCc hx0 hx1 hx2 hx3 hx4 hx5 HBq HP8 HQ8
        go_wp2_with fail
        (with_reducible refine (crosswayref00_SameBytes.calls k _ _ _ _ _ _ true _ RC.out CC.out (Kd.C_below RB4.out HQ9.out) CB.out G10.out).mono ?_)
        rintro e w10 ⟨rfl, hd⟩
        have HP10 := Aside0.mk (blk_below HP9.out hd.below)
        have HQ10 := Aside0.mk (HQ9.out.trans (hd.below.mono HQ9.out.size))
        clear hd HP9 HQ9 RC CC
        go_wp2_with fail
        clear g4
        obtain ⟨n, hn⟩ : ∃ n, n = b.length - z.length := ⟨_, rfl⟩
        have hbz : (b.length : Int) - (z.length : Int) = (n : Int) := by omega
        have hnb : n ≤ b.length := by omega
        have HNN := Aside0.mk (show ∀ j, j < n → (initial_Parse.f k (b.take j)).map (fun p => p.2.2.2.2.2.2) = some 12 by rw [hn]; exact G11.out)
        clear hn
        obtain ⟨wo, hwo⟩ : ∃ wo : World, wo = w10 := ⟨_, rfl⟩
        subst hwo
        go_loopw [18] (fun v18 wr => ∃ j : Nat, j ≤ n ∧ v18 = .int .i64 j ∧ Aside0 (Below wo.heap.size wo wr))
          (fun v18 _ => n - (intOf v18).toNat)
        case atStart => exact ⟨0, Nat.zero_le _, rfl, ⟨Below.refl _ _⟩⟩
        case round =>
          obtain ⟨j, hj, rfl, HJ⟩ := hrel
          have HPj := Aside0.mk (blk_below HP10.out HJ.out)
          have HQj := Aside0.mk (HQ10.out.trans (HJ.out.mono HQ10.out.size))
          have hx5 := blk_cell HPj.out 5
          simp at hx5
          by_cases hlt : j < n
          · have hjb : j + 1 ≤ b.length := by omega
            obtain ⟨yj, hyj⟩ : ∃ yj, yj = b.take j := ⟨_, rfl⟩
            have hyl : yj.length = j := by rw [hyj, List.length_take]; omega
            have hcut : ∀ W : World, (Instr.slice 22 (.slice Ab b.length cb) none (some (.int .i64 (j : Int))) none).run Try.prog W = .ok (.slice Ab yj.length cb) W := by
              intro W
              have := cut_to (P := Try.prog) 22 5 .i64 Try.underlying22 hi5 Ab b.length cb (j : Int) (by omega) (by omega) CB.out W
              rw [Int.toNat_natCast] at this
              rw [hyl]
              exact this
            have RJ := Aside0.mk (show Kd.C (Kd.int .u8) wr Ab yj.length yj by rw [hyj]; exact Kd.C_take (Kd.C_below RB4.out HQj.out) (by omega))
            have CJ := Aside0.mk (show yj.length ≤ cb by have := CB.out; omega)
            have hpj := HNN.out j hlt
            rw [← hyj] at hpj
            obtain ⟨⟨s1, s2, s3, s4, s5, s6, s7⟩, hpj, hs7⟩ := Option.map_eq_some_iff.1 hpj
            dsimp only at hs7
            subst hs7
            have PJ := Aside0.mk hpj
            have p3 : decide ((j : Int) < (n : Int)) = true := decide_eq_true (by omega)
            have HLT := Aside0.mk hlt
            clear hyj hyl hpj
            go_wp2_with fail
            clear p3 hcut
            (with_reducible refine (initial_Parse.calls k _ _ _ _ _ _ _ _ _ _ _ RJ.out CJ.out PJ.out).mono ?_)
            rintro e wj ⟨ux, uy, ut, uz, rfl, hrx, hry, hrt, hrz, hbj⟩
            obtain ⟨Dx, ex, rfl, _, _⟩ := row_at hrx
            obtain ⟨Dy, ey, rfl, _, _⟩ := row_at hry
            obtain ⟨Dt, et, rfl, _, _⟩ := row_at hrt
            obtain ⟨Dz, ez, rfl, _, _⟩ := row_at hrz
            have HJ2 := Aside0.mk (HJ.out.trans (hbj.mono HJ.out.size))
            clear hrx hry hrt hrz hbj hx5
            go_wp2_with fail
            go_roundw
            case measure => have := HLT.out; simp [intOf]; omega
            case rel => exact ⟨j + 1, by have := HLT.out; omega, by go_num, ⟨HJ2.out.alloc HJ2.out.size _⟩⟩
          · obtain rfl : j = n := by omega
            have p3 : decide (((j : Nat) : Int) < (j : Int)) = false := decide_eq_false (by omega)
            have hx0 := blk_cell HPj.out 0
            have hx1 := blk_cell HPj.out 1
            have hx2 := blk_cell HPj.out 2
            have hx3 := blk_cell HPj.out 3
            have hx4 := blk_cell HPj.out 4
            simp at hx0 hx1 hx2 hx3 hx4
            obtain ⟨⟨q1, q2⟩, hq, hq2⟩ := Option.map_eq_some_iff.1 G12.out
            dsimp only at hq2
            subst hq2
            have QQ := Aside0.mk hq
            have hsz : w3.heap.size < wr.heap.size := blk_lt HPj.out
            clear hq
            go_wp2_with fail
            have HZ := Aside0.mk (below_alloc (Below.refl wr.heap.size wr) (.cells #[.int .u8 240, .int .u32 1, .slice Ax x.length cx, .slice Ay y.length cy, .slice At t.length ct, .slice Az z.length cz] 29))
            generalize wr.alloc (.cells #[.int .u8 240, .int .u32 1, .slice Ax x.length cx, .slice Ay y.length cy, .slice At t.length ct, .slice Az z.length cz] 29) = wz at HZ ⊢
            clear hx0 hx1 hx2 hx3 hx4 hx5 p3 hbz hsz
            (with_reducible refine (initial_Initial_Bytes.calls k _ _ _ _ _ _ _ _ _ _ _ _ _ _ _ _ _ (Kd.C_below (Kd.C_below RX4.out HQj.out) HZ.out) CX.out (Kd.C_below (Kd.C_below RY4.out HQj.out) HZ.out) CY.out (Kd.C_below (Kd.C_below RT4.out HQj.out) HZ.out) CT.out (Kd.C_below (Kd.C_below RZ4.out HQj.out) HZ.out) CZ.out QQ.out).mono ?_)
            rintro e wy ⟨vd, rfl, hrd, hby⟩
            obtain ⟨Ad, cd, rfl, _, _⟩ := row_at hrd
            have HF := Aside0.mk ((((HB4.out.trans (HQj.out.mono HB4.out.size)).trans (HZ.out.mono (HB4.out.trans (HQj.out.mono HB4.out.size)).size))).trans (hby.mono ((HB4.out.trans (HQj.out.mono HB4.out.size)).trans (HZ.out.mono (HB4.out.trans (HQj.out.mono HB4.out.size)).size)).size))
            clear hrd hby
            go_wp2_with fail
            go_ret
            exact ⟨rfl, HF.out⟩


/-- The one pure statement of crosswaylaw11_InitialBack. -/
def crosswaylaw11_InitialBack.Pure : Prop := ∀ (l0 : List Int) (l1 : List Int) (l2 : List Int) (l3 : List Int) (a4 : Int), l0.length ≤ maxLen → (∀ x ∈ l0, (Lit.int .u8 x).wf = true) → l1.length ≤ maxLen → (∀ x ∈ l1, (Lit.int .u8 x).wf = true) → l2.length ≤ maxLen → (∀ x ∈ l2, (Lit.int .u8 x).wf = true) → l3.length ≤ maxLen → (∀ x ∈ l3, (Lit.int .u8 x).wf = true) → (Lit.int .i64 a4).wf = true → ∃ k, crosswaylaw11_InitialBack.f k l0 l1 l2 l3 a4 = some true

end Go.Proofs.Ytmhmmmkpijbbiad.M
