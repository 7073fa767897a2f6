/- Contracts of the Go functions that the laws reach, each as a plain Lean function: written by xprint.py, a program of this repo. -/
import Derived.Test.YtmhmmmkpijbbiadM0
import Derived.Test.YtmhmmmkpijbbiadM1
import Derived.Test.YtmhmmmkpijbbiadM2
import Derived.Test.YtmhmmmkpijbbiadM4
import Derived.Test.YtmhmmmkpijbbiadM5
import Derived.Test.YtmhmmmkpijbbiadM9
import Derived.Test.YtmhmmmkpijbbiadM10
import Derived.Test.YtmhmmmkpijbbiadM12
import Derived.Test.YtmhmmmkpijbbiadM13
namespace Go.Proofs.Ytmhmmmkpijbbiad.M
open Go.RowKit Go.Proofs.YtmhmmmkpijbbiadW.PrintWords Go.Proofs.YtmhmmmkpijbbiadW.PrintLast Go.Proofs.YtmhmmmkpijbbiadW.PrintMore Go.Proofs.Ytmhmmmkpijbbiad.X
attribute [local go_sem] max2_int min2_int max_two min_two max_three min_three max_four min_four   -- for this text's walks alone
set_option linter.unusedVariables false
set_option linter.unusedSimpArgs false

/-! ### crosswaylaw11_InitialParses: function 3, typed by hand -/
def crosswaylaw11_InitialParses.f (k : Nat) (l0 : List Int) (a1 : Int) : Option Bool :=
  if crosswaylaw11_alive.f k = some true then
    if 3000 < l0.length then some true
    else if crosswayref00_CopyBytes.f l0 = some l0 ∧ crosswayref00_SameBytes.f k l0 l0 = some true then
      (initial_Type.f a1).bind fun v => if crosswayref11_Type.f a1 = some v then
        (initial_Parse.f k l0).bind fun p => (crosswayref11_Parse.f k l0).bind fun q =>
          (crosswaylaw11_Of.f p.1 p.2.1 p.2.2.1 p.2.2.2.1 p.2.2.2.2.1 p.2.2.2.2.2.1).bind fun o =>
            if p.2.2.2.2.2.2 = q.2.2.2.2.2.2 ∧ crosswayref11_Same.f o.1 o.2.1 o.2.2.1 o.2.2.2.1 o.2.2.2.2.1 o.2.2.2.2.2 q.1 q.2.1 q.2.2.1 q.2.2.2.1 q.2.2.2.2.1 q.2.2.2.2.2.1 = some true then some true else none
      else none
    else none
  else none
set_option maxRecDepth 100000 in
set_option maxHeartbeats 4000000 in
theorem crosswaylaw11_InitialParses.calls (k : Nat) (A0 : Option Addr) (c0 : Nat) (l0 : List Int) (a1 : Int) (r : Bool) (w : World) (hr0 : Kd.C (Kd.int .u8) w A0 l0.length l0) (hc0 : l0.length ≤ c0) (h : crosswaylaw11_InitialParses.f k l0 a1 = some r) :
    Calls Try.prog 3 #[.slice A0 l0.length c0, .int .u8 a1] w fun e w' => e = .returned (.bool r) ∧ Below w.heap.size w w' := by
  unfold crosswaylaw11_InitialParses.f at h
  have hal : crosswaylaw11_alive.f k = some true := by
    by_cases ha : crosswaylaw11_alive.f k = some true
    · exact ha
    · rw [if_neg ha] at h; cases h
  rw [if_pos hal] at h
  have HAL := Aside0.mk hal
  have R0 := Aside0.mk hr0
  have C0 := Aside0.mk hc0
  clear hal hr0 hc0
  by_cases hl : 3000 < l0.length
  · rw [if_pos hl] at h
    cases h
    go_enter Try.func3, Try.ntmps3
    go_wp2_with fail
    (with_reducible refine (crosswaylaw11_alive.calls k true _ HAL.out).mono ?_)
    rintro e w1 ⟨rfl, hb1⟩
    go_wp2_with fail
    go_ret
    exact ⟨rfl, hb1⟩
  · rw [if_neg hl] at h
    have q0 : l0.length ≤ 3000 := by omega
    clear hl
    by_cases hcs : crosswayref00_CopyBytes.f l0 = some l0 ∧ crosswayref00_SameBytes.f k l0 l0 = some true
    rotate_left
    · rw [if_neg hcs] at h; cases h
    rw [if_pos hcs] at h
    obtain ⟨tv, htv, h2⟩ := Option.bind_eq_some_iff.1 h
    clear h
    by_cases hty : crosswayref11_Type.f a1 = some tv
    rotate_left
    · rw [if_neg hty] at h2; cases h2
    rw [if_pos hty] at h2
    obtain ⟨⟨r1, r2, x, y, t, z, e1⟩, hp, h3⟩ := Option.bind_eq_some_iff.1 h2
    clear h2
    obtain ⟨⟨s1, s2, s3, s4, s5, s6, e2⟩, hq, h4⟩ := Option.bind_eq_some_iff.1 h3
    clear h3
    dsimp only at hp hq h4
    obtain ⟨⟨o1, o2, o3, o4, o5, o6⟩, ho, h5⟩ := Option.bind_eq_some_iff.1 h4
    clear h4
    dsimp only at ho h5
    by_cases hg : e1 = e2 ∧ crosswayref11_Same.f o1 o2 o3 o4 o5 o6 s1 s2 s3 s4 s5 s6 = some true
    rotate_left
    · rw [if_neg hg] at h5; cases h5
    · rw [if_pos hg] at h5
      cases h5
      obtain ⟨rfl, hs⟩ := hg
      have CPY := Aside0.mk hcs.1
      have SME := Aside0.mk hcs.2
      have TV := Aside0.mk htv
      have TR := Aside0.mk hty
      have PP := Aside0.mk hp
      have QQ := Aside0.mk hq
      have OO := Aside0.mk ho
      have SA := Aside0.mk hs
      clear hcs htv hty hp hq ho hs
      go_enter Try.func3, Try.ntmps3
      go_wp2_with fail
      (with_reducible refine (crosswaylaw11_alive.calls k true _ HAL.out).mono ?_)
      rintro e w1 ⟨rfl, hb1⟩
      have HB1 := Aside0.mk hb1
      clear hb1
      go_wp2_with fail
      (with_reducible refine (crosswayref00_CopyBytes.calls _ _ _ _ _ (Kd.C_below R0.out HB1.out) C0.out CPY.out).mono ?_)
      rintro e w2 ⟨vo, rfl, hro, hb2⟩
      obtain ⟨Ao, co, rfl, hco, hCo⟩ := row_at hro
      have RO := Aside0.mk hCo
      have CO := Aside0.mk hco
      have HB2 := Aside0.mk (HB1.out.trans (hb2.mono HB1.out.size))
      clear hb2 hro hCo hco HB1
      go_wp2_with fail
      (with_reducible refine (initial_Parse.calls k _ _ _ _ _ _ _ _ _ _ _ RO.out CO.out PP.out).mono ?_)
      rintro e w3 ⟨vx, vy, vt, vz, rfl, hrx, hry, hrt, hrz, hb3⟩
      have hzt := hrz.1
      obtain ⟨Ax, cx, rfl, hcx, hCx⟩ := row_at hrx
      obtain ⟨Ay, cy, rfl, hcy, hCy⟩ := row_at hry
      obtain ⟨At, ct, rfl, hct, hCt⟩ := row_at hrt
      obtain ⟨Az, cz, rfl, hcz, hCz⟩ := row_at hrz
      have RX := Aside0.mk hCx
      have RY := Aside0.mk hCy
      have RT := Aside0.mk (Kd.R_mono hrt (fun _ _ => trivial) : Kd.R (Kd.int .u8) 5 w3 w2.heap.size (fun _ => True) (.slice At t.length ct) t)
      have RZ := Aside0.mk (Kd.R_mono hrz (fun _ _ => trivial) : Kd.R (Kd.int .u8) 5 w3 w2.heap.size (fun _ => True) (.slice Az z.length cz) z)
      have HZT := Aside0.mk (show ∀ g, (Value.slice Az z.length cz).ownBlock = some g → some g ≠ (Value.slice At t.length ct).ownBlock from fun g hg => (hzt g hg).2.2)
      have CX := Aside0.mk hcx
      have CY := Aside0.mk hcy
      have CT := Aside0.mk hct
      have CZ := Aside0.mk hcz
      have HN := Aside0.mk hb3
      clear hb3 hrx hry hrt hrz hCx hCy hCt hCz hcx hcy hct hcz hzt
      go_upto_region 7 with (fail)
      have HP4 := Aside0.mk (blk_new w3 (.cells #[.int .u8 r1, .int .u32 r2, .slice Ax x.length cx, .slice Ay y.length cy, .slice At t.length ct, .slice Az z.length cz] 29))
      have HA4 := Aside0.mk (below_alloc (Below.refl w3.heap.size w3) (.cells #[.int .u8 r1, .int .u32 r2, .slice Ax x.length cx, .slice Ay y.length cy, .slice At t.length ct, .slice Az z.length cz] 29))
      generalize w3.alloc (.cells #[.int .u8 r1, .int .u32 r2, .slice Ax x.length cx, .slice Ay y.length cy, .slice At t.length ct, .slice Az z.length cz] 29) = w4 at HP4 HA4 ⊢
      go_wp2_with fail
      (with_reducible refine (crosswayref11_Parse.calls k _ _ _ _ _ _ _ _ _ _ _ (Kd.C_below (Kd.C_below (Kd.C_below R0.out HB2.out) HN.out) HA4.out) C0.out QQ.out).mono ?_)
      rintro e w5 ⟨⟨Bx, dx, By, dy, Bt, dt, Bz, dz, rfl, ⟨hBx, hdx⟩, ⟨hBy, hdy⟩, ⟨hBt, hdt⟩, ⟨hBz, hdz⟩⟩, hb5⟩
      have QX := Aside0.mk hBx
      have QY := Aside0.mk hBy
      have QT := Aside0.mk hBt
      have QZ := Aside0.mk hBz
      have DX := Aside0.mk hdx
      have DY := Aside0.mk hdy
      have DT := Aside0.mk hdt
      have DZ := Aside0.mk hdz
      have HP5 := Aside0.mk (blk_below HP4.out hb5)
      have HA5 := Aside0.mk (HA4.out.trans (hb5.mono HA4.out.size))
      clear hBx hdx hBy hdy hBt hdt hBz hdz hb5 HP4 HA4
      go_upto_region 8 with (fail)
      have hp6 := blk_drew (blk_alloc HP5.out (.cells #[.int .u8 s1, .int .u32 s2, .slice Bx s3.length dx, .slice By s4.length dy, .slice Bt s5.length dt, .slice Bz s6.length dz] 35))
      have hq6 := blk_drew (blk_new w5 (.cells #[.int .u8 s1, .int .u32 s2, .slice Bx s3.length dx, .slice By s4.length dy, .slice Bt s5.length dt, .slice Bz s6.length dz] 35))
      have HA6 := Aside0.mk (below_drew (HA5.out.alloc HA5.out.size (.cells #[.int .u8 s1, .int .u32 s2, .slice Bx s3.length dx, .slice By s4.length dy, .slice Bt s5.length dt, .slice Bz s6.length dz] 35)))
      have HW6 := Aside0.mk (below_drew (below_alloc (Below.refl w5.heap.size w5) (.cells #[.int .u8 s1, .int .u32 s2, .slice Bx s3.length dx, .slice By s4.length dy, .slice Bt s5.length dt, .slice Bz s6.length dz] 35)))
      obtain ⟨SS, hSS⟩ : ∃ SS : World → Prop, SS = fun W => W.heap[w3.heap.size]? = some (.cells #[.int .u8 r1, .int .u32 r2, .slice Ax x.length cx, .slice Ay y.length cy, .slice At t.length ct, .slice Az z.length cz] 29 (0, 0)) ∧ W.heap[w5.heap.size]? = some (.cells #[.int .u8 s1, .int .u32 s2, .slice Bx s3.length dx, .slice By s4.length dy, .slice Bt s5.length dt, .slice Bz s6.length dz] 35 (0, 0)) ∧ Below w3.heap.size w3 W ∧ Below w5.heap.size w5 W := ⟨_, rfl⟩
      have HS := Aside0.mk (show SS (w5.alloc (.cells #[.int .u8 s1, .int .u32 s2, .slice Bx s3.length dx, .slice By s4.length dy, .slice Bt s5.length dt, .slice Bz s6.length dz] 35)).drew by rw [hSS]; exact ⟨hp6, hq6, HA6.out, HW6.out⟩)
      have HSB := Aside0.mk (show ∀ W W' : World, SS W → Below W.heap.size W W' → SS W' by
        rw [hSS]
        rintro W W' ⟨h1, h2, h3, h4⟩ hb
        exact ⟨blk_below h1 hb, blk_below h2 hb, h3.trans (hb.mono h3.size), h4.trans (hb.mono h4.size)⟩)
      have HSE := Aside0.mk hSS
      have HB := Aside0.mk (Below.refl (w5.alloc (.cells #[.int .u8 s1, .int .u32 s2, .slice Bx s3.length dx, .slice By s4.length dy, .slice Bt s5.length dt, .slice Bz s6.length dz] 35)).drew.heap.size (w5.alloc (.cells #[.int .u8 s1, .int .u32 s2, .slice Bx s3.length dx, .slice By s4.length dy, .slice Bt s5.length dt, .slice Bz s6.length dz] 35)).drew)
      clear hp6 hq6 HA6 HW6 hSS HP5 HA5
      refine Held.wp_region_G (S := SS) (by kernel_rfl) ?_
      change Held.wpAnyG _ _ _ _ _ 17 _ _ _
      refine Held.wpAnyG_take (i := 0) (v := (.int .i64 e1)) rfl (by kernel_rfl) (by kernel_rfl) (by kernel_rfl) (fun _ _ _ h => h) HS.out (by first | (with_reducible rfl) | (simp [Region.wanted, yielded, Act.put]; done) | rfl) (fun W h => by go_simp) (some 29) rfl #[true, false, false, false, false, false, false, false, false, false, false, false, false, false, false, false, false] (by kernel_rfl) ?_
      simp only [Act.put, List.setIfInBounds_toArray, List.set_cons_zero, List.set_cons_succ]
      refine Held.wpAnyG_take (i := 1) (v := (.int .i64 e1)) rfl (by kernel_rfl) (by kernel_rfl) (by kernel_rfl) (fun _ _ _ h => h) HS.out (by first | (with_reducible rfl) | (simp [Region.wanted, yielded, Act.put]; done) | rfl) (fun W h => by go_simp) (some 30) rfl #[true, true, false, false, false, false, false, false, false, false, false, false, false, false, false, false, false] (by kernel_rfl) ?_
      simp only [Act.put, List.setIfInBounds_toArray, List.set_cons_zero, List.set_cons_succ]
      refine Held.wpAnyG_take (i := 2) (v := (.bool false)) rfl (by kernel_rfl) (by kernel_rfl) (by kernel_rfl) (fun _ _ _ h => h) HS.out (by first | (with_reducible rfl) | (simp [Region.wanted, yielded, Act.put]; done) | rfl) (fun W h => by go_simp) (some 31) rfl #[true, true, true, false, false, false, false, false, false, false, false, false, false, false, false, false, false] (by kernel_rfl) ?_
      simp only [Act.put, List.setIfInBounds_toArray, List.set_cons_zero, List.set_cons_succ]
      refine Held.wpAnyG_take (i := 3) (v := (.bool false)) rfl (by kernel_rfl) (by kernel_rfl) (by kernel_rfl) (fun _ _ _ h => h) HS.out (by first | (with_reducible rfl) | (simp [Region.wanted, yielded, Act.put]; done) | rfl) (fun W h => by go_simp) (some 32) rfl #[true, true, true, true, false, false, false, false, false, false, false, false, false, false, false, false, false] (by kernel_rfl) ?_
      simp only [Act.put, List.setIfInBounds_toArray, List.set_cons_zero, List.set_cons_succ]
      refine Held.wpAnyG_take (i := 4) (v := (.agg #[.int .u8 r1, .int .u32 r2, .slice Ax x.length cx, .slice Ay y.length cy, .slice At t.length ct, .slice Az z.length cz])) rfl (by kernel_rfl) (by kernel_rfl) (by kernel_rfl) (fun _ _ _ h => h) HS.out (by first | (with_reducible rfl) | (simp [Region.wanted, yielded, Act.put]; done) | rfl) (fun W h => by rw [HSE.out] at h; exact Held.run_load_arr 29 (.tmp 6) rfl w3.heap.size rfl 29 _ _ _ h.1 Try.underlying29 rfl (by kernel_rfl)) (some 33) rfl #[true, true, true, true, true, false, false, false, false, false, false, false, false, false, false, false, false] (by kernel_rfl) ?_
      simp only [Act.put, List.setIfInBounds_toArray, List.set_cons_zero, List.set_cons_succ]
      refine Held.wpAnyG_take (i := 6) (v := (.agg #[.int .u8 s1, .int .u32 s2, .slice Bx s3.length dx, .slice By s4.length dy, .slice Bt s5.length dt, .slice Bz s6.length dz])) rfl (by kernel_rfl) (by kernel_rfl) (by kernel_rfl) (fun _ _ _ h => h) HS.out (by first | (with_reducible rfl) | (simp [Region.wanted, yielded, Act.put]; done) | rfl) (fun W h => by rw [HSE.out] at h; exact Held.run_load_arr 35 (.tmp 8) rfl w5.heap.size rfl 35 _ _ _ h.2.1 Try.underlying35 rfl (by kernel_rfl)) (some 35) rfl #[true, true, true, true, true, false, true, false, false, false, false, false, false, false, false, false, false] (by kernel_rfl) ?_
      simp only [Act.put, List.setIfInBounds_toArray, List.set_cons_zero, List.set_cons_succ]
      have hs4 := HS.out
      rw [HSE.out] at hs4
      have HB3 := Aside0.mk hs4.2.2.1
      have HB5 := Aside0.mk hs4.2.2.2
      clear hs4
      refine Held.wpAnyG_one 5 (by kernel_rfl) rfl #[true, true, true, true, true, true, true, false, false, false, false, false, false, false, false, false, false] (by kernel_rfl) (fun K hK => ?_)
      go_wp2_with fail
      (with_reducible refine (crosswaylaw11_Of.calls _ _ _ _ _ _ _ _ _ _ _ _ _ _ _ _ _ _ _ _ _ (Kd.C_below RX.out HB3.out) CX.out (Kd.C_below RY.out HB3.out) CY.out (Kd.C_below (Kd.R_reads' RT.out).2.2 HB3.out) CT.out (Kd.C_below (Kd.R_reads' RZ.out).2.2 HB3.out) CZ.out OO.out).mono ?_)
      rintro en wa ⟨ux, uy, ut, uz, rfl, gx, gy, gt, gz, hbN⟩
      obtain ⟨Ex, fx, rfl, hfx, hEx⟩ := row_at gx
      obtain ⟨Ey, fy, rfl, hfy, hEy⟩ := row_at gy
      obtain ⟨Et, ft, rfl, hft, hEt⟩ := row_at gt
      obtain ⟨Ez, fz, rfl, hfz, hEz⟩ := row_at gz
      have EX := Aside0.mk hEx
      have EY := Aside0.mk hEy
      have ET := Aside0.mk hEt
      have EZ := Aside0.mk hEz
      have FX := Aside0.mk hfx
      have FY := Aside0.mk hfy
      have FT := Aside0.mk hft
      have FZ := Aside0.mk hfz
      have HB5a := Aside0.mk (HB5.out.trans (hbN.mono HB5.out.size))
      have n1_ := Aside0.mk (HSB.out _ _ HS.out hbN)
      have n2_ := Aside0.mk (HB.out.trans (hbN.mono HB.out.size))
      clear hbN HS HB gx gy gt gz hEx hEy hEt hEz hfx hfy hft hfz HB3 HB5
      have HS := n1_
      have HB := n2_
      clear n1_ n2_
      go_wp2_with fail
      refine hK _ _ HS.out ?_
      clear hK K
      refine Held.wpAnyG_one 7 (by kernel_rfl) rfl #[true, true, true, true, true, true, true, true, false, false, false, false, false, false, false, false, false] (by kernel_rfl) (fun K hK => ?_)
      go_wp2_with fail
      (with_reducible refine (crosswayref11_Same.calls _ _ _ _ _ _ _ _ _ _ _ _ _ _ _ _ _ _ _ _ _ _ _ _ _ _ _ _ _ _ (EX.out) FX.out EY.out FY.out ET.out FT.out EZ.out FZ.out (Kd.C_below QX.out HB5a.out) DX.out (Kd.C_below QY.out HB5a.out) DY.out (Kd.C_below QT.out HB5a.out) DT.out (Kd.C_below QZ.out HB5a.out) DZ.out SA.out).mono ?_)
      rintro en wb ⟨rfl, hbN⟩
      have n1_ := Aside0.mk (HSB.out _ _ HS.out hbN)
      have n2_ := Aside0.mk (HB.out.trans (hbN.mono HB.out.size))
      clear hbN HS HB HB5a EX EY ET EZ FX FY FT FZ
      have HS := n1_
      have HB := n2_
      clear n1_ n2_
      go_wp2_with fail
      refine hK _ _ HS.out ?_
      clear hK K
      refine Held.wpAnyG_take (i := 8) (v := (.bool false)) rfl (by kernel_rfl) (by kernel_rfl) (by kernel_rfl) (fun _ _ _ h => h) HS.out (by first | (with_reducible rfl) | (simp [Region.wanted, yielded, Act.put]; done) | rfl) (fun W h => by go_simp) (some 37) rfl #[true, true, true, true, true, true, true, true, true, false, false, false, false, false, false, false, false] (by kernel_rfl) ?_
      simp only [Act.put, List.setIfInBounds_toArray, List.set_cons_zero, List.set_cons_succ]
      refine Held.wpAnyG_take (i := 9) (v := (.bool false)) rfl (by kernel_rfl) (by kernel_rfl) (by kernel_rfl) (fun _ _ _ h => h) HS.out (by first | (with_reducible rfl) | (simp [Region.wanted, yielded, Act.put]; done) | rfl) (fun W h => by go_simp) (some 38) rfl #[true, true, true, true, true, true, true, true, true, true, false, false, false, false, false, false, false] (by kernel_rfl) ?_
      simp only [Act.put, List.setIfInBounds_toArray, List.set_cons_zero, List.set_cons_succ]
      refine Held.wpAnyG_take (i := 10) (v := (.bool false)) rfl (by kernel_rfl) (by kernel_rfl) (by kernel_rfl) (fun _ _ _ h => h) HS.out (by first | (with_reducible rfl) | (simp [Region.wanted, yielded, Act.put]; done) | rfl) (fun W h => by go_simp) (some 39) rfl #[true, true, true, true, true, true, true, true, true, true, true, false, false, false, false, false, false] (by kernel_rfl) ?_
      simp only [Act.put, List.setIfInBounds_toArray, List.set_cons_zero, List.set_cons_succ]
      refine Held.wpAnyG_take (i := 11) (v := (.int .u8 a1)) rfl (by kernel_rfl) (by kernel_rfl) (by kernel_rfl) (fun _ _ _ h => h) HS.out (by first | (with_reducible rfl) | (simp [Region.wanted, yielded, Act.put]; done) | rfl) (fun W h => by go_simp) (some 40) rfl #[true, true, true, true, true, true, true, true, true, true, true, true, false, false, false, false, false] (by kernel_rfl) ?_
      simp only [Act.put, List.setIfInBounds_toArray, List.set_cons_zero, List.set_cons_succ]
      refine Held.wpAnyG_take (i := 13) (v := (.int .u8 a1)) rfl (by kernel_rfl) (by kernel_rfl) (by kernel_rfl) (fun _ _ _ h => h) HS.out (by first | (with_reducible rfl) | (simp [Region.wanted, yielded, Act.put]; done) | rfl) (fun W h => by go_simp) (some 42) rfl #[true, true, true, true, true, true, true, true, true, true, true, true, false, true, false, false, false] (by kernel_rfl) ?_
      simp only [Act.put, List.setIfInBounds_toArray, List.set_cons_zero, List.set_cons_succ]
      refine Held.wpAnyG_one 12 (by kernel_rfl) rfl #[true, true, true, true, true, true, true, true, true, true, true, true, true, true, false, false, false] (by kernel_rfl) (fun K hK => ?_)
      go_wp2_with fail
      (with_reducible refine (initial_Type.calls _ _ _ TV.out).mono ?_)
      rintro en wc ⟨rfl, hdN⟩
      have hbN := hdN.below
      have n1_ := Aside0.mk (HSB.out _ _ HS.out hbN)
      have n2_ := Aside0.mk (HB.out.trans (hbN.mono HB.out.size))
      clear hdN hbN HS HB
      have HS := n1_
      have HB := n2_
      clear n1_ n2_
      go_wp2_with fail
      refine hK _ _ HS.out ?_
      clear hK K
      refine Held.wpAnyG_one 14 (by kernel_rfl) rfl #[true, true, true, true, true, true, true, true, true, true, true, true, true, true, true, false, false] (by kernel_rfl) (fun K hK => ?_)
      go_wp2_with fail
      (with_reducible refine (crosswayref11_Type.calls _ _ _ TR.out).mono ?_)
      rintro en wd ⟨rfl, hdN⟩
      have hbN := hdN.below
      have n1_ := Aside0.mk (HSB.out _ _ HS.out hbN)
      have n2_ := Aside0.mk (HB.out.trans (hbN.mono HB.out.size))
      clear hdN hbN HS HB
      have HS := n1_
      have HB := n2_
      clear n1_ n2_
      go_wp2_with fail
      refine hK _ _ HS.out ?_
      clear hK K
      refine Held.wpAnyG_take (i := 15) (v := (.bool false)) rfl (by kernel_rfl) (by kernel_rfl) (by kernel_rfl) (fun _ _ _ h => h) HS.out (by first | (with_reducible rfl) | (simp [Region.wanted, yielded, Act.put]; done) | rfl) (fun W h => by go_simp) (some 44) rfl #[true, true, true, true, true, true, true, true, true, true, true, true, true, true, true, true, false] (by kernel_rfl) ?_
      simp only [Act.put, List.setIfInBounds_toArray, List.set_cons_zero, List.set_cons_succ]
      refine Held.wpAnyG_take (i := 16) (v := (.bool false)) rfl (by kernel_rfl) (by kernel_rfl) (by kernel_rfl) (fun _ _ _ h => h) HS.out (by first | (with_reducible rfl) | (simp [Region.wanted, yielded, Act.put]; done) | rfl) (fun W h => by go_simp) (some 45) rfl #[true, true, true, true, true, true, true, true, true, true, true, true, true, true, true, true, true] (by kernel_rfl) ?_
      simp only [Act.put, List.setIfInBounds_toArray, List.set_cons_zero, List.set_cons_succ]
      refine Held.wpAnyG_done (by kernel_rfl) ?_ _
      have hs9 := HS.out
      rw [HSE.out] at hs9
      obtain ⟨hp9, hq9, hb9, _⟩ := hs9
      clear HS HSB HSE HB
      have HBd := Aside0.mk (HN.out.trans (hb9.mono HN.out.size))
      have RTd := Aside0.mk (Kd.R_below RT.out hb9)
      have RZd := Aside0.mk (Kd.R_below RZ.out hb9)
      have hx4 := blk_cell hp9 4
      have hx5 := blk_cell hp9 5
      simp at hx4 hx5
      have HPd := Aside0.mk hp9
      clear hp9 hq9 hb9 RT RZ
      have hzm := Kd.C_max (Kd.R_reads' RZd.out).2.2
      have htm := Kd.C_max (Kd.R_reads' RTd.out).2.2
      go_wp2_with fail
      go_loopw [10] (fun v10 wr => ∃ (i : Nat) (t2 : List Int), i ≤ t.length ∧ v10 = .int .i64 i ∧ Aside0 ((Kd.int .u8).R 5 wr w2.heap.size (fun _ => True) (.slice At t.length ct) t2) ∧ Aside0 ((Kd.int .u8).R 5 wr w2.heap.size (fun _ => True) (.slice Az z.length cz) z) ∧ Aside0 (wr.heap[w3.heap.size]? = some (.cells #[.int .u8 r1, .int .u32 r2, .slice Ax x.length cx, .slice Ay y.length cy, .slice At t.length ct, .slice Az z.length cz] 29 (0, 0)) ∧ Below w2.heap.size w2 wr))
        (fun v10 _ => t.length - (intOf v10).toNat)
      case atStart => exact ⟨0, t, Nat.zero_le _, rfl, RTd, RZd, ⟨HPd.out, HBd.out⟩⟩
      case round =>
        clear RTd RZd HPd HBd hx4 hx5
        obtain ⟨i, t2, hi, rfl, RTi, RZi, ⟨hpi, hbi⟩⟩ := hrel
        have hx4 := blk_cell hpi 4
        have hx5 := blk_cell hpi 5
        simp at hx4 hx5
        have HPi := Aside0.mk hpi
        have HBi := Aside0.mk hbi
        clear hpi hbi
        by_cases hlt : i < t.length
        · have htl : t2.length = t.length := (Kd.R_reads' RTi.out).1.symm
          obtain ⟨g, cap, hv, hgb, hgl, cells, hcells⟩ := Kd.R_form RTi.out (by omega)
          simp only [Value.slice.injEq] at hv
          obtain ⟨hv, hvl, hv2⟩ := hv
          clear hvl
          subst hv2
          obtain ⟨ad, had⟩ : ∃ ad : Addr, ad = ⟨g, 0, none⟩ := ⟨_, rfl⟩
          rw [← had] at hv
          subst hv
          have RTg := Aside0.mk (by have h := RTi.out; rw [had] at h; exact h)
          obtain ⟨hc1, hf1⟩ := Kd.R_celln (0 : Int) RTg.out (i : Int) (by omega) (by omega)
          rw [Int.toNat_natCast] at hc1 hf1
          have had2 : (⟨g, i, none⟩ : Addr) = ad.add i := by rw [had]; simp [Addr.add]
          rw [had2] at hc1 hf1
          obtain ⟨b1, hb1⟩ : ∃ b1, b1 = rdOf (0 : Int) t2 (i : Int) := ⟨_, rfl⟩
          rw [← hb1] at hc1
          have HPT := Aside0.mk (fun q : Int => Kd.R_putg RTg.out (i : Int) q)
          have HGZ := Aside0.mk (show ∀ q, (Value.slice Az z.length cz).ownBlock = some q → q ≠ g from fun q hq e => HZT.out q hq (by rw [e, had]; rfl))
          have HGP := Aside0.mk (show w3.heap.size ≠ g from fun e => by
            have h1 := HPi.out
            rw [e, hcells] at h1
            simp at h1)
          have HGB := Aside0.mk hgb
          have p1 : ((0 : Int) ≤ (i : Int)) = True := eq_true (by omega)
          have p2 : ((i : Int) < (t.length : Int)) = True := eq_true (by omega)
          have HAD := Aside0.mk had
          have HAD2 := Aside0.mk had2
          clear hb1 hcells hgl hgb had had2 htl
          go_wp2_with fail
          go_roundw
          case measure => simp [intOf]; omega
          case rel =>
            refine ⟨i + 1, t2.set i ((b1 + 1) % 256), by omega, by go_num, ⟨?_⟩, ⟨?_⟩, ⟨?_, ?_⟩⟩
            · have := (HPT.out ((b1 + 1) % 256)).1
              rw [Int.toNat_natCast, HAD2.out, ← HAD.out] at this
              exact this
            · have hg := (HPT.out ((b1 + 1) % 256)).2
              rw [Int.toNat_natCast, HAD2.out] at hg
              exact Kd.R_grown2 RZi.out rfl hg (fun k e => by
                cases e
                intro e2
                exact HGZ.out g e2.symm rfl)
            · rw [← HAD2.out]
              exact blk_far (p := ⟨g, i, none⟩) HPi.out (by exact HGP.out) _
            · rw [← HAD2.out]
              exact HBi.out.setCell (p := ⟨g, i, none⟩) HGB.out _
        · obtain rfl : i = t.length := by omega
          clear hlt hi
          go_wp2_with fail
          clear hx4 hx5
          go_loopw [11] (fun v11 wq => ∃ (j : Nat) (z2 : List Int), j ≤ z.length ∧ v11 = .int .i64 j ∧ Aside0 ((Kd.int .u8).R 5 wq w2.heap.size (fun _ => True) (.slice Az z.length cz) z2) ∧ Aside0 (wq.heap[w3.heap.size]? = some (.cells #[.int .u8 r1, .int .u32 r2, .slice Ax x.length cx, .slice Ay y.length cy, .slice At t.length ct, .slice Az z.length cz] 29 (0, 0)) ∧ Below w2.heap.size w2 wq))
            (fun v11 _ => z.length - (intOf v11).toNat)
          case atStart => exact ⟨0, z, Nat.zero_le _, rfl, RZi, ⟨HPi.out, HBi.out⟩⟩
          case round =>
            clear RTi RZi HPi HBi
            obtain ⟨j, z2, hj, rfl, RZj, ⟨hpj, hbj⟩⟩ := hrel
            have hx5 := blk_cell hpj 5
            simp at hx5
            have HPj := Aside0.mk hpj
            have HBj := Aside0.mk hbj
            clear hpj hbj
            by_cases hlt : j < z.length
            · have htl : z2.length = z.length := (Kd.R_reads' RZj.out).1.symm
              obtain ⟨g, cap, hv, hgb, hgl, cells, hcells⟩ := Kd.R_form RZj.out (by omega)
              simp only [Value.slice.injEq] at hv
              obtain ⟨hv, hvl, hv2⟩ := hv
              clear hvl
              subst hv2
              obtain ⟨ad, had⟩ : ∃ ad : Addr, ad = ⟨g, 0, none⟩ := ⟨_, rfl⟩
              rw [← had] at hv
              subst hv
              have RZg := Aside0.mk (by have h := RZj.out; rw [had] at h; exact h)
              obtain ⟨hc1, hf1⟩ := Kd.R_celln (0 : Int) RZg.out (j : Int) (by omega) (by omega)
              rw [Int.toNat_natCast] at hc1 hf1
              have had2 : (⟨g, j, none⟩ : Addr) = ad.add j := by rw [had]; simp [Addr.add]
              rw [had2] at hc1 hf1
              obtain ⟨b1, hb1⟩ : ∃ b1, b1 = rdOf (0 : Int) z2 (j : Int) := ⟨_, rfl⟩
              rw [← hb1] at hc1
              have HPT := Aside0.mk (fun q : Int => Kd.R_putg RZg.out (j : Int) q)
              have HGP := Aside0.mk (show w3.heap.size ≠ g from fun e => by
                have h1 := HPj.out
                rw [e, hcells] at h1
                simp at h1)
              have HGB := Aside0.mk hgb
              have p1 : ((0 : Int) ≤ (j : Int)) = True := eq_true (by omega)
              have p2 : ((j : Int) < (z.length : Int)) = True := eq_true (by omega)
              have HAD := Aside0.mk had
              have HAD2 := Aside0.mk had2
              clear hb1 hcells hgl hgb had had2 htl
              go_wp2_with fail
              go_roundw
              case measure => simp [intOf]; omega
              case rel =>
                refine ⟨j + 1, z2.set j ((b1 + 1) % 256), by omega, by go_num, ⟨?_⟩, ⟨?_, ?_⟩⟩
                · have := (HPT.out ((b1 + 1) % 256)).1
                  rw [Int.toNat_natCast, HAD2.out, ← HAD.out] at this
                  exact this
                · rw [← HAD2.out]
                  exact blk_far (p := ⟨g, j, none⟩) HPj.out (by exact HGP.out) _
                · rw [← HAD2.out]
                  exact HBj.out.setCell (p := ⟨g, j, none⟩) HGB.out _
            · obtain rfl : j = z.length := by omega
              clear hlt hj
              go_wp2_with fail
              have HQj := Aside0.mk (HB2.out.trans (HBj.out.mono HB2.out.size))
              (with_reducible refine (crosswayref00_SameBytes.calls k _ _ _ _ _ _ true _ (Kd.C_below RO.out HBj.out) CO.out (Kd.C_below R0.out HQj.out) C0.out SME.out).mono ?_)
              rintro e w8 ⟨rfl, hd⟩
              have HQe := Aside0.mk (HQj.out.trans (hd.below.mono HQj.out.size))
              clear hd
              go_wp2_with fail
              go_ret
              exact ⟨rfl, HQe.out⟩


/-- The one pure statement of crosswaylaw11_InitialParses. -/
def crosswaylaw11_InitialParses.Pure : Prop := ∀ (l0 : List Int) (a1 : Int), l0.length ≤ maxLen → (∀ x ∈ l0, (Lit.int .u8 x).wf = true) → (Lit.int .u8 a1).wf = true → ∃ k, crosswaylaw11_InitialParses.f k l0 a1 = some true

end Go.Proofs.Ytmhmmmkpijbbiad.M
