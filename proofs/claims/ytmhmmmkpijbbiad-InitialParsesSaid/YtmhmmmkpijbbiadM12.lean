/- Contracts of the Go functions that the laws reach, each as a plain Lean function: written by xprint.py, a program of this repo. -/
import Derived.Test.YtmhmmmkpijbbiadM0
import Derived.Test.YtmhmmmkpijbbiadM1
import Derived.Test.YtmhmmmkpijbbiadM10
import Derived.Test.YtmhmmmkpijbbiadM11
namespace Go.Proofs.Ytmhmmmkpijbbiad.M
open Go.RowKit Go.Proofs.YtmhmmmkpijbbiadW.PrintWords Go.Proofs.YtmhmmmkpijbbiadW.PrintLast Go.Proofs.YtmhmmmkpijbbiadW.PrintMore Go.Proofs.Ytmhmmmkpijbbiad.X
attribute [local go_sem] max2_int min2_int max_two min_two max_three min_three max_four min_four   -- for this text's walks alone
set_option linter.unusedVariables false
set_option linter.unusedSimpArgs false

/-! ### crosswayref11_Parse: function 9, typed by hand -/
theorem setRow_below {B g : Nat} {w0 w : World} (hb : Below B w0 w) (hBg : B ≤ g) (cs : Array Value) : Below B w0 (w.setRow g cs) :=
  ⟨hb.os, hb.tape, hb.output, by rw [setRow_size]; exact hb.size, fun b hlt => by rw [setRow_other w g b cs (by omega)]; exact hb.block b hlt⟩
def crosswayref11_Parse.f (k : Nat) (l0 : List Int) : Option (Int × Int × List Int × List Int × List Int × List Int × Int) :=
  (crosswayref10_Parse.f l0).bind fun p => (if p.2.2.2.2.2 = 0 then crosswayref11_wrong.f k p.1 p.2.1 p.2.2.1 p.2.2.2.1 else some p.2.2.2.2.2).bind fun e =>
    if e = 0 then (crosswayref08_Take.f k p.2.2.2.2.1).bind fun t =>
      if 0 ≤ t.2.1 ∧ t.2.1 ≤ (p.2.2.2.2.1.length : Int) ∧ 0 ≤ t.1 then
        (if t.2.2 ≠ 0 ∨ (p.2.2.2.2.1.length : Int) - t.2.1 < t.1 then some (0, 0, [], [], [], [], 12)
        else some (p.1, p.2.1, p.2.2.1, p.2.2.2.1, (p.2.2.2.2.1.drop t.2.1.toNat).take t.1.toNat, (p.2.2.2.2.1.drop t.2.1.toNat).drop t.1.toNat, 0))
      else none
    else some (0, 0, [], [], [], [], e)
set_option maxRecDepth 100000 in
set_option maxHeartbeats 4000000 in
theorem crosswayref11_Parse.calls (k : Nat) (A0 : Option Addr) (c0 : Nat) (l0 : List Int) (r1 r2 : Int) (r3 r4 r5 r6 : List Int) (r7 : Int) (w : World) (hr0 : Kd.C (Kd.int .u8) w A0 l0.length l0) (hc0 : l0.length ≤ c0) (h : crosswayref11_Parse.f k l0 = some (r1, r2, r3, r4, r5, r6, r7)) :
    Calls Try.prog 9 #[.slice A0 l0.length c0] w fun en w' => (∃ Ax cx Ay cy At ct Az cz, en = .returned (.tuple #[.agg #[.int .u8 r1, .int .u32 r2, .slice Ax r3.length cx, .slice Ay r4.length cy, .slice At r5.length ct, .slice Az r6.length cz], .int .i64 r7]) ∧
      (Kd.C (Kd.int .u8) w' Ax r3.length r3 ∧ r3.length ≤ cx) ∧ (Kd.C (Kd.int .u8) w' Ay r4.length r4 ∧ r4.length ≤ cy) ∧ (Kd.C (Kd.int .u8) w' At r5.length r5 ∧ r5.length ≤ ct) ∧ (Kd.C (Kd.int .u8) w' Az r6.length r6 ∧ r6.length ≤ cz)) ∧ Below w.heap.size w w' := by
  unfold crosswayref11_Parse.f at h
  obtain ⟨⟨a, b, x, y, l, e0⟩, hp, h2⟩ := Option.bind_eq_some_iff.1 h
  clear h
  dsimp only at h2 hp
  obtain ⟨e1, he, h⟩ := Option.bind_eq_some_iff.1 h2
  clear h2
  have PP := Aside0.mk hp
  have HH := Aside0.mk h
  have HE := Aside0.mk he
  have R0 := Aside0.mk hr0
  have C0 := Aside0.mk hc0
  have HB1 := Aside0.mk (below_alloc (Below.refl w.heap.size w) (.cells #[.int .u8 0, .int .u32 0, .slice none 0 0, .slice none 0 0, .slice none 0 0, .slice none 0 0] 35))
  have HP1 := Aside0.mk (blk_new w (.cells #[.int .u8 0, .int .u32 0, .slice none 0 0, .slice none 0 0, .slice none 0 0, .slice none 0 0] 35))
  clear hp hr0 hc0 h he
  go_enter Try.func9, Try.ntmps9
  go_wp2_with fail
  (with_reducible refine (crosswayref10_Parse.calls _ _ _ _ _ _ _ _ _ _ (Kd.C_alloc R0.out _) C0.out PP.out).mono ?_)
  rintro en w2 ⟨vx, vy, vl, rfl, hrx, hry, hrl, hb2⟩
  obtain ⟨Ax, cx, rfl, hcx, hCx⟩ := row_at hrx
  obtain ⟨Ay, cy, rfl, hcy, hCy⟩ := row_at hry
  obtain ⟨Al, cl, rfl, hcl, hCl⟩ := row_at hrl
  have hbs : ∀ k, (w.alloc (.cells #[.int .u8 0, .int .u32 0, .slice none 0 0, .slice none 0 0, .slice none 0 0, .slice none 0 0] 35)).heap.size ≤ k → w.heap.size < k := fun k hk => by simp at hk; omega
  have RX := Aside0.mk (show Kd.F (Kd.int .u8) w2 (fun k => w.heap.size < k) Ax x.length x from Kd.F_mono (Kd.R_F (Kd.R_bound hrx)) (fun k hk => hbs k hk.2.1))
  have RY := Aside0.mk (show Kd.F (Kd.int .u8) w2 (fun k => w.heap.size < k) Ay y.length y from Kd.F_mono (Kd.R_F (Kd.R_bound hry)) (fun k hk => hbs k hk.2.1))
  have RL := Aside0.mk (show Kd.F (Kd.int .u8) w2 (fun k => w.heap.size < k) Al l.length l from Kd.F_mono (Kd.R_F (Kd.R_bound hrl)) (fun k hk => hbs k hk.2.1))
  have CX := Aside0.mk hcx
  have CY := Aside0.mk hcy
  have CL := Aside0.mk hcl
  have HP2 := Aside0.mk (blk_below HP1.out hb2)
  have HB2 := Aside0.mk (HB1.out.trans (hb2.mono HB1.out.size))
  clear hbs hrx hry hrl hcx hcy hcl hCx hCy hCl hb2 HP1 HB1
  go_upto_region 2 with (fail)
  have HP3 := Aside0.mk (blk_alloc HP2.out (.cells #[.int .u8 a, .int .u32 b, .slice Ax x.length cx, .slice Ay y.length cy] 33))
  have HH3 := Aside0.mk (blk_new w2 (.cells #[.int .u8 a, .int .u32 b, .slice Ax x.length cx, .slice Ay y.length cy] 33))
  have HB3 := Aside0.mk (HB2.out.alloc HB2.out.size (.cells #[.int .u8 a, .int .u32 b, .slice Ax x.length cx, .slice Ay y.length cy] 33))
  have RX3 := Aside0.mk (Kd.F_alloc RX.out (.cells #[.int .u8 a, .int .u32 b, .slice Ax x.length cx, .slice Ay y.length cy] 33))
  have RY3 := Aside0.mk (Kd.F_alloc RY.out (.cells #[.int .u8 a, .int .u32 b, .slice Ax x.length cx, .slice Ay y.length cy] 33))
  have RL3 := Aside0.mk (Kd.F_alloc RL.out (.cells #[.int .u8 a, .int .u32 b, .slice Ax x.length cx, .slice Ay y.length cy] 33))
  obtain ⟨hw, hhw⟩ : ∃ hw, hw = w2.heap.size := ⟨_, rfl⟩
  rw [← hhw] at HH3 ⊢
  generalize w2.alloc (.cells #[.int .u8 a, .int .u32 b, .slice Ax x.length cx, .slice Ay y.length cy] 33) = w3 at HP3 HH3 HB3 RX3 RY3 RL3 ⊢
  clear hhw RX RY RL HP2 HB2
  by_cases z0 : e0 = 0
  · subst z0
    have he := HE.out
    rw [if_pos rfl] at he
    have WW := Aside0.mk he
    have hh0 := blk_cell HH3.out 0
    have hh1 := blk_cell HH3.out 1
    have hh2 := blk_cell HH3.out 2
    have hh3 := blk_cell HH3.out 3
    simp at hh0 hh1 hh2 hh3
    clear he HE
    go_wp2_with fail
    (with_reducible refine (crosswayref11_wrong.calls k _ _ _ _ _ _ _ _ _ _ (Kd.F_now RX3.out) CX.out (Kd.F_now RY3.out) CY.out WW.out).mono ?_)
    rintro en w4 ⟨rfl, hb4⟩
    have HP4 := Aside0.mk (blk_below HP3.out hb4)
    have HH4 := Aside0.mk (blk_below HH3.out hb4)
    have HB4 := Aside0.mk (HB3.out.trans (hb4.mono HB3.out.size))
    have RX4 := Aside0.mk (Kd.F_below RX3.out hb4)
    have RY4 := Aside0.mk (Kd.F_below RY3.out hb4)
    have RL4 := Aside0.mk (Kd.F_below RL3.out hb4)
    clear hb4 HP3 HH3 HB3 RX3 RY3 RL3 hh0 hh1 hh2 hh3
    by_cases z1 : e1 = 0
    · subst z1
      have h := HH.out
      rw [if_pos rfl] at h
      obtain ⟨⟨n, j, g⟩, ht, h2⟩ := Option.bind_eq_some_iff.1 h
      clear h HH
      dsimp only at ht h2
      have TT := Aside0.mk ht
      have HK := Aside0.mk h2
      clear ht h2
      go_wp2_with fail
      (with_reducible refine (crosswayref08_Take.calls k _ _ _ _ _ _ _ (Kd.F_now RL4.out) CL.out TT.out).mono ?_)
      rintro en w5 ⟨rfl, hb5⟩
      have HP5 := Aside0.mk (blk_below HP4.out hb5)
      have HH5 := Aside0.mk (blk_below HH4.out hb5)
      have HB5 := Aside0.mk (HB4.out.trans (hb5.mono HB4.out.size))
      have RX5 := Aside0.mk (Kd.F_below RX4.out hb5)
      have RY5 := Aside0.mk (Kd.F_below RY4.out hb5)
      have RL5 := Aside0.mk (Kd.F_below RL4.out hb5)
      clear hb5 HP4 HH4 HB4 RX4 RY4 RL4
      have h2 := HK.out
      by_cases hjn : 0 ≤ j ∧ j ≤ (l.length : Int) ∧ 0 ≤ n
      rotate_left
      · rw [if_neg hjn] at h2; cases h2
      rw [if_pos hjn] at h2
      have HK2 := Aside0.mk h2
      have hlm := Kd.F_max RL5.out
      obtain ⟨hj0, hj1, hn0⟩ := hjn
      clear h2 HK
      have hconv : IntKind.u64.wrap ((l.length : Int) - j) = (l.length : Int) - j := by rw [IntKind.wrap_u64]; omega
      by_cases hg : g = 0
      · subst hg
        by_cases hnl : (l.length : Int) - j < n
        · have HR := Aside0.mk (Option.some.inj ((if_pos (.inr hnl)).symm.trans HK2.out))
          clear HK2
          have hr := HR.out
          simp only [Prod.mk.injEq] at hr
          obtain ⟨rfl, rfl, rfl, rfl, rfl, rfl, rfl⟩ := hr
          clear HR
          have hp0 := blk_cell HP5.out 0
          have hf0 := blk_frozen HP5.out 0
          have hp1 := blk_cell HP5.out 1
          have hf1 := blk_frozen HP5.out 1
          have hp2 := blk_cell HP5.out 2
          have hf2 := blk_frozen HP5.out 2
          have hp3 := blk_cell HP5.out 3
          have hf3 := blk_frozen HP5.out 3
          have hp4 := blk_cell HP5.out 4
          have hf4 := blk_frozen HP5.out 4
          have hp5 := blk_cell HP5.out 5
          have hf5 := blk_frozen HP5.out 5
          simp at hp0 hp1 hp2 hp3 hp4 hp5
          go_wp2_with fail
          refine bodyPost_ret (results_ct rfl _ _ w.heap.size 35 #[.int .u8 0, .int .u32 0, .slice none 0 0, .slice none 0 0, .slice none 0 0, .slice none 0 0] (0, 0) _ rfl (blk_put (cs := #[.int .u8 0, .int .u32 0, .slice none 0 0, .slice none 0 0, .slice none 0 0, .slice none 0 0]) (blk_put (cs := #[.int .u8 0, .int .u32 0, .slice none 0 0, .slice none 0 0, .slice none 0 0, .slice none 0 0]) (blk_put (cs := #[.int .u8 0, .int .u32 0, .slice none 0 0, .slice none 0 0, .slice none 0 0, .slice none 0 0]) (blk_put (cs := #[.int .u8 0, .int .u32 0, .slice none 0 0, .slice none 0 0, .slice none 0 0, .slice none 0 0]) (blk_put (cs := #[.int .u8 0, .int .u32 0, .slice none 0 0, .slice none 0 0, .slice none 0 0, .slice none 0 0]) (blk_put (cs := #[.int .u8 0, .int .u32 0, .slice none 0 0, .slice none 0 0, .slice none 0 0, .slice none 0 0]) HP5.out 0 (.int .u8 0) rfl) 1 (.int .u32 0) rfl) 2 (.slice none 0 0) rfl) 3 (.slice none 0 0) rfl) 4 (.slice none 0 0) rfl) 5 (.slice none 0 0) rfl) Try.underlying35 rfl (by kernel_rfl)) rfl ⟨⟨none, 0, none, 0, none, 0, none, 0, rfl, ?_, ?_, ?_, ?_⟩, ((((((HB5.out.setCell (p := ⟨w.heap.size, 0, none⟩) (Nat.le_refl _) (.int .u8 0)).setCell (p := ⟨w.heap.size, 1, none⟩) (Nat.le_refl _) (.int .u32 0)).setCell (p := ⟨w.heap.size, 2, none⟩) (Nat.le_refl _) (.slice none 0 0)).setCell (p := ⟨w.heap.size, 3, none⟩) (Nat.le_refl _) (.slice none 0 0)).setCell (p := ⟨w.heap.size, 4, none⟩) (Nat.le_refl _) (.slice none 0 0)).setCell (p := ⟨w.heap.size, 5, none⟩) (Nat.le_refl _) (.slice none 0 0))⟩
          all_goals exact ⟨Kd.C_nil _ _, Nat.le_refl _⟩
        · have HR := Aside0.mk (Option.some.inj ((if_neg (by omega)).symm.trans HK2.out))
          clear HK2
          obtain ⟨m, rfl⟩ := Int.eq_ofNat_of_zero_le hj0
          obtain ⟨q, rfl⟩ := Int.eq_ofNat_of_zero_le hn0
          have hr := HR.out
          simp only [Prod.mk.injEq, Int.toNat_natCast] at hr
          obtain ⟨rfl, rfl, rfl, rfl, ht5, ht6, rfl⟩ := hr
          clear HR
          obtain ⟨i5, hi5, hi5s⟩ := Option.map_eq_some_iff.1 info5
          obtain ⟨y5, hy5⟩ : ∃ y5, y5 = l.drop m := ⟨_, rfl⟩
          obtain ⟨A5, hA5⟩ : ∃ A5, A5 = (if cl = m then Al else Al.map (·.add (m * 1))) := ⟨_, rfl⟩
          obtain ⟨c5, hc5⟩ : ∃ c5, c5 = cl - m := ⟨_, rfl⟩
          have hyl : y5.length = l.length - m := by rw [hy5, List.length_drop]
          have R5 := Aside0.mk (show Kd.F (Kd.int .u8) w5 (fun k => w.heap.size < k) A5 y5.length y5 by rw [hy5, hA5]; exact Kd.F_cut RL5.out (by omega) CL.out)
          have C5 := Aside0.mk (show y5.length ≤ c5 by have := CL.out; omega)
          have hcut5 : ∀ W : World, (Instr.slice 22 (.slice Al l.length cl) (some (.int .i64 (m : Int))) none none).run Try.prog W = .ok (.slice A5 y5.length c5) W := by
            intro W
            have := cut_from (P := Try.prog) 22 5 .i64 Try.underlying22 hi5 1 (by simp at hi5s; exact hi5s.2.1) Al l.length cl (m : Int) (by omega) (by omega) W
            rw [Int.toNat_natCast] at this
            rw [hyl, hA5, hc5]
            exact this
          obtain ⟨A6, hA6⟩ : ∃ A6, A6 = (if c5 = q then A5 else A5.map (·.add (q * 1))) := ⟨_, rfl⟩
          obtain ⟨c6, hc6⟩ : ∃ c6, c6 = c5 - q := ⟨_, rfl⟩
          rw [← hy5] at ht5 ht6
          have hql : q ≤ y5.length := by omega
          have hl5 : r5.length = q := by rw [← ht5, List.length_take]; omega
          have hl6 : r6.length = y5.length - q := by rw [← ht6, List.length_drop]
          have R6 := Aside0.mk (show Kd.F (Kd.int .u8) w5 (fun k => w.heap.size < k) A6 r6.length r6 by rw [← ht6, hA6]; exact Kd.F_cut R5.out hql C5.out)
          have C6 := Aside0.mk (show r6.length ≤ c6 by have := C5.out; omega)
          have R5t := Aside0.mk (show Kd.F (Kd.int .u8) w5 (fun k => w.heap.size < k) A5 r5.length r5 by rw [← ht5]; exact Kd.F_take R5.out hql)
          have C5t := Aside0.mk (show r5.length ≤ c5 by have := C5.out; omega)
          have hcutA : ∀ W : World, (Instr.slice 22 (.slice A5 y5.length c5) none (some (.int .u64 (q : Int))) none).run Try.prog W = .ok (.slice A5 r5.length c5) W := by
            intro W
            have := cut_to (P := Try.prog) 22 5 .u64 Try.underlying22 hi5 A5 y5.length c5 (q : Int) (by omega) (by omega) C5.out W
            rw [Int.toNat_natCast] at this
            rw [hl5]
            exact this
          have hcutB : ∀ W : World, (Instr.slice 22 (.slice A5 y5.length c5) (some (.int .u64 (q : Int))) none none).run Try.prog W = .ok (.slice A6 r6.length c6) W := by
            intro W
            have := cut_from (P := Try.prog) 22 5 .u64 Try.underlying22 hi5 1 (by simp at hi5s; exact hi5s.2.1) A5 y5.length c5 (q : Int) (by omega) (by omega) W
            rw [Int.toNat_natCast] at this
            rw [hl6, hA6, hc6]
            exact this
          have hh0 := blk_cell HH5.out 0
          have hh1 := blk_cell HH5.out 1
          have hh2 := blk_cell HH5.out 2
          have hh3 := blk_cell HH5.out 3
          simp at hh0 hh1 hh2 hh3
          clear hy5 hA5 hc5 hA6 hc6 ht5 ht6 hl5 hl6 hyl
          have hp0 := blk_cell HP5.out 0
          have hp1 := blk_cell HP5.out 1
          have hp2 := blk_cell HP5.out 2
          have hp3 := blk_cell HP5.out 3
          have hp4 := blk_cell HP5.out 4
          have hp5 := blk_cell HP5.out 5
          have hf0 := blk_frozen HP5.out 0
          have hf1 := blk_frozen HP5.out 1
          have hf2 := blk_frozen HP5.out 2
          have hf3 := blk_frozen HP5.out 3
          have hf4 := blk_frozen HP5.out 4
          have hf5 := blk_frozen HP5.out 5
          simp at hp0 hp1 hp2 hp3 hp4 hp5
          go_wp2_with fail
          go_still_tail 8, (by kernel_rfl)
          change wpList _ _ _ _ _ w5.drew
          go_wp2_with fail
          clear hcut5 hcutA hcutB
          refine bodyPost_ret (results_ct rfl _ _ w.heap.size 35 #[.int .u8 a, .int .u32 b, .slice Ax x.length cx, .slice Ay y.length cy, .slice A5 r5.length c5, .slice A6 r6.length c6] (0, 0) _ rfl (blk_drew (blk_put (cs := #[.int .u8 a, .int .u32 b, .slice Ax x.length cx, .slice Ay y.length cy, .slice A5 r5.length c5, .slice none 0 0]) (blk_put (cs := #[.int .u8 a, .int .u32 b, .slice Ax x.length cx, .slice Ay y.length cy, .slice none 0 0, .slice none 0 0]) (blk_put (cs := #[.int .u8 a, .int .u32 b, .slice Ax x.length cx, .slice none 0 0, .slice none 0 0, .slice none 0 0]) (blk_put (cs := #[.int .u8 a, .int .u32 b, .slice none 0 0, .slice none 0 0, .slice none 0 0, .slice none 0 0]) (blk_put (cs := #[.int .u8 a, .int .u32 0, .slice none 0 0, .slice none 0 0, .slice none 0 0, .slice none 0 0]) (blk_put (cs := #[.int .u8 0, .int .u32 0, .slice none 0 0, .slice none 0 0, .slice none 0 0, .slice none 0 0]) HP5.out 0 (.int .u8 a) rfl) 1 (.int .u32 b) rfl) 2 (.slice Ax x.length cx) rfl) 3 (.slice Ay y.length cy) rfl) 4 (.slice A5 r5.length c5) rfl) 5 (.slice A6 r6.length c6) rfl)) Try.underlying35 rfl (by kernel_rfl)) rfl ⟨⟨Ax, cx, Ay, cy, A5, c5, A6, c6, rfl, ⟨?_, CX.out⟩, ⟨?_, CY.out⟩, ⟨?_, C5t.out⟩, ⟨?_, C6.out⟩⟩, below_drew ((((((HB5.out.setCell (p := ⟨w.heap.size, 0, none⟩) (Nat.le_refl _) (.int .u8 a)).setCell (p := ⟨w.heap.size, 1, none⟩) (Nat.le_refl _) (.int .u32 b)).setCell (p := ⟨w.heap.size, 2, none⟩) (Nat.le_refl _) (.slice Ax x.length cx)).setCell (p := ⟨w.heap.size, 3, none⟩) (Nat.le_refl _) (.slice Ay y.length cy)).setCell (p := ⟨w.heap.size, 4, none⟩) (Nat.le_refl _) (.slice A5 r5.length c5)).setCell (p := ⟨w.heap.size, 5, none⟩) (Nat.le_refl _) (.slice A6 r6.length c6))⟩
          · exact Kd.F_now (Kd.F_drew (Kd.F_far (p := ⟨w.heap.size, 5, none⟩) (Kd.F_far (p := ⟨w.heap.size, 4, none⟩) (Kd.F_far (p := ⟨w.heap.size, 3, none⟩) (Kd.F_far (p := ⟨w.heap.size, 2, none⟩) (Kd.F_far (p := ⟨w.heap.size, 1, none⟩) (Kd.F_far (p := ⟨w.heap.size, 0, none⟩) RX5.out (fun k hk => Nat.ne_of_gt hk) (.int .u8 a)) (fun k hk => Nat.ne_of_gt hk) (.int .u32 b)) (fun k hk => Nat.ne_of_gt hk) (.slice Ax x.length cx)) (fun k hk => Nat.ne_of_gt hk) (.slice Ay y.length cy)) (fun k hk => Nat.ne_of_gt hk) (.slice A5 r5.length c5)) (fun k hk => Nat.ne_of_gt hk) (.slice A6 r6.length c6)))
          · exact Kd.F_now (Kd.F_drew (Kd.F_far (p := ⟨w.heap.size, 5, none⟩) (Kd.F_far (p := ⟨w.heap.size, 4, none⟩) (Kd.F_far (p := ⟨w.heap.size, 3, none⟩) (Kd.F_far (p := ⟨w.heap.size, 2, none⟩) (Kd.F_far (p := ⟨w.heap.size, 1, none⟩) (Kd.F_far (p := ⟨w.heap.size, 0, none⟩) RY5.out (fun k hk => Nat.ne_of_gt hk) (.int .u8 a)) (fun k hk => Nat.ne_of_gt hk) (.int .u32 b)) (fun k hk => Nat.ne_of_gt hk) (.slice Ax x.length cx)) (fun k hk => Nat.ne_of_gt hk) (.slice Ay y.length cy)) (fun k hk => Nat.ne_of_gt hk) (.slice A5 r5.length c5)) (fun k hk => Nat.ne_of_gt hk) (.slice A6 r6.length c6)))
          · exact Kd.F_now (Kd.F_drew (Kd.F_far (p := ⟨w.heap.size, 5, none⟩) (Kd.F_far (p := ⟨w.heap.size, 4, none⟩) (Kd.F_far (p := ⟨w.heap.size, 3, none⟩) (Kd.F_far (p := ⟨w.heap.size, 2, none⟩) (Kd.F_far (p := ⟨w.heap.size, 1, none⟩) (Kd.F_far (p := ⟨w.heap.size, 0, none⟩) R5t.out (fun k hk => Nat.ne_of_gt hk) (.int .u8 a)) (fun k hk => Nat.ne_of_gt hk) (.int .u32 b)) (fun k hk => Nat.ne_of_gt hk) (.slice Ax x.length cx)) (fun k hk => Nat.ne_of_gt hk) (.slice Ay y.length cy)) (fun k hk => Nat.ne_of_gt hk) (.slice A5 r5.length c5)) (fun k hk => Nat.ne_of_gt hk) (.slice A6 r6.length c6)))
          · exact Kd.F_now (Kd.F_drew (Kd.F_far (p := ⟨w.heap.size, 5, none⟩) (Kd.F_far (p := ⟨w.heap.size, 4, none⟩) (Kd.F_far (p := ⟨w.heap.size, 3, none⟩) (Kd.F_far (p := ⟨w.heap.size, 2, none⟩) (Kd.F_far (p := ⟨w.heap.size, 1, none⟩) (Kd.F_far (p := ⟨w.heap.size, 0, none⟩) R6.out (fun k hk => Nat.ne_of_gt hk) (.int .u8 a)) (fun k hk => Nat.ne_of_gt hk) (.int .u32 b)) (fun k hk => Nat.ne_of_gt hk) (.slice Ax x.length cx)) (fun k hk => Nat.ne_of_gt hk) (.slice Ay y.length cy)) (fun k hk => Nat.ne_of_gt hk) (.slice A5 r5.length c5)) (fun k hk => Nat.ne_of_gt hk) (.slice A6 r6.length c6)))
      · have HR := Aside0.mk (Option.some.inj ((if_pos (.inl hg)).symm.trans HK2.out))
        have q1 : (g != 0) = true := bne_iff_ne.mpr hg
        clear HK2 hg
        have hr := HR.out
        simp only [Prod.mk.injEq] at hr
        obtain ⟨rfl, rfl, rfl, rfl, rfl, rfl, rfl⟩ := hr
        clear HR
        have hp0 := blk_cell HP5.out 0
        have hf0 := blk_frozen HP5.out 0
        have hp1 := blk_cell HP5.out 1
        have hf1 := blk_frozen HP5.out 1
        have hp2 := blk_cell HP5.out 2
        have hf2 := blk_frozen HP5.out 2
        have hp3 := blk_cell HP5.out 3
        have hf3 := blk_frozen HP5.out 3
        have hp4 := blk_cell HP5.out 4
        have hf4 := blk_frozen HP5.out 4
        have hp5 := blk_cell HP5.out 5
        have hf5 := blk_frozen HP5.out 5
        simp at hp0 hp1 hp2 hp3 hp4 hp5
        go_wp2_with fail
        refine bodyPost_ret (results_ct rfl _ _ w.heap.size 35 #[.int .u8 0, .int .u32 0, .slice none 0 0, .slice none 0 0, .slice none 0 0, .slice none 0 0] (0, 0) _ rfl (blk_put (cs := #[.int .u8 0, .int .u32 0, .slice none 0 0, .slice none 0 0, .slice none 0 0, .slice none 0 0]) (blk_put (cs := #[.int .u8 0, .int .u32 0, .slice none 0 0, .slice none 0 0, .slice none 0 0, .slice none 0 0]) (blk_put (cs := #[.int .u8 0, .int .u32 0, .slice none 0 0, .slice none 0 0, .slice none 0 0, .slice none 0 0]) (blk_put (cs := #[.int .u8 0, .int .u32 0, .slice none 0 0, .slice none 0 0, .slice none 0 0, .slice none 0 0]) (blk_put (cs := #[.int .u8 0, .int .u32 0, .slice none 0 0, .slice none 0 0, .slice none 0 0, .slice none 0 0]) (blk_put (cs := #[.int .u8 0, .int .u32 0, .slice none 0 0, .slice none 0 0, .slice none 0 0, .slice none 0 0]) HP5.out 0 (.int .u8 0) rfl) 1 (.int .u32 0) rfl) 2 (.slice none 0 0) rfl) 3 (.slice none 0 0) rfl) 4 (.slice none 0 0) rfl) 5 (.slice none 0 0) rfl) Try.underlying35 rfl (by kernel_rfl)) rfl ⟨⟨none, 0, none, 0, none, 0, none, 0, rfl, ?_, ?_, ?_, ?_⟩, ((((((HB5.out.setCell (p := ⟨w.heap.size, 0, none⟩) (Nat.le_refl _) (.int .u8 0)).setCell (p := ⟨w.heap.size, 1, none⟩) (Nat.le_refl _) (.int .u32 0)).setCell (p := ⟨w.heap.size, 2, none⟩) (Nat.le_refl _) (.slice none 0 0)).setCell (p := ⟨w.heap.size, 3, none⟩) (Nat.le_refl _) (.slice none 0 0)).setCell (p := ⟨w.heap.size, 4, none⟩) (Nat.le_refl _) (.slice none 0 0)).setCell (p := ⟨w.heap.size, 5, none⟩) (Nat.le_refl _) (.slice none 0 0))⟩
        all_goals exact ⟨Kd.C_nil _ _, Nat.le_refl _⟩
    · have h := HH.out
      rw [if_neg z1] at h
      have HR := Aside0.mk (Option.some.inj h)
      have q1 : (e1 != 0) = true := bne_iff_ne.mpr z1
      clear h HH z1
      have hr := HR.out
      simp only [Prod.mk.injEq] at hr
      obtain ⟨rfl, rfl, rfl, rfl, rfl, rfl, rfl⟩ := hr
      clear HR
      have hp0 := blk_cell HP4.out 0
      have hf0 := blk_frozen HP4.out 0
      have hp1 := blk_cell HP4.out 1
      have hf1 := blk_frozen HP4.out 1
      have hp2 := blk_cell HP4.out 2
      have hf2 := blk_frozen HP4.out 2
      have hp3 := blk_cell HP4.out 3
      have hf3 := blk_frozen HP4.out 3
      have hp4 := blk_cell HP4.out 4
      have hf4 := blk_frozen HP4.out 4
      have hp5 := blk_cell HP4.out 5
      have hf5 := blk_frozen HP4.out 5
      simp at hp0 hp1 hp2 hp3 hp4 hp5
      go_wp2_with fail
      refine bodyPost_ret (results_ct rfl _ _ w.heap.size 35 #[.int .u8 0, .int .u32 0, .slice none 0 0, .slice none 0 0, .slice none 0 0, .slice none 0 0] (0, 0) _ rfl (blk_put (cs := #[.int .u8 0, .int .u32 0, .slice none 0 0, .slice none 0 0, .slice none 0 0, .slice none 0 0]) (blk_put (cs := #[.int .u8 0, .int .u32 0, .slice none 0 0, .slice none 0 0, .slice none 0 0, .slice none 0 0]) (blk_put (cs := #[.int .u8 0, .int .u32 0, .slice none 0 0, .slice none 0 0, .slice none 0 0, .slice none 0 0]) (blk_put (cs := #[.int .u8 0, .int .u32 0, .slice none 0 0, .slice none 0 0, .slice none 0 0, .slice none 0 0]) (blk_put (cs := #[.int .u8 0, .int .u32 0, .slice none 0 0, .slice none 0 0, .slice none 0 0, .slice none 0 0]) (blk_put (cs := #[.int .u8 0, .int .u32 0, .slice none 0 0, .slice none 0 0, .slice none 0 0, .slice none 0 0]) HP4.out 0 (.int .u8 0) rfl) 1 (.int .u32 0) rfl) 2 (.slice none 0 0) rfl) 3 (.slice none 0 0) rfl) 4 (.slice none 0 0) rfl) 5 (.slice none 0 0) rfl) Try.underlying35 rfl (by kernel_rfl)) rfl ⟨⟨none, 0, none, 0, none, 0, none, 0, rfl, ?_, ?_, ?_, ?_⟩, ((((((HB4.out.setCell (p := ⟨w.heap.size, 0, none⟩) (Nat.le_refl _) (.int .u8 0)).setCell (p := ⟨w.heap.size, 1, none⟩) (Nat.le_refl _) (.int .u32 0)).setCell (p := ⟨w.heap.size, 2, none⟩) (Nat.le_refl _) (.slice none 0 0)).setCell (p := ⟨w.heap.size, 3, none⟩) (Nat.le_refl _) (.slice none 0 0)).setCell (p := ⟨w.heap.size, 4, none⟩) (Nat.le_refl _) (.slice none 0 0)).setCell (p := ⟨w.heap.size, 5, none⟩) (Nat.le_refl _) (.slice none 0 0))⟩
      all_goals exact ⟨Kd.C_nil _ _, Nat.le_refl _⟩
  · have he := HE.out
    rw [if_neg z0] at he
    obtain rfl : e0 = e1 := Option.some.inj he
    have h := HH.out
    rw [if_neg z0] at h
    have HR := Aside0.mk (Option.some.inj h)
    have q1 : (e0 != 0) = true := bne_iff_ne.mpr z0
    have q2 : (e0 == 0) = false := beq_eq_false_iff_ne.mpr z0
    clear he HE h HH z0
    have hr := HR.out
    simp only [Prod.mk.injEq] at hr
    obtain ⟨rfl, rfl, rfl, rfl, rfl, rfl, rfl⟩ := hr
    clear HR
    have hp0 := blk_cell HP3.out 0
    have hf0 := blk_frozen HP3.out 0
    have hp1 := blk_cell HP3.out 1
    have hf1 := blk_frozen HP3.out 1
    have hp2 := blk_cell HP3.out 2
    have hf2 := blk_frozen HP3.out 2
    have hp3 := blk_cell HP3.out 3
    have hf3 := blk_frozen HP3.out 3
    have hp4 := blk_cell HP3.out 4
    have hf4 := blk_frozen HP3.out 4
    have hp5 := blk_cell HP3.out 5
    have hf5 := blk_frozen HP3.out 5
    simp at hp0 hp1 hp2 hp3 hp4 hp5
    go_wp2_with fail
    refine bodyPost_ret (results_ct rfl _ _ w.heap.size 35 #[.int .u8 0, .int .u32 0, .slice none 0 0, .slice none 0 0, .slice none 0 0, .slice none 0 0] (0, 0) _ rfl (blk_put (cs := #[.int .u8 0, .int .u32 0, .slice none 0 0, .slice none 0 0, .slice none 0 0, .slice none 0 0]) (blk_put (cs := #[.int .u8 0, .int .u32 0, .slice none 0 0, .slice none 0 0, .slice none 0 0, .slice none 0 0]) (blk_put (cs := #[.int .u8 0, .int .u32 0, .slice none 0 0, .slice none 0 0, .slice none 0 0, .slice none 0 0]) (blk_put (cs := #[.int .u8 0, .int .u32 0, .slice none 0 0, .slice none 0 0, .slice none 0 0, .slice none 0 0]) (blk_put (cs := #[.int .u8 0, .int .u32 0, .slice none 0 0, .slice none 0 0, .slice none 0 0, .slice none 0 0]) (blk_put (cs := #[.int .u8 0, .int .u32 0, .slice none 0 0, .slice none 0 0, .slice none 0 0, .slice none 0 0]) HP3.out 0 (.int .u8 0) rfl) 1 (.int .u32 0) rfl) 2 (.slice none 0 0) rfl) 3 (.slice none 0 0) rfl) 4 (.slice none 0 0) rfl) 5 (.slice none 0 0) rfl) Try.underlying35 rfl (by kernel_rfl)) rfl ⟨⟨none, 0, none, 0, none, 0, none, 0, rfl, ?_, ?_, ?_, ?_⟩, ((((((HB3.out.setCell (p := ⟨w.heap.size, 0, none⟩) (Nat.le_refl _) (.int .u8 0)).setCell (p := ⟨w.heap.size, 1, none⟩) (Nat.le_refl _) (.int .u32 0)).setCell (p := ⟨w.heap.size, 2, none⟩) (Nat.le_refl _) (.slice none 0 0)).setCell (p := ⟨w.heap.size, 3, none⟩) (Nat.le_refl _) (.slice none 0 0)).setCell (p := ⟨w.heap.size, 4, none⟩) (Nat.le_refl _) (.slice none 0 0)).setCell (p := ⟨w.heap.size, 5, none⟩) (Nat.le_refl _) (.slice none 0 0))⟩
    all_goals exact ⟨Kd.C_nil _ _, Nat.le_refl _⟩


open Kd
/-! ### crosswayref10_Same: function 27 -/
def crosswayref10_Same.f (a0_0 : Int) (a0_1 : Int) (l0_2 : List Int) (l0_3 : List Int) (a1_0 : Int) (a1_1 : Int) (l1_2 : List Int) (l1_3 : List Int) : Option (Bool) := if a0_0 = a1_0 then (if a0_1 = a1_1 then (if (strOfNums l0_2).toList = (strOfNums l1_2).toList then (some ((strOfNums l0_3).toList == (strOfNums l1_3).toList)) else (some false)) else (some false)) else (some false)
set_option maxHeartbeats 8000000 in
set_option maxRecDepth 100000 in
theorem crosswayref10_Same.calls (a0_0 : Int) (a0_1 : Int) (A0_2 : Option Addr) (c0_2 : Nat) (l0_2 : List Int) (A0_3 : Option Addr) (c0_3 : Nat) (l0_3 : List Int) (a1_0 : Int) (a1_1 : Int) (A1_2 : Option Addr) (c1_2 : Nat) (l1_2 : List Int) (A1_3 : Option Addr) (c1_3 : Nat) (l1_3 : List Int) (r : Bool) (w : World) (hr0_2 : Kd.C (Kd.int .u8) w A0_2 l0_2.length l0_2) (hc0_2 : l0_2.length ≤ c0_2) (hr0_3 : Kd.C (Kd.int .u8) w A0_3 l0_3.length l0_3) (hc0_3 : l0_3.length ≤ c0_3) (hr1_2 : Kd.C (Kd.int .u8) w A1_2 l1_2.length l1_2) (hc1_2 : l1_2.length ≤ c1_2) (hr1_3 : Kd.C (Kd.int .u8) w A1_3 l1_3.length l1_3) (hc1_3 : l1_3.length ≤ c1_3) (h : crosswayref10_Same.f a0_0 a0_1 l0_2 l0_3 a1_0 a1_1 l1_2 l1_3 = some r) :
  Calls Try.prog 27 #[.agg #[.int .u8 a0_0, .int .u32 a0_1, .slice A0_2 l0_2.length c0_2, .slice A0_3 l0_3.length c0_3], .agg #[.int .u8 a1_0, .int .u32 a1_1, .slice A1_2 l1_2.length c1_2, .slice A1_3 l1_3.length c1_3]] w fun e w' => e = .returned (.bool r) ∧ Below w.heap.size w w' := by
 have hu33 := Try.underlying33
 have HR0_2 := Aside0.mk hr0_2
 have HC0_2 := Aside0.mk hc0_2
 clear hr0_2 hc0_2
 have HR0_3 := Aside0.mk hr0_3
 have HC0_3 := Aside0.mk hc0_3
 clear hr0_3 hc0_3
 have HR1_2 := Aside0.mk hr1_2
 have HC1_2 := Aside0.mk hc1_2
 clear hr1_2 hc1_2
 have HR1_3 := Aside0.mk hr1_3
 have HC1_3 := Aside0.mk hc1_3
 clear hr1_3 hc1_3
 have HB := Aside0.mk (Below.refl w.heap.size w)
 have H : (if a0_0 = a1_0 then (if a0_1 = a1_1 then (if (strOfNums l0_2).toList = (strOfNums l1_2).toList then (some ((strOfNums l0_3).toList == (strOfNums l1_3).toList)) else (some false)) else (some false)) else (some false)) = some r := h
 clear h
 by_cases c3 : a0_0 = a1_0
 ·rw [if_pos c3] at H
  have c3b0 : (a0_0 == a1_0) = true := beq_iff_eq.mpr c3
  have c3b1 : (a0_0 != a1_0) = false := bne_eq_false_iff_eq.mpr c3
  clear c3
  by_cases c4 : a0_1 = a1_1
  ·rw [if_pos c4] at H
   have c4b0 : (a0_1 == a1_1) = true := beq_iff_eq.mpr c4
   have c4b1 : (a0_1 != a1_1) = false := bne_eq_false_iff_eq.mpr c4
   clear c4
   by_cases c5 : (strOfNums l0_2).toList = (strOfNums l1_2).toList
   ·rw [if_pos c5] at H
    have c5b0 : ((strOfNums l0_2).toList == (strOfNums l1_2).toList) = true := beq_iff_eq.mpr c5
    have c5b1 : ((strOfNums l0_2).toList != (strOfNums l1_2).toList) = false := bne_eq_false_iff_eq.mpr c5
    clear c5
    obtain rfl := Option.some.inj H
    go_enter Try.func27, Try.ntmps27
    go_wp2_with (first | ((with_reducible refine gate_dst (N := 2) rfl ?_); refine box_event ?hg (N := 2) ?hd (cs := #[.int .u8 a0_0, .int .u32 a0_1, .slice A0_2 l0_2.length c0_2, .slice A0_3 l0_3.length c0_3]) (t := 33) ?hr ?_; (case hd => rfl); (case hg => rfl); (case hr => first | (go_simp; done) | (go_simp; rfl)); intro gb295 hg w6 hbox hb; have n0_ := Aside0.mk (below_step (by repeat (first | (with_reducible first | exact HB.out | apply below_alloc | apply pw_below_drewN | apply below_drew1) | exact HB.out)) hb); have n1_ := Aside0.mk (hbox); have n2_ := Aside0.mk trivial; have n3_ := Aside0.mk ((by rw [hg]; exact (below_size (by repeat (first | (with_reducible first | exact HB.out | apply below_alloc | apply pw_below_drewN | apply below_drew1) | exact HB.out))) : w.heap.size ≤ gb295)); clear HB; have HB := n0_; have BK295 := n1_; have GW295 := n2_; have GE295 := n3_; clear n0_ n1_ n2_ n3_; clear hb hbox hg) | ((with_reducible refine gate_dst (N := 3) rfl ?_); refine box_event ?hg (N := 3) ?hd (cs := #[.int .u8 a1_0, .int .u32 a1_1, .slice A1_2 l1_2.length c1_2, .slice A1_3 l1_3.length c1_3]) (t := 33) ?hr ?_; (case hd => rfl); (case hg => rfl); (case hr => first | (go_simp; done) | (go_simp; rfl)); intro gb296 hg w7 hbox hb; have n0_ := Aside0.mk (blk_below (g := gb295) (o := .cells #[.int .u8 a0_0, .int .u32 a0_1, .slice A0_2 l0_2.length c0_2, .slice A0_3 l0_3.length c0_3] 33 (0, 0)) (by (with_reducible repeat (first | refine blk_drewN ?_ _ | refine blk_drew ?_ | refine blk_alloc ?_ _)); exact BK295.out) hb); have n1_ := Aside0.mk (below_step (by repeat (first | (with_reducible first | exact HB.out | apply below_alloc | apply pw_below_drewN | apply below_drew1 | refine below_set ?_ GE295.out) | exact HB.out)) hb); have n2_ := Aside0.mk (hbox); have n3_ := Aside0.mk trivial; have n4_ := Aside0.mk ((by rw [hg]; exact (below_size (by repeat (first | (with_reducible first | exact HB.out | apply below_alloc | apply pw_below_drewN | apply below_drew1 | refine below_set ?_ GE295.out) | exact HB.out))) : w.heap.size ≤ gb296)); have n5_ := Aside0.mk ((by rw [hg]; exact Nat.ne_of_lt (blk_lt (g := gb295) (o := .cells #[.int .u8 a0_0, .int .u32 a0_1, .slice A0_2 l0_2.length c0_2, .slice A0_3 l0_3.length c0_3] 33 (0, 0)) (by (with_reducible repeat (first | refine blk_drewN ?_ _ | refine blk_drew ?_ | refine blk_alloc ?_ _)); exact BK295.out)) : gb295 ≠ gb296)); have n6_ := Aside0.mk ((by rw [hg]; exact Nat.ne_of_gt (blk_lt (g := gb295) (o := .cells #[.int .u8 a0_0, .int .u32 a0_1, .slice A0_2 l0_2.length c0_2, .slice A0_3 l0_3.length c0_3] 33 (0, 0)) (by (with_reducible repeat (first | refine blk_drewN ?_ _ | refine blk_drew ?_ | refine blk_alloc ?_ _)); exact BK295.out)) : gb296 ≠ gb295)); clear BK295 HB; have BK295 := n0_; have HB := n1_; have BK296 := n2_; have GW296 := n3_; have GE296 := n4_; have NB295_296 := n5_; have NB296_295 := n6_; clear n0_ n1_ n2_ n3_ n4_ n5_ n6_; clear hb hbox hg; have hnb8 := NB295_296.out; have hnc8 := NB296_295.out; have hcz9_0 : w7.cell? ⟨gb295, 0, none⟩ = some (.int .u8 a0_0) := (blk_cell BK295.out 0).trans rfl; have hcz9_1 : w7.cell? ⟨gb295, 1, none⟩ = some (.int .u32 a0_1) := (blk_cell BK295.out 1).trans rfl; have hcz9_2 : w7.cell? ⟨gb295, 2, none⟩ = some (.slice A0_2 l0_2.length c0_2) := (blk_cell BK295.out 2).trans rfl; have hcz9_3 : w7.cell? ⟨gb295, 3, none⟩ = some (.slice A0_3 l0_3.length c0_3) := (blk_cell BK295.out 3).trans rfl; have hfz9_0 := blk_frozen BK295.out 0; have hfz9_1 := blk_frozen BK295.out 1; have hfz9_2 := blk_frozen BK295.out 2; have hfz9_3 := blk_frozen BK295.out 3; have hcz10_0 : w7.cell? ⟨gb296, 0, none⟩ = some (.int .u8 a1_0) := (blk_cell BK296.out 0).trans rfl; have hcz10_1 : w7.cell? ⟨gb296, 1, none⟩ = some (.int .u32 a1_1) := (blk_cell BK296.out 1).trans rfl; have hcz10_2 : w7.cell? ⟨gb296, 2, none⟩ = some (.slice A1_2 l1_2.length c1_2) := (blk_cell BK296.out 2).trans rfl; have hcz10_3 : w7.cell? ⟨gb296, 3, none⟩ = some (.slice A1_3 l1_3.length c1_3) := (blk_cell BK296.out 3).trans rfl; have hfz10_0 := blk_frozen BK296.out 0; have hfz10_1 := blk_frozen BK296.out 1; have hfz10_2 := blk_frozen BK296.out 2; have hfz10_3 := blk_frozen BK296.out 3; have hcv11 := C_string (P := Try.prog) (A := A0_2) (c := c0_2) Try.underlying22 Try.underlying5 Try.underlying9 (C_below HR0_2.out HB.out); have hcv12 := C_string (P := Try.prog) (A := A1_2) (c := c1_2) Try.underlying22 Try.underlying5 Try.underlying9 (C_below HR1_2.out HB.out); have hcv13 := C_string (P := Try.prog) (A := A0_3) (c := c0_3) Try.underlying22 Try.underlying5 Try.underlying9 (C_below HR0_3.out HB.out); have hcv14 := C_string (P := Try.prog) (A := A1_3) (c := c1_3) Try.underlying22 Try.underlying5 Try.underlying9 (C_below HR1_3.out HB.out)))
    go_ret
    exact ⟨by first | rfl | (simp [errW_none, errW_some] <;> rfl) | (simp [*, errW_none, errW_some] <;> rfl), by repeat (first | (with_reducible first | exact HB.out | apply below_alloc | apply pw_below_drewN | apply below_drew1 | refine below_set ?_ GE295.out | refine below_set ?_ GE296.out) | exact HB.out)⟩
   ·rw [if_neg c5] at H
    have c5b0 : ((strOfNums l0_2).toList == (strOfNums l1_2).toList) = false := beq_eq_false_iff_ne.mpr c5
    have c5b1 : ((strOfNums l0_2).toList != (strOfNums l1_2).toList) = true := bne_iff_ne.mpr c5
    obtain rfl := Option.some.inj H
    go_enter Try.func27, Try.ntmps27
    go_wp2_with (first | ((with_reducible refine gate_dst (N := 2) rfl ?_); refine box_event ?hg (N := 2) ?hd (cs := #[.int .u8 a0_0, .int .u32 a0_1, .slice A0_2 l0_2.length c0_2, .slice A0_3 l0_3.length c0_3]) (t := 33) ?hr ?_; (case hd => rfl); (case hg => rfl); (case hr => first | (go_simp; done) | (go_simp; rfl)); intro gb295 hg w15 hbox hb; have n0_ := Aside0.mk (below_step (by repeat (first | (with_reducible first | exact HB.out | apply below_alloc | apply pw_below_drewN | apply below_drew1) | exact HB.out)) hb); have n1_ := Aside0.mk (hbox); have n2_ := Aside0.mk trivial; have n3_ := Aside0.mk ((by rw [hg]; exact (below_size (by repeat (first | (with_reducible first | exact HB.out | apply below_alloc | apply pw_below_drewN | apply below_drew1) | exact HB.out))) : w.heap.size ≤ gb295)); clear HB; have HB := n0_; have BK295 := n1_; have GW295 := n2_; have GE295 := n3_; clear n0_ n1_ n2_ n3_; clear hb hbox hg) | ((with_reducible refine gate_dst (N := 3) rfl ?_); refine box_event ?hg (N := 3) ?hd (cs := #[.int .u8 a1_0, .int .u32 a1_1, .slice A1_2 l1_2.length c1_2, .slice A1_3 l1_3.length c1_3]) (t := 33) ?hr ?_; (case hd => rfl); (case hg => rfl); (case hr => first | (go_simp; done) | (go_simp; rfl)); intro gb296 hg w16 hbox hb; have n0_ := Aside0.mk (blk_below (g := gb295) (o := .cells #[.int .u8 a0_0, .int .u32 a0_1, .slice A0_2 l0_2.length c0_2, .slice A0_3 l0_3.length c0_3] 33 (0, 0)) (by (with_reducible repeat (first | refine blk_drewN ?_ _ | refine blk_drew ?_ | refine blk_alloc ?_ _)); exact BK295.out) hb); have n1_ := Aside0.mk (below_step (by repeat (first | (with_reducible first | exact HB.out | apply below_alloc | apply pw_below_drewN | apply below_drew1 | refine below_set ?_ GE295.out) | exact HB.out)) hb); have n2_ := Aside0.mk (hbox); have n3_ := Aside0.mk trivial; have n4_ := Aside0.mk ((by rw [hg]; exact (below_size (by repeat (first | (with_reducible first | exact HB.out | apply below_alloc | apply pw_below_drewN | apply below_drew1 | refine below_set ?_ GE295.out) | exact HB.out))) : w.heap.size ≤ gb296)); have n5_ := Aside0.mk ((by rw [hg]; exact Nat.ne_of_lt (blk_lt (g := gb295) (o := .cells #[.int .u8 a0_0, .int .u32 a0_1, .slice A0_2 l0_2.length c0_2, .slice A0_3 l0_3.length c0_3] 33 (0, 0)) (by (with_reducible repeat (first | refine blk_drewN ?_ _ | refine blk_drew ?_ | refine blk_alloc ?_ _)); exact BK295.out)) : gb295 ≠ gb296)); have n6_ := Aside0.mk ((by rw [hg]; exact Nat.ne_of_gt (blk_lt (g := gb295) (o := .cells #[.int .u8 a0_0, .int .u32 a0_1, .slice A0_2 l0_2.length c0_2, .slice A0_3 l0_3.length c0_3] 33 (0, 0)) (by (with_reducible repeat (first | refine blk_drewN ?_ _ | refine blk_drew ?_ | refine blk_alloc ?_ _)); exact BK295.out)) : gb296 ≠ gb295)); clear BK295 HB; have BK295 := n0_; have HB := n1_; have BK296 := n2_; have GW296 := n3_; have GE296 := n4_; have NB295_296 := n5_; have NB296_295 := n6_; clear n0_ n1_ n2_ n3_ n4_ n5_ n6_; clear hb hbox hg; have hnb17 := NB295_296.out; have hnc17 := NB296_295.out; have hcz18_0 : w16.cell? ⟨gb295, 0, none⟩ = some (.int .u8 a0_0) := (blk_cell BK295.out 0).trans rfl; have hcz18_1 : w16.cell? ⟨gb295, 1, none⟩ = some (.int .u32 a0_1) := (blk_cell BK295.out 1).trans rfl; have hcz18_2 : w16.cell? ⟨gb295, 2, none⟩ = some (.slice A0_2 l0_2.length c0_2) := (blk_cell BK295.out 2).trans rfl; have hcz18_3 : w16.cell? ⟨gb295, 3, none⟩ = some (.slice A0_3 l0_3.length c0_3) := (blk_cell BK295.out 3).trans rfl; have hfz18_0 := blk_frozen BK295.out 0; have hfz18_1 := blk_frozen BK295.out 1; have hfz18_2 := blk_frozen BK295.out 2; have hfz18_3 := blk_frozen BK295.out 3; have hcz19_0 : w16.cell? ⟨gb296, 0, none⟩ = some (.int .u8 a1_0) := (blk_cell BK296.out 0).trans rfl; have hcz19_1 : w16.cell? ⟨gb296, 1, none⟩ = some (.int .u32 a1_1) := (blk_cell BK296.out 1).trans rfl; have hcz19_2 : w16.cell? ⟨gb296, 2, none⟩ = some (.slice A1_2 l1_2.length c1_2) := (blk_cell BK296.out 2).trans rfl; have hcz19_3 : w16.cell? ⟨gb296, 3, none⟩ = some (.slice A1_3 l1_3.length c1_3) := (blk_cell BK296.out 3).trans rfl; have hfz19_0 := blk_frozen BK296.out 0; have hfz19_1 := blk_frozen BK296.out 1; have hfz19_2 := blk_frozen BK296.out 2; have hfz19_3 := blk_frozen BK296.out 3; have hcv20 := C_string (P := Try.prog) (A := A0_2) (c := c0_2) Try.underlying22 Try.underlying5 Try.underlying9 (C_below HR0_2.out HB.out); have hcv21 := C_string (P := Try.prog) (A := A1_2) (c := c1_2) Try.underlying22 Try.underlying5 Try.underlying9 (C_below HR1_2.out HB.out)))
    go_ret
    exact ⟨by first | rfl | (simp [errW_none, errW_some] <;> rfl) | (simp [*, errW_none, errW_some] <;> rfl), by repeat (first | (with_reducible first | exact HB.out | apply below_alloc | apply pw_below_drewN | apply below_drew1 | refine below_set ?_ GE295.out | refine below_set ?_ GE296.out) | exact HB.out)⟩
  ·rw [if_neg c4] at H
   have c4b0 : (a0_1 == a1_1) = false := beq_eq_false_iff_ne.mpr c4
   have c4b1 : (a0_1 != a1_1) = true := bne_iff_ne.mpr c4
   obtain rfl := Option.some.inj H
   go_enter Try.func27, Try.ntmps27
   go_wp2_with (first | ((with_reducible refine gate_dst (N := 2) rfl ?_); refine box_event ?hg (N := 2) ?hd (cs := #[.int .u8 a0_0, .int .u32 a0_1, .slice A0_2 l0_2.length c0_2, .slice A0_3 l0_3.length c0_3]) (t := 33) ?hr ?_; (case hd => rfl); (case hg => rfl); (case hr => first | (go_simp; done) | (go_simp; rfl)); intro gb295 hg w22 hbox hb; have n0_ := Aside0.mk (below_step (by repeat (first | (with_reducible first | exact HB.out | apply below_alloc | apply pw_below_drewN | apply below_drew1) | exact HB.out)) hb); have n1_ := Aside0.mk (hbox); have n2_ := Aside0.mk trivial; have n3_ := Aside0.mk ((by rw [hg]; exact (below_size (by repeat (first | (with_reducible first | exact HB.out | apply below_alloc | apply pw_below_drewN | apply below_drew1) | exact HB.out))) : w.heap.size ≤ gb295)); clear HB; have HB := n0_; have BK295 := n1_; have GW295 := n2_; have GE295 := n3_; clear n0_ n1_ n2_ n3_; clear hb hbox hg) | ((with_reducible refine gate_dst (N := 3) rfl ?_); refine box_event ?hg (N := 3) ?hd (cs := #[.int .u8 a1_0, .int .u32 a1_1, .slice A1_2 l1_2.length c1_2, .slice A1_3 l1_3.length c1_3]) (t := 33) ?hr ?_; (case hd => rfl); (case hg => rfl); (case hr => first | (go_simp; done) | (go_simp; rfl)); intro gb296 hg w23 hbox hb; have n0_ := Aside0.mk (blk_below (g := gb295) (o := .cells #[.int .u8 a0_0, .int .u32 a0_1, .slice A0_2 l0_2.length c0_2, .slice A0_3 l0_3.length c0_3] 33 (0, 0)) (by (with_reducible repeat (first | refine blk_drewN ?_ _ | refine blk_drew ?_ | refine blk_alloc ?_ _)); exact BK295.out) hb); have n1_ := Aside0.mk (below_step (by repeat (first | (with_reducible first | exact HB.out | apply below_alloc | apply pw_below_drewN | apply below_drew1 | refine below_set ?_ GE295.out) | exact HB.out)) hb); have n2_ := Aside0.mk (hbox); have n3_ := Aside0.mk trivial; have n4_ := Aside0.mk ((by rw [hg]; exact (below_size (by repeat (first | (with_reducible first | exact HB.out | apply below_alloc | apply pw_below_drewN | apply below_drew1 | refine below_set ?_ GE295.out) | exact HB.out))) : w.heap.size ≤ gb296)); have n5_ := Aside0.mk ((by rw [hg]; exact Nat.ne_of_lt (blk_lt (g := gb295) (o := .cells #[.int .u8 a0_0, .int .u32 a0_1, .slice A0_2 l0_2.length c0_2, .slice A0_3 l0_3.length c0_3] 33 (0, 0)) (by (with_reducible repeat (first | refine blk_drewN ?_ _ | refine blk_drew ?_ | refine blk_alloc ?_ _)); exact BK295.out)) : gb295 ≠ gb296)); have n6_ := Aside0.mk ((by rw [hg]; exact Nat.ne_of_gt (blk_lt (g := gb295) (o := .cells #[.int .u8 a0_0, .int .u32 a0_1, .slice A0_2 l0_2.length c0_2, .slice A0_3 l0_3.length c0_3] 33 (0, 0)) (by (with_reducible repeat (first | refine blk_drewN ?_ _ | refine blk_drew ?_ | refine blk_alloc ?_ _)); exact BK295.out)) : gb296 ≠ gb295)); clear BK295 HB; have BK295 := n0_; have HB := n1_; have BK296 := n2_; have GW296 := n3_; have GE296 := n4_; have NB295_296 := n5_; have NB296_295 := n6_; clear n0_ n1_ n2_ n3_ n4_ n5_ n6_; clear hb hbox hg; have hnb24 := NB295_296.out; have hnc24 := NB296_295.out; have hcz25_0 : w23.cell? ⟨gb295, 0, none⟩ = some (.int .u8 a0_0) := (blk_cell BK295.out 0).trans rfl; have hcz25_1 : w23.cell? ⟨gb295, 1, none⟩ = some (.int .u32 a0_1) := (blk_cell BK295.out 1).trans rfl; have hcz25_2 : w23.cell? ⟨gb295, 2, none⟩ = some (.slice A0_2 l0_2.length c0_2) := (blk_cell BK295.out 2).trans rfl; have hcz25_3 : w23.cell? ⟨gb295, 3, none⟩ = some (.slice A0_3 l0_3.length c0_3) := (blk_cell BK295.out 3).trans rfl; have hfz25_0 := blk_frozen BK295.out 0; have hfz25_1 := blk_frozen BK295.out 1; have hfz25_2 := blk_frozen BK295.out 2; have hfz25_3 := blk_frozen BK295.out 3; have hcz26_0 : w23.cell? ⟨gb296, 0, none⟩ = some (.int .u8 a1_0) := (blk_cell BK296.out 0).trans rfl; have hcz26_1 : w23.cell? ⟨gb296, 1, none⟩ = some (.int .u32 a1_1) := (blk_cell BK296.out 1).trans rfl; have hcz26_2 : w23.cell? ⟨gb296, 2, none⟩ = some (.slice A1_2 l1_2.length c1_2) := (blk_cell BK296.out 2).trans rfl; have hcz26_3 : w23.cell? ⟨gb296, 3, none⟩ = some (.slice A1_3 l1_3.length c1_3) := (blk_cell BK296.out 3).trans rfl; have hfz26_0 := blk_frozen BK296.out 0; have hfz26_1 := blk_frozen BK296.out 1; have hfz26_2 := blk_frozen BK296.out 2; have hfz26_3 := blk_frozen BK296.out 3))
   go_ret
   exact ⟨by first | rfl | (simp [errW_none, errW_some] <;> rfl) | (simp [*, errW_none, errW_some] <;> rfl), by repeat (first | (with_reducible first | exact HB.out | apply below_alloc | apply pw_below_drewN | apply below_drew1 | refine below_set ?_ GE295.out | refine below_set ?_ GE296.out) | exact HB.out)⟩
 ·rw [if_neg c3] at H
  have c3b0 : (a0_0 == a1_0) = false := beq_eq_false_iff_ne.mpr c3
  have c3b1 : (a0_0 != a1_0) = true := bne_iff_ne.mpr c3
  obtain rfl := Option.some.inj H
  go_enter Try.func27, Try.ntmps27
  go_wp2_with (first | ((with_reducible refine gate_dst (N := 2) rfl ?_); refine box_event ?hg (N := 2) ?hd (cs := #[.int .u8 a0_0, .int .u32 a0_1, .slice A0_2 l0_2.length c0_2, .slice A0_3 l0_3.length c0_3]) (t := 33) ?hr ?_; (case hd => rfl); (case hg => rfl); (case hr => first | (go_simp; done) | (go_simp; rfl)); intro gb295 hg w27 hbox hb; have n0_ := Aside0.mk (below_step (by repeat (first | (with_reducible first | exact HB.out | apply below_alloc | apply pw_below_drewN | apply below_drew1) | exact HB.out)) hb); have n1_ := Aside0.mk (hbox); have n2_ := Aside0.mk trivial; have n3_ := Aside0.mk ((by rw [hg]; exact (below_size (by repeat (first | (with_reducible first | exact HB.out | apply below_alloc | apply pw_below_drewN | apply below_drew1) | exact HB.out))) : w.heap.size ≤ gb295)); clear HB; have HB := n0_; have BK295 := n1_; have GW295 := n2_; have GE295 := n3_; clear n0_ n1_ n2_ n3_; clear hb hbox hg) | ((with_reducible refine gate_dst (N := 3) rfl ?_); refine box_event ?hg (N := 3) ?hd (cs := #[.int .u8 a1_0, .int .u32 a1_1, .slice A1_2 l1_2.length c1_2, .slice A1_3 l1_3.length c1_3]) (t := 33) ?hr ?_; (case hd => rfl); (case hg => rfl); (case hr => first | (go_simp; done) | (go_simp; rfl)); intro gb296 hg w28 hbox hb; have n0_ := Aside0.mk (blk_below (g := gb295) (o := .cells #[.int .u8 a0_0, .int .u32 a0_1, .slice A0_2 l0_2.length c0_2, .slice A0_3 l0_3.length c0_3] 33 (0, 0)) (by (with_reducible repeat (first | refine blk_drewN ?_ _ | refine blk_drew ?_ | refine blk_alloc ?_ _)); exact BK295.out) hb); have n1_ := Aside0.mk (below_step (by repeat (first | (with_reducible first | exact HB.out | apply below_alloc | apply pw_below_drewN | apply below_drew1 | refine below_set ?_ GE295.out) | exact HB.out)) hb); have n2_ := Aside0.mk (hbox); have n3_ := Aside0.mk trivial; have n4_ := Aside0.mk ((by rw [hg]; exact (below_size (by repeat (first | (with_reducible first | exact HB.out | apply below_alloc | apply pw_below_drewN | apply below_drew1 | refine below_set ?_ GE295.out) | exact HB.out))) : w.heap.size ≤ gb296)); have n5_ := Aside0.mk ((by rw [hg]; exact Nat.ne_of_lt (blk_lt (g := gb295) (o := .cells #[.int .u8 a0_0, .int .u32 a0_1, .slice A0_2 l0_2.length c0_2, .slice A0_3 l0_3.length c0_3] 33 (0, 0)) (by (with_reducible repeat (first | refine blk_drewN ?_ _ | refine blk_drew ?_ | refine blk_alloc ?_ _)); exact BK295.out)) : gb295 ≠ gb296)); have n6_ := Aside0.mk ((by rw [hg]; exact Nat.ne_of_gt (blk_lt (g := gb295) (o := .cells #[.int .u8 a0_0, .int .u32 a0_1, .slice A0_2 l0_2.length c0_2, .slice A0_3 l0_3.length c0_3] 33 (0, 0)) (by (with_reducible repeat (first | refine blk_drewN ?_ _ | refine blk_drew ?_ | refine blk_alloc ?_ _)); exact BK295.out)) : gb296 ≠ gb295)); clear BK295 HB; have BK295 := n0_; have HB := n1_; have BK296 := n2_; have GW296 := n3_; have GE296 := n4_; have NB295_296 := n5_; have NB296_295 := n6_; clear n0_ n1_ n2_ n3_ n4_ n5_ n6_; clear hb hbox hg; have hnb29 := NB295_296.out; have hnc29 := NB296_295.out; have hcz30_0 : w28.cell? ⟨gb295, 0, none⟩ = some (.int .u8 a0_0) := (blk_cell BK295.out 0).trans rfl; have hcz30_1 : w28.cell? ⟨gb295, 1, none⟩ = some (.int .u32 a0_1) := (blk_cell BK295.out 1).trans rfl; have hcz30_2 : w28.cell? ⟨gb295, 2, none⟩ = some (.slice A0_2 l0_2.length c0_2) := (blk_cell BK295.out 2).trans rfl; have hcz30_3 : w28.cell? ⟨gb295, 3, none⟩ = some (.slice A0_3 l0_3.length c0_3) := (blk_cell BK295.out 3).trans rfl; have hfz30_0 := blk_frozen BK295.out 0; have hfz30_1 := blk_frozen BK295.out 1; have hfz30_2 := blk_frozen BK295.out 2; have hfz30_3 := blk_frozen BK295.out 3; have hcz31_0 : w28.cell? ⟨gb296, 0, none⟩ = some (.int .u8 a1_0) := (blk_cell BK296.out 0).trans rfl; have hcz31_1 : w28.cell? ⟨gb296, 1, none⟩ = some (.int .u32 a1_1) := (blk_cell BK296.out 1).trans rfl; have hcz31_2 : w28.cell? ⟨gb296, 2, none⟩ = some (.slice A1_2 l1_2.length c1_2) := (blk_cell BK296.out 2).trans rfl; have hcz31_3 : w28.cell? ⟨gb296, 3, none⟩ = some (.slice A1_3 l1_3.length c1_3) := (blk_cell BK296.out 3).trans rfl; have hfz31_0 := blk_frozen BK296.out 0; have hfz31_1 := blk_frozen BK296.out 1; have hfz31_2 := blk_frozen BK296.out 2; have hfz31_3 := blk_frozen BK296.out 3))
  go_ret
  exact ⟨by first | rfl | (simp [errW_none, errW_some] <;> rfl) | (simp [*, errW_none, errW_some] <;> rfl), by repeat (first | (with_reducible first | exact HB.out | apply below_alloc | apply pw_below_drewN | apply below_drew1 | refine below_set ?_ GE295.out | refine below_set ?_ GE296.out) | exact HB.out)⟩

open Kd
/-! ### crosswayref11_Same: function 10 -/
def crosswayref11_Same.f (a0_0 : Int) (a0_1 : Int) (l0_2 : List Int) (l0_3 : List Int) (l0_4 : List Int) (l0_5 : List Int) (a1_0 : Int) (a1_1 : Int) (l1_2 : List Int) (l1_3 : List Int) (l1_4 : List Int) (l1_5 : List Int) : Option (Bool) := (crosswayref10_Same.f a0_0 a0_1 l0_2 l0_3 a1_0 a1_1 l1_2 l1_3).bind fun t299 => (if t299 = true then (if (strOfNums l0_4).toList = (strOfNums l1_4).toList then (some ((strOfNums l0_5).toList == (strOfNums l1_5).toList)) else (some false)) else (some false))
set_option maxHeartbeats 8000000 in
set_option maxRecDepth 100000 in
theorem crosswayref11_Same.calls (a0_0 : Int) (a0_1 : Int) (A0_2 : Option Addr) (c0_2 : Nat) (l0_2 : List Int) (A0_3 : Option Addr) (c0_3 : Nat) (l0_3 : List Int) (A0_4 : Option Addr) (c0_4 : Nat) (l0_4 : List Int) (A0_5 : Option Addr) (c0_5 : Nat) (l0_5 : List Int) (a1_0 : Int) (a1_1 : Int) (A1_2 : Option Addr) (c1_2 : Nat) (l1_2 : List Int) (A1_3 : Option Addr) (c1_3 : Nat) (l1_3 : List Int) (A1_4 : Option Addr) (c1_4 : Nat) (l1_4 : List Int) (A1_5 : Option Addr) (c1_5 : Nat) (l1_5 : List Int) (r : Bool) (w : World) (hr0_2 : Kd.C (Kd.int .u8) w A0_2 l0_2.length l0_2) (hc0_2 : l0_2.length ≤ c0_2) (hr0_3 : Kd.C (Kd.int .u8) w A0_3 l0_3.length l0_3) (hc0_3 : l0_3.length ≤ c0_3) (hr0_4 : Kd.C (Kd.int .u8) w A0_4 l0_4.length l0_4) (hc0_4 : l0_4.length ≤ c0_4) (hr0_5 : Kd.C (Kd.int .u8) w A0_5 l0_5.length l0_5) (hc0_5 : l0_5.length ≤ c0_5) (hr1_2 : Kd.C (Kd.int .u8) w A1_2 l1_2.length l1_2) (hc1_2 : l1_2.length ≤ c1_2) (hr1_3 : Kd.C (Kd.int .u8) w A1_3 l1_3.length l1_3) (hc1_3 : l1_3.length ≤ c1_3) (hr1_4 : Kd.C (Kd.int .u8) w A1_4 l1_4.length l1_4) (hc1_4 : l1_4.length ≤ c1_4) (hr1_5 : Kd.C (Kd.int .u8) w A1_5 l1_5.length l1_5) (hc1_5 : l1_5.length ≤ c1_5) (h : crosswayref11_Same.f a0_0 a0_1 l0_2 l0_3 l0_4 l0_5 a1_0 a1_1 l1_2 l1_3 l1_4 l1_5 = some r) :
  Calls Try.prog 10 #[.agg #[.int .u8 a0_0, .int .u32 a0_1, .slice A0_2 l0_2.length c0_2, .slice A0_3 l0_3.length c0_3, .slice A0_4 l0_4.length c0_4, .slice A0_5 l0_5.length c0_5], .agg #[.int .u8 a1_0, .int .u32 a1_1, .slice A1_2 l1_2.length c1_2, .slice A1_3 l1_3.length c1_3, .slice A1_4 l1_4.length c1_4, .slice A1_5 l1_5.length c1_5]] w fun e w' => e = .returned (.bool r) ∧ Below w.heap.size w w' := by
 have hu35 := Try.underlying35
 have hu33 := Try.underlying33
 have HR0_2 := Aside0.mk hr0_2
 have HC0_2 := Aside0.mk hc0_2
 clear hr0_2 hc0_2
 have HR0_3 := Aside0.mk hr0_3
 have HC0_3 := Aside0.mk hc0_3
 clear hr0_3 hc0_3
 have HR0_4 := Aside0.mk hr0_4
 have HC0_4 := Aside0.mk hc0_4
 clear hr0_4 hc0_4
 have HR0_5 := Aside0.mk hr0_5
 have HC0_5 := Aside0.mk hc0_5
 clear hr0_5 hc0_5
 have HR1_2 := Aside0.mk hr1_2
 have HC1_2 := Aside0.mk hc1_2
 clear hr1_2 hc1_2
 have HR1_3 := Aside0.mk hr1_3
 have HC1_3 := Aside0.mk hc1_3
 clear hr1_3 hc1_3
 have HR1_4 := Aside0.mk hr1_4
 have HC1_4 := Aside0.mk hc1_4
 clear hr1_4 hc1_4
 have HR1_5 := Aside0.mk hr1_5
 have HC1_5 := Aside0.mk hc1_5
 clear hr1_5 hc1_5
 have HB := Aside0.mk (Below.refl w.heap.size w)
 have H : ((crosswayref10_Same.f a0_0 a0_1 l0_2 l0_3 a1_0 a1_1 l1_2 l1_3).bind fun t299 => (if t299 = true then (if (strOfNums l0_4).toList = (strOfNums l1_4).toList then (some ((strOfNums l0_5).toList == (strOfNums l1_5).toList)) else (some false)) else (some false))) = some r := h
 clear h
 replace H := Option.bind_eq_some_iff.mp H
 obtain ⟨t299, A30, H⟩ := H
 try dsimp only at H
 have A3 := Aside0.mk A30
 clear A30
 by_cases c4 : t299 = true
 ·subst c4
  have H1 : (if (strOfNums l0_4).toList = (strOfNums l1_4).toList then (some ((strOfNums l0_5).toList == (strOfNums l1_5).toList)) else (some false)) = some r := by rw [if_pos rfl] at H; exact H
  clear H
  have H := H1
  clear H1
  by_cases c5 : (strOfNums l0_4).toList = (strOfNums l1_4).toList
  ·rw [if_pos c5] at H
   have c5b0 : ((strOfNums l0_4).toList == (strOfNums l1_4).toList) = true := beq_iff_eq.mpr c5
   have c5b1 : ((strOfNums l0_4).toList != (strOfNums l1_4).toList) = false := bne_eq_false_iff_eq.mpr c5
   clear c5
   obtain rfl := Option.some.inj H
   go_enter Try.func10, Try.ntmps10
   go_wp2_with (first | ((with_reducible refine gate_dst (N := 2) rfl ?_); refine box_event ?hg (N := 2) ?hd (cs := #[.int .u8 a0_0, .int .u32 a0_1, .slice A0_2 l0_2.length c0_2, .slice A0_3 l0_3.length c0_3, .slice A0_4 l0_4.length c0_4, .slice A0_5 l0_5.length c0_5]) (t := 35) ?hr ?_; (case hd => rfl); (case hg => rfl); (case hr => first | (go_simp; done) | (go_simp; rfl)); intro gb297 hg w6 hbox hb; have n0_ := Aside0.mk (below_step (by repeat (first | (with_reducible first | exact HB.out | apply below_alloc | apply pw_below_drewN | apply below_drew1) | exact HB.out)) hb); have n1_ := Aside0.mk (hbox); have n2_ := Aside0.mk trivial; have n3_ := Aside0.mk ((by rw [hg]; exact (below_size (by repeat (first | (with_reducible first | exact HB.out | apply below_alloc | apply pw_below_drewN | apply below_drew1) | exact HB.out))) : w.heap.size ≤ gb297)); clear HB; have HB := n0_; have BK297 := n1_; have GW297 := n2_; have GE297 := n3_; clear n0_ n1_ n2_ n3_; clear hb hbox hg) | ((with_reducible refine gate_dst (N := 3) rfl ?_); refine box_event ?hg (N := 3) ?hd (cs := #[.int .u8 a1_0, .int .u32 a1_1, .slice A1_2 l1_2.length c1_2, .slice A1_3 l1_3.length c1_3, .slice A1_4 l1_4.length c1_4, .slice A1_5 l1_5.length c1_5]) (t := 35) ?hr ?_; (case hd => rfl); (case hg => rfl); (case hr => first | (go_simp; done) | (go_simp; rfl)); intro gb298 hg w7 hbox hb; have n0_ := Aside0.mk (blk_below (g := gb297) (o := .cells #[.int .u8 a0_0, .int .u32 a0_1, .slice A0_2 l0_2.length c0_2, .slice A0_3 l0_3.length c0_3, .slice A0_4 l0_4.length c0_4, .slice A0_5 l0_5.length c0_5] 35 (0, 0)) (by (with_reducible repeat (first | refine blk_drewN ?_ _ | refine blk_drew ?_ | refine blk_alloc ?_ _)); exact BK297.out) hb); have n1_ := Aside0.mk (below_step (by repeat (first | (with_reducible first | exact HB.out | apply below_alloc | apply pw_below_drewN | apply below_drew1 | refine below_set ?_ GE297.out) | exact HB.out)) hb); have n2_ := Aside0.mk (hbox); have n3_ := Aside0.mk trivial; have n4_ := Aside0.mk ((by rw [hg]; exact (below_size (by repeat (first | (with_reducible first | exact HB.out | apply below_alloc | apply pw_below_drewN | apply below_drew1 | refine below_set ?_ GE297.out) | exact HB.out))) : w.heap.size ≤ gb298)); have n5_ := Aside0.mk ((by rw [hg]; exact Nat.ne_of_lt (blk_lt (g := gb297) (o := .cells #[.int .u8 a0_0, .int .u32 a0_1, .slice A0_2 l0_2.length c0_2, .slice A0_3 l0_3.length c0_3, .slice A0_4 l0_4.length c0_4, .slice A0_5 l0_5.length c0_5] 35 (0, 0)) (by (with_reducible repeat (first | refine blk_drewN ?_ _ | refine blk_drew ?_ | refine blk_alloc ?_ _)); exact BK297.out)) : gb297 ≠ gb298)); have n6_ := Aside0.mk ((by rw [hg]; exact Nat.ne_of_gt (blk_lt (g := gb297) (o := .cells #[.int .u8 a0_0, .int .u32 a0_1, .slice A0_2 l0_2.length c0_2, .slice A0_3 l0_3.length c0_3, .slice A0_4 l0_4.length c0_4, .slice A0_5 l0_5.length c0_5] 35 (0, 0)) (by (with_reducible repeat (first | refine blk_drewN ?_ _ | refine blk_drew ?_ | refine blk_alloc ?_ _)); exact BK297.out)) : gb298 ≠ gb297)); clear BK297 HB; have BK297 := n0_; have HB := n1_; have BK298 := n2_; have GW298 := n3_; have GE298 := n4_; have NB297_298 := n5_; have NB298_297 := n6_; clear n0_ n1_ n2_ n3_ n4_ n5_ n6_; clear hb hbox hg; have hnb8 := NB297_298.out; have hnc8 := NB298_297.out; have hcz9_0 : w7.cell? ⟨gb297, 0, none⟩ = some (.int .u8 a0_0) := (blk_cell BK297.out 0).trans rfl; have hcz9_1 : w7.cell? ⟨gb297, 1, none⟩ = some (.int .u32 a0_1) := (blk_cell BK297.out 1).trans rfl; have hcz9_2 : w7.cell? ⟨gb297, 2, none⟩ = some (.slice A0_2 l0_2.length c0_2) := (blk_cell BK297.out 2).trans rfl; have hcz9_3 : w7.cell? ⟨gb297, 3, none⟩ = some (.slice A0_3 l0_3.length c0_3) := (blk_cell BK297.out 3).trans rfl; have hcz9_4 : w7.cell? ⟨gb297, 4, none⟩ = some (.slice A0_4 l0_4.length c0_4) := (blk_cell BK297.out 4).trans rfl; have hcz9_5 : w7.cell? ⟨gb297, 5, none⟩ = some (.slice A0_5 l0_5.length c0_5) := (blk_cell BK297.out 5).trans rfl; have hfz9_0 := blk_frozen BK297.out 0; have hfz9_1 := blk_frozen BK297.out 1; have hfz9_2 := blk_frozen BK297.out 2; have hfz9_3 := blk_frozen BK297.out 3; have hfz9_4 := blk_frozen BK297.out 4; have hfz9_5 := blk_frozen BK297.out 5; have hcz10_0 : w7.cell? ⟨gb298, 0, none⟩ = some (.int .u8 a1_0) := (blk_cell BK298.out 0).trans rfl; have hcz10_1 : w7.cell? ⟨gb298, 1, none⟩ = some (.int .u32 a1_1) := (blk_cell BK298.out 1).trans rfl; have hcz10_2 : w7.cell? ⟨gb298, 2, none⟩ = some (.slice A1_2 l1_2.length c1_2) := (blk_cell BK298.out 2).trans rfl; have hcz10_3 : w7.cell? ⟨gb298, 3, none⟩ = some (.slice A1_3 l1_3.length c1_3) := (blk_cell BK298.out 3).trans rfl; have hcz10_4 : w7.cell? ⟨gb298, 4, none⟩ = some (.slice A1_4 l1_4.length c1_4) := (blk_cell BK298.out 4).trans rfl; have hcz10_5 : w7.cell? ⟨gb298, 5, none⟩ = some (.slice A1_5 l1_5.length c1_5) := (blk_cell BK298.out 5).trans rfl; have hfz10_0 := blk_frozen BK298.out 0; have hfz10_1 := blk_frozen BK298.out 1; have hfz10_2 := blk_frozen BK298.out 2; have hfz10_3 := blk_frozen BK298.out 3; have hfz10_4 := blk_frozen BK298.out 4; have hfz10_5 := blk_frozen BK298.out 5) | ((with_reducible refine gate_callee (f := 27) rfl ?_); refine goesL_ (some 9) rfl rfl Try.func27 (by kernel_rfl) rfl #[.agg #[.int .u8 a0_0, .int .u32 a0_1, .slice A0_2 l0_2.length c0_2, .slice A0_3 l0_3.length c0_3], .agg #[.int .u8 a1_0, .int .u32 a1_1, .slice A1_2 l1_2.length c1_2, .slice A1_3 l1_3.length c1_3]] rfl (by (try simp only [List.map_toArray, List.map_cons, List.map_nil]); first | done | rfl | (simp only [List.length_drop, List.length_take]; rfl)) ?_; (with_reducible refine (crosswayref10_Same.calls a0_0 a0_1 _ _ l0_2 _ _ l0_3 a1_0 a1_1 _ _ l1_2 _ _ l1_3 true _ ?side1 ?side2 ?side3 ?side4 ?side5 ?side6 ?side7 ?side8 A3.out).mono ?_); (case side1 => repeat (first | exact (C_below HR0_2.out HB.out) | (with_reducible refine C_alloc ?_ _) | (with_reducible refine C_drewN ?_ _) | (with_reducible refine C_drew ?_))); (case side2 => exact HC0_2.out); (case side3 => repeat (first | exact (C_below HR0_3.out HB.out) | (with_reducible refine C_alloc ?_ _) | (with_reducible refine C_drewN ?_ _) | (with_reducible refine C_drew ?_))); (case side4 => exact HC0_3.out); (case side5 => repeat (first | exact (C_below HR1_2.out HB.out) | (with_reducible refine C_alloc ?_ _) | (with_reducible refine C_drewN ?_ _) | (with_reducible refine C_drew ?_))); (case side6 => exact HC1_2.out); (case side7 => repeat (first | exact (C_below HR1_3.out HB.out) | (with_reducible refine C_alloc ?_ _) | (with_reducible refine C_drewN ?_ _) | (with_reducible refine C_drew ?_))); (case side8 => exact HC1_3.out); rintro e w11 ⟨rfl, hb⟩; refine ⟨_, rfl, ?_⟩; have n0_ := Aside0.mk (blk_below (g := gb297) (o := .cells #[.int .u8 a0_0, .int .u32 a0_1, .slice A0_2 l0_2.length c0_2, .slice A0_3 l0_3.length c0_3, .slice A0_4 l0_4.length c0_4, .slice A0_5 l0_5.length c0_5] 35 (0, 0)) (by (with_reducible repeat (first | refine blk_drewN ?_ _ | refine blk_drew ?_ | refine blk_alloc ?_ _)); exact BK297.out) hb); have n1_ := Aside0.mk (blk_below (g := gb298) (o := .cells #[.int .u8 a1_0, .int .u32 a1_1, .slice A1_2 l1_2.length c1_2, .slice A1_3 l1_3.length c1_3, .slice A1_4 l1_4.length c1_4, .slice A1_5 l1_5.length c1_5] 35 (0, 0)) (by (with_reducible repeat (first | refine blk_drewN ?_ _ | refine blk_drew ?_ | refine blk_alloc ?_ _)); exact BK298.out) hb); have n2_ := Aside0.mk (below_step (by repeat (first | (with_reducible first | exact HB.out | apply below_alloc | apply pw_below_drewN | apply below_drew1 | refine below_set ?_ GE297.out | refine below_set ?_ GE298.out) | exact HB.out)) hb); clear BK297 BK298 HB; have BK297 := n0_; have BK298 := n1_; have HB := n2_; clear n0_ n1_ n2_; (try clear hb); (try clear hb2); (try clear hk); (try clear hi); have hcz12_0 : w11.cell? ⟨gb297, 0, none⟩ = some (.int .u8 a0_0) := (blk_cell BK297.out 0).trans rfl; have hcz12_1 : w11.cell? ⟨gb297, 1, none⟩ = some (.int .u32 a0_1) := (blk_cell BK297.out 1).trans rfl; have hcz12_2 : w11.cell? ⟨gb297, 2, none⟩ = some (.slice A0_2 l0_2.length c0_2) := (blk_cell BK297.out 2).trans rfl; have hcz12_3 : w11.cell? ⟨gb297, 3, none⟩ = some (.slice A0_3 l0_3.length c0_3) := (blk_cell BK297.out 3).trans rfl; have hcz12_4 : w11.cell? ⟨gb297, 4, none⟩ = some (.slice A0_4 l0_4.length c0_4) := (blk_cell BK297.out 4).trans rfl; have hcz12_5 : w11.cell? ⟨gb297, 5, none⟩ = some (.slice A0_5 l0_5.length c0_5) := (blk_cell BK297.out 5).trans rfl; have hfz12_0 := blk_frozen BK297.out 0; have hfz12_1 := blk_frozen BK297.out 1; have hfz12_2 := blk_frozen BK297.out 2; have hfz12_3 := blk_frozen BK297.out 3; have hfz12_4 := blk_frozen BK297.out 4; have hfz12_5 := blk_frozen BK297.out 5; have hcv13 := C_string (P := Try.prog) (A := A0_4) (c := c0_4) Try.underlying22 Try.underlying5 Try.underlying9 (C_below HR0_4.out HB.out); have hcz14_0 : w11.cell? ⟨gb298, 0, none⟩ = some (.int .u8 a1_0) := (blk_cell BK298.out 0).trans rfl; have hcz14_1 : w11.cell? ⟨gb298, 1, none⟩ = some (.int .u32 a1_1) := (blk_cell BK298.out 1).trans rfl; have hcz14_2 : w11.cell? ⟨gb298, 2, none⟩ = some (.slice A1_2 l1_2.length c1_2) := (blk_cell BK298.out 2).trans rfl; have hcz14_3 : w11.cell? ⟨gb298, 3, none⟩ = some (.slice A1_3 l1_3.length c1_3) := (blk_cell BK298.out 3).trans rfl; have hcz14_4 : w11.cell? ⟨gb298, 4, none⟩ = some (.slice A1_4 l1_4.length c1_4) := (blk_cell BK298.out 4).trans rfl; have hcz14_5 : w11.cell? ⟨gb298, 5, none⟩ = some (.slice A1_5 l1_5.length c1_5) := (blk_cell BK298.out 5).trans rfl; have hfz14_0 := blk_frozen BK298.out 0; have hfz14_1 := blk_frozen BK298.out 1; have hfz14_2 := blk_frozen BK298.out 2; have hfz14_3 := blk_frozen BK298.out 3; have hfz14_4 := blk_frozen BK298.out 4; have hfz14_5 := blk_frozen BK298.out 5; have hcv15 := C_string (P := Try.prog) (A := A1_4) (c := c1_4) Try.underlying22 Try.underlying5 Try.underlying9 (C_below HR1_4.out HB.out); have hcv16 := C_string (P := Try.prog) (A := A0_5) (c := c0_5) Try.underlying22 Try.underlying5 Try.underlying9 (C_below HR0_5.out HB.out); have hcv17 := C_string (P := Try.prog) (A := A1_5) (c := c1_5) Try.underlying22 Try.underlying5 Try.underlying9 (C_below HR1_5.out HB.out)))
   go_ret
   exact ⟨by first | rfl | (simp [errW_none, errW_some] <;> rfl) | (simp [*, errW_none, errW_some] <;> rfl), by repeat (first | (with_reducible first | exact HB.out | apply below_alloc | apply pw_below_drewN | apply below_drew1 | refine below_set ?_ GE297.out | refine below_set ?_ GE298.out) | exact HB.out)⟩
  ·rw [if_neg c5] at H
   have c5b0 : ((strOfNums l0_4).toList == (strOfNums l1_4).toList) = false := beq_eq_false_iff_ne.mpr c5
   have c5b1 : ((strOfNums l0_4).toList != (strOfNums l1_4).toList) = true := bne_iff_ne.mpr c5
   obtain rfl := Option.some.inj H
   go_enter Try.func10, Try.ntmps10
   go_wp2_with (first | ((with_reducible refine gate_dst (N := 2) rfl ?_); refine box_event ?hg (N := 2) ?hd (cs := #[.int .u8 a0_0, .int .u32 a0_1, .slice A0_2 l0_2.length c0_2, .slice A0_3 l0_3.length c0_3, .slice A0_4 l0_4.length c0_4, .slice A0_5 l0_5.length c0_5]) (t := 35) ?hr ?_; (case hd => rfl); (case hg => rfl); (case hr => first | (go_simp; done) | (go_simp; rfl)); intro gb297 hg w18 hbox hb; have n0_ := Aside0.mk (below_step (by repeat (first | (with_reducible first | exact HB.out | apply below_alloc | apply pw_below_drewN | apply below_drew1) | exact HB.out)) hb); have n1_ := Aside0.mk (hbox); have n2_ := Aside0.mk trivial; have n3_ := Aside0.mk ((by rw [hg]; exact (below_size (by repeat (first | (with_reducible first | exact HB.out | apply below_alloc | apply pw_below_drewN | apply below_drew1) | exact HB.out))) : w.heap.size ≤ gb297)); clear HB; have HB := n0_; have BK297 := n1_; have GW297 := n2_; have GE297 := n3_; clear n0_ n1_ n2_ n3_; clear hb hbox hg) | ((with_reducible refine gate_dst (N := 3) rfl ?_); refine box_event ?hg (N := 3) ?hd (cs := #[.int .u8 a1_0, .int .u32 a1_1, .slice A1_2 l1_2.length c1_2, .slice A1_3 l1_3.length c1_3, .slice A1_4 l1_4.length c1_4, .slice A1_5 l1_5.length c1_5]) (t := 35) ?hr ?_; (case hd => rfl); (case hg => rfl); (case hr => first | (go_simp; done) | (go_simp; rfl)); intro gb298 hg w19 hbox hb; have n0_ := Aside0.mk (blk_below (g := gb297) (o := .cells #[.int .u8 a0_0, .int .u32 a0_1, .slice A0_2 l0_2.length c0_2, .slice A0_3 l0_3.length c0_3, .slice A0_4 l0_4.length c0_4, .slice A0_5 l0_5.length c0_5] 35 (0, 0)) (by (with_reducible repeat (first | refine blk_drewN ?_ _ | refine blk_drew ?_ | refine blk_alloc ?_ _)); exact BK297.out) hb); have n1_ := Aside0.mk (below_step (by repeat (first | (with_reducible first | exact HB.out | apply below_alloc | apply pw_below_drewN | apply below_drew1 | refine below_set ?_ GE297.out) | exact HB.out)) hb); have n2_ := Aside0.mk (hbox); have n3_ := Aside0.mk trivial; have n4_ := Aside0.mk ((by rw [hg]; exact (below_size (by repeat (first | (with_reducible first | exact HB.out | apply below_alloc | apply pw_below_drewN | apply below_drew1 | refine below_set ?_ GE297.out) | exact HB.out))) : w.heap.size ≤ gb298)); have n5_ := Aside0.mk ((by rw [hg]; exact Nat.ne_of_lt (blk_lt (g := gb297) (o := .cells #[.int .u8 a0_0, .int .u32 a0_1, .slice A0_2 l0_2.length c0_2, .slice A0_3 l0_3.length c0_3, .slice A0_4 l0_4.length c0_4, .slice A0_5 l0_5.length c0_5] 35 (0, 0)) (by (with_reducible repeat (first | refine blk_drewN ?_ _ | refine blk_drew ?_ | refine blk_alloc ?_ _)); exact BK297.out)) : gb297 ≠ gb298)); have n6_ := Aside0.mk ((by rw [hg]; exact Nat.ne_of_gt (blk_lt (g := gb297) (o := .cells #[.int .u8 a0_0, .int .u32 a0_1, .slice A0_2 l0_2.length c0_2, .slice A0_3 l0_3.length c0_3, .slice A0_4 l0_4.length c0_4, .slice A0_5 l0_5.length c0_5] 35 (0, 0)) (by (with_reducible repeat (first | refine blk_drewN ?_ _ | refine blk_drew ?_ | refine blk_alloc ?_ _)); exact BK297.out)) : gb298 ≠ gb297)); clear BK297 HB; have BK297 := n0_; have HB := n1_; have BK298 := n2_; have GW298 := n3_; have GE298 := n4_; have NB297_298 := n5_; have NB298_297 := n6_; clear n0_ n1_ n2_ n3_ n4_ n5_ n6_; clear hb hbox hg; have hnb20 := NB297_298.out; have hnc20 := NB298_297.out; have hcz21_0 : w19.cell? ⟨gb297, 0, none⟩ = some (.int .u8 a0_0) := (blk_cell BK297.out 0).trans rfl; have hcz21_1 : w19.cell? ⟨gb297, 1, none⟩ = some (.int .u32 a0_1) := (blk_cell BK297.out 1).trans rfl; have hcz21_2 : w19.cell? ⟨gb297, 2, none⟩ = some (.slice A0_2 l0_2.length c0_2) := (blk_cell BK297.out 2).trans rfl; have hcz21_3 : w19.cell? ⟨gb297, 3, none⟩ = some (.slice A0_3 l0_3.length c0_3) := (blk_cell BK297.out 3).trans rfl; have hcz21_4 : w19.cell? ⟨gb297, 4, none⟩ = some (.slice A0_4 l0_4.length c0_4) := (blk_cell BK297.out 4).trans rfl; have hcz21_5 : w19.cell? ⟨gb297, 5, none⟩ = some (.slice A0_5 l0_5.length c0_5) := (blk_cell BK297.out 5).trans rfl; have hfz21_0 := blk_frozen BK297.out 0; have hfz21_1 := blk_frozen BK297.out 1; have hfz21_2 := blk_frozen BK297.out 2; have hfz21_3 := blk_frozen BK297.out 3; have hfz21_4 := blk_frozen BK297.out 4; have hfz21_5 := blk_frozen BK297.out 5; have hcz22_0 : w19.cell? ⟨gb298, 0, none⟩ = some (.int .u8 a1_0) := (blk_cell BK298.out 0).trans rfl; have hcz22_1 : w19.cell? ⟨gb298, 1, none⟩ = some (.int .u32 a1_1) := (blk_cell BK298.out 1).trans rfl; have hcz22_2 : w19.cell? ⟨gb298, 2, none⟩ = some (.slice A1_2 l1_2.length c1_2) := (blk_cell BK298.out 2).trans rfl; have hcz22_3 : w19.cell? ⟨gb298, 3, none⟩ = some (.slice A1_3 l1_3.length c1_3) := (blk_cell BK298.out 3).trans rfl; have hcz22_4 : w19.cell? ⟨gb298, 4, none⟩ = some (.slice A1_4 l1_4.length c1_4) := (blk_cell BK298.out 4).trans rfl; have hcz22_5 : w19.cell? ⟨gb298, 5, none⟩ = some (.slice A1_5 l1_5.length c1_5) := (blk_cell BK298.out 5).trans rfl; have hfz22_0 := blk_frozen BK298.out 0; have hfz22_1 := blk_frozen BK298.out 1; have hfz22_2 := blk_frozen BK298.out 2; have hfz22_3 := blk_frozen BK298.out 3; have hfz22_4 := blk_frozen BK298.out 4; have hfz22_5 := blk_frozen BK298.out 5) | ((with_reducible refine gate_callee (f := 27) rfl ?_); refine goesL_ (some 9) rfl rfl Try.func27 (by kernel_rfl) rfl #[.agg #[.int .u8 a0_0, .int .u32 a0_1, .slice A0_2 l0_2.length c0_2, .slice A0_3 l0_3.length c0_3], .agg #[.int .u8 a1_0, .int .u32 a1_1, .slice A1_2 l1_2.length c1_2, .slice A1_3 l1_3.length c1_3]] rfl (by (try simp only [List.map_toArray, List.map_cons, List.map_nil]); first | done | rfl | (simp only [List.length_drop, List.length_take]; rfl)) ?_; (with_reducible refine (crosswayref10_Same.calls a0_0 a0_1 _ _ l0_2 _ _ l0_3 a1_0 a1_1 _ _ l1_2 _ _ l1_3 true _ ?side1 ?side2 ?side3 ?side4 ?side5 ?side6 ?side7 ?side8 A3.out).mono ?_); (case side1 => repeat (first | exact (C_below HR0_2.out HB.out) | (with_reducible refine C_alloc ?_ _) | (with_reducible refine C_drewN ?_ _) | (with_reducible refine C_drew ?_))); (case side2 => exact HC0_2.out); (case side3 => repeat (first | exact (C_below HR0_3.out HB.out) | (with_reducible refine C_alloc ?_ _) | (with_reducible refine C_drewN ?_ _) | (with_reducible refine C_drew ?_))); (case side4 => exact HC0_3.out); (case side5 => repeat (first | exact (C_below HR1_2.out HB.out) | (with_reducible refine C_alloc ?_ _) | (with_reducible refine C_drewN ?_ _) | (with_reducible refine C_drew ?_))); (case side6 => exact HC1_2.out); (case side7 => repeat (first | exact (C_below HR1_3.out HB.out) | (with_reducible refine C_alloc ?_ _) | (with_reducible refine C_drewN ?_ _) | (with_reducible refine C_drew ?_))); (case side8 => exact HC1_3.out); rintro e w23 ⟨rfl, hb⟩; refine ⟨_, rfl, ?_⟩; have n0_ := Aside0.mk (blk_below (g := gb297) (o := .cells #[.int .u8 a0_0, .int .u32 a0_1, .slice A0_2 l0_2.length c0_2, .slice A0_3 l0_3.length c0_3, .slice A0_4 l0_4.length c0_4, .slice A0_5 l0_5.length c0_5] 35 (0, 0)) (by (with_reducible repeat (first | refine blk_drewN ?_ _ | refine blk_drew ?_ | refine blk_alloc ?_ _)); exact BK297.out) hb); have n1_ := Aside0.mk (blk_below (g := gb298) (o := .cells #[.int .u8 a1_0, .int .u32 a1_1, .slice A1_2 l1_2.length c1_2, .slice A1_3 l1_3.length c1_3, .slice A1_4 l1_4.length c1_4, .slice A1_5 l1_5.length c1_5] 35 (0, 0)) (by (with_reducible repeat (first | refine blk_drewN ?_ _ | refine blk_drew ?_ | refine blk_alloc ?_ _)); exact BK298.out) hb); have n2_ := Aside0.mk (below_step (by repeat (first | (with_reducible first | exact HB.out | apply below_alloc | apply pw_below_drewN | apply below_drew1 | refine below_set ?_ GE297.out | refine below_set ?_ GE298.out) | exact HB.out)) hb); clear BK297 BK298 HB; have BK297 := n0_; have BK298 := n1_; have HB := n2_; clear n0_ n1_ n2_; (try clear hb); (try clear hb2); (try clear hk); (try clear hi); have hcz24_0 : w23.cell? ⟨gb297, 0, none⟩ = some (.int .u8 a0_0) := (blk_cell BK297.out 0).trans rfl; have hcz24_1 : w23.cell? ⟨gb297, 1, none⟩ = some (.int .u32 a0_1) := (blk_cell BK297.out 1).trans rfl; have hcz24_2 : w23.cell? ⟨gb297, 2, none⟩ = some (.slice A0_2 l0_2.length c0_2) := (blk_cell BK297.out 2).trans rfl; have hcz24_3 : w23.cell? ⟨gb297, 3, none⟩ = some (.slice A0_3 l0_3.length c0_3) := (blk_cell BK297.out 3).trans rfl; have hcz24_4 : w23.cell? ⟨gb297, 4, none⟩ = some (.slice A0_4 l0_4.length c0_4) := (blk_cell BK297.out 4).trans rfl; have hcz24_5 : w23.cell? ⟨gb297, 5, none⟩ = some (.slice A0_5 l0_5.length c0_5) := (blk_cell BK297.out 5).trans rfl; have hfz24_0 := blk_frozen BK297.out 0; have hfz24_1 := blk_frozen BK297.out 1; have hfz24_2 := blk_frozen BK297.out 2; have hfz24_3 := blk_frozen BK297.out 3; have hfz24_4 := blk_frozen BK297.out 4; have hfz24_5 := blk_frozen BK297.out 5; have hcv25 := C_string (P := Try.prog) (A := A0_4) (c := c0_4) Try.underlying22 Try.underlying5 Try.underlying9 (C_below HR0_4.out HB.out); have hcz26_0 : w23.cell? ⟨gb298, 0, none⟩ = some (.int .u8 a1_0) := (blk_cell BK298.out 0).trans rfl; have hcz26_1 : w23.cell? ⟨gb298, 1, none⟩ = some (.int .u32 a1_1) := (blk_cell BK298.out 1).trans rfl; have hcz26_2 : w23.cell? ⟨gb298, 2, none⟩ = some (.slice A1_2 l1_2.length c1_2) := (blk_cell BK298.out 2).trans rfl; have hcz26_3 : w23.cell? ⟨gb298, 3, none⟩ = some (.slice A1_3 l1_3.length c1_3) := (blk_cell BK298.out 3).trans rfl; have hcz26_4 : w23.cell? ⟨gb298, 4, none⟩ = some (.slice A1_4 l1_4.length c1_4) := (blk_cell BK298.out 4).trans rfl; have hcz26_5 : w23.cell? ⟨gb298, 5, none⟩ = some (.slice A1_5 l1_5.length c1_5) := (blk_cell BK298.out 5).trans rfl; have hfz26_0 := blk_frozen BK298.out 0; have hfz26_1 := blk_frozen BK298.out 1; have hfz26_2 := blk_frozen BK298.out 2; have hfz26_3 := blk_frozen BK298.out 3; have hfz26_4 := blk_frozen BK298.out 4; have hfz26_5 := blk_frozen BK298.out 5; have hcv27 := C_string (P := Try.prog) (A := A1_4) (c := c1_4) Try.underlying22 Try.underlying5 Try.underlying9 (C_below HR1_4.out HB.out)))
   go_ret
   exact ⟨by first | rfl | (simp [errW_none, errW_some] <;> rfl) | (simp [*, errW_none, errW_some] <;> rfl), by repeat (first | (with_reducible first | exact HB.out | apply below_alloc | apply pw_below_drewN | apply below_drew1 | refine below_set ?_ GE297.out | refine below_set ?_ GE298.out) | exact HB.out)⟩
 ·replace c4 := Bool.eq_false_iff.mpr c4
  subst c4
  have H1 : (some false) = some r := by rw [if_neg (show ¬ (false = true) by decide)] at H; exact H
  clear H
  have H := H1
  clear H1
  obtain rfl := Option.some.inj H
  go_enter Try.func10, Try.ntmps10
  go_wp2_with (first | ((with_reducible refine gate_dst (N := 2) rfl ?_); refine box_event ?hg (N := 2) ?hd (cs := #[.int .u8 a0_0, .int .u32 a0_1, .slice A0_2 l0_2.length c0_2, .slice A0_3 l0_3.length c0_3, .slice A0_4 l0_4.length c0_4, .slice A0_5 l0_5.length c0_5]) (t := 35) ?hr ?_; (case hd => rfl); (case hg => rfl); (case hr => first | (go_simp; done) | (go_simp; rfl)); intro gb297 hg w28 hbox hb; have n0_ := Aside0.mk (below_step (by repeat (first | (with_reducible first | exact HB.out | apply below_alloc | apply pw_below_drewN | apply below_drew1) | exact HB.out)) hb); have n1_ := Aside0.mk (hbox); have n2_ := Aside0.mk trivial; have n3_ := Aside0.mk ((by rw [hg]; exact (below_size (by repeat (first | (with_reducible first | exact HB.out | apply below_alloc | apply pw_below_drewN | apply below_drew1) | exact HB.out))) : w.heap.size ≤ gb297)); clear HB; have HB := n0_; have BK297 := n1_; have GW297 := n2_; have GE297 := n3_; clear n0_ n1_ n2_ n3_; clear hb hbox hg) | ((with_reducible refine gate_dst (N := 3) rfl ?_); refine box_event ?hg (N := 3) ?hd (cs := #[.int .u8 a1_0, .int .u32 a1_1, .slice A1_2 l1_2.length c1_2, .slice A1_3 l1_3.length c1_3, .slice A1_4 l1_4.length c1_4, .slice A1_5 l1_5.length c1_5]) (t := 35) ?hr ?_; (case hd => rfl); (case hg => rfl); (case hr => first | (go_simp; done) | (go_simp; rfl)); intro gb298 hg w29 hbox hb; have n0_ := Aside0.mk (blk_below (g := gb297) (o := .cells #[.int .u8 a0_0, .int .u32 a0_1, .slice A0_2 l0_2.length c0_2, .slice A0_3 l0_3.length c0_3, .slice A0_4 l0_4.length c0_4, .slice A0_5 l0_5.length c0_5] 35 (0, 0)) (by (with_reducible repeat (first | refine blk_drewN ?_ _ | refine blk_drew ?_ | refine blk_alloc ?_ _)); exact BK297.out) hb); have n1_ := Aside0.mk (below_step (by repeat (first | (with_reducible first | exact HB.out | apply below_alloc | apply pw_below_drewN | apply below_drew1 | refine below_set ?_ GE297.out) | exact HB.out)) hb); have n2_ := Aside0.mk (hbox); have n3_ := Aside0.mk trivial; have n4_ := Aside0.mk ((by rw [hg]; exact (below_size (by repeat (first | (with_reducible first | exact HB.out | apply below_alloc | apply pw_below_drewN | apply below_drew1 | refine below_set ?_ GE297.out) | exact HB.out))) : w.heap.size ≤ gb298)); have n5_ := Aside0.mk ((by rw [hg]; exact Nat.ne_of_lt (blk_lt (g := gb297) (o := .cells #[.int .u8 a0_0, .int .u32 a0_1, .slice A0_2 l0_2.length c0_2, .slice A0_3 l0_3.length c0_3, .slice A0_4 l0_4.length c0_4, .slice A0_5 l0_5.length c0_5] 35 (0, 0)) (by (with_reducible repeat (first | refine blk_drewN ?_ _ | refine blk_drew ?_ | refine blk_alloc ?_ _)); exact BK297.out)) : gb297 ≠ gb298)); have n6_ := Aside0.mk ((by rw [hg]; exact Nat.ne_of_gt (blk_lt (g := gb297) (o := .cells #[.int .u8 a0_0, .int .u32 a0_1, .slice A0_2 l0_2.length c0_2, .slice A0_3 l0_3.length c0_3, .slice A0_4 l0_4.length c0_4, .slice A0_5 l0_5.length c0_5] 35 (0, 0)) (by (with_reducible repeat (first | refine blk_drewN ?_ _ | refine blk_drew ?_ | refine blk_alloc ?_ _)); exact BK297.out)) : gb298 ≠ gb297)); clear BK297 HB; have BK297 := n0_; have HB := n1_; have BK298 := n2_; have GW298 := n3_; have GE298 := n4_; have NB297_298 := n5_; have NB298_297 := n6_; clear n0_ n1_ n2_ n3_ n4_ n5_ n6_; clear hb hbox hg; have hnb30 := NB297_298.out; have hnc30 := NB298_297.out; have hcz31_0 : w29.cell? ⟨gb297, 0, none⟩ = some (.int .u8 a0_0) := (blk_cell BK297.out 0).trans rfl; have hcz31_1 : w29.cell? ⟨gb297, 1, none⟩ = some (.int .u32 a0_1) := (blk_cell BK297.out 1).trans rfl; have hcz31_2 : w29.cell? ⟨gb297, 2, none⟩ = some (.slice A0_2 l0_2.length c0_2) := (blk_cell BK297.out 2).trans rfl; have hcz31_3 : w29.cell? ⟨gb297, 3, none⟩ = some (.slice A0_3 l0_3.length c0_3) := (blk_cell BK297.out 3).trans rfl; have hcz31_4 : w29.cell? ⟨gb297, 4, none⟩ = some (.slice A0_4 l0_4.length c0_4) := (blk_cell BK297.out 4).trans rfl; have hcz31_5 : w29.cell? ⟨gb297, 5, none⟩ = some (.slice A0_5 l0_5.length c0_5) := (blk_cell BK297.out 5).trans rfl; have hfz31_0 := blk_frozen BK297.out 0; have hfz31_1 := blk_frozen BK297.out 1; have hfz31_2 := blk_frozen BK297.out 2; have hfz31_3 := blk_frozen BK297.out 3; have hfz31_4 := blk_frozen BK297.out 4; have hfz31_5 := blk_frozen BK297.out 5; have hcz32_0 : w29.cell? ⟨gb298, 0, none⟩ = some (.int .u8 a1_0) := (blk_cell BK298.out 0).trans rfl; have hcz32_1 : w29.cell? ⟨gb298, 1, none⟩ = some (.int .u32 a1_1) := (blk_cell BK298.out 1).trans rfl; have hcz32_2 : w29.cell? ⟨gb298, 2, none⟩ = some (.slice A1_2 l1_2.length c1_2) := (blk_cell BK298.out 2).trans rfl; have hcz32_3 : w29.cell? ⟨gb298, 3, none⟩ = some (.slice A1_3 l1_3.length c1_3) := (blk_cell BK298.out 3).trans rfl; have hcz32_4 : w29.cell? ⟨gb298, 4, none⟩ = some (.slice A1_4 l1_4.length c1_4) := (blk_cell BK298.out 4).trans rfl; have hcz32_5 : w29.cell? ⟨gb298, 5, none⟩ = some (.slice A1_5 l1_5.length c1_5) := (blk_cell BK298.out 5).trans rfl; have hfz32_0 := blk_frozen BK298.out 0; have hfz32_1 := blk_frozen BK298.out 1; have hfz32_2 := blk_frozen BK298.out 2; have hfz32_3 := blk_frozen BK298.out 3; have hfz32_4 := blk_frozen BK298.out 4; have hfz32_5 := blk_frozen BK298.out 5) | ((with_reducible refine gate_callee (f := 27) rfl ?_); refine goesL_ (some 9) rfl rfl Try.func27 (by kernel_rfl) rfl #[.agg #[.int .u8 a0_0, .int .u32 a0_1, .slice A0_2 l0_2.length c0_2, .slice A0_3 l0_3.length c0_3], .agg #[.int .u8 a1_0, .int .u32 a1_1, .slice A1_2 l1_2.length c1_2, .slice A1_3 l1_3.length c1_3]] rfl (by (try simp only [List.map_toArray, List.map_cons, List.map_nil]); first | done | rfl | (simp only [List.length_drop, List.length_take]; rfl)) ?_; (with_reducible refine (crosswayref10_Same.calls a0_0 a0_1 _ _ l0_2 _ _ l0_3 a1_0 a1_1 _ _ l1_2 _ _ l1_3 false _ ?side1 ?side2 ?side3 ?side4 ?side5 ?side6 ?side7 ?side8 A3.out).mono ?_); (case side1 => repeat (first | exact (C_below HR0_2.out HB.out) | (with_reducible refine C_alloc ?_ _) | (with_reducible refine C_drewN ?_ _) | (with_reducible refine C_drew ?_))); (case side2 => exact HC0_2.out); (case side3 => repeat (first | exact (C_below HR0_3.out HB.out) | (with_reducible refine C_alloc ?_ _) | (with_reducible refine C_drewN ?_ _) | (with_reducible refine C_drew ?_))); (case side4 => exact HC0_3.out); (case side5 => repeat (first | exact (C_below HR1_2.out HB.out) | (with_reducible refine C_alloc ?_ _) | (with_reducible refine C_drewN ?_ _) | (with_reducible refine C_drew ?_))); (case side6 => exact HC1_2.out); (case side7 => repeat (first | exact (C_below HR1_3.out HB.out) | (with_reducible refine C_alloc ?_ _) | (with_reducible refine C_drewN ?_ _) | (with_reducible refine C_drew ?_))); (case side8 => exact HC1_3.out); rintro e w33 ⟨rfl, hb⟩; refine ⟨_, rfl, ?_⟩; have n2_ := Aside0.mk (below_step (by repeat (first | (with_reducible first | exact HB.out | apply below_alloc | apply pw_below_drewN | apply below_drew1 | refine below_set ?_ GE297.out | refine below_set ?_ GE298.out) | exact HB.out)) hb); clear HB; have HB := n2_; clear n2_; (try clear hb); (try clear hb2); (try clear hk); (try clear hi)))
  go_ret
  exact ⟨by first | rfl | (simp [errW_none, errW_some] <;> rfl) | (simp [*, errW_none, errW_some] <;> rfl), by repeat (first | (with_reducible first | exact HB.out | apply below_alloc | apply pw_below_drewN | apply below_drew1 | refine below_set ?_ GE297.out | refine below_set ?_ GE298.out) | exact HB.out)⟩

end Go.Proofs.Ytmhmmmkpijbbiad.M
