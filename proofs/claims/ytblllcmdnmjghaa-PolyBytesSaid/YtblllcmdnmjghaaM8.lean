/- Contracts of the Go functions that the laws reach, each as a plain Lean function: written by xprint.py, a program of this repo. -/
import Derived.Test.YtblllcmdnmjghaaM0
import Derived.Test.YtblllcmdnmjghaaM1
import Derived.Test.YtblllcmdnmjghaaM3
import Derived.Test.YtblllcmdnmjghaaM4
import Derived.Test.YtblllcmdnmjghaaM5
import Derived.Test.YtblllcmdnmjghaaM7
namespace Go.Proofs.Ytblllcmdnmjghaa.M
open Go.RowKit Go.Proofs.YtblllcmdnmjghaaW.PrintWords Go.Proofs.YtblllcmdnmjghaaW.PrintLast Go.Proofs.YtblllcmdnmjghaaW.PrintMore Go.Proofs.Ytblllcmdnmjghaa.X
attribute [local go_sem] max2_int min2_int max_two min_two max_three min_three max_four min_four   -- for this text's walks alone
set_option linter.unusedVariables false
set_option linter.unusedSimpArgs false

/-! ### crosswaylaw04_PolyBytes: function 4, typed by hand -/
section
open Go.Proofs.Ytblllcmdnmjghaa.Gf Go.Proofs.Ytblllcmdnmjghaa.Arr Go.Proofs.Ytblllcmdnmjghaa.ArrW Go.Proofs.Ytblllcmdnmjghaa.ArrX
theorem crosswaylaw04_PolyBytes.run_neq {o : Oper} {a : Act} (x y : Operand) (ho : o.op = .binOp .neq 24 x y 24) (p q : Int) (hx : a.eval x = .agg #[.int .u64 p, .int .u64 q]) (hy : a.eval y = .agg #[.int .u64 p, .int .u64 q]) (W : World) :
    (execOp a.eval o).run Try.prog W = .ok (.value (.bool false)) W := by
  have he : (Op.equalIn 10000 24 (.agg #[.int .u64 p, .int .u64 q]) (.agg #[.int .u64 p, .int .u64 q])).run Try.prog W = .ok true W := by
    have := eqA24 9998 W p p q q
    rw [beq_self_eq_true, beq_self_eq_true] at this
    exact this
  have hg : Try.prog.eqGuardType Try.prog.depth 24 = false := by kernel_rfl
  unfold execOp
  simp only [ho, hx, hy]
  go_simp
def crosswaylaw04_PolyBytes.fine (a b : Int) : Bool := decide (0 ≤ a) && decide (a < 18446744073709551616) && decide (0 ≤ b) && decide (b < 18446744073709551616)
def crosswaylaw04_PolyBytes.back (k : Nat) (l : List Int) : Bool := (poly_Of.f k l).any fun p => if l.length = 16 then p.2.2 == 0 && (poly_Elem_Bytes.f k p.1 p.2.1 == some l) && (crosswayref00_SameBytes.f k l l == some true) else p.1 == 0 && (p.2.1 == 0) && (p.2.2 == 11)
theorem crosswaylaw04_PolyBytes.back_16 {k : Nat} {l : List Int} (h : crosswaylaw04_PolyBytes.back k l = true) (hl : l.length = 16) : ∃ d e, poly_Of.f k l = some (d, e, 0) ∧ poly_Elem_Bytes.f k d e = some l ∧ crosswayref00_SameBytes.f k l l = some true := by
  unfold crosswaylaw04_PolyBytes.back at h
  cases hp : poly_Of.f k l with
  | none => rw [hp] at h; cases h
  | some p =>
    obtain ⟨d, e, f⟩ := p
    rw [hp] at h
    simp [hl] at h
    exact ⟨d, e, by rw [h.1.1], h.1.2, h.2⟩
theorem crosswaylaw04_PolyBytes.back_no {k : Nat} {l : List Int} (h : crosswaylaw04_PolyBytes.back k l = true) (hl : ¬ l.length = 16) : poly_Of.f k l = some (0, 0, 11) := by
  unfold crosswaylaw04_PolyBytes.back at h
  cases hp : poly_Of.f k l with
  | none => rw [hp] at h; cases h
  | some p =>
    obtain ⟨d, e, f⟩ := p
    rw [hp] at h
    simp [hl] at h
    rw [h.1.1, h.1.2, h.2]
def crosswaylaw04_PolyBytes.f (k : Nat) (a0_0 a0_1 : Int) (l1 : List Int) (a2 : Int) : Option Bool :=
  if crosswaylaw04_alive.f k = some true then
    if 100 < l1.length then some true
    else if crosswaylaw04_PolyBytes.fine a0_0 a0_1 = true ∧ (0 ≤ a2 ∧ a2 < 18446744073709551616) ∧ poly_Elem_Bytes.f k a0_0 a0_1 = some (bytesN (nOf a0_0 a0_1)) ∧ poly_Of.f k (bytesN (nOf a0_0 a0_1)) = some (a0_0, a0_1, 0) ∧ crosswayref00_CopyBytes.f l1 = some l1 ∧ crosswayref00_SameBytes.f k (bytesN (nOf a0_0 a0_1)) (bytesN (nOf a0_0 a0_1)) = some true ∧ poly_Elem_Pow.f k a0_0 a0_1 a2 = some (hiN (pw (nOf a0_0 a0_1) a2.toNat), loN (pw (nOf a0_0 a0_1) a2.toNat)) ∧ crosswaylaw04_PolyBytes.back k l1 = true then some true else none
  else none
set_option maxRecDepth 100000 in
set_option maxHeartbeats 4000000 in
theorem crosswaylaw04_PolyBytes.calls (k : Nat) (a0_0 a0_1 : Int) (A1 : Option Addr) (c1 : Nat) (l1 : List Int) (a2 : Int) (r : Bool) (w : World) (hr1 : Kd.C (Kd.int .u8) w A1 l1.length l1) (hc1 : l1.length ≤ c1) (h : crosswaylaw04_PolyBytes.f k a0_0 a0_1 l1 a2 = some r) :
    Calls Try.prog 4 #[.agg #[.int .u64 a0_0, .int .u64 a0_1], .slice A1 l1.length c1, .int .u64 a2] w fun e w' => e = .returned (.bool r) ∧ Below w.heap.size w w' := by
  unfold crosswaylaw04_PolyBytes.f at h
  have hal : crosswaylaw04_alive.f k = some true := by
    by_cases ha : crosswaylaw04_alive.f k = some true
    · exact ha
    · rw [if_neg ha] at h; cases h
  rw [if_pos hal] at h
  have HAL := Aside0.mk hal
  have HR1 := Aside0.mk hr1
  have HC1 := Aside0.mk hc1
  have HB0 := Aside0.mk (below_alloc (Below.refl w.heap.size w) (.cells #[.int .u64 a0_0, .int .u64 a0_1] 24))
  have HA0 := Aside0.mk (blk_new w (.cells #[.int .u64 a0_0, .int .u64 a0_1] 24))
  clear hal hr1 hc1
  by_cases hl : 100 < l1.length
  · rw [if_pos hl] at h
    cases h
    go_enter Try.func4, Try.ntmps4
    go_wp2_with fail
    (with_reducible refine (crosswaylaw04_alive.calls k true _ HAL.out).mono ?_)
    rintro e w1 ⟨rfl, hb1⟩
    go_wp2_with fail
    go_ret
    exact ⟨rfl, HB0.out.trans (hb1.mono (by simp))⟩
  · rw [if_neg hl] at h
    by_cases hall : crosswaylaw04_PolyBytes.fine a0_0 a0_1 = true ∧ (0 ≤ a2 ∧ a2 < 18446744073709551616) ∧ poly_Elem_Bytes.f k a0_0 a0_1 = some (bytesN (nOf a0_0 a0_1)) ∧ poly_Of.f k (bytesN (nOf a0_0 a0_1)) = some (a0_0, a0_1, 0) ∧ crosswayref00_CopyBytes.f l1 = some l1 ∧ crosswayref00_SameBytes.f k (bytesN (nOf a0_0 a0_1)) (bytesN (nOf a0_0 a0_1)) = some true ∧ poly_Elem_Pow.f k a0_0 a0_1 a2 = some (hiN (pw (nOf a0_0 a0_1) a2.toNat), loN (pw (nOf a0_0 a0_1) a2.toNat)) ∧ crosswaylaw04_PolyBytes.back k l1 = true
    rotate_left
    · rw [if_neg hall] at h; cases h
    · rw [if_pos hall] at h
      cases h
      obtain ⟨hfa, hn, f1, f2, f3, f4, f5, f6⟩ := hall
      unfold crosswaylaw04_PolyBytes.fine at hfa
      simp at hfa
      obtain ⟨hxl, hxa, hxb⟩ := nOf_lt (a := a0_0) (b := a0_1) (by omega) (by omega)
      generalize nOf a0_0 a0_1 = x at hxl hxa hxb f1 f2 f4 f5
      subst hxa hxb
      obtain ⟨n, rfl⟩ := Int.eq_ofNat_of_zero_le hn.1
      rw [Int.toNat_natCast] at f5
      have HXL := Aside0.mk hxl
      have HN := Aside0.mk (show n < 18446744073709551616 by omega)
      have F1 := Aside0.mk f1
      have F2 := Aside0.mk f2
      have F3 := Aside0.mk f3
      have F4 := Aside0.mk f4
      have F5 := Aside0.mk f5
      have F6 := Aside0.mk f6
      have hl100 : l1.length ≤ 100 := by omega
      have HBL := Aside0.mk (bytesN_length x)
      clear hl hfa hxl hn f1 f2 f3 f4 f5 f6
      go_enter Try.func4, Try.ntmps4
      go_wp2_with fail
      (with_reducible refine (crosswaylaw04_alive.calls k true _ HAL.out).mono ?_)
      rintro e w1 ⟨rfl, hb1⟩
      have H0 := Aside0.mk (blk_below HA0.out hb1)
      have HB := Aside0.mk (HB0.out.trans (hb1.mono (by simp)))
      have hc0 := blk_cell H0.out 0
      have hc0' := blk_cell H0.out 1
      simp at hc0 hc0'
      clear hb1 HA0 HB0
      go_wp2_with fail
      (with_reducible refine (poly_Elem_Bytes.calls k _ _ _ _ F1.out).mono ?_)
      rintro e w2 ⟨v7, rfl, hr7, hb2⟩
      obtain ⟨A7, c7, rfl, hc7, hC7⟩ := prow_at hr7
      have H02 := Aside0.mk (blk_below H0.out hb2)
      have HB2 := Aside0.mk (HB.out.trans (hb2.mono HB.out.size))
      have HC7 := Aside0.mk hC7
      have HL7 := Aside0.mk hc7
      clear hb2 hr7 hC7 hc7 H0 HB hc0 hc0'
      go_wp2_with fail
      (with_reducible refine (poly_Of.calls k _ _ _ _ _ _ _ HC7.out HL7.out F2.out).mono ?_)
      rintro e w3 ⟨rfl, hb3⟩
      have H03 := Aside0.mk (blk_below H02.out hb3)
      have HB3 := Aside0.mk (HB2.out.trans (hb3.mono HB2.out.size))
      have HC73 := Aside0.mk (Kd.C_below HC7.out hb3)
      clear hb3 H02 HB2 HC7
      go_upto_region 7 with (fail)
      obtain ⟨d, e, g, hof⟩ : ∃ d e g, poly_Of.f k l1 = some (d, e, g) := by
        by_cases h16 : l1.length = 16
        · obtain ⟨d, e, h, _⟩ := crosswaylaw04_PolyBytes.back_16 F6.out h16
          exact ⟨d, e, 0, h⟩
        · exact ⟨0, 0, 11, crosswaylaw04_PolyBytes.back_no F6.out h16⟩
      have HOF := Aside0.mk hof
      have H0c := Aside0.mk (blk_alloc H03.out (.cells #[.int .u64 (hiN x), .int .u64 (loN x)] 24))
      have HCc := Aside0.mk (blk_new w3 (.cells #[.int .u64 (hiN x), .int .u64 (loN x)] 24))
      have HBc := Aside0.mk (HB3.out.alloc HB3.out.size (.cells #[.int .u64 (hiN x), .int .u64 (loN x)] 24))
      have HC7c := Aside0.mk (Kd.C_alloc HC73.out (.cells #[.int .u64 (hiN x), .int .u64 (loN x)] 24))
      generalize w3.alloc (.cells #[.int .u64 (hiN x), .int .u64 (loN x)] 24) = w4 at H0c HCc HBc HC7c ⊢
      clear hof H03 HB3 HC73
      go_wp2_with fail
      (with_reducible refine (crosswayref00_CopyBytes.calls _ _ _ _ _ (Kd.C_below HR1.out HBc.out) HC1.out F3.out).mono ?_)
      rintro en w5 ⟨vc, rfl, hrc, hb5⟩
      obtain ⟨Ac, cc, rfl, hcc, hCc⟩ := prow_at hrc
      have H05 := Aside0.mk (blk_below H0c.out hb5)
      have HC5 := Aside0.mk (blk_below HCc.out hb5)
      have HB5 := Aside0.mk (HBc.out.trans (hb5.mono HBc.out.size))
      have HC75 := Aside0.mk (Kd.C_below HC7c.out hb5)
      have HRc := Aside0.mk hCc
      have HLc := Aside0.mk hcc
      clear hb5 hrc hCc hcc H0c HCc HBc HC7c
      go_wp2_with fail
      (with_reducible refine (poly_Of.calls k _ _ _ _ _ _ _ HRc.out HLc.out HOF.out).mono ?_)
      rintro en w6 ⟨rfl, hb6⟩
      have H06 := Aside0.mk (blk_below H05.out hb6)
      have HC6 := Aside0.mk (blk_below HC5.out hb6)
      have HB6 := Aside0.mk (HB5.out.trans (hb6.mono HB5.out.size))
      have HC76 := Aside0.mk (Kd.C_below HC75.out hb6)
      clear hb6 HRc HLc H05 HC5 HB5 HC75
      go_upto_region 8 with (fail)
      have hb0 := blk_drew (blk_alloc H06.out (.cells #[.int .u64 d, .int .u64 e] 24))
      have hbc := blk_drew (blk_alloc HC6.out (.cells #[.int .u64 d, .int .u64 e] 24))
      have hbd := blk_drew (blk_new w6 (.cells #[.int .u64 d, .int .u64 e] 24))
      have HB := Aside0.mk (below_drew (HB6.out.alloc HB6.out.size (.cells #[.int .u64 d, .int .u64 e] 24)))
      have HC7d := Aside0.mk (Kd.C_drew (Kd.C_alloc HC76.out (.cells #[.int .u64 d, .int .u64 e] 24)))
      have hc0 := blk_cell hb0 0
      have hc0' := blk_cell hb0 1
      have hc8 := blk_cell hbc 0
      have hc8' := blk_cell hbc 1
      have hc10 : (w6.alloc (.cells #[.int .u64 d, .int .u64 e] 24)).drew.cell? ⟨w6.heap.size, 0, none⟩ = some (.int .u64 d) := blk_cell hbd 0
      have hc10' : (w6.alloc (.cells #[.int .u64 d, .int .u64 e] 24)).drew.cell? ⟨w6.heap.size, 1, none⟩ = some (.int .u64 e) := blk_cell hbd 1
      simp at hc0 hc0' hc8 hc8'
      obtain ⟨SS, hSS⟩ : ∃ SS : World → Prop, SS = fun W => W.cell? ⟨w.heap.size, 0, none⟩ = some (.int .u64 (hiN x)) ∧ W.cell? ⟨w.heap.size, 1, none⟩ = some (.int .u64 (loN x)) ∧ W.cell? ⟨w3.heap.size, 0, none⟩ = some (.int .u64 (hiN x)) ∧ W.cell? ⟨w3.heap.size, 1, none⟩ = some (.int .u64 (loN x)) ∧ W.cell? ⟨w6.heap.size, 0, none⟩ = some (.int .u64 d) ∧ W.cell? ⟨w6.heap.size, 1, none⟩ = some (.int .u64 e) := ⟨_, rfl⟩
      have HS := Aside0.mk (show SS (w6.alloc (.cells #[.int .u64 d, .int .u64 e] 24)).drew by rw [hSS]; exact ⟨hc0, hc0', hc8, hc8', hc10, hc10'⟩)
      have HSB := Aside0.mk (show ∀ W W' : World, SS W → Below W.heap.size W W' → SS W' by
        rw [hSS]
        rintro W W' ⟨h1, h2, h3, h4, h5, h6⟩ hb
        exact ⟨pw_cell_below hb h1, pw_cell_below hb h2, pw_cell_below hb h3, pw_cell_below hb h4, pw_cell_below hb h5, pw_cell_below hb h6⟩)
      have HSE := Aside0.mk hSS
      clear hb0 hbc hbd hSS hc0 hc0' hc8 hc8' hc10 hc10' H06 HC6 HB6 HC76
      refine Held.wp_region_G (S := SS) (by kernel_rfl) ?_
      change Held.wpAnyG _ _ _ _ _ 26 _ _ _
      refine Held.wpAnyG_take (i := 0) (v := (.slice A7 (bytesN x).length c7)) rfl (by kernel_rfl) (by kernel_rfl) (by kernel_rfl) (fun _ _ _ h => h) HS.out (by first | (with_reducible rfl) | (simp [Region.wanted, yielded, Act.put]; done) | rfl) (fun W h => by go_simp) (some 30) rfl #[true, false, false, false, false, false, false, false, false, false, false, false, false, false, false, false, false, false, false, false, false, false, false, false, false, false] (by kernel_rfl) ?_
      simp only [Act.put, List.setIfInBounds_toArray, List.set_cons_zero, List.set_cons_succ]
      refine Held.wpAnyG_take (i := 1) (v := (.agg #[.int .u64 (hiN x), .int .u64 (loN x)])) rfl (by kernel_rfl) (by kernel_rfl) (by kernel_rfl) (fun _ _ _ h => h) HS.out (by first | (with_reducible rfl) | (simp [Region.wanted, yielded, Act.put]; done) | rfl) (fun W h => by rw [HSE.out] at h; obtain ⟨h1, h2, h3, h4, _, _⟩ := h; go_simp) (some 31) rfl #[true, true, false, false, false, false, false, false, false, false, false, false, false, false, false, false, false, false, false, false, false, false, false, false, false, false] (by kernel_rfl) ?_
      simp only [Act.put, List.setIfInBounds_toArray, List.set_cons_zero, List.set_cons_succ]
      refine Held.wpAnyG_one 2 (by kernel_rfl) rfl #[true, true, true, false, false, false, false, false, false, false, false, false, false, false, false, false, false, false, false, false, false, false, false, false, false, false] (by kernel_rfl) (fun K hK => ?_)
      go_wp2_with fail
      (with_reducible refine (lof_x x _ HXL.out).mono ?_)
      rintro en wa ⟨rfl, hbN⟩
      have HC7e := Aside0.mk (Kd.C_below HC7d.out hbN)
      have n1_ := Aside0.mk (HSB.out _ _ HS.out hbN)
      have n2_ := Aside0.mk (HB.out.trans (hbN.mono HB.out.size))
      clear hbN HS HB 
      have HS := n1_
      have HB := n2_
      clear n1_ n2_
      go_wp2_with fail
      refine hK _ _ HS.out ?_
      clear hK K
      refine Held.wpAnyG_one 3 (by kernel_rfl) rfl #[true, true, true, true, false, false, false, false, false, false, false, false, false, false, false, false, false, false, false, false, false, false, false, false, false, false] (by kernel_rfl) (fun K hK => ?_)
      go_wp2_with fail
      (with_reducible refine (bytes_x x _).mono ?_)
      rintro en wb ⟨vb, rfl, hrb, hbN⟩
      obtain ⟨Ab, cb, rfl, hcb, hCb⟩ := prow_at hrb
      have HRb := Aside0.mk hCb
      have HLb := Aside0.mk hcb
      have HC7f := Aside0.mk (Kd.C_below HC7e.out hbN)
      have n1_ := Aside0.mk (HSB.out _ _ HS.out hbN)
      have n2_ := Aside0.mk (HB.out.trans (hbN.mono HB.out.size))
      clear hbN hrb hCb hcb HS HB HC7e
      have HS := n1_
      have HB := n2_
      clear n1_ n2_
      go_wp2_with fail
      refine hK _ _ HS.out ?_
      clear hK K
      refine Held.wpAnyG_one 4 (by kernel_rfl) rfl #[true, true, true, true, true, false, false, false, false, false, false, false, false, false, false, false, false, false, false, false, false, false, false, false, false, false] (by kernel_rfl) (fun K hK => ?_)
      go_wp2_with fail
      (with_reducible refine (crosswayref00_SameBytes.calls k _ _ _ _ _ _ true _ HC7f.out HL7.out HRb.out HLb.out F4.out).mono ?_)
      rintro en wc ⟨rfl, hd⟩
      have hbN := hd.below
      have n1_ := Aside0.mk (HSB.out _ _ HS.out hbN)
      have n2_ := Aside0.mk (HB.out.trans (hbN.mono HB.out.size))
      clear hd hbN HS HB HC7f HRb HLb
      have HS := n1_
      have HB := n2_
      clear n1_ n2_
      go_wp2_with fail
      refine hK _ _ HS.out ?_
      clear hK K
      refine Held.wpAnyG_take (i := 5) (v := (.bool false)) rfl (by kernel_rfl) (by kernel_rfl) (by kernel_rfl) (fun _ _ _ h => h) HS.out (by first | (with_reducible rfl) | (simp [Region.wanted, yielded, Act.put]; done) | rfl) (fun W h => by go_simp) (some 35) rfl #[true, true, true, true, true, true, false, false, false, false, false, false, false, false, false, false, false, false, false, false, false, false, false, false, false, false] (by kernel_rfl) ?_
      simp only [Act.put, List.setIfInBounds_toArray, List.set_cons_zero, List.set_cons_succ]
      refine Held.wpAnyG_take (i := 6) (v := (.bool false)) rfl (by kernel_rfl) (by kernel_rfl) (by kernel_rfl) (fun _ _ _ h => h) HS.out (by first | (with_reducible rfl) | (simp [Region.wanted, yielded, Act.put]; done) | rfl) (fun W h => by go_simp) (some 36) rfl #[true, true, true, true, true, true, true, false, false, false, false, false, false, false, false, false, false, false, false, false, false, false, false, false, false, false] (by kernel_rfl) ?_
      simp only [Act.put, List.setIfInBounds_toArray, List.set_cons_zero, List.set_cons_succ]
      refine Held.wpAnyG_take (i := 7) (v := (.int .i64 0)) rfl (by kernel_rfl) (by kernel_rfl) (by kernel_rfl) (fun _ _ _ h => h) HS.out (by first | (with_reducible rfl) | (simp [Region.wanted, yielded, Act.put]; done) | rfl) (fun W h => by go_simp) (some 37) rfl #[true, true, true, true, true, true, true, true, false, false, false, false, false, false, false, false, false, false, false, false, false, false, false, false, false, false] (by kernel_rfl) ?_
      simp only [Act.put, List.setIfInBounds_toArray, List.set_cons_zero, List.set_cons_succ]
      refine Held.wpAnyG_take (i := 8) (v := (.bool false)) rfl (by kernel_rfl) (by kernel_rfl) (by kernel_rfl) (fun _ _ _ h => h) HS.out (by first | (with_reducible rfl) | (simp [Region.wanted, yielded, Act.put]; done) | rfl) (fun W h => by go_simp) (some 38) rfl #[true, true, true, true, true, true, true, true, true, false, false, false, false, false, false, false, false, false, false, false, false, false, false, false, false, false] (by kernel_rfl) ?_
      simp only [Act.put, List.setIfInBounds_toArray, List.set_cons_zero, List.set_cons_succ]
      refine Held.wpAnyG_take (i := 9) (v := (.bool false)) rfl (by kernel_rfl) (by kernel_rfl) (by kernel_rfl) (fun _ _ _ h => h) HS.out (by first | (with_reducible rfl) | (simp [Region.wanted, yielded, Act.put]; done) | rfl) (fun W h => by go_simp) (some 39) rfl #[true, true, true, true, true, true, true, true, true, true, false, false, false, false, false, false, false, false, false, false, false, false, false, false, false, false] (by kernel_rfl) ?_
      simp only [Act.put, List.setIfInBounds_toArray, List.set_cons_zero, List.set_cons_succ]
      refine Held.wpAnyG_take (i := 10) (v := (.bool false)) rfl (by kernel_rfl) (by kernel_rfl) (by kernel_rfl) (fun _ _ _ h => h) HS.out (by first | (with_reducible rfl) | (simp [Region.wanted, yielded, Act.put]; done) | rfl) (fun W h => by go_simp) (some 40) rfl #[true, true, true, true, true, true, true, true, true, true, true, false, false, false, false, false, false, false, false, false, false, false, false, false, false, false] (by kernel_rfl) ?_
      simp only [Act.put, List.setIfInBounds_toArray, List.set_cons_zero, List.set_cons_succ]
      refine Held.wpAnyG_take (i := 11) (v := (.agg #[.int .u64 (hiN x), .int .u64 (loN x)])) rfl (by kernel_rfl) (by kernel_rfl) (by kernel_rfl) (fun _ _ _ h => h) HS.out (by first | (with_reducible rfl) | (simp [Region.wanted, yielded, Act.put]; done) | rfl) (fun W h => by rw [HSE.out] at h; obtain ⟨h1, h2, h3, h4, _, _⟩ := h; go_simp) (some 41) rfl #[true, true, true, true, true, true, true, true, true, true, true, true, false, false, false, false, false, false, false, false, false, false, false, false, false, false] (by kernel_rfl) ?_
      simp only [Act.put, List.setIfInBounds_toArray, List.set_cons_zero, List.set_cons_succ]
      refine Held.wpAnyG_take (i := 12) (v := (.agg #[.int .u64 (hiN x), .int .u64 (loN x)])) rfl (by kernel_rfl) (by kernel_rfl) (by kernel_rfl) (fun _ _ _ h => h) HS.out (by first | (with_reducible rfl) | (simp [Region.wanted, yielded, Act.put]; done) | rfl) (fun W h => by rw [HSE.out] at h; obtain ⟨h1, h2, h3, h4, _, _⟩ := h; go_simp) (some 42) rfl #[true, true, true, true, true, true, true, true, true, true, true, true, true, false, false, false, false, false, false, false, false, false, false, false, false, false] (by kernel_rfl) ?_
      simp only [Act.put, List.setIfInBounds_toArray, List.set_cons_zero, List.set_cons_succ]
      refine Held.wpAnyG_take (i := 13) (v := (.bool false)) rfl (by kernel_rfl) (by kernel_rfl) (by kernel_rfl) (fun _ _ _ h => h) HS.out (by first | (with_reducible rfl) | (simp [Region.wanted, yielded, Act.put]; done) | rfl) (fun W h => crosswaylaw04_PolyBytes.run_neq (.tmp 41) (.tmp 42) rfl (hiN x) (loN x) rfl rfl W) (some 43) rfl #[true, true, true, true, true, true, true, true, true, true, true, true, true, true, false, false, false, false, false, false, false, false, false, false, false, false] (by kernel_rfl) ?_
      simp only [Act.put, List.setIfInBounds_toArray, List.set_cons_zero, List.set_cons_succ]
      refine Held.wpAnyG_take (i := 14) (v := (.bool false)) rfl (by kernel_rfl) (by kernel_rfl) (by kernel_rfl) (fun _ _ _ h => h) HS.out (by first | (with_reducible rfl) | (simp [Region.wanted, yielded, Act.put]; done) | rfl) (fun W h => by go_simp) (some 44) rfl #[true, true, true, true, true, true, true, true, true, true, true, true, true, true, true, false, false, false, false, false, false, false, false, false, false, false] (by kernel_rfl) ?_
      simp only [Act.put, List.setIfInBounds_toArray, List.set_cons_zero, List.set_cons_succ]
      refine Held.wpAnyG_take (i := 15) (v := (.bool false)) rfl (by kernel_rfl) (by kernel_rfl) (by kernel_rfl) (fun _ _ _ h => h) HS.out (by first | (with_reducible rfl) | (simp [Region.wanted, yielded, Act.put]; done) | rfl) (fun W h => by go_simp) (some 45) rfl #[true, true, true, true, true, true, true, true, true, true, true, true, true, true, true, true, false, false, false, false, false, false, false, false, false, false] (by kernel_rfl) ?_
      simp only [Act.put, List.setIfInBounds_toArray, List.set_cons_zero, List.set_cons_succ]
      refine Held.wpAnyG_take (i := 16) (v := (.agg #[.int .u64 (hiN x), .int .u64 (loN x)])) rfl (by kernel_rfl) (by kernel_rfl) (by kernel_rfl) (fun _ _ _ h => h) HS.out (by first | (with_reducible rfl) | (simp [Region.wanted, yielded, Act.put]; done) | rfl) (fun W h => by rw [HSE.out] at h; obtain ⟨h1, h2, h3, h4, _, _⟩ := h; go_simp) (some 46) rfl #[true, true, true, true, true, true, true, true, true, true, true, true, true, true, true, true, true, false, false, false, false, false, false, false, false, false] (by kernel_rfl) ?_
      simp only [Act.put, List.setIfInBounds_toArray, List.set_cons_zero, List.set_cons_succ]
      refine Held.wpAnyG_take (i := 17) (v := (.int .u64 n)) rfl (by kernel_rfl) (by kernel_rfl) (by kernel_rfl) (fun _ _ _ h => h) HS.out (by first | (with_reducible rfl) | (simp [Region.wanted, yielded, Act.put]; done) | rfl) (fun W h => by go_simp) (some 47) rfl #[true, true, true, true, true, true, true, true, true, true, true, true, true, true, true, true, true, true, false, false, false, false, false, false, false, false] (by kernel_rfl) ?_
      simp only [Act.put, List.setIfInBounds_toArray, List.set_cons_zero, List.set_cons_succ]
      refine Held.wpAnyG_take (i := 20) (v := (.agg #[.int .u64 (hiN x), .int .u64 (loN x)])) rfl (by kernel_rfl) (by kernel_rfl) (by kernel_rfl) (fun _ _ _ h => h) HS.out (by first | (with_reducible rfl) | (simp [Region.wanted, yielded, Act.put]; done) | rfl) (fun W h => by rw [HSE.out] at h; obtain ⟨h1, h2, h3, h4, _, _⟩ := h; go_simp) (some 50) rfl #[true, true, true, true, true, true, true, true, true, true, true, true, true, true, true, true, true, true, false, false, true, false, false, false, false, false] (by kernel_rfl) ?_
      simp only [Act.put, List.setIfInBounds_toArray, List.set_cons_zero, List.set_cons_succ]
      refine Held.wpAnyG_take (i := 22) (v := (.int .u64 n)) rfl (by kernel_rfl) (by kernel_rfl) (by kernel_rfl) (fun _ _ _ h => h) HS.out (by first | (with_reducible rfl) | (simp [Region.wanted, yielded, Act.put]; done) | rfl) (fun W h => by go_simp) (some 52) rfl #[true, true, true, true, true, true, true, true, true, true, true, true, true, true, true, true, true, true, false, false, true, false, true, false, false, false] (by kernel_rfl) ?_
      simp only [Act.put, List.setIfInBounds_toArray, List.set_cons_zero, List.set_cons_succ]
      refine Held.wpAnyG_one 18 (by kernel_rfl) rfl #[true, true, true, true, true, true, true, true, true, true, true, true, true, true, true, true, true, true, true, false, true, false, true, false, false, false] (by kernel_rfl) (fun K hK => ?_)
      go_wp2_with fail
      (with_reducible refine (poly_Elem_Pow.calls k _ _ _ _ _ _ F5.out).mono ?_)
      rintro en wd ⟨rfl, hbN⟩
      have n1_ := Aside0.mk (HSB.out _ _ HS.out hbN)
      have n2_ := Aside0.mk (HB.out.trans (hbN.mono HB.out.size))
      clear hbN HS HB 
      have HS := n1_
      have HB := n2_
      clear n1_ n2_
      go_wp2_with fail
      refine hK _ _ HS.out ?_
      clear hK K
      refine Held.wpAnyG_one 19 (by kernel_rfl) rfl #[true, true, true, true, true, true, true, true, true, true, true, true, true, true, true, true, true, true, true, true, true, false, true, false, false, false] (by kernel_rfl) (fun K hK => ?_)
      go_wp2_with fail
      (with_reducible refine (lof_x _ _ (pw_lt HXL.out n)).mono ?_)
      rintro en we ⟨rfl, hbN⟩
      have n1_ := Aside0.mk (HSB.out _ _ HS.out hbN)
      have n2_ := Aside0.mk (HB.out.trans (hbN.mono HB.out.size))
      clear hbN HS HB 
      have HS := n1_
      have HB := n2_
      clear n1_ n2_
      go_wp2_with fail
      refine hK _ _ HS.out ?_
      clear hK K
      refine Held.wpAnyG_one 21 (by kernel_rfl) rfl #[true, true, true, true, true, true, true, true, true, true, true, true, true, true, true, true, true, true, true, true, true, true, true, false, false, false] (by kernel_rfl) (fun K hK => ?_)
      go_wp2_with fail
      (with_reducible refine (lof_x x _ HXL.out).mono ?_)
      rintro en wf ⟨rfl, hbN⟩
      have n1_ := Aside0.mk (HSB.out _ _ HS.out hbN)
      have n2_ := Aside0.mk (HB.out.trans (hbN.mono HB.out.size))
      clear hbN HS HB 
      have HS := n1_
      have HB := n2_
      clear n1_ n2_
      go_wp2_with fail
      refine hK _ _ HS.out ?_
      clear hK K
      refine Held.wpAnyG_one 23 (by kernel_rfl) rfl #[true, true, true, true, true, true, true, true, true, true, true, true, true, true, true, true, true, true, true, true, true, true, true, true, false, false] (by kernel_rfl) (fun K hK => ?_)
      go_wp2_with fail
      (with_reducible refine (pow_x x n _ HXL.out HN.out).mono ?_)
      rintro en wg ⟨rfl, hbN⟩
      have n1_ := Aside0.mk (HSB.out _ _ HS.out hbN)
      have n2_ := Aside0.mk (HB.out.trans (hbN.mono HB.out.size))
      clear hbN HS HB 
      have HS := n1_
      have HB := n2_
      clear n1_ n2_
      go_wp2_with fail
      refine hK _ _ HS.out ?_
      clear hK K
      refine Held.wpAnyG_take (i := 24) (v := (.bool false)) rfl (by kernel_rfl) (by kernel_rfl) (by kernel_rfl) (fun _ _ _ h => h) HS.out (by first | (with_reducible rfl) | (simp [Region.wanted, yielded, Act.put]; done) | rfl) (fun W h => run_neq_arr (.tmp 49) (.tmp 53) rfl (fb (pw x n)) rfl rfl W) (some 54) rfl #[true, true, true, true, true, true, true, true, true, true, true, true, true, true, true, true, true, true, true, true, true, true, true, true, true, false] (by kernel_rfl) ?_
      simp only [Act.put, List.setIfInBounds_toArray, List.set_cons_zero, List.set_cons_succ]
      refine Held.wpAnyG_take (i := 25) (v := (.bool false)) rfl (by kernel_rfl) (by kernel_rfl) (by kernel_rfl) (fun _ _ _ h => h) HS.out (by first | (with_reducible rfl) | (simp [Region.wanted, yielded, Act.put]; done) | rfl) (fun W h => by go_simp) (some 55) rfl #[true, true, true, true, true, true, true, true, true, true, true, true, true, true, true, true, true, true, true, true, true, true, true, true, true, true] (by kernel_rfl) ?_
      simp only [Act.put, List.setIfInBounds_toArray, List.set_cons_zero, List.set_cons_succ]
      refine Held.wpAnyG_done (by kernel_rfl) ?_ _
      have hsv := HS.out
      rw [HSE.out] at hsv
      obtain ⟨_, _, _, _, h10, h10'⟩ := hsv
      have hof := HOF.out
      have hb6 := F6.out
      clear HSE HSB HS HXL HN F1 F2 F3 F4 F5 HOF F6
      by_cases h16 : l1.length = 16
      · obtain ⟨d2, e2, k1, k2, k3⟩ := crosswaylaw04_PolyBytes.back_16 hb6 h16
        rw [hof] at k1
        simp only [Option.some.injEq, Prod.mk.injEq] at k1
        obtain ⟨rfl, rfl, rfl⟩ := k1
        have K2 := Aside0.mk k2
        have K3 := Aside0.mk k3
        have p1 : ((l1.length : Int) != 16) = false := by simp; omega
        clear k2 k3 h16 hof hb6
        go_wp2_with fail
        (with_reducible refine (poly_Elem_Bytes.calls k _ _ _ _ K2.out).mono ?_)
        rintro en wh ⟨vh, rfl, hrh, hbh⟩
        obtain ⟨Ah, ch, rfl, hch, hCh⟩ := prow_at hrh
        have HCh := Aside0.mk hCh
        have HLh := Aside0.mk hch
        have HBh := Aside0.mk (HB.out.trans (hbh.mono HB.out.size))
        clear hrh hbh hch hCh h10 h10' p1
        go_wp2_with fail
        (with_reducible refine (crosswayref00_SameBytes.calls k _ _ _ _ _ _ true _ HCh.out HLh.out (Kd.C_below HR1.out HBh.out) HC1.out K3.out).mono ?_)
        rintro en wi ⟨rfl, hd⟩
        go_wp2_with fail
        go_ret
        exact ⟨rfl, HBh.out.trans (hd.below.mono HBh.out.size)⟩
      · have k1 := crosswaylaw04_PolyBytes.back_no hb6 h16
        rw [hof] at k1
        simp only [Option.some.injEq, Prod.mk.injEq] at k1
        obtain ⟨rfl, rfl, rfl⟩ := k1
        have p1 : ((l1.length : Int) != 16) = true := by simp; omega

        clear h16 hof hb6
        go_wp2_with fail
        go_ret
        exact ⟨rfl, HB.out⟩
end


/-- The one pure statement of crosswaylaw04_PolyBytes. -/
def crosswaylaw04_PolyBytes.Pure : Prop := ∀ (a0_0 : Int) (a0_1 : Int) (l1 : List Int) (a2 : Int), (Lit.int .u64 a0_0).wf = true → (Lit.int .u64 a0_1).wf = true → l1.length ≤ maxLen → (∀ x ∈ l1, (Lit.int .u8 x).wf = true) → (Lit.int .u64 a2).wf = true → ∃ k, crosswaylaw04_PolyBytes.f k a0_0 a0_1 l1 a2 = some true

end Go.Proofs.Ytblllcmdnmjghaa.M
