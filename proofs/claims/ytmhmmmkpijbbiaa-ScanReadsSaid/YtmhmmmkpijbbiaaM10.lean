/- Contracts of the Go functions that the laws reach, each as a plain Lean function: written by xprint.py, a program of this repo. -/
import Derived.Test.YtmhmmmkpijbbiaaM0
import Derived.Test.YtmhmmmkpijbbiaaM1
import Derived.Test.YtmhmmmkpijbbiaaM3
import Derived.Test.YtmhmmmkpijbbiaaM7
namespace Go.Proofs.Ytmhmmmkpijbbiaa.M
open Go.RowKit Go.Proofs.YtmhmmmkpijbbiaaW.PrintWords Go.Proofs.YtmhmmmkpijbbiaaW.PrintLast Go.Proofs.YtmhmmmkpijbbiaaW.PrintMore Go.Proofs.Ytmhmmmkpijbbiaa.X
attribute [local go_sem] max2_int min2_int max_two min_two max_three min_three max_four min_four   -- for this text's walks alone
set_option linter.unusedVariables false
set_option linter.unusedSimpArgs false

/-! ### scan_Reader_Long: function 25, typed by hand -/
/-- What a reader's Long tells. -/
def rdLong (k : Nat) (e : Int) (l : List Int) : Option (List Int × Int × List Int) := (rdVari k e l).bind fun n => if 0 ≤ n.1 then (if n.1 > (n.2.2.length : Int) then some ([], if n.2.1 = 0 then 12 else n.2.1, l) else if n.2.1 = 0 then some (n.2.2.take n.1.toNat, 0, n.2.2.drop n.1.toNat) else some ([], n.2.1, l)) else none
set_option maxRecDepth 100000 in
set_option maxHeartbeats 1000000 in
theorem countedV_calls (k : Nat) (W : World) (g : Nat) (P : Nat → Prop) (e e2 : Int) (l r l2 : List Int) (hR : RdAt W g P e l) (hl : l.length < 140737488355328)  (h : rdLong k e l = some (r, e2, l2)) :
    Calls Try.prog 50 #[.pointer (some ⟨g, 0, none⟩), .func (.func 23) #[.pointer (some ⟨g, 0, none⟩)] #[]] W fun en W' => ∃ v, en = .returned v ∧ Kd.R (Kd.int .u8) 5 W' W.heap.size (fun _ => True) v r ∧ RdAt W' g P e2 l2 ∧ W.grownBy W' (some g) := by
  unfold rdLong at h
  obtain ⟨⟨n, e1, l1⟩, hn, h⟩ := Option.bind_eq_some_iff.1 h
  dsimp only at h
  have HS := Aside0.mk (vari_calls k W g P e n e1 l l1 hR hl hn)
  obtain ⟨A, c, hbk, hc, hF, hg⟩ := hR.opens
  have hc1 := blk_cell hbk 1
  simp at hc1
  have HLL := Aside0.mk hl
  have HF := Aside0.mk hF
  have HC := Aside0.mk hc
  have HG := Aside0.mk hg
  have hl1 : l1.length ≤ l.length := rdVari_len hn
  have hl1b : l1.length < 140737488355328 := by omega
  have HL1 := Aside0.mk hl1b
  clear hn hR hbk hF hc hg hl hl1
  by_cases h0 : 0 ≤ n
  · rw [if_pos h0] at h
    by_cases hq : n > (l1.length : Int)
    · rw [if_pos hq] at h
      obtain ⟨e3, he3⟩ : ∃ e3, e3 = (if e1 = 0 then 12 else e1) := ⟨_, rfl⟩
      rw [← he3] at h
      simp only [Option.some.injEq, Prod.mk.injEq] at h
      obtain ⟨rfl, rfl, rfl⟩ := h
      have hz : (e3 != 0) = true := bne_iff_ne.mpr (by rw [he3]; split <;> omega)
      have H3 := Aside0.mk hz
      have HE := Aside0.mk he3
      clear hz he3
      go_enter Try.func50, Try.ntmps50
      go_wp2_with (first | (go_at_call 23; (with_reducible refine HS.out.mono ?_); rintro en w1 ⟨rfl, hr1, hg1⟩; obtain ⟨A1, c1, hb1, hc1, hF1, hgg⟩ := hr1.opens; have hd0 := blk_cell hb1 0; have hd1 := blk_cell hb1 1; have hf1 := blk_frozen hb1 1; have hf0 := blk_frozen hb1 0; simp at hd0 hd1; have HR1 := Aside0.mk hr1; have HG1 := Aside0.mk hg1; have HB1 := Aside0.mk hb1; clear hr1 hg1 hb1 hF1 hc1 hgg) | (go_at_call 45; (with_reducible refine (fail_calls w1 g e1 12 e3 (.slice A1 l1.length c1) HB1.out HE.out).mono ?_); rintro en w2 ⟨rfl, hb2, hg2⟩; have hk0 := blk_cell hb2 0; have hk1 := blk_cell hb2 1; have hm1 := blk_frozen hb2 1; simp at hk0 hk1; rw [H3.out]; have hz := H3.out; have HB2 := Aside0.mk hb2; have HG2 := Aside0.mk (HG1.out.trans hg2); clear hb2 hg2))
      go_ret
      have hgf := HG2.out.trans (setCell_grownBy w2 g 1 (.slice A l.length c))
      exact ⟨_, rfl, Kd.R_nil _ _ _ _ _, ⟨A, c, blk_put (cs := #[.int .i64 e3, .slice A1 l1.length c1]) HB2.out 1 _ rfl, HC.out, Kd.F_grown HF.out hgf (fun k hk e => HG.out (by cases e; exact hk)), HG.out⟩, hgf⟩
    · rw [if_neg hq] at h
      by_cases hz : e1 = 0
      · rw [if_pos hz] at h
        simp only [Option.some.injEq, Prod.mk.injEq] at h
        obtain ⟨hy, rfl, hl2⟩ := h
        obtain ⟨m, rfl⟩ := Int.eq_ofNat_of_zero_le h0
        rw [Int.toNat_natCast] at hy hl2
        have HY := Aside0.mk hy.symm
        have HZ := Aside0.mk hl2.symm
        have HM := Aside0.mk (show m ≤ l1.length by omega)
        subst hz
        clear hy hl2
        go_enter Try.func50, Try.ntmps50
        go_wp2_with (first | (go_at_call 23; (with_reducible refine HS.out.mono ?_); rintro en w1 ⟨rfl, hr1, hg1⟩; obtain ⟨A1, c1, hb1, hc1, hF1, hgg⟩ := hr1.opens; have hd0 := blk_cell hb1 0; have hd1 := blk_cell hb1 1; have hf1 := blk_frozen hb1 1; have hf0 := blk_frozen hb1 0; simp at hd0 hd1; have HR1 := Aside0.mk hr1; have HG1 := Aside0.mk hg1; have HB1 := Aside0.mk hb1; clear hr1 hg1 hb1 hF1 hc1 hgg) | (go_at_call 48; (with_reducible refine (cut_calls w1 g m P 0 l1 r l2 HY.out HZ.out HR1.out HM.out HL1.out).mono ?_); rintro en w2 ⟨vr, rfl, hv, hr2, hg2⟩; have HV := Aside0.mk hv; have HR2 := Aside0.mk hr2; have HG2 := Aside0.mk (HG1.out.trans hg2); clear hv hr2 hg2))
        go_ret
        exact ⟨_, rfl, Kd.R_lower HV.out HG1.out.size, HR2.out, HG2.out⟩
      · rw [if_neg hz] at h
        simp only [Option.some.injEq, Prod.mk.injEq] at h
        obtain ⟨rfl, rfl, rfl⟩ := h
        have hz2 : (e1 != 0) = true := bne_iff_ne.mpr hz
        clear hz
        go_enter Try.func50, Try.ntmps50
        go_wp2_with (go_at_call 23; (with_reducible refine HS.out.mono ?_); rintro en w1 ⟨rfl, hr1, hg1⟩; obtain ⟨A1, c1, hb1, hc1, hF1, hgg⟩ := hr1.opens; have hd0 := blk_cell hb1 0; have hd1 := blk_cell hb1 1; have hf1 := blk_frozen hb1 1; have hf0 := blk_frozen hb1 0; simp at hd0 hd1; have HR1 := Aside0.mk hr1; have HG1 := Aside0.mk hg1; have HB1 := Aside0.mk hb1; clear hr1 hg1 hb1 hF1 hc1 hgg)
        go_ret
        have hgf := HG1.out.trans (setCell_grownBy w1 g 1 (.slice A l.length c))
        exact ⟨_, rfl, Kd.R_nil _ _ _ _ _, ⟨A, c, blk_put (cs := #[.int .i64 e1, .slice A1 l1.length c1]) HB1.out 1 _ rfl, HC.out, Kd.F_grown HF.out hgf (fun k hk e => HG.out (by cases e; exact hk)), HG.out⟩, hgf⟩
  · rw [if_neg h0] at h
    cases h
set_option maxRecDepth 100000 in
set_option maxHeartbeats 1000000 in
theorem long_calls (k : Nat) (W : World) (g : Nat) (P : Nat → Prop) (e e2 : Int) (l r l2 : List Int) (hR : RdAt W g P e l) (hl : l.length < 140737488355328) (h : rdLong k e l = some (r, e2, l2)) :
    Calls Try.prog 25 #[.pointer (some ⟨g, 0, none⟩)] W fun en W' => ∃ v, en = .returned v ∧ Kd.R (Kd.int .u8) 5 W' W.heap.size (fun _ => True) v r ∧ RdAt W' g P e2 l2 ∧ W.grownBy W' (some g) := by
  have HS := Aside0.mk (countedV_calls k W g P e e2 l r l2 hR hl h)
  clear hR h hl
  go_enter Try.func25, Try.ntmps25
  go_wp2_with fail
  (with_reducible refine HS.out.mono ?_)
  rintro en w1 ⟨v, rfl, hv, hr1, hg1⟩
  have HV := Aside0.mk hv
  have HR1 := Aside0.mk hr1
  have HG1 := Aside0.mk hg1
  clear hv hr1 hg1
  go_wp2_with fail
  go_ret
  exact ⟨_, rfl, HV.out, HR1.out, HG1.out⟩
theorem rdLong_len {k : Nat} {e e2 : Int} {l r l2 : List Int} (h : rdLong k e l = some (r, e2, l2)) : l2.length ≤ l.length := by
  unfold rdLong at h
  obtain ⟨⟨n, e1, l1⟩, hn, h⟩ := Option.bind_eq_some_iff.1 h
  have := rdVari_len hn
  dsimp only at h
  split at h
  · split at h
    · simp only [Option.some.injEq, Prod.mk.injEq] at h
      rw [h.2.2]; exact Nat.le_refl _
    · split at h
      · simp only [Option.some.injEq, Prod.mk.injEq] at h
        rw [← h.2.2, List.length_drop]; omega
      · simp only [Option.some.injEq, Prod.mk.injEq] at h
        rw [h.2.2]; exact Nat.le_refl _
  · cases h


-- NOT PRINTED: function 19 (crosswaylaw09_tells)

-- NOT PRINTED: function 5 (crosswaylaw09_ScanBack)

-- NOT PRINTED: function 39 (crosswayref09_Reader_Bytes)

/-! ### crosswayref01_Num: function 59 -/
def crosswayref01_Num.l0 : Nat → List Int → Int → Int → Option (Int × Int)
  | 0, _, _, _ => none
  | k + 1, x0, x4, x5 => if x5 < (x0.length : Int) then (if 0 ≤ x5 then (crosswayref01_Num.l0 k x0 (IntKind.u64.wrap ((IntKind.u64.wrap (x4 * 256)) + (IntKind.u64.wrap (rd x0 x5)))) (wrap64 (x5 + 1))) else (none)) else (some (x4, 0))
def crosswayref01_Num.f (k : Nat) (l0 : List Int) : Option (Int × Int) := if (l0.length : Int) > 8 then (some (0, 11)) else (crosswayref01_Num.l0 k l0 0 0)
theorem crosswayref01_Num.mono_l : ∀ k, (∀ y0 y1 y2, LeO (crosswayref01_Num.l0 k y0 y1 y2) (crosswayref01_Num.l0 (k + 1) y0 y1 y2))
  | 0 => fun _ _ _ r h => by simp [crosswayref01_Num.l0] at h
  | k + 1 => by
    have ih0 := crosswayref01_Num.mono_l k
    · intro y0 y1 y2
      unfold crosswayref01_Num.l0
      repeat' first
      | (with_reducible exact ih0 _ _ _)
      | (with_reducible exact LeO.refl _)
      | (with_reducible exact LeO.none _)
      | (with_reducible refine LeO.ite ?_ ?_)
      | (with_reducible refine LeO.bind ?_ (fun _ => ?_))
      | exact ih0 _ _ _
      | exact LeO.none _
      | refine LeO.ite ?_ ?_
      | refine LeO.bind ?_ (fun _ => ?_)
theorem crosswayref01_Num.mono : ∀ a0 k, LeO (crosswayref01_Num.f k a0) (crosswayref01_Num.f (k + 1) a0) := by
  intro a0 k
  have ih0 := crosswayref01_Num.mono_l k
  unfold crosswayref01_Num.f
  repeat' first
      | (with_reducible exact ih0 _ _ _)
      | (with_reducible exact LeO.refl _)
      | (with_reducible exact LeO.none _)
      | (with_reducible refine LeO.ite ?_ ?_)
      | (with_reducible refine LeO.bind ?_ (fun _ => ?_))
      | exact ih0 _ _ _
      | exact LeO.none _
      | refine LeO.ite ?_ ?_
      | refine LeO.bind ?_ (fun _ => ?_)
set_option maxHeartbeats 8000000 in
set_option maxRecDepth 100000 in
theorem crosswayref01_Num.calls (k : Nat) (A0 : Option Addr) (c0 : Nat) (l0 : List Int) (r1 : Int) (r2 : Int) (w : World) (hr0 : Kd.C (Kd.int .u8) w A0 l0.length l0) (hc0 : l0.length ≤ c0) (h : crosswayref01_Num.f k l0 = some (r1, r2)) :
    Calls Try.prog 59 #[.slice A0 l0.length c0] w fun e w' => e = .returned (.tuple #[.int .u64 r1, .int .i64 r2]) ∧ Drawn0 w w' := by
  have HR0 := Aside0.mk hr0
  have HC0 := Aside0.mk hc0
  clear hr0 hc0
  have H : (if (l0.length : Int) > 8 then (some (0, 11)) else (crosswayref01_Num.l0 k l0 0 0)) = some (r1, r2) := h
  clear h
  by_cases c2 : (l0.length : Int) > 8
  · rw [if_pos c2] at H
    have c2b0 : decide (8 < (l0.length : Int)) = true := decide_eq_true c2
    have c2b1 : decide (8 < l0.length) = true := decide_eq_true (by omega)
    clear c2
    simp only [Option.some.injEq, Prod.mk.injEq] at H
    obtain ⟨rfl, rfl⟩ := H
    go_enter Try.func59, Try.ntmps59
    go_wp2
    go_ret2
    exact ⟨by first | rfl | (simp; done) | (simp [*]; done), by repeat (first | exact Drawn0.refl _ | apply Drawn0.step)⟩
  · rw [if_neg c2] at H
    have c2b0 : decide (8 < (l0.length : Int)) = false := decide_eq_false c2
    have c2b1 : decide (8 < l0.length) = false := decide_eq_false (by omega)
    clear c2
    have H' := Aside0.mk H
    clear H
    go_enter Try.func59, Try.ntmps59
    go_wp2
    go_loopg [4, 5] k (fun kq v4 v5 w' => ∃ (x4_1 : Int) (x5_1 : Int), v4 = .int .u64 x4_1 ∧ v5 = .int .i64 x5_1 ∧ Aside0 (crosswayref01_Num.l0 kq l0 x4_1 x5_1 = some (r1, r2)) ∧ Aside0 (kq ≤ k) ∧ Drawn0 w w')
    case atStart => exact ⟨(0), (0), (by first | rfl | (simp; done) | (simp [*]; done) | (simp only [i64_w]; done) | (simp [i64_w]; done)), (by first | rfl | (simp; done) | (simp [*]; done) | (simp only [i64_w]; done) | (simp [i64_w]; done)), H', ⟨Nat.le_refl _⟩, by repeat (first | exact Drawn0.refl _ | apply Drawn0.step)⟩
    case round =>
      clear H'
      try clear c2
      try clear c2b0
      try clear c2b1
      try clear p2
      obtain ⟨x4_1, x5_1, rfl, rfl, HA, HK1, ⟨m1, rfl⟩⟩ := hrel
      cases gk with
      | zero => exact absurd HA.out (by simp [crosswayref01_Num.l0])
      | succ k1 =>
        have H := HA.out
        clear HA
        simp only [crosswayref01_Num.l0] at H
        by_cases c3 : x5_1 < (l0.length : Int)
        · rw [if_pos c3] at H
          have c3b0 : decide (x5_1 < (l0.length : Int)) = true := decide_eq_true c3
          clear c3
          by_cases c4 : 0 ≤ x5_1
          · rw [if_pos c4] at H
            have c4b0 : decide (0 ≤ x5_1) = true := decide_eq_true c4
            clear c4
            have H' := Aside0.mk H
            clear H
            have p207 : 0 ≤ (x5_1 : Int) := of_decide_eq_true (by first | (with_reducible assumption) | assumption)
            have q207 : x5_1 < (l0.length : Int) := of_decide_eq_true (by first | (with_reducible assumption) | assumption)
            obtain ⟨ad207, e207, hx207_0⟩ := Kd.at_int HR0.out x5_1 p207 q207
            cases e207
            replace p207 := eq_true p207
            replace q207 := eq_true q207
            go_wp2
            go_roundg k1
            case measure => have := HK1.out; omega
            case rel => exact ⟨(IntKind.u64.wrap ((IntKind.u64.wrap (x4_1 * 256)) + (IntKind.u64.wrap (rd l0 x5_1)))), (wrap64 (x5_1 + 1)), (by first | rfl | (simp; done) | (simp [*]; done) | (simp only [i64_w]; done) | (simp [i64_w]; done)), (by first | rfl | (simp; done) | (simp [*]; done) | (simp only [i64_w]; done) | (simp [i64_w]; done)), H', ⟨by have := HK1.out; omega⟩, by repeat (first | exact Drawn0.refl _ | apply Drawn0.step)⟩
          · rw [if_neg c4] at H
            exact absurd H (by simp)
        · rw [if_neg c3] at H
          have c3b0 : decide (x5_1 < (l0.length : Int)) = false := decide_eq_false c3
          clear c3
          simp only [Option.some.injEq, Prod.mk.injEq] at H
          obtain ⟨rfl, rfl⟩ := H
          go_wp2
          go_ret2
          exact ⟨by first | rfl | (simp; done) | (simp [*]; done), by repeat (first | exact Drawn0.refl _ | apply Drawn0.step)⟩

-- NOT PRINTED: function 38 (crosswayref09_Reader_Num)

/-! ### crosswayref08_Take: function 60 -/
def crosswayref08_Take.f (k : Nat) (l0 : List Int) : Option (Int × Int × Int) := if (l0.length : Int) = 0 then (some (0, 0, 12)) else ((some (([1, 2, 4, 8] : List Int) : List Int)).bind fun y208 => (if 0 < (l0.length : Int) then (if 0 ≤ ((Int.tdiv (rd l0 0) 64) % 256) then (if ((Int.tdiv (rd l0 0) 64) % 256) < (y208.length : Int) then (if (l0.length : Int) < (rd y208 ((Int.tdiv (rd l0 0) 64) % 256)) then (some (0, 0, 12)) else (if 0 ≤ (rd y208 ((Int.tdiv (rd l0 0) 64) % 256)) then (if (rd y208 ((Int.tdiv (rd l0 0) 64) % 256)) ≤ (l0.length : Int) then ((crosswayref01_Num.f k (l0.take ((rd y208 ((Int.tdiv (rd l0 0) 64) % 256)) : Int).toNat)).bind fun bt214 => ((crosswayref08_limit.f (rd y208 ((Int.tdiv (rd l0 0) 64) % 256))).bind fun t216 => (if t216 = 0 then (none) else (some (Int.tmod bt214.1 t216, rd y208 ((Int.tdiv (rd l0 0) 64) % 256), 0))))) else (none)) else (none))) else (none)) else (none)) else (none)))
theorem crosswayref08_Take.mono : ∀ a0 k, LeO (crosswayref08_Take.f k a0) (crosswayref08_Take.f (k + 1) a0) := by
  intro a0 k
  unfold crosswayref08_Take.f
  repeat' first
      | (with_reducible exact crosswayref01_Num.mono _ _)
      | (with_reducible exact LeO.refl _)
      | (with_reducible exact LeO.none _)
      | (with_reducible refine LeO.ite ?_ ?_)
      | (with_reducible refine LeO.bind ?_ (fun _ => ?_))
      | exact crosswayref01_Num.mono _ _
      | exact LeO.none _
      | refine LeO.ite ?_ ?_
      | refine LeO.bind ?_ (fun _ => ?_)
set_option maxHeartbeats 8000000 in
set_option maxRecDepth 100000 in
theorem crosswayref08_Take.calls (k : Nat) (A0 : Option Addr) (c0 : Nat) (l0 : List Int) (r1 : Int) (r2 : Int) (r3 : Int) (w : World) (hr0 : Kd.C (Kd.int .u8) w A0 l0.length l0) (hc0 : l0.length ≤ c0) (h : crosswayref08_Take.f k l0 = some (r1, r2, r3)) :
    Calls Try.prog 60 #[.slice A0 l0.length c0] w fun e w' => e = .returned (.tuple #[.int .u64 r1, .int .i64 r2, .int .i64 r3]) ∧ Below w.heap.size w w' := by
  have HR0 := Aside0.mk hr0
  have HC0 := Aside0.mk hc0
  clear hr0 hc0
  have HB := Aside0.mk (Below.refl w.heap.size w)
  have H : (if (l0.length : Int) = 0 then (some (0, 0, 12)) else ((some (([1, 2, 4, 8] : List Int) : List Int)).bind fun y208 => (if 0 < (l0.length : Int) then (if 0 ≤ ((Int.tdiv (rd l0 0) 64) % 256) then (if ((Int.tdiv (rd l0 0) 64) % 256) < (y208.length : Int) then (if (l0.length : Int) < (rd y208 ((Int.tdiv (rd l0 0) 64) % 256)) then (some (0, 0, 12)) else (if 0 ≤ (rd y208 ((Int.tdiv (rd l0 0) 64) % 256)) then (if (rd y208 ((Int.tdiv (rd l0 0) 64) % 256)) ≤ (l0.length : Int) then ((crosswayref01_Num.f k (l0.take ((rd y208 ((Int.tdiv (rd l0 0) 64) % 256)) : Int).toNat)).bind fun bt214 => ((crosswayref08_limit.f (rd y208 ((Int.tdiv (rd l0 0) 64) % 256))).bind fun t216 => (if t216 = 0 then (none) else (some (Int.tmod bt214.1 t216, rd y208 ((Int.tdiv (rd l0 0) 64) % 256), 0))))) else (none)) else (none))) else (none)) else (none)) else (none)))) = some (r1, r2, r3) := h
  clear h
  by_cases c2 : (l0.length : Int) = 0
  · rw [if_pos c2] at H
    have c2b0 : ((l0.length : Int) == 0) = true := beq_iff_eq.mpr c2
    have c2b1 : ((l0.length : Int) != 0) = false := bne_eq_false_iff_eq.mpr c2
    clear c2
    simp only [Option.some.injEq, Prod.mk.injEq] at H
    obtain ⟨rfl, rfl, rfl⟩ := H
    go_enter Try.func60, Try.ntmps60
    go_wp2
    go_ret3
    exact ⟨by first | rfl | (simp [errW_none, errW_some] <;> rfl) | (simp [*, errW_none, errW_some] <;> rfl), by repeat (first | (with_reducible first | exact HB.out | apply below_alloc | apply pw_below_drewN | apply below_drew1) | exact HB.out)⟩
  · rw [if_neg c2] at H
    have c2b0 : ((l0.length : Int) == 0) = false := beq_eq_false_iff_ne.mpr c2
    have c2b1 : ((l0.length : Int) != 0) = true := bne_iff_ne.mpr c2
    have c2b2 : ¬ (l0 = []) := fun h_ => c2 (by rw [h_]; rfl)
    obtain ⟨y208, hy208⟩ : ∃ y_ : List Int, y_ = (([1, 2, 4, 8] : List Int)) := ⟨_, rfl⟩
    replace H : (if 0 < (l0.length : Int) then (if 0 ≤ ((Int.tdiv (rd l0 0) 64) % 256) then (if ((Int.tdiv (rd l0 0) 64) % 256) < (y208.length : Int) then (if (l0.length : Int) < (rd y208 ((Int.tdiv (rd l0 0) 64) % 256)) then (some (0, 0, 12)) else (if 0 ≤ (rd y208 ((Int.tdiv (rd l0 0) 64) % 256)) then (if (rd y208 ((Int.tdiv (rd l0 0) 64) % 256)) ≤ (l0.length : Int) then ((crosswayref01_Num.f k (l0.take ((rd y208 ((Int.tdiv (rd l0 0) 64) % 256)) : Int).toNat)).bind fun bt214 => ((crosswayref08_limit.f (rd y208 ((Int.tdiv (rd l0 0) 64) % 256))).bind fun t216 => (if t216 = 0 then (none) else (some (Int.tmod bt214.1 t216, rd y208 ((Int.tdiv (rd l0 0) 64) % 256), 0))))) else (none)) else (none))) else (none)) else (none)) else (none)) = some (r1, r2, r3) := by first | (rw [hy208]; with_reducible exact H) | (have H2_ := (Option.bind_some _ _).symm.trans H; rw [hy208]; with_reducible exact H2_) | (have H2_ := (Option.bind_some _ _).symm.trans H; with_reducible exact H2_) | with_reducible exact H | (rw [hy208]; exact H) | exact H
    have Ny208 := Aside0.mk hy208
    clear hy208
    by_cases c3 : 0 < (l0.length : Int)
    · rw [if_pos c3] at H
      have c3b0 : decide (0 < (l0.length : Int)) = true := decide_eq_true c3
      have c3b1 : decide (0 < l0.length) = true := decide_eq_true (by omega)
      clear c3
      obtain ⟨ji4, hji4⟩ : ∃ j_ : Int, ((Int.tdiv (rd l0 0) 64) % 256) = j_ := ⟨_, rfl⟩
      have hji4w : IntKind.u8.wrap (Int.tdiv (rd l0 0) 64) = ji4 := by rw [IntKind.wrap_u8]; exact hji4
      replace H : (if 0 ≤ (ji4) then (if (ji4) < (y208.length : Int) then (if (l0.length : Int) < (rd y208 (ji4)) then (some (0, 0, 12)) else (if 0 ≤ (rd y208 (ji4)) then (if (rd y208 (ji4)) ≤ (l0.length : Int) then ((crosswayref01_Num.f k (l0.take ((rd y208 (ji4)) : Int).toNat)).bind fun bt214 => ((crosswayref08_limit.f (rd y208 (ji4))).bind fun t216 => (if t216 = 0 then (none) else (some (Int.tmod bt214.1 t216, rd y208 (ji4), 0))))) else (none)) else (none))) else (none)) else (none)) = some (r1, r2, r3) := by first | (rw [hji4] at H; exact H) | (simp only [hji4] at H ⊢; exact H)
      by_cases c5 : 0 ≤ (ji4)
      · rw [if_pos c5] at H
        have c5b0 : decide (0 ≤ (ji4)) = true := decide_eq_true c5
        clear c5
        by_cases c6 : (ji4) < (y208.length : Int)
        · rw [if_pos c6] at H
          have c6b0 : decide ((ji4) < (y208.length : Int)) = true := decide_eq_true c6
          clear c6
          by_cases c7 : (l0.length : Int) < (rd y208 (ji4))
          · rw [if_pos c7] at H
            have c7b0 : decide ((l0.length : Int) < (rd y208 (ji4))) = true := decide_eq_true c7
            clear c7
            simp only [Option.some.injEq, Prod.mk.injEq] at H
            obtain ⟨rfl, rfl, rfl⟩ := H
            go_enter Try.func60, Try.ntmps60
            go_wp2_with (first | ((with_reducible refine gate_dst (N := 11) rfl ?_); refine Kd.R_lit (Kd.int .i64) _ 3 ?hg (N := 11) ?hd (xs := ([1, 2, 4, 8] : List Int)) (inner := [.int .i64 1, .int .i64 2, .int .i64 4, .int .i64 8]) (ok := fun _ => True) (okp := fun _ => True) ?hr ?hp (fun _ hk => hk) trivial (Below.refl _ _) (Nat.le_refl _) (by simp) ?_; (case hd => rfl); (case hg => rfl); (case hr => first | (go_simp; done) | (go_simp; rfl)); (case hp => exact (Reps.one (show Kd.M (Kd.int .i64) _ _ _ 1 [.int .i64 1] from rfl) (Reps.one (show Kd.M (Kd.int .i64) _ _ _ 2 [.int .i64 2] from rfl) (Reps.one (show Kd.M (Kd.int .i64) _ _ _ 4 [.int .i64 4] from rfl) (Reps.one (show Kd.M (Kd.int .i64) _ _ _ 8 [.int .i64 8] from rfl) (Reps.none _ _)))))); intro v209 w8 ho9 hb hg_ hnew_; clear hg_ hnew_; (first | rw [← Ny208.out] at ho9 | (simp only [Int.reduceToNat] at ho9; rw [← Ny208.out] at ho9)); have n0_ := Aside0.mk (Kd.R_lower ho9 (below_size (by repeat (first | (with_reducible first | exact HB.out | apply below_alloc | apply pw_below_drewN | apply below_drew1) | exact HB.out)))); have n1_ := Aside0.mk (below_step (by repeat (first | (with_reducible first | exact HB.out | apply below_alloc | apply pw_below_drewN | apply below_drew1) | exact HB.out)) hb); clear HB; have HO210 := n0_; have HB := n1_; clear n0_ n1_; clear hb ho9; have p211 : 0 ≤ (0 : Int) := (by omega); have q211 : 0 < (l0.length : Int) := of_decide_eq_true (by first | (with_reducible assumption) | assumption); obtain ⟨ad211, e211, hx211_0⟩ := Kd.at_int HR0.out 0 p211 q211; cases e211; have qi211 : (0 < l0.length) = True := eq_true (by omega); (try rw [show ((0 : Int)).toNat = 0 from rfl] at hx211_0); (try rw [Addr.add_zero'] at hx211_0); replace hx211_0 := (HB.out.cell (World.block_lt_of_cell? w _ hx211_0)).trans hx211_0; replace p211 := eq_true p211; replace q211 := eq_true q211; obtain ⟨Ao10, co10, eo10⟩ := Kd.R_slice HO210.out; subst eo10; have p212 : 0 ≤ ((ji4) : Int) := of_decide_eq_true (by first | (with_reducible assumption) | assumption); have q212 : (ji4) < (y208.length : Int) := of_decide_eq_true (by first | (with_reducible assumption) | assumption); obtain ⟨ad212, e212, hx212_0⟩ := Kd.at_int (Kd.R_reads' HO210.out).2.2 (ji4) p212 q212; cases e212; replace p212 := eq_true p212; replace q212 := eq_true q212))
            go_ret3
            exact ⟨by first | rfl | (simp [errW_none, errW_some] <;> rfl) | (simp only [← hji4]; first | rfl | (simp [errW_none, errW_some] <;> rfl)) | (simp [*, errW_none, errW_some] <;> rfl), by repeat (first | (with_reducible first | exact HB.out | apply below_alloc | apply pw_below_drewN | apply below_drew1) | exact HB.out)⟩
          · rw [if_neg c7] at H
            have c7b0 : decide ((l0.length : Int) < (rd y208 (ji4))) = false := decide_eq_false c7
            clear c7
            by_cases c11 : 0 ≤ (rd y208 (ji4))
            · rw [if_pos c11] at H
              have c11b0 := eq_true c11
              have c11b1 : decide (0 ≤ (rd y208 (ji4))) = true := decide_eq_true c11
              clear c11
              by_cases c12 : (rd y208 (ji4)) ≤ (l0.length : Int)
              · rw [if_pos c12] at H
                have c12b0 := eq_true c12
                have c12b1 : decide ((rd y208 (ji4)) ≤ (l0.length : Int)) = true := decide_eq_true c12
                clear c12
                replace H := Option.bind_eq_some_iff.mp H
                obtain ⟨⟨t214, t215⟩, A130, H⟩ := H
                replace H : ((crosswayref08_limit.f (rd y208 (ji4))).bind fun t216 => (if t216 = 0 then (none) else (some (Int.tmod t214 t216, rd y208 (ji4), 0)))) = some (r1, r2, r3) := H
                have A13 := Aside0.mk A130
                clear A130
                replace H := Option.bind_eq_some_iff.mp H
                obtain ⟨t216, A140, H⟩ := H
                replace H : (if t216 = 0 then (none) else (some (Int.tmod t214 t216, rd y208 (ji4), 0))) = some (r1, r2, r3) := H
                have A14 := Aside0.mk A140
                clear A140
                by_cases c15 : t216 = 0
                · rw [if_pos c15] at H
                  exact absurd H (by simp)
                · rw [if_neg c15] at H
                  have c15b0 : (t216 == 0) = false := beq_eq_false_iff_ne.mpr c15
                  have c15b1 : (t216 != 0) = true := bne_iff_ne.mpr c15
                  simp only [Option.some.injEq, Prod.mk.injEq] at H
                  obtain ⟨rfl, rfl, rfl⟩ := H
                  go_enter Try.func60, Try.ntmps60
                  go_wp2_with (first | ((with_reducible refine gate_dst (N := 11) rfl ?_); refine Kd.R_lit (Kd.int .i64) _ 3 ?hg (N := 11) ?hd (xs := ([1, 2, 4, 8] : List Int)) (inner := [.int .i64 1, .int .i64 2, .int .i64 4, .int .i64 8]) (ok := fun _ => True) (okp := fun _ => True) ?hr ?hp (fun _ hk => hk) trivial (Below.refl _ _) (Nat.le_refl _) (by simp) ?_; (case hd => rfl); (case hg => rfl); (case hr => first | (go_simp; done) | (go_simp; rfl)); (case hp => exact (Reps.one (show Kd.M (Kd.int .i64) _ _ _ 1 [.int .i64 1] from rfl) (Reps.one (show Kd.M (Kd.int .i64) _ _ _ 2 [.int .i64 2] from rfl) (Reps.one (show Kd.M (Kd.int .i64) _ _ _ 4 [.int .i64 4] from rfl) (Reps.one (show Kd.M (Kd.int .i64) _ _ _ 8 [.int .i64 8] from rfl) (Reps.none _ _)))))); intro v209 w16 ho17 hb hg_ hnew_; clear hg_ hnew_; (first | rw [← Ny208.out] at ho17 | (simp only [Int.reduceToNat] at ho17; rw [← Ny208.out] at ho17)); have n0_ := Aside0.mk (Kd.R_lower ho17 (below_size (by repeat (first | (with_reducible first | exact HB.out | apply below_alloc | apply pw_below_drewN | apply below_drew1) | exact HB.out)))); have n1_ := Aside0.mk (below_step (by repeat (first | (with_reducible first | exact HB.out | apply below_alloc | apply pw_below_drewN | apply below_drew1) | exact HB.out)) hb); clear HB; have HO210 := n0_; have HB := n1_; clear n0_ n1_; clear hb ho17; have p211 : 0 ≤ (0 : Int) := (by omega); have q211 : 0 < (l0.length : Int) := of_decide_eq_true (by first | (with_reducible assumption) | assumption); obtain ⟨ad211, e211, hx211_0⟩ := Kd.at_int HR0.out 0 p211 q211; cases e211; have qi211 : (0 < l0.length) = True := eq_true (by omega); (try rw [show ((0 : Int)).toNat = 0 from rfl] at hx211_0); (try rw [Addr.add_zero'] at hx211_0); replace hx211_0 := (HB.out.cell (World.block_lt_of_cell? w _ hx211_0)).trans hx211_0; replace p211 := eq_true p211; replace q211 := eq_true q211; obtain ⟨Ao18, co18, eo18⟩ := Kd.R_slice HO210.out; subst eo18; have p212 : 0 ≤ ((ji4) : Int) := of_decide_eq_true (by first | (with_reducible assumption) | assumption); have q212 : (ji4) < (y208.length : Int) := of_decide_eq_true (by first | (with_reducible assumption) | assumption); obtain ⟨ad212, e212, hx212_0⟩ := Kd.at_int (Kd.R_reads' HO210.out).2.2 (ji4) p212 q212; cases e212; replace p212 := eq_true p212; replace q212 := eq_true q212; obtain ⟨i019, hi019, _, hsz19, _⟩ := info_parts info5; obtain ⟨hcut19, hA19, hC19⟩ := print_take_of (P := Try.prog) (Value.int .u8) 0 28 5 .i64 Try.underlying28 hi019 hsz19 (some ad211) c0 l0 (rd y208 (ji4)) (of_decide_eq_true (by first | (with_reducible assumption) | assumption)) (of_decide_eq_true (by first | (with_reducible assumption) | assumption)) HC0.out; have HR213 := Aside0.mk (Kd.C_of_reads (h1 := fun _ => rfl) (hA19 _ (Kd.reads_of_C HR0.out))); have HC213 := Aside0.mk hC19; clear hA19 hC19 hi019 hsz19) | ((with_reducible refine gate_callee (f := 59) rfl ?_); refine goesL_ (some 26) rfl rfl Try.func59 (by kernel_rfl) rfl #[.slice (some ad211) (l0.take ((rd y208 (ji4)) : Int).toNat).length c0] rfl (by (try simp only [List.map_toArray, List.map_cons, List.map_nil]); first | done | (rw [show (l0.take ((rd y208 (ji4)) : Int).toNat).length = (rd y208 (ji4)).toNat from (by rw [List.length_take]; have h_ : ((rd y208 (ji4)) : Int) ≤ (l0.length : Int) := of_decide_eq_true (by first | (with_reducible assumption) | assumption); omega)] <;> rfl) | (simp only [hji4]; rfl) | rfl | (simp only [List.length_drop, List.length_take]; rfl)) ?_; (with_reducible refine (crosswayref01_Num.calls k _ _ (l0.take ((rd y208 (ji4)) : Int).toNat) t214 t215 _ ?side1 ?side2 A13.out).mono ?_); (case side1 => repeat (first | exact (Kd.C_below HR213.out HB.out) | (with_reducible refine Kd.C_alloc ?_ _) | (with_reducible refine Kd.C_drewN ?_ _) | (with_reducible refine Kd.C_drew ?_))); (case side2 => exact HC213.out); rintro e w' ⟨rfl, ⟨nd, rfl⟩⟩; refine ⟨_, rfl, ?_⟩) | ((with_reducible refine gate_callee (f := 68) rfl ?_); refine goesL_ (some 31) rfl rfl Try.func68 (by kernel_rfl) rfl #[.int .i64 (rd y208 (ji4))] rfl (by (try simp only [List.map_toArray, List.map_cons, List.map_nil]); first | done | (simp only [hji4]; rfl) | rfl | (simp only [List.length_drop, List.length_take]; rfl)) ?_; (with_reducible refine (crosswayref08_limit.calls (rd y208 (ji4)) t216 _ A14.out).mono ?_); rintro e w' ⟨rfl, ⟨nd, rfl⟩⟩; refine ⟨_, rfl, ?_⟩))
                  go_ret3
                  exact ⟨by first | rfl | (simp [errW_none, errW_some] <;> rfl) | (simp only [← hji4]; first | rfl | (simp [errW_none, errW_some] <;> rfl)) | (simp [*, errW_none, errW_some] <;> rfl), by repeat (first | (with_reducible first | exact HB.out | apply below_alloc | apply pw_below_drewN | apply below_drew1) | exact HB.out)⟩
              · rw [if_neg c12] at H
                exact absurd H (by simp)
            · rw [if_neg c11] at H
              exact absurd H (by simp)
        · rw [if_neg c6] at H
          exact absurd H (by simp)
      · rw [if_neg c5] at H
        exact absurd H (by simp)
    · rw [if_neg c3] at H
      exact absurd H (by simp)

-- NOT PRINTED: function 40 (crosswayref09_Reader_Vari)

-- NOT PRINTED: function 61 (crosswayref09_Reader_counted)

-- NOT PRINTED: function 41 (crosswayref09_Reader_Short)

-- NOT PRINTED: function 42 (crosswayref09_Reader_Long)

-- NOT PRINTED: function 43 (crosswayref09_Reader_Rest)

/-- A state of type 44 at block g of W; what its slices lead to came in by w0. -/
def IsS44 (w0 W : World) (g : Nat) (f0 : List Int) (f1 : Int) : Prop := ∃ A0 c0, W.heap[g]? = some (.cells #[.slice A0 f0.length c0, .int .i64 f1] 44 (0, 0)) ∧ w0.heap.size ≤ g ∧ Kd.C (Kd.int .u8) w0 A0 f0.length f0
theorem IsS44.grown {w0 W : World} {g : Nat} {f0 : List Int} {f1 : Int} {W1 : World} {row : Option Nat} (h : IsS44 w0 W g f0 f1) (hw : W.grownBy W1 row) (hne : some g ≠ row) : IsS44 w0 W1 g f0 f1 := by
  obtain ⟨A0, c0, hb, hg, hr0⟩ := h
  exact ⟨A0, c0, blk_grown hb hw hne, hg, hr0⟩
theorem IsS44.own_neN {w0 W : World} {g : Nat} {f0 : List Int} {f1 : Int} {α : Type} {d : Kd α} {e : Nat} {base : Nat} {ok : Nat → Prop} {v : Value} {xs : List α} (h : IsS44 w0 W g f0 f1) (ho : Kd.N d e W base ok v xs) (ht : e ≠ 44) : some g ≠ v.ownBlock := by
  obtain ⟨A0, c0, hb, hg, hr0⟩ := h
  exact Kd.N_ne ho hb ht
theorem IsS44.fresh {w0 W : World} {g : Nat} {f0 : List Int} {f1 : Int} (h : IsS44 w0 W g f0 f1) : ∀ k, W.heap.size ≤ k → k ≠ g := by
  obtain ⟨A0, c0, hb, hg, hr0⟩ := h
  exact Kd.freshB hb
theorem IsS44.kept {w0 W : World} {g : Nat} {f0 : List Int} {f1 : Int} {W1 : World} {S : Nat → Prop} (h : IsS44 w0 W g f0 f1) (hk : Kept W W1 S) (hne : ¬ S g) : IsS44 w0 W1 g f0 f1 := by
  obtain ⟨A0, c0, hb, hg, hr0⟩ := h
  exact ⟨A0, c0, blk_kept hb hk hne, hg, hr0⟩
theorem IsS44.below {w0 W : World} {g : Nat} {f0 : List Int} {f1 : Int} {W1 : World} (h : IsS44 w0 W g f0 f1) (hw : Below W.heap.size W W1) : IsS44 w0 W1 g f0 f1 := h.grown (grown_of_below hw none) (by simp)
theorem IsS44.alloc {w0 W : World} {g : Nat} {f0 : List Int} {f1 : Int} (h : IsS44 w0 W g f0 f1) (o : Obj) : IsS44 w0 (W.alloc o) g f0 f1 := h.below (below_alloc (Below.refl _ _) o)
theorem IsS44.drewN {w0 W : World} {g : Nat} {f0 : List Int} {f1 : Int} (h : IsS44 w0 W g f0 f1) (m : Nat) : IsS44 w0 (W.drewN m) g f0 f1 := h
theorem IsS44.drew {w0 W : World} {g : Nat} {f0 : List Int} {f1 : Int} (h : IsS44 w0 W g f0 f1) : IsS44 w0 W.drew g f0 f1 := h
theorem IsS44.at_ {w0 W : World} {g : Nat} {f0 : List Int} {f1 : Int} {w' : World} {m : Nat} (hq : W.drewN m = w') (h : IsS44 w0 W g f0 f1) : IsS44 w0 w' g f0 f1 := by subst hq; exact IsS44.drewN h m
theorem IsS44.apart {w0 W : World} {g : Nat} {f0 : List Int} {f1 : Int} {α : Type} {d : Kd α} {e : Nat} {base : Nat} {ok : Nat → Prop} {v : Value} {xs : List α} (h : IsS44 w0 W g f0 f1) (ho : d.R e W base ok v xs) (ht : ∀ q, q ∈ e :: d.E → q ≠ 44) : d.R e W base (fun k => ok k ∧ k ≠ g) v xs := by
  obtain ⟨A0, c0, hb, hg, hr0⟩ := h
  exact Kd.R_types ho hb ht
theorem IsS44.own_ne {w0 W : World} {g : Nat} {f0 : List Int} {f1 : Int} {α : Type} {d : Kd α} {e : Nat} {base : Nat} {ok : Nat → Prop} {v : Value} {xs : List α} (h : IsS44 w0 W g f0 f1) (ho : d.R e W base ok v xs) (ht : e ≠ 44) : some g ≠ v.ownBlock := by
  obtain ⟨A0, c0, hb, hg, hr0⟩ := h
  exact Kd.R_ne ho hb ht
theorem IsS44.apartQ {w0 W : World} {g : Nat} {f0 : List Int} {f1 : Int} {α : Type} {d : Kd α} {e : Nat} {base : Nat} {ok : Nat → Prop} {v : Value} {xs : List α} (h : IsS44 w0 W g f0 f1) (ho : d.Q e W base ok v xs) (ht : ∀ q, q ∈ e :: d.E → q ≠ 44) : d.Q e W base (fun k => ok k ∧ k ≠ g) v xs := by
  obtain ⟨A0, c0, hb, hg, hr0⟩ := h
  exact Kd.Q_types ho hb ht
theorem IsS44.own_neQ {w0 W : World} {g : Nat} {f0 : List Int} {f1 : Int} {α : Type} {d : Kd α} {e : Nat} {base : Nat} {ok : Nat → Prop} {v : Value} {xs : List α} (h : IsS44 w0 W g f0 f1) (ho : d.Q e W base ok v xs) (ht : e ≠ 44) : some g ≠ v.ownBlock := by
  obtain ⟨A0, c0, hb, hg, hr0⟩ := h
  exact Kd.Q_ne ho hb ht
theorem IsS44.apartS {w0 W : World} {g : Nat} {f0 : List Int} {f1 : Int} {α : Type} {d : Kd α} {e : Nat} {base : Nat} {ok : Nat → Prop} {v : Value} {xs : List α} (h : IsS44 w0 W g f0 f1) (ho : d.S e W base ok v xs) (ht : ∀ q, q ∈ e :: d.E → q ≠ 44) : d.S e W base (fun k => ok k ∧ k ≠ g) v xs := by
  obtain ⟨A0, c0, hb, hg, hr0⟩ := h
  exact Kd.S_types ho hb ht
theorem IsS44.own_neS {w0 W : World} {g : Nat} {f0 : List Int} {f1 : Int} {α : Type} {d : Kd α} {e : Nat} {base : Nat} {ok : Nat → Prop} {v : Value} {xs : List α} (h : IsS44 w0 W g f0 f1) (ho : d.S e W base ok v xs) (ht : e ≠ 44) : some g ≠ v.ownBlock := by
  obtain ⟨A0, c0, hb, hg, hr0⟩ := h
  exact Kd.S_ne ho hb ht
theorem IsS44.lt {w0 W : World} {g : Nat} {f0 : List Int} {f1 : Int} (h : IsS44 w0 W g f0 f1) : g < W.heap.size := by
  obtain ⟨A0, c0, hb, hg, hr0⟩ := h
  exact blk_lt hb
theorem IsS44.ge {w0 W : World} {g : Nat} {f0 : List Int} {f1 : Int} (h : IsS44 w0 W g f0 f1) : w0.heap.size ≤ g := by
  obtain ⟨A0, c0, hb, hg, hr0⟩ := h
  exact hg
theorem IsS44.ne_blk {w0 W : World} {g : Nat} {f0 : List Int} {f1 : Int} {a : Nat} {cs : Array Value} {t : TypeId} {fr : Nat × Nat} (h : IsS44 w0 W g f0 f1) (hb2 : W.heap[a]? = some (.cells cs t fr)) (ht : t ≠ 44) : g ≠ a := by
  obtain ⟨A0, c0, hb, hg, hr0⟩ := h
  rintro rfl
  rw [hb] at hb2
  injection hb2 with hb2
  injection hb2 with _ ht2
  exact ht ht2.symm
theorem IsS44.far {w0 W : World} {g : Nat} {f0 : List Int} {f1 : Int} {p : Addr} (h : IsS44 w0 W g f0 f1) (hne : g ≠ p.block) (u : Value) : IsS44 w0 (W.setCell p u) g f0 f1 := by
  obtain ⟨A0, c0, hb, hg, hr0⟩ := h
  exact ⟨A0, c0, blk_far hb hne u, hg, hr0⟩
theorem cellS44_0 {W : World} {g : Nat} {A0 : Option Addr} {c0 : Nat} {f0 : List Int} {f1 : Int} (h : W.heap[g]? = some (.cells #[.slice A0 f0.length c0, .int .i64 f1] 44 (0, 0))) : W.cell? ⟨g, 0, none⟩ = some (.slice A0 f0.length c0) := (blk_cell h 0).trans rfl
theorem cellS44_1 {W : World} {g : Nat} {A0 : Option Addr} {c0 : Nat} {f0 : List Int} {f1 : Int} (h : W.heap[g]? = some (.cells #[.slice A0 f0.length c0, .int .i64 f1] 44 (0, 0))) : W.cell? ⟨g, 1, none⟩ = some (.int .i64 f1) := (blk_cell h 1).trans rfl
theorem IsS44.set_1 {w0 W : World} {g : Nat} {f0 : List Int} {f1 : Int} (h : IsS44 w0 W g f0 f1) (x : Int) : IsS44 w0 (W.setCell ⟨g, 1, none⟩ (.int .i64 x)) g f0 x := by
  obtain ⟨A0, c0, hb, hg, hr0⟩ := h
  exact ⟨A0, c0, by simpa using blk_set hb 1 (.int .i64 x), hg, hr0⟩
theorem IsS44.new (w0 W : World) (A0 : Option Addr) (c0 : Nat) (f0 : List Int) (f1 : Int) (hB : Below w0.heap.size w0 W) (hr0 : Kd.C (Kd.int .u8) w0 A0 f0.length f0) : IsS44 w0 (W.alloc (.cells #[.slice A0 f0.length c0, .int .i64 f1] 44)) W.heap.size f0 f1 := ⟨A0, c0, by simpa using heap_alloc_new W _, hB.size, hr0⟩

/-! ### crosswayref09_Reader_End: function 44 -/
def crosswayref09_Reader_End.f (s0_0 : List Int) (s0_1 : Int) : Option (Int × Int) := if s0_1 = 0 then (if (s0_0.length : Int) > 0 then (some (10, 10)) else (some (s0_1, s0_1))) else (some (s0_1, s0_1))
set_option maxHeartbeats 8000000 in
set_option maxRecDepth 100000 in
theorem crosswayref09_Reader_End.calls (g : Nat) (s0_0 : List Int) (s0_1 : Int) (r1 : Int) (r2 : Int) (w0 w : World) (hI : IsS44 w0 w g s0_0 s0_1) (hB : Below w0.heap.size w0 w) (h : crosswayref09_Reader_End.f s0_0 s0_1 = some (r1, r2)) :
    Calls Try.prog 44 #[.pointer (some ⟨g, 0, none⟩)] w fun e w' => e = .returned (.int .i64 r1) ∧ IsS44 w0 w' g s0_0 r2 ∧ Below w0.heap.size w0 w' ∧ KeepBut w w' g none := by
  have HI0 := Aside0.mk hI
  have HK := Aside0.mk (KeepBut.refl w g none)
  have HL := Aside0.mk hB.size
  clear hI
  have HW0 := Aside0.mk hB.size
  have HB := Aside0.mk hB
  clear hB
  have H : (if s0_1 = 0 then (if (s0_0.length : Int) > 0 then (some (10, 10)) else (some (s0_1, s0_1))) else (some (s0_1, s0_1))) = some (r1, r2) := h
  clear h
  by_cases c2 : s0_1 = 0
  · rw [if_pos c2] at H
    have c2b0 : (s0_1 == 0) = true := beq_iff_eq.mpr c2
    have c2b1 : (s0_1 != 0) = false := bne_eq_false_iff_eq.mpr c2
    clear c2
    by_cases c3 : (s0_0.length : Int) > 0
    · rw [if_pos c3] at H
      have c3b0 : decide (0 < (s0_0.length : Int)) = true := decide_eq_true c3
      have c3b1 : decide (0 < s0_0.length) = true := decide_eq_true (by omega)
      clear c3
      simp only [Option.some.injEq, Prod.mk.injEq] at H
      obtain ⟨rfl, rfl⟩ := H
      obtain ⟨ASz4_0, cSz4_0, HGz4, hgz4, HSz4_0⟩ := HI0.out
      have hcz4_0 := cellS44_0 HGz4
      have hcz4_1 := cellS44_1 HGz4
      have hfz4_1 := blk_frozen HGz4 1
      clear HGz4 hgz4
      go_enter Try.func44, Try.ntmps44
      go_wp2
      go_ret
      exact ⟨by first | rfl | (simp [errW_none, errW_some] <;> rfl) | (simp [*, errW_none, errW_some] <;> rfl), by repeat (first | (with_reducible first | exact HI0.out | apply IsS44.alloc | apply IsS44.drewN | apply IsS44.drew | apply IsS44.set_1) | exact HI0.out), by repeat (first | (with_reducible first | exact HB.out | apply below_alloc | apply pw_below_drewN | apply below_drew1 | refine below_set ?_ (IsS44.ge HI0.out)) | exact HB.out), by repeat (first | (with_reducible first | exact HK.out | apply KeepBut.set_ | apply keep_drewN | apply keep_drew | apply keep_alloc) | exact HK.out)⟩
    · rw [if_neg c3] at H
      have c3b0 : decide (0 < (s0_0.length : Int)) = false := decide_eq_false c3
      have c3b1 : decide (0 < s0_0.length) = false := decide_eq_false (by omega)
      clear c3
      simp only [Option.some.injEq, Prod.mk.injEq] at H
      obtain ⟨rfl, rfl⟩ := H
      obtain ⟨ASz5_0, cSz5_0, HGz5, hgz5, HSz5_0⟩ := HI0.out
      have hcz5_0 := cellS44_0 HGz5
      have hcz5_1 := cellS44_1 HGz5
      have hfz5_1 := blk_frozen HGz5 1
      clear HGz5 hgz5
      go_enter Try.func44, Try.ntmps44
      go_wp2
      go_ret
      exact ⟨by first | rfl | (simp [errW_none, errW_some] <;> rfl) | (simp [*, errW_none, errW_some] <;> rfl), by repeat (first | (with_reducible first | exact HI0.out | apply IsS44.alloc | apply IsS44.drewN | apply IsS44.drew | apply IsS44.set_1) | exact HI0.out), by repeat (first | (with_reducible first | exact HB.out | apply below_alloc | apply pw_below_drewN | apply below_drew1 | refine below_set ?_ (IsS44.ge HI0.out)) | exact HB.out), by repeat (first | (with_reducible first | exact HK.out | apply KeepBut.set_ | apply keep_drewN | apply keep_drew | apply keep_alloc) | exact HK.out)⟩
  · rw [if_neg c2] at H
    have c2b0 : (s0_1 == 0) = false := beq_eq_false_iff_ne.mpr c2
    have c2b1 : (s0_1 != 0) = true := bne_iff_ne.mpr c2
    simp only [Option.some.injEq, Prod.mk.injEq] at H
    obtain ⟨rfl, rfl⟩ := H
    obtain ⟨ASz6_0, cSz6_0, HGz6, hgz6, HSz6_0⟩ := HI0.out
    have hcz6_0 := cellS44_0 HGz6
    have hcz6_1 := cellS44_1 HGz6
    have hfz6_1 := blk_frozen HGz6 1
    clear HGz6 hgz6
    go_enter Try.func44, Try.ntmps44
    go_wp2
    go_ret
    exact ⟨by first | rfl | (simp [errW_none, errW_some] <;> rfl) | (simp [*, errW_none, errW_some] <;> rfl), by repeat (first | (with_reducible first | exact HI0.out | apply IsS44.alloc | apply IsS44.drewN | apply IsS44.drew | apply IsS44.set_1) | exact HI0.out), by repeat (first | (with_reducible first | exact HB.out | apply below_alloc | apply pw_below_drewN | apply below_drew1 | refine below_set ?_ (IsS44.ge HI0.out)) | exact HB.out), by repeat (first | (with_reducible first | exact HK.out | apply KeepBut.set_ | apply keep_drewN | apply keep_drew | apply keep_alloc) | exact HK.out)⟩

-- NOT PRINTED: function 16 (crosswaylaw09_ask)

-- NOT PRINTED: function 6 (crosswaylaw09_ScanStays)

end Go.Proofs.Ytmhmmmkpijbbiaa.M
