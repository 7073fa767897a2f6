/- Contracts of the Go functions that the laws reach, each as a plain Lean function: written by xprint.py, a program of this repo. -/
import Derived.Test.YtnmhnihhlakinacM0
import Derived.Test.YtnmhnihhlakinacM9
namespace Go.Proofs.Ytnmhnihhlakinac.M
open Go.RowKit Go.Proofs.YtnmhnihhlakinacW.PrintWords Go.Proofs.YtnmhnihhlakinacW.PrintLast Go.Proofs.YtnmhnihhlakinacW.PrintMore Go.Proofs.Ytnmhnihhlakinac.X
attribute [local go_sem] max2_int min2_int max_two min_two max_three min_three max_four min_four   -- for this text's walks alone
set_option linter.unusedVariables false
set_option linter.unusedSimpArgs false

/-! ### crosswayref13_Make: function 9 -/
mutual
def crosswayref13_Make.j0 : Nat → Int → List Int → List Int → List Int → Bool → Option (List Int × Int)
  | 0, _, _, _, _, _ => none
  | k + 1, x0, x1, x2, x3, x21 => if x21 = true then (some (([] : List Int), 11)) else ((crosswayref10_Bytes.f (((Int.tmod x0 128) + 128) % 256) 0 x1 x2).bind fun bt241 => (if bt241.2 = 0 then (crosswayref13_Make.l0 k x3 bt241.1 0) else (some (([] : List Int), bt241.2))))
def crosswayref13_Make.l0 : Nat → List Int → List Int → Int → Option (List Int × Int)
  | 0, _, _, _ => none
  | k + 1, x3, x10, x12 => if x12 < (x3.length : Int) then (if 0 ≤ x12 then ((some (([((rd x3 x12) / 16777216) % 256, ((rd x3 x12) / 65536) % 256, ((rd x3 x12) / 256) % 256, (rd x3 x12) % 256] : List Int) : List Int)).bind fun y246 => (if x10.length + y246.length < 140737488355328 then (crosswayref13_Make.l0 k x3 (x10 ++ y246) (wrap64 (x12 + 1))) else (none))) else (none)) else (some (x10, 0))
end
def crosswayref13_Make.f (k : Nat) (a0 : Int) (l1 : List Int) (l2 : List Int) (l3 : List Int) : Option (List Int × Int) := if (l3.length : Int) < 1 then (crosswayref13_Make.j0 k a0 l1 l2 l3 true) else (crosswayref13_Make.j0 k a0 l1 l2 l3 (decide ((l3.length : Int) > 64)))
theorem crosswayref13_Make.mono_l : ∀ k, (∀ y0 y1 y2 y3 y4, LeO (crosswayref13_Make.j0 k y0 y1 y2 y3 y4) (crosswayref13_Make.j0 (k + 1) y0 y1 y2 y3 y4)) ∧ (∀ y0 y1 y2, LeO (crosswayref13_Make.l0 k y0 y1 y2) (crosswayref13_Make.l0 (k + 1) y0 y1 y2))
  | 0 => ⟨fun _ _ _ _ _ r h => by simp [crosswayref13_Make.j0] at h, fun _ _ _ r h => by simp [crosswayref13_Make.l0] at h⟩
  | k + 1 => by
    obtain ⟨ih0, ih1⟩ := crosswayref13_Make.mono_l k
    refine ⟨?_, ?_⟩
    · intro y0 y1 y2 y3 y4
      unfold crosswayref13_Make.j0
      repeat' first
      | (with_reducible exact ih0 _ _ _ _ _)
      | (with_reducible exact ih1 _ _ _)
      | (with_reducible exact LeO.refl _)
      | (with_reducible exact LeO.none _)
      | (with_reducible refine LeO.ite ?_ ?_)
      | (with_reducible refine LeO.bind ?_ (fun _ => ?_))
      | exact ih0 _ _ _ _ _
      | exact ih1 _ _ _
      | exact LeO.none _
      | refine LeO.ite ?_ ?_
      | refine LeO.bind ?_ (fun _ => ?_)
    · intro y0 y1 y2
      unfold crosswayref13_Make.l0
      repeat' first
      | (with_reducible exact ih0 _ _ _ _ _)
      | (with_reducible exact ih1 _ _ _)
      | (with_reducible exact LeO.refl _)
      | (with_reducible exact LeO.none _)
      | (with_reducible refine LeO.ite ?_ ?_)
      | (with_reducible refine LeO.bind ?_ (fun _ => ?_))
      | exact ih0 _ _ _ _ _
      | exact ih1 _ _ _
      | exact LeO.none _
      | refine LeO.ite ?_ ?_
      | refine LeO.bind ?_ (fun _ => ?_)
theorem crosswayref13_Make.mono : ∀ a0 a1 a2 a3 k, LeO (crosswayref13_Make.f k a0 a1 a2 a3) (crosswayref13_Make.f (k + 1) a0 a1 a2 a3) := by
  intro a0 a1 a2 a3 k
  obtain ⟨ih0, ih1⟩ := crosswayref13_Make.mono_l k
  unfold crosswayref13_Make.f
  repeat' first
      | (with_reducible exact ih0 _ _ _ _ _)
      | (with_reducible exact ih1 _ _ _)
      | (with_reducible exact LeO.refl _)
      | (with_reducible exact LeO.none _)
      | (with_reducible refine LeO.ite ?_ ?_)
      | (with_reducible refine LeO.bind ?_ (fun _ => ?_))
      | exact ih0 _ _ _ _ _
      | exact ih1 _ _ _
      | exact LeO.none _
      | refine LeO.ite ?_ ?_
      | refine LeO.bind ?_ (fun _ => ?_)
set_option maxHeartbeats 8000000 in
set_option maxRecDepth 100000 in
theorem crosswayref13_Make.calls (k : Nat) (a0 : Int) (A1 : Option Addr) (c1 : Nat) (l1 : List Int) (A2 : Option Addr) (c2 : Nat) (l2 : List Int) (A3 : Option Addr) (c3 : Nat) (l3 : List Int) (r1 : List Int) (r2 : Int) (w : World) (hr1 : Kd.C (Kd.int .u8) w A1 l1.length l1) (hc1 : l1.length ≤ c1) (hr2 : Kd.C (Kd.int .u8) w A2 l2.length l2) (hc2 : l2.length ≤ c2) (hr3 : Kd.C (Kd.int .u32) w A3 l3.length l3) (hc3 : l3.length ≤ c3) (h : crosswayref13_Make.f k a0 l1 l2 l3 = some (r1, r2)) :
    Calls Try.prog 9 #[.int .u8 a0, .slice A1 l1.length c1, .slice A2 l2.length c2, .slice A3 l3.length c3] w fun e w' => ∃ v0_ : Value, e = .returned (.tuple #[v0_, .int .i64 r2]) ∧ Kd.R (Kd.int .u8) 5 w' w.heap.size (fun _ => True) v0_ r1 ∧ Below w.heap.size w w' := by
  have hu40 := Try.underlying40
  have HR1 := Aside0.mk hr1
  have HC1 := Aside0.mk hc1
  clear hr1 hc1
  have HR2 := Aside0.mk hr2
  have HC2 := Aside0.mk hc2
  clear hr2 hc2
  have HR3 := Aside0.mk hr3
  have HC3 := Aside0.mk hc3
  clear hr3 hc3
  have HB := Aside0.mk (Below.refl w.heap.size w)
  have H : (if (l3.length : Int) < 1 then (crosswayref13_Make.j0 k a0 l1 l2 l3 true) else (crosswayref13_Make.j0 k a0 l1 l2 l3 (decide ((l3.length : Int) > 64)))) = some (r1, r2) := h
  clear h
  have HC5 := Aside0.mk H
  clear H
  go_enter Try.func9, Try.ntmps9
  go_upto_region 1 with (fail)
  go_cut [21] (fun v21 wc => ∃ (kq : Nat) (x21_4 : Bool), v21 = .bool x21_4 ∧ Aside0 (crosswayref13_Make.j0 kq a0 l1 l2 l3 x21_4 = some (r1, r2)) ∧ Aside0 (kq ≤ k) ∧ Aside0 (Below w.heap.size w wc))
  case first =>
    have H := HC5.out
    clear HC5
    by_cases c6 : (l3.length : Int) < 1
    · rw [if_pos c6] at H
      have c6b0 : decide ((l3.length : Int) < 1) = true := decide_eq_true c6
      have c6b1 : decide (l3.length < 1) = true := decide_eq_true (by omega)
      clear c6
      (first | rw [c6b0] | (simp only [i64_w, i32_w]; rw [c6b0]) | skip)
      have H' := Aside0.mk H
      clear H
      go_wp2
      go_meet
      case rel => exact ⟨_, (true), (by first | rfl | (simp; done) | (simp [*]; done) | (simp only [i64_w]; done) | (simp [i64_w]; done)), H', ⟨by first | omega | exact Nat.le_refl _⟩, ⟨by repeat (first | (with_reducible first | exact HB.out | apply below_alloc | apply pw_below_drewN | apply below_drew1) | exact HB.out)⟩⟩
    · rw [if_neg c6] at H
      have c6b0 : decide ((l3.length : Int) < 1) = false := decide_eq_false c6
      have c6b1 : decide (l3.length < 1) = false := decide_eq_false (by omega)
      clear c6
      (first | rw [c6b0] | (simp only [i64_w, i32_w]; rw [c6b0]) | skip)
      have H' := Aside0.mk H
      clear H
      go_wp2
      go_meet
      case rel => exact ⟨_, (decide ((l3.length : Int) > 64)), (by first | rfl | (simp; done) | (simp [*]; done) | (simp only [i64_w]; done) | (simp [i64_w]; done)), H', ⟨by first | omega | exact Nat.le_refl _⟩, ⟨by repeat (first | (with_reducible first | exact HB.out | apply below_alloc | apply pw_below_drewN | apply below_drew1) | exact HB.out)⟩⟩
  case rest =>
    clear HC5
    try clear c1
    try clear c2
    try clear p2
    try clear c3
    try clear c6
    try clear c6b0
    try clear c6b1
    obtain ⟨kq, x21_4, rfl, HA, HJ4, HB⟩ := hcut
    cases kq with
    | zero => exact absurd HA.out (by simp [crosswayref13_Make.j0])
    | succ kj4 =>
      have H := HA.out
      clear HA
      simp only [crosswayref13_Make.j0] at H
      by_cases c7 : x21_4 = true
      · subst c7
        have H1 : (some (([] : List Int), 11)) = some (r1, r2) := by rw [if_pos rfl] at H; exact H
        clear H
        have H := H1
        clear H1
        simp only [Option.some.injEq, Prod.mk.injEq] at H
        obtain ⟨rfl, rfl⟩ := H
        go_wp2
        go_ret2
        exact ⟨_, by first | rfl | (simp [errW_none, errW_some] <;> rfl) | (simp [*, errW_none, errW_some] <;> rfl), by first | exact Kd.R_nil _ _ _ _ _ | exact Kd.N_nil _ _ _ _ _ | exact Kd.V_nil _ _ _ _ _ | exact Kd.Q_nil _ _ _ _ _ | exact Kd.S_nil _ _ _ _ _, by repeat (first | (with_reducible first | exact HB.out | apply below_alloc | apply pw_below_drewN | apply below_drew1) | exact HB.out)⟩
      · replace c7 := Bool.eq_false_iff.mpr c7
        subst c7
        have H1 : ((crosswayref10_Bytes.f (((Int.tmod a0 128) + 128) % 256) 0 l1 l2).bind fun bt241 => (if bt241.2 = 0 then (crosswayref13_Make.l0 kj4 l3 bt241.1 0) else (some (([] : List Int), bt241.2)))) = some (r1, r2) := by rw [if_neg (show ¬ (false = true) by decide)] at H; exact H
        clear H
        have H := H1
        clear H1
        replace H := Option.bind_eq_some_iff.mp H
        obtain ⟨⟨t241, t244⟩, A80, H⟩ := H
        replace H : (if t244 = 0 then (crosswayref13_Make.l0 kj4 l3 t241 0) else (some (([] : List Int), t244))) = some (r1, r2) := H
        have A8 := Aside0.mk A80
        clear A80
        by_cases c9 : t244 = 0
        · rw [if_pos c9] at H
          have c9b0 : (t244 == 0) = true := beq_iff_eq.mpr c9
          have c9b1 : (t244 != 0) = false := bne_eq_false_iff_eq.mpr c9
          clear c9
          have H' := Aside0.mk H
          clear H
          go_wp2_with (first | ((with_reducible refine gate_callee (f := 27) rfl ?_); refine goesL_ (some 29) rfl rfl Try.func27 (by kernel_rfl) rfl #[.agg #[.int .u8 (((Int.tmod a0 128) + 128) % 256), .int .u32 0, .slice A1 l1.length c1, .slice A2 l2.length c2]] rfl (by (try simp only [List.map_toArray, List.map_cons, List.map_nil]); first | done | rfl | (simp only [List.length_drop, List.length_take]; rfl)) ?_; (with_reducible refine (crosswayref10_Bytes.calls (((Int.tmod a0 128) + 128) % 256) 0 _ _ l1 _ _ l2 t241 t244 _ ?side1 ?side2 ?side3 ?side4 A8.out).mono ?_); (case side1 => repeat (first | exact (Kd.C_below HR1.out HB.out) | (with_reducible refine Kd.C_alloc ?_ _) | (with_reducible refine Kd.C_drewN ?_ _) | (with_reducible refine Kd.C_drew ?_))); (case side2 => exact HC1.out); (case side3 => repeat (first | exact (Kd.C_below HR2.out HB.out) | (with_reducible refine Kd.C_alloc ?_ _) | (with_reducible refine Kd.C_drewN ?_ _) | (with_reducible refine Kd.C_drew ?_))); (case side4 => exact HC2.out); rintro e w10 ⟨v242, rfl, ho0, hb⟩; refine ⟨_, rfl, ?_⟩; have n0_ := Aside0.mk (Kd.R_lower ho0 (below_size (by repeat (first | (with_reducible first | exact HB.out | apply below_alloc | apply pw_below_drewN | apply below_drew1) | exact HB.out)))); have n1_ := Aside0.mk (below_step (by repeat (first | (with_reducible first | exact HB.out | apply below_alloc | apply pw_below_drewN | apply below_drew1) | exact HB.out)) hb); clear HB; have HO243 := n0_; have HB := n1_; clear n0_ n1_; (try clear hb); (try clear hb2); (try clear hk); (try clear hi); (try clear ho0)))
          go_loopg [10, 12] kj4 (fun kq v10 v12 w' => ∃ (x10_2 : List Int) (x12_2 : Int), v12 = .int .i64 x12_2 ∧ Aside0 (crosswayref13_Make.l0 kq l3 x10_2 x12_2 = some (r1, r2)) ∧ Aside0 (kq ≤ kj4) ∧ Aside0 (Kd.R (Kd.int .u8) 5 w' w.heap.size (fun _ => True) v10 x10_2) ∧ Aside0 (Below w.heap.size w w'))
          case atStart => exact ⟨(t241), (0), (by first | rfl | (simp; done) | (simp [*]; done) | (simp only [i64_w]; done) | (simp [i64_w]; done)), H', ⟨Nat.le_refl _⟩, ⟨by (with_reducible repeat (first | apply Kd.R_alloc | apply Kd.R_drewN | apply Kd.R_drew)); exact HO243.out⟩, ⟨by repeat (first | (with_reducible first | exact HB.out | apply below_alloc | apply pw_below_drewN | apply below_drew1) | exact HB.out)⟩⟩
          case round =>
            clear H'
            try clear c1
            try clear c2
            try clear p2
            try clear c3
            try clear c6
            try clear c6b0
            try clear c6b1
            try clear c7
            try clear c9
            try clear c9b0
            try clear c9b1
            try clear p2
            obtain ⟨x10_2, x12_2, rfl, HA, HK2, HO_10, HB⟩ := hrel
            cases gk with
            | zero => exact absurd HA.out (by simp [crosswayref13_Make.l0])
            | succ k2 =>
              have H := HA.out
              clear HA
              simp only [crosswayref13_Make.l0] at H
              by_cases c11 : x12_2 < (l3.length : Int)
              · rw [if_pos c11] at H
                have c11b0 : decide (x12_2 < (l3.length : Int)) = true := decide_eq_true c11
                clear c11
                by_cases c12 : 0 ≤ x12_2
                · rw [if_pos c12] at H
                  have c12b0 : decide (0 ≤ x12_2) = true := decide_eq_true c12
                  clear c12
                  obtain ⟨y246, hy246⟩ : ∃ y_ : List Int, y_ = (([((rd l3 x12_2) / 16777216) % 256, ((rd l3 x12_2) / 65536) % 256, ((rd l3 x12_2) / 256) % 256, (rd l3 x12_2) % 256] : List Int)) := ⟨_, rfl⟩
                  replace H : (if x10_2.length + y246.length < 140737488355328 then (crosswayref13_Make.l0 k2 l3 (x10_2 ++ y246) (wrap64 (x12_2 + 1))) else (none)) = some (r1, r2) := by first | (rw [hy246]; with_reducible exact H) | (have H2_ := (Option.bind_some _ _).symm.trans H; rw [hy246]; with_reducible exact H2_) | (have H2_ := (Option.bind_some _ _).symm.trans H; with_reducible exact H2_) | with_reducible exact H | (rw [hy246]; exact H) | exact H
                  have Ny246 := Aside0.mk hy246
                  clear hy246
                  by_cases c13 : x10_2.length + y246.length < 140737488355328
                  · rw [if_pos c13] at H
                    have LMc13 := Aside0.mk c13
                    clear c13
                    obtain ⟨y249, hy249⟩ : ∃ y_ : List Int, y_ = (x10_2 ++ y246) := ⟨_, rfl⟩
                    replace H : (crosswayref13_Make.l0 k2 l3 y249 (wrap64 (x12_2 + 1))) = some (r1, r2) := by first | (rw [hy249]; with_reducible exact H) | (have H2_ := (Option.bind_some _ _).symm.trans H; rw [hy249]; with_reducible exact H2_) | (have H2_ := (Option.bind_some _ _).symm.trans H; with_reducible exact H2_) | with_reducible exact H | (rw [hy249]; exact H) | exact H
                    have Ny249 := Aside0.mk hy249
                    clear hy249
                    have H' := Aside0.mk H
                    clear H
                    have p245 : 0 ≤ (x12_2 : Int) := of_decide_eq_true (by first | (with_reducible assumption) | assumption)
                    have q245 : x12_2 < (l3.length : Int) := of_decide_eq_true (by first | (with_reducible assumption) | assumption)
                    obtain ⟨ad245, e245, hx245_0⟩ := Kd.at_int HR3.out x12_2 p245 q245
                    cases e245
                    replace hx245_0 := (HB.out.cell (World.block_lt_of_cell? w _ hx245_0)).trans hx245_0
                    replace p245 := eq_true p245
                    replace q245 := eq_true q245
                    go_wp2_with (first | ((with_reducible refine gate_dst (N := 57) rfl ?_); (try (refine gate_guard (by rfl) ?_; dsimp only)); refine Kd.R_lit (Kd.int .u8) _ 5 ?hg (N := 57) ?hd (xs := ([((rd l3 x12_2) / 16777216) % 256, ((rd l3 x12_2) / 65536) % 256, ((rd l3 x12_2) / 256) % 256, (rd l3 x12_2) % 256] : List Int)) (inner := [.int .u8 (((rd l3 x12_2) / 16777216) % 256), .int .u8 (((rd l3 x12_2) / 65536) % 256), .int .u8 (((rd l3 x12_2) / 256) % 256), .int .u8 ((rd l3 x12_2) % 256)]) (ok := fun _ => True) (okp := fun _ => True) ?hr ?hp (fun _ hk => hk) trivial (Below.refl _ _) (Nat.le_refl _) (by simp) ?_; (case hd => rfl); (case hg => rfl); (case hr => first | (go_simp; done) | (go_simp; rfl)); (case hp => exact (Reps.one (show Kd.M (Kd.int .u8) _ _ _ (((rd l3 x12_2) / 16777216) % 256) [.int .u8 (((rd l3 x12_2) / 16777216) % 256)] from rfl) (Reps.one (show Kd.M (Kd.int .u8) _ _ _ (((rd l3 x12_2) / 65536) % 256) [.int .u8 (((rd l3 x12_2) / 65536) % 256)] from rfl) (Reps.one (show Kd.M (Kd.int .u8) _ _ _ (((rd l3 x12_2) / 256) % 256) [.int .u8 (((rd l3 x12_2) / 256) % 256)] from rfl) (Reps.one (show Kd.M (Kd.int .u8) _ _ _ ((rd l3 x12_2) % 256) [.int .u8 ((rd l3 x12_2) % 256)] from rfl) (Reps.none _ _)))))); intro v247 w14 ho15 hb hg_ hnew_; clear hg_ hnew_; (first | rw [← Ny246.out] at ho15 | (simp only [Int.reduceToNat] at ho15; rw [← Ny246.out] at ho15)); have n0_ := Aside0.mk (Kd.R_elder' (by (with_reducible repeat (first | apply Kd.R_alloc | apply Kd.R_drewN | apply Kd.R_drew)); exact HO_10.out) (Kd.R_base ho15) hb); have n1_ := Aside0.mk (Kd.R_lower (Kd.R_new' ho15 (Kd.R_lt (by (with_reducible repeat (first | apply Kd.R_alloc | apply Kd.R_drewN | apply Kd.R_drew)); exact HO_10.out))) (below_size (by repeat (first | (with_reducible first | exact HB.out | apply below_alloc | apply pw_below_drewN | apply below_drew1) | exact HB.out)))); have n2_ := Aside0.mk (below_step (by repeat (first | (with_reducible first | exact HB.out | apply below_alloc | apply pw_below_drewN | apply below_drew1) | exact HB.out)) hb); clear HO_10; clear HB; have HO_10 := n0_; have HO248 := n1_; have HB := n2_; clear n0_ n1_ n2_; clear hb ho15; obtain ⟨Ao17, co17, eo17⟩ := Kd.R_slice HO248.out; subst eo17) | ((with_reducible refine gate_builtin (b := .append) (xs := #[.tmp 45, .tmp 57]) rfl ?_); (try (refine gate_guard (by rfl) ?_; dsimp only)); at_builtin; refine Kd.R_append_rows (Kd.int .u8) (w0 := w) w.heap.size rfl (.tmp 45) (.tmp 57) 22 5 (.int .u8 0) 1 rfl Try.underlying22 info5 rfl (by decide) (by omega) u10 x10_2 y246 _ _ _ (fun k_ => some k_ ≠ (.slice Ao17 y246.length co17 : Value).ownBlock) (fun _ => False) rfl rfl ?aO ?aR (fun _ _ h => h) (fun _ h => h.elim) ?aF ?aB ?aS ?aL ?_; (case aR => repeat (first | exact (Kd.R_reads' HO248.out).2.2 | (with_reducible refine Kd.C_alloc ?_ _) | (with_reducible refine Kd.C_drewN ?_ _) | (with_reducible refine Kd.C_drew ?_))); (case aB => exact (by repeat (first | (with_reducible first | exact HB.out | apply below_alloc | apply pw_below_drewN | apply below_drew1) | exact HB.out))); (case aF => exact (fun k_ hk => Kd.fresh' (Kd.R_lt (by (with_reducible repeat (first | apply Kd.R_alloc | apply Kd.R_drewN | apply Kd.R_drew)); exact HO248.out)) k_ hk)); (case aO => exact (by (with_reducible repeat (first | apply Kd.R_alloc | apply Kd.R_drewN | apply Kd.R_drew)); exact Kd.R_mono HO_10.out (fun _ hk => hk.2))); (case aS => exact (below_size (by repeat (first | (with_reducible first | exact HB.out | apply below_alloc | apply pw_below_drewN | apply below_drew1) | exact HB.out)))); (case aL => have := LMc13.out; omega); intro v250 w16 ho hb hg hat; rw [← Ny249.out] at ho; have n0_ := Aside0.mk (Kd.R_after (ok := (fun _ => True)) (by (with_reducible repeat (first | apply Kd.R_alloc | apply Kd.R_drewN | apply Kd.R_drew)); exact HO248.out) hg hat); have n1_ := Aside0.mk (hb); have n2_ := Aside0.mk (ho); clear HO248; clear HB; clear HO_10; have HO248 := n0_; have HB := n1_; have HO251 := n2_; clear n0_ n1_ n2_; clear ho hb hg hat))
                    go_roundg k2
                    case measure => have := HJ4.out; have := HK2.out; omega
                    case rel => exact ⟨(y249), (wrap64 (x12_2 + 1)), (by first | rfl | (simp; done) | (simp [*]; done) | (simp only [i64_w]; done) | (simp [i64_w]; done)), H', ⟨by have := HJ4.out; have := HK2.out; omega⟩, ⟨by (with_reducible repeat (first | apply Kd.R_alloc | apply Kd.R_drewN | apply Kd.R_drew)); exact Kd.R_mono HO251.out (fun _ hk => trivial)⟩, ⟨by repeat (first | (with_reducible first | exact HB.out | apply below_alloc | apply pw_below_drewN | apply below_drew1) | exact HB.out)⟩⟩
                  · rw [if_neg c13] at H
                    exact absurd H (by simp)
                · rw [if_neg c12] at H
                  exact absurd H (by simp)
              · rw [if_neg c11] at H
                have c11b0 : decide (x12_2 < (l3.length : Int)) = false := decide_eq_false c11
                clear c11
                simp only [Option.some.injEq, Prod.mk.injEq] at H
                obtain ⟨rfl, rfl⟩ := H
                go_wp2
                go_ret2
                exact ⟨_, by first | rfl | (simp [errW_none, errW_some] <;> rfl) | (simp [*, errW_none, errW_some] <;> rfl), by (with_reducible repeat (first | apply Kd.R_alloc | apply Kd.R_drewN | apply Kd.R_drew)); exact HO_10.out, by repeat (first | (with_reducible first | exact HB.out | apply below_alloc | apply pw_below_drewN | apply below_drew1) | exact HB.out)⟩
        · rw [if_neg c9] at H
          have c9b0 : (t244 == 0) = false := beq_eq_false_iff_ne.mpr c9
          have c9b1 : (t244 != 0) = true := bne_iff_ne.mpr c9
          simp only [Option.some.injEq, Prod.mk.injEq] at H
          obtain ⟨rfl, rfl⟩ := H
          go_wp2_with (first | ((with_reducible refine gate_callee (f := 27) rfl ?_); refine goesL_ (some 29) rfl rfl Try.func27 (by kernel_rfl) rfl #[.agg #[.int .u8 (((Int.tmod a0 128) + 128) % 256), .int .u32 0, .slice A1 l1.length c1, .slice A2 l2.length c2]] rfl (by (try simp only [List.map_toArray, List.map_cons, List.map_nil]); first | done | rfl | (simp only [List.length_drop, List.length_take]; rfl)) ?_; (with_reducible refine (crosswayref10_Bytes.calls (((Int.tmod a0 128) + 128) % 256) 0 _ _ l1 _ _ l2 t241 t244 _ ?side1 ?side2 ?side3 ?side4 A8.out).mono ?_); (case side1 => repeat (first | exact (Kd.C_below HR1.out HB.out) | (with_reducible refine Kd.C_alloc ?_ _) | (with_reducible refine Kd.C_drewN ?_ _) | (with_reducible refine Kd.C_drew ?_))); (case side2 => exact HC1.out); (case side3 => repeat (first | exact (Kd.C_below HR2.out HB.out) | (with_reducible refine Kd.C_alloc ?_ _) | (with_reducible refine Kd.C_drewN ?_ _) | (with_reducible refine Kd.C_drew ?_))); (case side4 => exact HC2.out); rintro e w18 ⟨v242, rfl, ho0, hb⟩; refine ⟨_, rfl, ?_⟩; have n0_ := Aside0.mk (Kd.R_lower ho0 (below_size (by repeat (first | (with_reducible first | exact HB.out | apply below_alloc | apply pw_below_drewN | apply below_drew1) | exact HB.out)))); have n1_ := Aside0.mk (below_step (by repeat (first | (with_reducible first | exact HB.out | apply below_alloc | apply pw_below_drewN | apply below_drew1) | exact HB.out)) hb); clear HB; have HO243 := n0_; have HB := n1_; clear n0_ n1_; (try clear hb); (try clear hb2); (try clear hk); (try clear hi); (try clear ho0)))
          go_ret2
          exact ⟨_, by first | rfl | (simp [errW_none, errW_some] <;> rfl) | (simp [*, errW_none, errW_some] <;> rfl), by first | exact Kd.R_nil _ _ _ _ _ | exact Kd.N_nil _ _ _ _ _ | exact Kd.V_nil _ _ _ _ _ | exact Kd.Q_nil _ _ _ _ _ | exact Kd.S_nil _ _ _ _ _, by repeat (first | (with_reducible first | exact HB.out | apply below_alloc | apply pw_below_drewN | apply below_drew1) | exact HB.out)⟩

/-! ### crosswayref10_id: function 42, typed by hand -/
theorem R_empty (W : World) (e : TypeId) : Kd.R (Kd.int .u8) e (W.alloc (.cells #[] e)) W.heap.size (fun _ => True) (.slice (some ⟨W.heap.size, 0, none⟩) 0 0) [] := by
  refine ⟨fun k hk => ?_, [], ?_, Reps.none _ _⟩
  · trivial
  · exact World.ownsRow_lit (base := W.heap.size) (e := e) (size := 1) W #[] 0 (Nat.le_refl _) (by simp [maxLen]) rfl
/-- What the reference's id tells. -/
def refId (l : List Int) : Option (List Int × List Int × Bool) :=
  match l with
  | [] => some ([], [], false)
  | b :: t => if 0 ≤ b ∧ b ≤ 255 then (if (t.length : Int) < b then some ([], [], false) else some (t.take b.toNat, t.drop b.toNat, true)) else none
set_option maxRecDepth 100000 in
set_option maxHeartbeats 1000000 in
theorem refid_true (A : Option Addr) (c m : Nat) (l t r1 r2 : List Int) (w : World) (hr : Kd.C (Kd.int .u8) w A l.length l) (hc : l.length ≤ c) (hl : l.length < 140737488355328) (hlt : l = (m : Int) :: t) (hm : m ≤ 255) (hmt : m ≤ t.length) (h1 : r1 = t.take m) (h2 : r2 = t.drop m) :
    Calls Try.prog 42 #[.slice A l.length c] w fun e w' => ∃ v0 A1 c1, e = .returned (.tuple #[v0, .slice A1 r2.length c1, .bool true]) ∧ Kd.R (Kd.int .u8) 5 w' w.heap.size (fun _ => True) v0 r1 ∧ (∀ W', Kd.C (Kd.int .u8) W' A l.length l → Kd.C (Kd.int .u8) W' A1 r2.length r2) ∧ r2.length ≤ c1 ∧ Below w.heap.size w w' := by
  have hll : l.length = t.length + 1 := by rw [hlt]; rfl
  obtain ⟨i0, hi0, _, hsz, _⟩ := info_parts info5
  obtain ⟨ad, e0, hx⟩ := Kd.at_int hr 0 (by omega) (by omega)
  subst e0
  rw [show ((0 : Int)).toNat = 0 from rfl, Addr.add_zero', show rd l 0 = (m : Int) by rw [hlt]; rfl] at hx
  have hcut := cut_mid (P := Try.prog) 22 5 .i64 .i64 Try.underlying22 hi0 1 hsz (some ad) l.length c (1 : Int) (1 + (m : Int)) (by omega) (by omega) (by omega) hc
  have hcut2 := cut_from (P := Try.prog) 22 5 .i64 Try.underlying22 hi0 1 hsz (some ad) l.length c (1 + (m : Int)) (by omega) (by omega)
  have e1 : (1 + (m : Int)).toNat = 1 + m := by omega
  rw [e1, show ((1 : Int)).toNat = 1 from rfl] at hcut
  rw [e1] at hcut2
  have hmid := Kd.C_mid (lo := 1) (hi := 1 + m) (c := c) hr (by omega) (by omega) hc
  have hdr := fun (W' : World) (h : Kd.C (Kd.int .u8) W' (some ad) l.length l) => Kd.C_drop (m := 1 + m) (c := c) h (by omega) hc
  have z1 : (l.take (1 + m)).drop 1 = r1 := by rw [hlt, Nat.add_comm, List.take_succ_cons, h1]; rfl
  have z2 : l.drop (1 + m) = r2 := by rw [hlt, Nat.add_comm, List.drop_succ_cons, h2]
  have n1 : r1.length = m := by rw [h1, List.length_take]; omega
  have n2 : r2.length = l.length - (1 + m) := by rw [h2, List.length_drop]; omega
  rw [z1] at hmid
  simp only [z2] at hdr
  obtain ⟨A1, hA1⟩ : ∃ A1 : Option Addr, A1 = (if c = 1 then some ad else (some ad).map (·.add (1 * 1))) := ⟨_, rfl⟩
  obtain ⟨A2, hA2⟩ : ∃ A2 : Option Addr, A2 = (if c = 1 + m then some ad else (some ad).map (·.add ((1 + m) * 1))) := ⟨_, rfl⟩
  obtain ⟨c1, hc1⟩ : ∃ c1 : Nat, c1 = c - 1 := ⟨_, rfl⟩
  obtain ⟨c2, hc2⟩ : ∃ c2 : Nat, c2 = c - (1 + m) := ⟨_, rfl⟩
  have hm1 : Kd.C (Kd.int .u8) w A1 r1.length r1 := by rw [hA1]; exact hmid
  have hm2 : ∀ W', Kd.C (Kd.int .u8) W' (some ad) l.length l → Kd.C (Kd.int .u8) W' A2 r2.length r2 := by rw [hA2]; exact hdr
  rw [show 1 + m - 1 = r1.length by omega, ← hc1, ← hA1] at hcut
  rw [← n2, ← hc2, ← hA2] at hcut2
  have g0 : ((l.length : Int) == 0) = false := beq_eq_false_iff_ne.mpr (by omega)
  have g1 : decide ((l.length : Int) - 1 < (m : Int)) = false := decide_eq_false (by omega)
  obtain ⟨n, hn⟩ : ∃ n : Nat, n = l.length := ⟨_, rfl⟩
  rw [← hn] at hcut hcut2 g0 g1 ⊢
  have HM1 := Aside0.mk hm1
  rw [← hn] at hm2
  have HM2 := Aside0.mk hm2
  have HC2 := Aside0.mk (show r2.length ≤ c2 by omega)
  have HN := Aside0.mk (show r1.length < 140737488355328 by omega)
  have q0 : (0 : Nat) < n := by omega
  have wm : IntKind.i64.wrap (m : Int) = (m : Int) := IntWalk.i64_in _ (by omega)
  have hi1 : (1 + (m : Int)) ≤ (n : Int) := by omega
  have hi2 : (0 : Int) ≤ 1 + (m : Int) := by omega
  have ws : IntKind.i64.wrap (1 + (m : Int)) = 1 + (m : Int) := IntWalk.i64_in _ (by omega)
  have ws2 : Go.RowKit.wrap64 (1 + (m : Int)) = 1 + (m : Int) := by rw [← i64_w]; exact ws
  have hnb : (n : Int) < 140737488355328 := by omega
  have hmb : (m : Int) < 140737488355328 := Int.lt_of_le_of_lt (Int.ofNat_le.mpr hm) (by decide)
  clear hr hmid hdr hA1 hA2 hm1 hm2 hlt h1 h2 z1 z2 hll n1 n2 hc1 hc2 hn e1 hm hmt hl hc hi0 hsz
  go_enter Try.func42, Try.ntmps42
  go_wp2_with fail
  go_region_held3 (fun _ => True) (trivial)
    (first
      | (refine Kd.R_append_rows_step (Kd.int .u8) (w0 := w) w.heap.size (by rfl) (.tmp 23) (.tmp 27) 22 5 (.int .u8 0) 1 rfl Try.underlying22 info5 rfl (by decide) (by omega) _ [] r1 _ _ _ (fun _ => True) (fun _ => False) rfl rfl ?aO ?aR (fun _ _ h => h) (fun _ h => h.elim) ?aF ?aB ?aS ?aL ?_; (case aF => exact (fun _ _ => trivial)); (case aR => exact Kd.C_below HM1.out (below_alloc (below_drew (Below.refl _ w)) _)); (case aB => exact below_alloc (below_drew (Below.refl _ w)) _); (case aO => exact Kd.R_drew (R_empty w 5)); (case aS => simp; done); (case aL => have := HN.out; simp; omega); intro v2 w2 ho hb hg hat; have HV := Aside0.mk ho; have HBB := Aside0.mk hb; clear ho hb hg hat))

  go_wp2_with fail
  go_ret3
  exact ⟨v2, A2, c2, rfl, HV.out, HM2.out, HC2.out, HBB.out⟩
set_option maxRecDepth 100000 in
set_option maxHeartbeats 1000000 in
theorem refid_empty (c : Nat) (A : Option Addr) (w : World) :
    Calls Try.prog 42 #[.slice A 0 c] w fun e w' => e = .returned (.tuple #[.slice none 0 0, .slice none 0 0, .bool false]) ∧ Below w.heap.size w w' := by
  go_enter Try.func42, Try.ntmps42
  go_wp2_with fail
  go_ret3
  exact ⟨rfl, Below.refl _ _⟩
set_option maxRecDepth 100000 in
set_option maxHeartbeats 1000000 in
theorem refid_false (A : Option Addr) (c : Nat) (m : Int) (l t : List Int) (w : World) (hr : Kd.C (Kd.int .u8) w A l.length l) (hc : l.length ≤ c) (hl : l.length < 140737488355328) (hlt : l = m :: t) (hm0 : 0 ≤ m) (hm : m ≤ 255) (hmt : (t.length : Int) < m) :
    Calls Try.prog 42 #[.slice A l.length c] w fun e w' => e = .returned (.tuple #[.slice none 0 0, .slice none 0 0, .bool false]) ∧ Below w.heap.size w w' := by
  have hll : l.length = t.length + 1 := by rw [hlt]; rfl
  obtain ⟨ad, e0, hx⟩ := Kd.at_int hr 0 (by omega) (by omega)
  subst e0
  rw [show ((0 : Int)).toNat = 0 from rfl, Addr.add_zero', show rd l 0 = m by rw [hlt]; rfl] at hx
  have g0 : ((l.length : Int) == 0) = false := beq_eq_false_iff_ne.mpr (by omega)
  have g1 : decide ((l.length : Int) - 1 < m) = true := decide_eq_true (by omega)
  obtain ⟨n, hn⟩ : ∃ n : Nat, n = l.length := ⟨_, rfl⟩
  rw [← hn] at g0 g1 ⊢
  have q0 : (0 : Nat) < n := by omega
  have wm : IntKind.i64.wrap m = m := IntWalk.i64_in _ (by omega)
  have hnb : (n : Int) < 140737488355328 := by omega
  clear hr hlt hll hn hm hmt hl hc hm0
  go_enter Try.func42, Try.ntmps42
  go_wp2_with fail
  go_ret3
  exact ⟨rfl, Below.refl _ _⟩
theorem refid_calls (A : Option Addr) (c : Nat) (l r1 r2 : List Int) (ok : Bool) (w : World) (hr : Kd.C (Kd.int .u8) w A l.length l) (hc : l.length ≤ c) (hl : l.length < 140737488355328) (h : refId l = some (r1, r2, ok)) :
    Calls Try.prog 42 #[.slice A l.length c] w fun e w' => ∃ v0 A1 c1, e = .returned (.tuple #[v0, .slice A1 r2.length c1, .bool ok]) ∧ Kd.R (Kd.int .u8) 5 w' w.heap.size (fun _ => True) v0 r1 ∧ (∀ W', Kd.C (Kd.int .u8) W' A l.length l → Kd.C (Kd.int .u8) W' A1 r2.length r2) ∧ r2.length ≤ c1 ∧ Below w.heap.size w w' := by
  rcases l with _ | ⟨b, t⟩
  · simp only [refId, Option.some.injEq, Prod.mk.injEq] at h
    obtain ⟨rfl, rfl, rfl⟩ := h
    exact (refid_empty c A w).mono fun e w' ⟨he, hb⟩ => ⟨_, none, 0, he, Kd.R_nil _ _ _ _ _, fun _ _ => ⟨rfl, Nat.zero_le _, fun h => absurd h (by simp)⟩, Nat.zero_le _, hb⟩
  · unfold refId at h
    dsimp only at h
    by_cases hb : 0 ≤ b ∧ b ≤ 255
    · rw [if_pos hb] at h
      by_cases hlt : (t.length : Int) < b
      · rw [if_pos hlt] at h
        simp only [Option.some.injEq, Prod.mk.injEq] at h
        obtain ⟨rfl, rfl, rfl⟩ := h
        exact (refid_false A c b _ t w hr hc hl rfl hb.1 hb.2 hlt).mono fun e w' ⟨he, hb⟩ => ⟨_, none, 0, he, Kd.R_nil _ _ _ _ _, fun _ _ => ⟨rfl, Nat.zero_le _, fun h => absurd h (by simp)⟩, Nat.zero_le _, hb⟩
      · rw [if_neg hlt] at h
        simp only [Option.some.injEq, Prod.mk.injEq] at h
        obtain ⟨h1, h2, rfl⟩ := h
        obtain ⟨m, rfl⟩ := Int.eq_ofNat_of_zero_le hb.1
        rw [Int.toNat_natCast] at h1 h2
        exact refid_true A c m _ t r1 r2 w hr hc hl rfl (by omega) (by omega) h1.symm h2.symm
    · rw [if_neg hb] at h
      cases h
theorem refId_len {l r1 r2 : List Int} {ok : Bool} (h : refId l = some (r1, r2, ok)) : r1.length ≤ l.length ∧ r2.length ≤ l.length := by
  rcases l with _ | ⟨b, t⟩
  · simp only [refId, Option.some.injEq, Prod.mk.injEq] at h
    obtain ⟨rfl, rfl, rfl⟩ := h
    exact ⟨Nat.le_refl _, Nat.le_refl _⟩
  · unfold refId at h
    dsimp only at h
    split at h
    · split at h
      · simp only [Option.some.injEq, Prod.mk.injEq] at h
        obtain ⟨rfl, rfl, rfl⟩ := h
        exact ⟨Nat.zero_le _, Nat.zero_le _⟩
      · simp only [Option.some.injEq, Prod.mk.injEq] at h
        obtain ⟨rfl, rfl, rfl⟩ := h
        simp only [List.length_take, List.length_drop, List.length_cons]
        omega
    · cases h


end Go.Proofs.Ytnmhnihhlakinac.M
