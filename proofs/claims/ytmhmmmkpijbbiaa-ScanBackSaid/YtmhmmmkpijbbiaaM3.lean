/- Contracts of the Go functions that the laws reach, each as a plain Lean function: written by xprint.py, a program of this repo. -/
import Derived.Test.YtmhmmmkpijbbiaaM0
import Derived.Test.YtmhmmmkpijbbiaaM1
namespace Go.Proofs.Ytmhmmmkpijbbiaa.M
open Go.RowKit Go.Proofs.YtmhmmmkpijbbiaaW.PrintWords Go.Proofs.YtmhmmmkpijbbiaaW.PrintLast Go.Proofs.YtmhmmmkpijbbiaaW.PrintMore Go.Proofs.Ytmhmmmkpijbbiaa.X
attribute [local go_sem] max2_int min2_int max_two min_two max_three min_three max_four min_four   -- for this text's walks alone
set_option linter.unusedVariables false
set_option linter.unusedSimpArgs false

/-! ### scan_Read: function 15, typed by hand -/
set_option maxRecDepth 100000 in
theorem read_calls (W : World) (A : Option Addr) (n c : Nat) : Calls Try.prog 15 #[.slice A n c] W fun en W' => en = .returned (.pointer (some ⟨W.heap.size, 0, none⟩)) ∧ W' = W.alloc (.cells #[.int .i64 0, .slice A n c] 52) := by
  go_enter Try.func15, Try.ntmps15
  go_wp2
  go_ret
  exact ⟨rfl, rfl⟩
theorem read_at {W : World} {A : Option Addr} {c : Nat} {l : List Int} (hC : Kd.C (Kd.int .u8) W A l.length l) (hc : l.length ≤ c) : RdAt (W.alloc (.cells #[.int .i64 0, .slice A l.length c] 52)) W.heap.size (fun k => k < W.heap.size) 0 l :=
  ⟨A, c, heap_alloc_new W _, hc, Kd.F_alloc (Kd.C_F (Kd.heap_int .u8) hC) _, Nat.lt_irrefl _⟩


/-! ### scan_Reader_Bytes: function 22, typed by hand -/
/-- What a reader's Bytes tells. -/
def rdBytes (e : Int) (l : List Int) (n : Int) : List Int × Int × List Int := if stays e n (mx n 0) l.length = 0 then (l.take n.toNat, 0, l.drop n.toNat) else ([], stays e n (mx n 0) l.length, l)
set_option maxRecDepth 100000 in
set_option maxHeartbeats 1000000 in
theorem bytes_calls (W : World) (g : Nat) (P : Nat → Prop) (e n e2 : Int) (l r l2 : List Int) (hR : RdAt W g P e l) (hl : l.length < 140737488355328) (h : rdBytes e l n = (r, e2, l2)) :
    Calls Try.prog 22 #[.pointer (some ⟨g, 0, none⟩), .int .i64 n] W fun en W' => ∃ v, en = .returned v ∧ Kd.R (Kd.int .u8) 5 W' W.heap.size (fun _ => True) v r ∧ RdAt W' g P e2 l2 ∧ W.grownBy W' (some g) := by
  obtain ⟨A, c, hb, hc, hF, hg⟩ := hR
  obtain ⟨e1, he1⟩ : ∃ e1, e1 = stays e n (mx n 0) l.length := ⟨_, rfl⟩
  have HCK := Aside0.mk (check_calls W.drew g e n (mx n 0) A l.length c (blk_drew hb))
  have HFL := Aside0.mk (fail_calls W.drew g e (chkS n (mx n 0) l.length) e1 (.slice A l.length c) (blk_drew hb) he1)
  have HR1 : ∀ w1 : World, w1.heap[g]? = some (.cells #[.int .i64 e1, .slice A l.length c] 52 (0, 0)) → W.drew.grownBy w1 (some g) → RdAt w1 g P e1 l := fun w1 h1 h2 => ⟨A, c, h1, hc, Kd.F_grown (Kd.F_drew hF) h2 (fun k hk e => hg (by cases e; exact hk)), hg⟩
  have HRA := Aside0.mk HR1
  have HLL := Aside0.mk hl
  have h' : (if e1 = 0 then (l.take n.toNat, 0, l.drop n.toNat) else ([], e1, l)) = (r, e2, l2) := by rw [he1]; exact h
  clear h HR1 hb hc hF hg hl
  by_cases h0 : e1 = 0
  · rw [if_pos h0] at h'
    simp only [Prod.mk.injEq] at h'
    obtain ⟨hy, rfl, hl2⟩ := h'
    obtain ⟨he, s0, s1, s2⟩ := stays_zero (he1.symm.trans h0)
    obtain ⟨m, rfl⟩ := Int.eq_ofNat_of_zero_le s0
    rw [Int.toNat_natCast] at hy hl2
    have HY := Aside0.mk hy.symm
    have HZ := Aside0.mk hl2.symm
    have HM := Aside0.mk (show m ≤ l.length by omega)
    clear s0 s1 s2 he1 he hy hl2
    rw [h0] at HFL HRA
    clear h0
    go_enter Try.func22, Try.ntmps22
    go_wp2
    go_still_tail 8, (by kernel_rfl)
    change wpStill _ _ W.drew _ _ _
    refine wpStill_step (fun K hK => ?_)
    go_simp
    refine ⟨_, HCK.out, hK _ ?_⟩
    clear hK K HCK
    refine wpStill_nil ?_
    change wpList _ _ _ _ _ W.drew
    go_wp2_with (first | (go_at_call 45; (with_reducible refine HFL.out.mono ?_); rintro en w1 ⟨rfl, hb1, hg1⟩; have HR1 := Aside0.mk (HRA.out w1 hb1 hg1); have HG1 := Aside0.mk ((drew_grownBy W (some g)).trans hg1); clear hb1 hg1) | (go_at_call 48; (with_reducible refine (cut_calls _ g m P 0 l r l2 HY.out HZ.out HR1.out HM.out HLL.out).mono ?_); rintro en w2 ⟨vr, rfl, hv, hr2, hg2⟩; have HV := Aside0.mk hv; have HR2 := Aside0.mk hr2; have HG2 := Aside0.mk (HG1.out.trans hg2); clear hv hr2 hg2))
    go_ret
    exact ⟨_, rfl, Kd.R_lower HV.out HG1.out.size, HR2.out, HG2.out⟩
  · rw [if_neg h0] at h'
    simp only [Prod.mk.injEq] at h'
    obtain ⟨rfl, rfl, rfl⟩ := h'
    have h1 : (e1 != 0) = true := bne_iff_ne.mpr h0
    have H1 := Aside0.mk h1
    clear h1 h0 he1
    by_cases hn : n < 0
    · have hmx : mx n 0 = 0 := if_pos hn
      rw [hmx] at HCK HFL
      clear hmx
      go_enter Try.func22, Try.ntmps22
      go_wp2
      go_still_tail 8, (by kernel_rfl)
      change wpStill _ _ W.drew _ _ _
      refine wpStill_step (fun K hK => ?_)
      go_simp
      refine ⟨_, HCK.out, hK _ ?_⟩
      clear hK K HCK
      refine wpStill_nil ?_
      change wpList _ _ _ _ _ W.drew
      go_wp2_with (go_at_call 45; (with_reducible refine HFL.out.mono ?_); rintro en w1 ⟨rfl, hb1, hg1⟩; rw [H1.out]; have HR1 := Aside0.mk (HRA.out w1 hb1 hg1); have HG1 := Aside0.mk ((drew_grownBy W (some g)).trans hg1); clear hb1 hg1)
      go_ret
      exact ⟨_, rfl, Kd.R_nil _ _ _ _ _, HR1.out, HG1.out⟩
    · have hmx : mx n 0 = n := if_neg hn
      rw [hmx] at HCK HFL
      clear hmx
      go_enter Try.func22, Try.ntmps22
      go_wp2
      go_still_tail 8, (by kernel_rfl)
      change wpStill _ _ W.drew _ _ _
      refine wpStill_step (fun K hK => ?_)
      go_simp
      rw [if_neg (by omega : ¬ n < 0)]
      refine ⟨_, HCK.out, hK _ ?_⟩
      clear hK K HCK
      refine wpStill_nil ?_
      change wpList _ _ _ _ _ W.drew
      go_wp2_with (go_at_call 45; (with_reducible refine HFL.out.mono ?_); rintro en w1 ⟨rfl, hb1, hg1⟩; rw [H1.out]; have HR1 := Aside0.mk (HRA.out w1 hb1 hg1); have HG1 := Aside0.mk ((drew_grownBy W (some g)).trans hg1); clear hb1 hg1)
      go_ret
      exact ⟨_, rfl, Kd.R_nil _ _ _ _ _, HR1.out, HG1.out⟩


/-! ### vari_form_size: function 62 -/
def vari_form_size.f (a0 : Int) : Option (Int) := if 0 ≤ a0 then (some (shl .i64 1 a0)) else (none)
set_option maxHeartbeats 8000000 in
set_option maxRecDepth 100000 in
theorem vari_form_size.calls (a0 : Int) (r : Int) (w : World) (h : vari_form_size.f a0 = some r) :
    Calls Try.prog 62 #[.int .i64 a0] w fun e w' => e = .returned (.int .i64 r) ∧ Drawn0 w w' := by
  have H : (if 0 ≤ a0 then (some (shl .i64 1 a0)) else (none)) = some r := h
  clear h
  by_cases c2 : 0 ≤ a0
  · rw [if_pos c2] at H
    have c2b0 := eq_true c2
    have c2b1 : decide (0 ≤ a0) = true := decide_eq_true c2
    clear c2
    obtain ⟨ji3, hji3⟩ : ∃ j_ : Int, (shl .i64 1 a0) = j_ := ⟨_, rfl⟩
    replace H : (some ji3) = some r := by first | (rw [hji3] at H; exact H) | (simp only [hji3] at H ⊢; exact H)
    have hji3_ : (IntKind.i64.wrap (1 * 2 ^ min a0.toNat 64)) = ji3 := hji3
    have hji3z : a0 ≤ 64 → (IntKind.i64.wrap (1 * 2 ^ a0.toNat)) = ji3 := shl_small hji3
    have hji3u : (IntKind.i64.wrap (2 ^ min a0.toNat 64)) = ji3 := by have h_ := hji3_; rw [Int.one_mul] at h_; exact h_
    have hji3v : a0 ≤ 64 → (IntKind.i64.wrap (2 ^ a0.toNat)) = ji3 := fun hle_ => by have h_ := hji3z hle_; rw [Int.one_mul] at h_; exact h_
    have hji3y : (wrap64 (1 * 2 ^ min a0.toNat 64)) = ji3 := (i64_w _).symm.trans hji3_
    have hji3x : a0 ≤ 64 → (wrap64 (1 * 2 ^ a0.toNat)) = ji3 := fun h_ => (i64_w _).symm.trans (hji3z h_)
    obtain rfl := Option.some.inj H
    go_enter Try.func62, Try.ntmps62
    go_wp2
    go_ret
    exact ⟨by first | rfl | (simp; done) | (simp only [← hji3] <;> (first | rfl | simp)) | (simp [*]; done), by repeat (first | exact Drawn0.refl _ | apply Drawn0.step)⟩
  · rw [if_neg c2] at H
    exact absurd H (by simp)

/-! ### vari_form_room: function 63 -/
def vari_form_room.f (a0 : Int) : Option (Int) := (vari_form_size.f a0).bind fun t117 => (some (wrap64 ((wrap64 (8 * t117)) - 2)))
set_option maxHeartbeats 8000000 in
set_option maxRecDepth 100000 in
theorem vari_form_room.calls (a0 : Int) (r : Int) (w : World) (h : vari_form_room.f a0 = some r) :
    Calls Try.prog 63 #[.int .i64 a0] w fun e w' => e = .returned (.int .i64 r) ∧ Drawn0 w w' := by
  have H : ((vari_form_size.f a0).bind fun t117 => (some (wrap64 ((wrap64 (8 * t117)) - 2)))) = some r := h
  clear h
  replace H := Option.bind_eq_some_iff.mp H
  obtain ⟨t117, A20, H⟩ := H
  replace H : (some (wrap64 ((wrap64 (8 * t117)) - 2))) = some r := H
  have A2 := Aside0.mk A20
  clear A20
  obtain rfl := Option.some.inj H
  go_enter Try.func63, Try.ntmps63
  go_wp2_with (first | ((with_reducible refine gate_callee (f := 62) rfl ?_); refine goesL_ (some 4) rfl rfl Try.func62 (by kernel_rfl) rfl #[.int .i64 a0] rfl (by (try simp only [List.map_toArray, List.map_cons, List.map_nil]); first | done | rfl | (simp only [List.length_drop, List.length_take]; rfl)) ?_; (with_reducible refine (vari_form_size.calls a0 t117 _ A2.out).mono ?_); rintro e w' ⟨rfl, ⟨nd, rfl⟩⟩; refine ⟨_, rfl, ?_⟩))
  go_ret
  exact ⟨by first | rfl | (simp; done) | (simp [*]; done), by repeat (first | exact Drawn0.refl _ | apply Drawn0.step)⟩

/-! ### vari_Take: function 49 -/
def vari_Take.f (k : Nat) (l0 : List Int) : Option (Int × Int × Int) := if (l0.length : Int) = 0 then (some (0, 0, 12)) else (if 0 < (l0.length : Int) then ((vari_form_size.f (wrap64 ((rd l0 0) / 64))).bind fun t119 => (if (l0.length : Int) < t119 then (some (0, 0, 12)) else (if 0 ≤ t119 then (if t119 ≤ (l0.length : Int) then ((octet_Num.f k (l0.take (t119 : Int).toNat)).bind fun bt121 => ((vari_form_room.f (wrap64 ((rd l0 0) / 64))).bind fun t123 => (if 0 ≤ t123 then (some (Go.bits .andNot .u64 bt121.1 (shl .u64 (IntKind.u64.wrap (wrap64 ((rd l0 0) / 64))) t123), t119, 0)) else (none)))) else (none)) else (none)))) else (none))
theorem vari_Take.mono : ∀ a0 k, LeO (vari_Take.f k a0) (vari_Take.f (k + 1) a0) := by
  intro a0 k
  unfold vari_Take.f
  repeat' first
      | (with_reducible exact octet_Num.mono _ _)
      | (with_reducible exact LeO.refl _)
      | (with_reducible exact LeO.none _)
      | (with_reducible refine LeO.ite ?_ ?_)
      | (with_reducible refine LeO.bind ?_ (fun _ => ?_))
      | exact octet_Num.mono _ _
      | exact LeO.none _
      | refine LeO.ite ?_ ?_
      | refine LeO.bind ?_ (fun _ => ?_)
set_option maxHeartbeats 8000000 in
set_option maxRecDepth 100000 in
theorem vari_Take.calls (k : Nat) (A0 : Option Addr) (c0 : Nat) (l0 : List Int) (r1 : Int) (r2 : Int) (r3 : Int) (w : World) (hr0 : Kd.C (Kd.int .u8) w A0 l0.length l0) (hc0 : l0.length ≤ c0) (h : vari_Take.f k l0 = some (r1, r2, r3)) :
    Calls Try.prog 49 #[.slice A0 l0.length c0] w fun e w' => e = .returned (.tuple #[.int .u64 r1, .int .i64 r2, .int .i64 r3]) ∧ Drawn0 w w' := by
  have HR0 := Aside0.mk hr0
  have HC0 := Aside0.mk hc0
  clear hr0 hc0
  have H : (if (l0.length : Int) = 0 then (some (0, 0, 12)) else (if 0 < (l0.length : Int) then ((vari_form_size.f (wrap64 ((rd l0 0) / 64))).bind fun t119 => (if (l0.length : Int) < t119 then (some (0, 0, 12)) else (if 0 ≤ t119 then (if t119 ≤ (l0.length : Int) then ((octet_Num.f k (l0.take (t119 : Int).toNat)).bind fun bt121 => ((vari_form_room.f (wrap64 ((rd l0 0) / 64))).bind fun t123 => (if 0 ≤ t123 then (some (Go.bits .andNot .u64 bt121.1 (shl .u64 (IntKind.u64.wrap (wrap64 ((rd l0 0) / 64))) t123), t119, 0)) else (none)))) else (none)) else (none)))) else (none))) = some (r1, r2, r3) := h
  clear h
  by_cases c2 : (l0.length : Int) = 0
  · rw [if_pos c2] at H
    have c2b0 : ((l0.length : Int) == 0) = true := beq_iff_eq.mpr c2
    have c2b1 : ((l0.length : Int) != 0) = false := bne_eq_false_iff_eq.mpr c2
    clear c2
    simp only [Option.some.injEq, Prod.mk.injEq] at H
    obtain ⟨rfl, rfl, rfl⟩ := H
    go_enter Try.func49, Try.ntmps49
    go_wp2
    repeat (go_quiet (fail); try go_wp2)
    go_ret3
    exact ⟨by first | rfl | (simp; done) | (simp [*]; done), by repeat (first | exact Drawn0.refl _ | apply Drawn0.step)⟩
  · rw [if_neg c2] at H
    have c2b0 : ((l0.length : Int) == 0) = false := beq_eq_false_iff_ne.mpr c2
    have c2b1 : ((l0.length : Int) != 0) = true := bne_iff_ne.mpr c2
    have c2b2 : ¬ (l0 = []) := fun h_ => c2 (by rw [h_]; rfl)
    by_cases c3 : 0 < (l0.length : Int)
    · rw [if_pos c3] at H
      have c3b0 : decide (0 < (l0.length : Int)) = true := decide_eq_true c3
      have c3b1 : decide (0 < l0.length) = true := decide_eq_true (by omega)
      clear c3
      replace H := Option.bind_eq_some_iff.mp H
      obtain ⟨t119, A40, H⟩ := H
      replace H : (if (l0.length : Int) < t119 then (some (0, 0, 12)) else (if 0 ≤ t119 then (if t119 ≤ (l0.length : Int) then ((octet_Num.f k (l0.take (t119 : Int).toNat)).bind fun bt121 => ((vari_form_room.f (wrap64 ((rd l0 0) / 64))).bind fun t123 => (if 0 ≤ t123 then (some (Go.bits .andNot .u64 bt121.1 (shl .u64 (IntKind.u64.wrap (wrap64 ((rd l0 0) / 64))) t123), t119, 0)) else (none)))) else (none)) else (none))) = some (r1, r2, r3) := H
      have A4 := Aside0.mk A40
      clear A40
      by_cases c5 : (l0.length : Int) < t119
      · rw [if_pos c5] at H
        have c5b0 : decide ((l0.length : Int) < t119) = true := decide_eq_true c5
        clear c5
        simp only [Option.some.injEq, Prod.mk.injEq] at H
        obtain ⟨rfl, rfl, rfl⟩ := H
        have p118 : 0 ≤ (0 : Int) := (by omega)
        have q118 : 0 < (l0.length : Int) := of_decide_eq_true (by first | (with_reducible assumption) | assumption)
        obtain ⟨ad118, e118, hx118_0⟩ := Kd.at_int HR0.out 0 p118 q118
        cases e118
        have qi118 : (0 < l0.length) = True := eq_true (by omega)
        (try rw [show ((0 : Int)).toNat = 0 from rfl] at hx118_0)
        (try rw [Addr.add_zero'] at hx118_0)
        replace p118 := eq_true p118
        replace q118 := eq_true q118
        go_enter Try.func49, Try.ntmps49
        go_wp2_with (first | (go_at_call 62; (with_reducible refine (vari_form_size.calls (wrap64 ((rd l0 0) / 64)) t119 _ A4.out).mono ?_); rintro e w' ⟨rfl, ⟨nd, rfl⟩⟩; (try first | exact ⟨rfl, _, World.drewN_drewN _ _ _⟩ | exact ⟨rfl, _, Eq.trans (World.drewN_drewN _ _ _) (congrArg (World.drewN _) (Nat.add_assoc _ _ _))⟩)))
        repeat (go_quiet (first | (go_at_call 62; (with_reducible refine (vari_form_size.calls (wrap64 ((rd l0 0) / 64)) t119 _ A4.out).mono ?_); rintro e w' ⟨rfl, ⟨nd, rfl⟩⟩; (try first | exact ⟨rfl, _, World.drewN_drewN _ _ _⟩ | exact ⟨rfl, _, Eq.trans (World.drewN_drewN _ _ _) (congrArg (World.drewN _) (Nat.add_assoc _ _ _))⟩))); try go_wp2_with (first | (go_at_call 62; (with_reducible refine (vari_form_size.calls (wrap64 ((rd l0 0) / 64)) t119 _ A4.out).mono ?_); rintro e w' ⟨rfl, ⟨nd, rfl⟩⟩; (try first | exact ⟨rfl, _, World.drewN_drewN _ _ _⟩ | exact ⟨rfl, _, Eq.trans (World.drewN_drewN _ _ _) (congrArg (World.drewN _) (Nat.add_assoc _ _ _))⟩))))
        go_ret3
        exact ⟨by first | rfl | (simp; done) | (simp [*]; done), by repeat (first | exact Drawn0.refl _ | apply Drawn0.step)⟩
      · rw [if_neg c5] at H
        have c5b0 : decide ((l0.length : Int) < t119) = false := decide_eq_false c5
        clear c5
        by_cases c6 : 0 ≤ t119
        · rw [if_pos c6] at H
          have c6b0 := eq_true c6
          have c6b1 : decide (0 ≤ t119) = true := decide_eq_true c6
          clear c6
          by_cases c7 : t119 ≤ (l0.length : Int)
          · rw [if_pos c7] at H
            have c7b0 := eq_true c7
            have c7b1 : decide (t119 ≤ (l0.length : Int)) = true := decide_eq_true c7
            clear c7
            replace H := Option.bind_eq_some_iff.mp H
            obtain ⟨⟨t121, t122⟩, A80, H⟩ := H
            replace H : ((vari_form_room.f (wrap64 ((rd l0 0) / 64))).bind fun t123 => (if 0 ≤ t123 then (some (Go.bits .andNot .u64 t121 (shl .u64 (IntKind.u64.wrap (wrap64 ((rd l0 0) / 64))) t123), t119, 0)) else (none))) = some (r1, r2, r3) := H
            have A8 := Aside0.mk A80
            clear A80
            replace H := Option.bind_eq_some_iff.mp H
            obtain ⟨t123, A90, H⟩ := H
            replace H : (if 0 ≤ t123 then (some (Go.bits .andNot .u64 t121 (shl .u64 (IntKind.u64.wrap (wrap64 ((rd l0 0) / 64))) t123), t119, 0)) else (none)) = some (r1, r2, r3) := H
            have A9 := Aside0.mk A90
            clear A90
            by_cases c10 : 0 ≤ t123
            · rw [if_pos c10] at H
              have c10b0 := eq_true c10
              have c10b1 : decide (0 ≤ t123) = true := decide_eq_true c10
              clear c10
              obtain ⟨ji11, hji11⟩ : ∃ j_ : Int, (shl .u64 (IntKind.u64.wrap (wrap64 ((rd l0 0) / 64))) t123) = j_ := ⟨_, rfl⟩
              replace H : (some (Go.bits .andNot .u64 t121 (ji11), t119, 0)) = some (r1, r2, r3) := by first | (rw [hji11] at H; exact H) | (simp only [hji11] at H ⊢; exact H)
              (try rw [hji11] at A4)
              (try rw [hji11] at A8)
              (try rw [hji11] at A9)
              have hji11_ : (IntKind.u64.wrap ((IntKind.u64.wrap (wrap64 ((rd l0 0) / 64))) * 2 ^ min t123.toNat 64)) = ji11 := hji11
              have hji11z : t123 ≤ 64 → (IntKind.u64.wrap ((IntKind.u64.wrap (wrap64 ((rd l0 0) / 64))) * 2 ^ t123.toNat)) = ji11 := shl_small hji11
              simp only [Option.some.injEq, Prod.mk.injEq] at H
              obtain ⟨rfl, rfl, rfl⟩ := H
              have p118 : 0 ≤ (0 : Int) := (by omega)
              have q118 : 0 < (l0.length : Int) := of_decide_eq_true (by first | (with_reducible assumption) | assumption)
              obtain ⟨ad118, e118, hx118_0⟩ := Kd.at_int HR0.out 0 p118 q118
              cases e118
              have qi118 : (0 < l0.length) = True := eq_true (by omega)
              (try rw [show ((0 : Int)).toNat = 0 from rfl] at hx118_0)
              (try rw [Addr.add_zero'] at hx118_0)
              replace p118 := eq_true p118
              replace q118 := eq_true q118
              go_enter Try.func49, Try.ntmps49
              go_wp2_with (first | (go_at_call 62; (with_reducible refine (vari_form_size.calls (wrap64 ((rd l0 0) / 64)) t119 _ A4.out).mono ?_); rintro e w' ⟨rfl, ⟨nd, rfl⟩⟩; (try first | exact ⟨rfl, _, World.drewN_drewN _ _ _⟩ | exact ⟨rfl, _, Eq.trans (World.drewN_drewN _ _ _) (congrArg (World.drewN _) (Nat.add_assoc _ _ _))⟩); obtain ⟨i012, hi012, _, hsz12, _⟩ := info_parts info5; obtain ⟨hcut12, hA12, hC12⟩ := print_take_of (P := Try.prog) (Value.int .u8) 0 28 5 .i64 Try.underlying28 hi012 hsz12 (some ad118) c0 l0 t119 (of_decide_eq_true (by first | (with_reducible assumption) | assumption)) (of_decide_eq_true (by first | (with_reducible assumption) | assumption)) HC0.out; have HR120 := Aside0.mk (Kd.C_of_reads (h1 := fun _ => rfl) (hA12 _ (Kd.reads_of_C HR0.out))); have HC120 := Aside0.mk hC12; clear hA12 hC12 hi012 hsz12) | (go_at_call 47; refine calls_of_args (args' := #[.slice (some ad118) (l0.take (t119 : Int).toNat).length c0]) (by first | rfl | (rw [show (l0.take (t119 : Int).toNat).length = t119.toNat from (by rw [List.length_take]; have h_ : (t119 : Int) ≤ (l0.length : Int) := of_decide_eq_true (by first | (with_reducible assumption) | assumption); omega)] <;> rfl) | fail) ?_; (with_reducible refine (octet_Num.calls k _ _ (l0.take (t119 : Int).toNat) t121 t122 _ ?side1 ?side2 A8.out).mono ?_); (case side1 => repeat (first | exact HR120.out | (with_reducible refine Kd.C_alloc ?_ _) | (with_reducible refine Kd.C_drewN ?_ _) | (with_reducible refine Kd.C_drew ?_))); (case side2 => exact HC120.out); rintro e w' ⟨rfl, ⟨nd, rfl⟩⟩; (try first | exact ⟨rfl, _, World.drewN_drewN _ _ _⟩ | exact ⟨rfl, _, Eq.trans (World.drewN_drewN _ _ _) (congrArg (World.drewN _) (Nat.add_assoc _ _ _))⟩)) | (go_at_call 63; (with_reducible refine (vari_form_room.calls (wrap64 ((rd l0 0) / 64)) t123 _ A9.out).mono ?_); rintro e w' ⟨rfl, ⟨nd, rfl⟩⟩; (try first | exact ⟨rfl, _, World.drewN_drewN _ _ _⟩ | exact ⟨rfl, _, Eq.trans (World.drewN_drewN _ _ _) (congrArg (World.drewN _) (Nat.add_assoc _ _ _))⟩)))
              repeat (go_quiet (first | (go_at_call 62; (with_reducible refine (vari_form_size.calls (wrap64 ((rd l0 0) / 64)) t119 _ A4.out).mono ?_); rintro e w' ⟨rfl, ⟨nd, rfl⟩⟩; (try first | exact ⟨rfl, _, World.drewN_drewN _ _ _⟩ | exact ⟨rfl, _, Eq.trans (World.drewN_drewN _ _ _) (congrArg (World.drewN _) (Nat.add_assoc _ _ _))⟩); obtain ⟨i012, hi012, _, hsz12, _⟩ := info_parts info5; obtain ⟨hcut12, hA12, hC12⟩ := print_take_of (P := Try.prog) (Value.int .u8) 0 28 5 .i64 Try.underlying28 hi012 hsz12 (some ad118) c0 l0 t119 (of_decide_eq_true (by first | (with_reducible assumption) | assumption)) (of_decide_eq_true (by first | (with_reducible assumption) | assumption)) HC0.out; have HR120 := Aside0.mk (Kd.C_of_reads (h1 := fun _ => rfl) (hA12 _ (Kd.reads_of_C HR0.out))); have HC120 := Aside0.mk hC12; clear hA12 hC12 hi012 hsz12) | (go_at_call 47; refine calls_of_args (args' := #[.slice (some ad118) (l0.take (t119 : Int).toNat).length c0]) (by first | rfl | (rw [show (l0.take (t119 : Int).toNat).length = t119.toNat from (by rw [List.length_take]; have h_ : (t119 : Int) ≤ (l0.length : Int) := of_decide_eq_true (by first | (with_reducible assumption) | assumption); omega)] <;> rfl) | fail) ?_; (with_reducible refine (octet_Num.calls k _ _ (l0.take (t119 : Int).toNat) t121 t122 _ ?side1 ?side2 A8.out).mono ?_); (case side1 => repeat (first | exact HR120.out | (with_reducible refine Kd.C_alloc ?_ _) | (with_reducible refine Kd.C_drewN ?_ _) | (with_reducible refine Kd.C_drew ?_))); (case side2 => exact HC120.out); rintro e w' ⟨rfl, ⟨nd, rfl⟩⟩; (try first | exact ⟨rfl, _, World.drewN_drewN _ _ _⟩ | exact ⟨rfl, _, Eq.trans (World.drewN_drewN _ _ _) (congrArg (World.drewN _) (Nat.add_assoc _ _ _))⟩)) | (go_at_call 63; (with_reducible refine (vari_form_room.calls (wrap64 ((rd l0 0) / 64)) t123 _ A9.out).mono ?_); rintro e w' ⟨rfl, ⟨nd, rfl⟩⟩; (try first | exact ⟨rfl, _, World.drewN_drewN _ _ _⟩ | exact ⟨rfl, _, Eq.trans (World.drewN_drewN _ _ _) (congrArg (World.drewN _) (Nat.add_assoc _ _ _))⟩))); try go_wp2_with (first | (go_at_call 62; (with_reducible refine (vari_form_size.calls (wrap64 ((rd l0 0) / 64)) t119 _ A4.out).mono ?_); rintro e w' ⟨rfl, ⟨nd, rfl⟩⟩; (try first | exact ⟨rfl, _, World.drewN_drewN _ _ _⟩ | exact ⟨rfl, _, Eq.trans (World.drewN_drewN _ _ _) (congrArg (World.drewN _) (Nat.add_assoc _ _ _))⟩); obtain ⟨i012, hi012, _, hsz12, _⟩ := info_parts info5; obtain ⟨hcut12, hA12, hC12⟩ := print_take_of (P := Try.prog) (Value.int .u8) 0 28 5 .i64 Try.underlying28 hi012 hsz12 (some ad118) c0 l0 t119 (of_decide_eq_true (by first | (with_reducible assumption) | assumption)) (of_decide_eq_true (by first | (with_reducible assumption) | assumption)) HC0.out; have HR120 := Aside0.mk (Kd.C_of_reads (h1 := fun _ => rfl) (hA12 _ (Kd.reads_of_C HR0.out))); have HC120 := Aside0.mk hC12; clear hA12 hC12 hi012 hsz12) | (go_at_call 47; refine calls_of_args (args' := #[.slice (some ad118) (l0.take (t119 : Int).toNat).length c0]) (by first | rfl | (rw [show (l0.take (t119 : Int).toNat).length = t119.toNat from (by rw [List.length_take]; have h_ : (t119 : Int) ≤ (l0.length : Int) := of_decide_eq_true (by first | (with_reducible assumption) | assumption); omega)] <;> rfl) | fail) ?_; (with_reducible refine (octet_Num.calls k _ _ (l0.take (t119 : Int).toNat) t121 t122 _ ?side1 ?side2 A8.out).mono ?_); (case side1 => repeat (first | exact HR120.out | (with_reducible refine Kd.C_alloc ?_ _) | (with_reducible refine Kd.C_drewN ?_ _) | (with_reducible refine Kd.C_drew ?_))); (case side2 => exact HC120.out); rintro e w' ⟨rfl, ⟨nd, rfl⟩⟩; (try first | exact ⟨rfl, _, World.drewN_drewN _ _ _⟩ | exact ⟨rfl, _, Eq.trans (World.drewN_drewN _ _ _) (congrArg (World.drewN _) (Nat.add_assoc _ _ _))⟩)) | (go_at_call 63; (with_reducible refine (vari_form_room.calls (wrap64 ((rd l0 0) / 64)) t123 _ A9.out).mono ?_); rintro e w' ⟨rfl, ⟨nd, rfl⟩⟩; (try first | exact ⟨rfl, _, World.drewN_drewN _ _ _⟩ | exact ⟨rfl, _, Eq.trans (World.drewN_drewN _ _ _) (congrArg (World.drewN _) (Nat.add_assoc _ _ _))⟩))))
              go_ret3
              exact ⟨by first | rfl | (simp; done) | (simp only [← hji11] <;> (first | rfl | simp)) | (simp [*]; done), by repeat (first | exact Drawn0.refl _ | apply Drawn0.step)⟩
            · rw [if_neg c10] at H
              exact absurd H (by simp)
          · rw [if_neg c7] at H
            exact absurd H (by simp)
        · rw [if_neg c6] at H
          exact absurd H (by simp)
    · rw [if_neg c3] at H
      exact absurd H (by simp)

/-! ### scan_Reader_Vari: function 23, typed by hand -/
/-- What a reader's Vari tells. -/
def rdVari (k : Nat) (e : Int) (l : List Int) : Option (Int × Int × List Int) := (vari_Take.f k l).bind fun t => if (if e = 0 then t.2.2 else e) = 0 then (if 0 ≤ t.2.1 ∧ t.2.1 ≤ (l.length : Int) then some (t.1, 0, l.drop t.2.1.toNat) else none) else some (0, if e = 0 then t.2.2 else e, l)
theorem RdAt.drewN {W : World} {g : Nat} {P : Nat → Prop} {e : Int} {l : List Int} (h : RdAt W g P e l) (n : Nat) : RdAt (W.drewN n) g P e l := h.below (pw_below_drewN (Below.refl _ W) n)
set_option maxRecDepth 100000 in
set_option maxHeartbeats 1000000 in
theorem vari_calls (k : Nat) (W : World) (g : Nat) (P : Nat → Prop) (e v e2 : Int) (l l2 : List Int) (hR : RdAt W g P e l) (hl : l.length < 140737488355328) (h : rdVari k e l = some (v, e2, l2)) :
    Calls Try.prog 23 #[.pointer (some ⟨g, 0, none⟩)] W fun en W' => en = .returned (.int .u64 v) ∧ RdAt W' g P e2 l2 ∧ W.grownBy W' (some g) := by
  obtain ⟨A, c, hb, hc, hF, hg⟩ := hR.opens
  unfold rdVari at h
  obtain ⟨⟨v0, n, et⟩, qt, h⟩ := Option.bind_eq_some_iff.1 h
  dsimp only at h
  obtain ⟨e1, he1⟩ : ∃ e1, e1 = (if e = 0 then et else e) := ⟨_, rfl⟩
  rw [← he1] at h
  have hc1 := blk_cell hb 1
  have hf1 := blk_frozen hb 1
  simp at hc1
  have HTK := Aside0.mk (vari_Take.calls k A c l v0 n et W (Kd.F_now hF) hc qt)
  have HE := Aside0.mk he1
  have HB := Aside0.mk hb
  have HF := Aside0.mk hF
  have HC := Aside0.mk hc
  have HG := Aside0.mk hg
  by_cases hz : e1 = 0
  · rw [if_pos hz] at h
    split at h
    · rename_i hn
      obtain ⟨m, rfl⟩ := Int.eq_ofNat_of_zero_le hn.1
      rw [Int.toNat_natCast] at h
      simp only [Option.some.injEq, Prod.mk.injEq] at h
      obtain ⟨rfl, rfl, hl2⟩ := h
      have hm : m ≤ l.length := by omega
      obtain ⟨i0, hi0, _, hsz, _⟩ := info_parts info5
      have hzl : l2.length = l.length - m := by rw [← hl2, List.length_drop]
      have hcut2 := cut_from (P := Try.prog) 28 5 .i64 Try.underlying28 hi0 1 hsz A l.length c (m : Int) (by omega) (by omega)
      rw [Int.toNat_natCast] at hcut2
      have hFz := Kd.F_cut (m := m) (c := c) hF hm hc
      obtain ⟨A2, hA2⟩ : ∃ A2 : Option Addr, A2 = (if c = m then A else A.map (·.add (m * 1))) := ⟨_, rfl⟩
      obtain ⟨c2, hc2⟩ : ∃ c2 : Nat, c2 = c - m := ⟨_, rfl⟩
      have hFz2 : Kd.F (Kd.int .u8) W P A2 l2.length l2 := by rw [hA2, ← hl2]; exact hFz
      rw [← hA2, ← hzl, ← hc2] at hcut2
      have HZ := Aside0.mk hFz2
      have HZ2 := Aside0.mk (show l2.length ≤ c2 by omega)
      have hz' := hz
      clear hFz hFz2 hzl hA2 hc2 hm hl2 hi0 hsz hn hl hb hc hF hg qt he1 hR
      go_enter Try.func23, Try.ntmps23
      go_wp2_with fail
      (with_reducible refine HTK.out.mono ?_)
      rintro en w1 ⟨rfl, ⟨nd, rfl⟩⟩
      go_wp2_with fail
      (with_reducible refine (fail_calls (W.drewN nd) g e et e1 _ (blk_drewN HB.out nd) HE.out).mono ?_)
      rintro en w2 ⟨rfl, hb2, hg2⟩
      have hbz : (e1 != 0) = false := by rw [hz]; rfl
      rw [hbz]
      have hk1 := blk_cell hb2 1
      have hm1 := blk_frozen hb2 1
      simp at hk1
      have HB2 := Aside0.mk hb2
      have HG2 := Aside0.mk ((grown_of_below (pw_below_drewN (Below.refl _ W) nd) (some g)).trans hg2)
      clear hb2 hg2
      go_wp2_with fail
      go_ret
      have hgf := HG2.out.trans (setCell_grownBy w2 g 1 (.slice A2 l2.length c2))
      refine ⟨rfl, ⟨A2, c2, ?_, HZ2.out, Kd.F_grown HZ.out hgf (fun k hk e => HG.out (by cases e; exact hk)), HG.out⟩, hgf⟩
      have := blk_put (cs := #[.int .i64 e1, .slice A l.length c]) HB2.out 1 (.slice A2 l2.length c2) rfl
      rw [hz] at this
      exact this
    · cases h
  · rw [if_neg hz] at h
    simp only [Option.some.injEq, Prod.mk.injEq] at h
    obtain ⟨rfl, rfl, rfl⟩ := h
    have hbz : (e1 != 0) = true := bne_iff_ne.mpr hz
    clear hl hb hc hF hg qt he1 hR hz
    go_enter Try.func23, Try.ntmps23
    go_wp2_with fail
    (with_reducible refine HTK.out.mono ?_)
    rintro en w1 ⟨rfl, ⟨nd, rfl⟩⟩
    go_wp2_with fail
    (with_reducible refine (fail_calls (W.drewN nd) g e et e1 _ (blk_drewN HB.out nd) HE.out).mono ?_)
    rintro en w2 ⟨rfl, hb2, hg2⟩
    rw [hbz]
    have HB2 := Aside0.mk hb2
    have HG2 := Aside0.mk ((grown_of_below (pw_below_drewN (Below.refl _ W) nd) (some g)).trans hg2)
    clear hb2 hg2
    go_wp2_with fail
    go_ret
    exact ⟨rfl, ⟨A, c, HB2.out, HC.out, Kd.F_grown HF.out HG2.out (fun k hk e => HG.out (by cases e; exact hk)), HG.out⟩, HG2.out⟩
theorem rdVari_len {k : Nat} {e v e2 : Int} {l l2 : List Int} (h : rdVari k e l = some (v, e2, l2)) : l2.length ≤ l.length := by
  unfold rdVari at h
  obtain ⟨⟨v0, n, et⟩, _, h⟩ := Option.bind_eq_some_iff.1 h
  dsimp only at h
  by_cases hz : (if e = 0 then et else e) = 0
  · rw [if_pos hz] at h
    by_cases hn : 0 ≤ n ∧ n ≤ (l.length : Int)
    · rw [if_pos hn] at h
      simp only [Option.some.injEq, Prod.mk.injEq] at h
      rw [← h.2.2, List.length_drop]
      omega
    · rw [if_neg hn] at h
      cases h
  · rw [if_neg hz] at h
    simp only [Option.some.injEq, Prod.mk.injEq] at h
    rw [h.2.2]
    exact Nat.le_refl _


/-! ### scan_Reader_Short: function 24, typed by hand -/
theorem short1_calls (k : Nat) (W : World) (g b : Nat) (P : Nat → Prop) (e v e2 : Int) (l l2 : List Int) (hR : RdAt W g P e l) (hl : l.length < 140737488355328) (hb : W.cell? ⟨b, 0, none⟩ = some (.pointer (some ⟨g, 0, none⟩))) (h : rdNum k e l 1 = some (v, e2, l2)) :
    Calls Try.prog 51 #[.pointer (some ⟨b, 0, none⟩)] W fun en W' => en = .returned (.int .u64 v) ∧ RdAt W' g P e2 l2 ∧ W.grownBy W' (some g) := by
  have HN := Aside0.mk (num_calls k W g P e 1 v e2 l l2 hR hl h)
  clear hR h hl
  go_enter Try.func51, Try.ntmps51
  go_wp2_with (go_at_call 21; (with_reducible refine HN.out.mono ?_); rintro en w1 ⟨rfl, hr1, hg1⟩)
  go_ret
  exact ⟨rfl, hr1, hg1⟩
/-- What a reader's Short tells. -/
def rdShort (k : Nat) (e : Int) (l : List Int) : Option (List Int × Int × List Int) := (rdNum k e l 1).bind fun n => if 0 ≤ n.1 then (if n.1 > (n.2.2.length : Int) then some ([], if n.2.1 = 0 then 12 else n.2.1, l) else if n.2.1 = 0 then some (n.2.2.take n.1.toNat, 0, n.2.2.drop n.1.toNat) else some ([], n.2.1, l)) else none
set_option maxRecDepth 100000 in
set_option maxHeartbeats 1000000 in
theorem counted_calls (k : Nat) (W : World) (g b : Nat) (P : Nat → Prop) (e e2 : Int) (l r l2 : List Int) (hR : RdAt W g P e l) (hl : l.length < 140737488355328) (hb : W.cell? ⟨b, 0, none⟩ = some (.pointer (some ⟨g, 0, none⟩))) (h : rdShort k e l = some (r, e2, l2)) :
    Calls Try.prog 50 #[.pointer (some ⟨g, 0, none⟩), .func (.func 51) #[] #[.pointer (some ⟨b, 0, none⟩)]] W fun en W' => ∃ v, en = .returned v ∧ Kd.R (Kd.int .u8) 5 W' W.heap.size (fun _ => True) v r ∧ RdAt W' g P e2 l2 ∧ W.grownBy W' (some g) := by
  unfold rdShort at h
  obtain ⟨⟨n, e1, l1⟩, hn, h⟩ := Option.bind_eq_some_iff.1 h
  dsimp only at h
  have HS := Aside0.mk (short1_calls k W g b P e n e1 l l1 hR hl hb hn)
  obtain ⟨A, c, hbk, hc, hF, hg⟩ := hR.opens
  have hc1 := blk_cell hbk 1
  simp at hc1
  have HLL := Aside0.mk hl
  have HF := Aside0.mk hF
  have HC := Aside0.mk hc
  have HG := Aside0.mk hg
  have hl1 : l1.length ≤ l.length := by
    unfold rdNum at hn
    split at hn
    · obtain ⟨_, _, h2⟩ := Option.bind_eq_some_iff.1 hn
      simp only [Option.some.injEq, Prod.mk.injEq] at h2
      rw [← h2.2.2, List.length_drop]; omega
    · simp only [Option.some.injEq, Prod.mk.injEq] at hn
      rw [hn.2.2]; exact Nat.le_refl _
  have hl1b : l1.length < 140737488355328 := by omega
  have HL1 := Aside0.mk hl1b
  clear hn hR hbk hF hc hg hl hb hl1
  by_cases h0 : 0 ≤ n
  · rw [if_pos h0] at h
    by_cases hq : n > (l1.length : Int)
    · rw [if_pos hq] at h
      obtain ⟨e3, he3⟩ : ∃ e3, e3 = (if e1 = 0 then 12 else e1) := ⟨_, rfl⟩
      rw [← he3] at h
      simp only [Option.some.injEq, Prod.mk.injEq] at h
      obtain ⟨rfl, rfl, rfl⟩ := h
      have hz : (e3 != 0) = true := bne_iff_ne.mpr (by rw [he3]; split <;> omega)
      have H3 := Aside0.mk hz
      have HE := Aside0.mk he3
      clear hz he3
      go_enter Try.func50, Try.ntmps50
      go_wp2_with (first | (go_at_call 51; (with_reducible refine HS.out.mono ?_); rintro en w1 ⟨rfl, hr1, hg1⟩; obtain ⟨A1, c1, hb1, hc1, hF1, hgg⟩ := hr1.opens; have hd0 := blk_cell hb1 0; have hd1 := blk_cell hb1 1; have hf1 := blk_frozen hb1 1; have hf0 := blk_frozen hb1 0; simp at hd0 hd1; have HR1 := Aside0.mk hr1; have HG1 := Aside0.mk hg1; have HB1 := Aside0.mk hb1; clear hr1 hg1 hb1 hF1 hc1 hgg) | (go_at_call 45; (with_reducible refine (fail_calls w1 g e1 12 e3 (.slice A1 l1.length c1) HB1.out HE.out).mono ?_); rintro en w2 ⟨rfl, hb2, hg2⟩; have hk0 := blk_cell hb2 0; have hk1 := blk_cell hb2 1; have hm1 := blk_frozen hb2 1; simp at hk0 hk1; rw [H3.out]; have hz := H3.out; have HB2 := Aside0.mk hb2; have HG2 := Aside0.mk (HG1.out.trans hg2); clear hb2 hg2))
      go_ret
      have hgf := HG2.out.trans (setCell_grownBy w2 g 1 (.slice A l.length c))
      exact ⟨_, rfl, Kd.R_nil _ _ _ _ _, ⟨A, c, blk_put (cs := #[.int .i64 e3, .slice A1 l1.length c1]) HB2.out 1 _ rfl, HC.out, Kd.F_grown HF.out hgf (fun k hk e => HG.out (by cases e; exact hk)), HG.out⟩, hgf⟩
    · rw [if_neg hq] at h
      by_cases hz : e1 = 0
      · rw [if_pos hz] at h
        simp only [Option.some.injEq, Prod.mk.injEq] at h
        obtain ⟨hy, rfl, hl2⟩ := h
        obtain ⟨m, rfl⟩ := Int.eq_ofNat_of_zero_le h0
        rw [Int.toNat_natCast] at hy hl2
        have HY := Aside0.mk hy.symm
        have HZ := Aside0.mk hl2.symm
        have HM := Aside0.mk (show m ≤ l1.length by omega)
        subst hz
        clear hy hl2
        go_enter Try.func50, Try.ntmps50
        go_wp2_with (first | (go_at_call 51; (with_reducible refine HS.out.mono ?_); rintro en w1 ⟨rfl, hr1, hg1⟩; obtain ⟨A1, c1, hb1, hc1, hF1, hgg⟩ := hr1.opens; have hd0 := blk_cell hb1 0; have hd1 := blk_cell hb1 1; have hf1 := blk_frozen hb1 1; have hf0 := blk_frozen hb1 0; simp at hd0 hd1; have HR1 := Aside0.mk hr1; have HG1 := Aside0.mk hg1; have HB1 := Aside0.mk hb1; clear hr1 hg1 hb1 hF1 hc1 hgg) | (go_at_call 48; (with_reducible refine (cut_calls w1 g m P 0 l1 r l2 HY.out HZ.out HR1.out HM.out HL1.out).mono ?_); rintro en w2 ⟨vr, rfl, hv, hr2, hg2⟩; have HV := Aside0.mk hv; have HR2 := Aside0.mk hr2; have HG2 := Aside0.mk (HG1.out.trans hg2); clear hv hr2 hg2))
        go_ret
        exact ⟨_, rfl, Kd.R_lower HV.out HG1.out.size, HR2.out, HG2.out⟩
      · rw [if_neg hz] at h
        simp only [Option.some.injEq, Prod.mk.injEq] at h
        obtain ⟨rfl, rfl, rfl⟩ := h
        have hz2 : (e1 != 0) = true := bne_iff_ne.mpr hz
        clear hz
        go_enter Try.func50, Try.ntmps50
        go_wp2_with (go_at_call 51; (with_reducible refine HS.out.mono ?_); rintro en w1 ⟨rfl, hr1, hg1⟩; obtain ⟨A1, c1, hb1, hc1, hF1, hgg⟩ := hr1.opens; have hd0 := blk_cell hb1 0; have hd1 := blk_cell hb1 1; have hf1 := blk_frozen hb1 1; have hf0 := blk_frozen hb1 0; simp at hd0 hd1; have HR1 := Aside0.mk hr1; have HG1 := Aside0.mk hg1; have HB1 := Aside0.mk hb1; clear hr1 hg1 hb1 hF1 hc1 hgg)
        go_ret
        have hgf := HG1.out.trans (setCell_grownBy w1 g 1 (.slice A l.length c))
        exact ⟨_, rfl, Kd.R_nil _ _ _ _ _, ⟨A, c, blk_put (cs := #[.int .i64 e1, .slice A1 l1.length c1]) HB1.out 1 _ rfl, HC.out, Kd.F_grown HF.out hgf (fun k hk e => HG.out (by cases e; exact hk)), HG.out⟩, hgf⟩
  · rw [if_neg h0] at h
    cases h
set_option maxRecDepth 100000 in
set_option maxHeartbeats 1000000 in
theorem short_calls (k : Nat) (W : World) (g : Nat) (P : Nat → Prop) (e e2 : Int) (l r l2 : List Int) (hR : RdAt W g P e l) (hl : l.length < 140737488355328) (h : rdShort k e l = some (r, e2, l2)) :
    Calls Try.prog 24 #[.pointer (some ⟨g, 0, none⟩)] W fun en W' => ∃ v, en = .returned v ∧ Kd.R (Kd.int .u8) 5 W' W.heap.size (fun _ => True) v r ∧ RdAt W' g P e2 l2 ∧ W.grownBy W' (some g) := by
  have hR1 := hR.below (below_alloc (Below.refl _ W) (.cells #[.pointer (some ⟨g, 0, none⟩)] 41))
  have HS := Aside0.mk (counted_calls k _ g W.heap.size P e e2 l r l2 hR1 hl (by simp [go_sem]) h)
  clear hR hR1 h hl
  go_enter Try.func24, Try.ntmps24
  go_wp2_with (go_at_call 50; (with_reducible refine HS.out.mono ?_); rintro en w1 ⟨v, rfl, hv, hr1, hg1⟩; have HV := Aside0.mk hv; have HR1 := Aside0.mk hr1; have HG1 := Aside0.mk hg1; clear hv hr1 hg1)
  go_ret
  exact ⟨_, rfl, Kd.R_lower HV.out (by simp), HR1.out, (World.grownBy_alloc W _ (some g)).trans HG1.out⟩
theorem rdShort_len {k : Nat} {e e2 : Int} {l r l2 : List Int} (h : rdShort k e l = some (r, e2, l2)) : l2.length ≤ l.length := by
  unfold rdShort at h
  obtain ⟨⟨n, e1, l1⟩, hn, h⟩ := Option.bind_eq_some_iff.1 h
  have := rdNum_len hn
  dsimp only at h
  split at h
  · split at h
    · simp only [Option.some.injEq, Prod.mk.injEq] at h
      rw [h.2.2]; exact Nat.le_refl _
    · split at h
      · simp only [Option.some.injEq, Prod.mk.injEq] at h
        rw [← h.2.2, List.length_drop]; omega
      · simp only [Option.some.injEq, Prod.mk.injEq] at h
        rw [h.2.2]; exact Nat.le_refl _
  · cases h


/-! ### scan_Reader_Long: function 25, typed by hand -/
/-- What a reader's Long tells. -/
def rdLong (k : Nat) (e : Int) (l : List Int) : Option (List Int × Int × List Int) := (rdVari k e l).bind fun n => if 0 ≤ n.1 then (if n.1 > (n.2.2.length : Int) then some ([], if n.2.1 = 0 then 12 else n.2.1, l) else if n.2.1 = 0 then some (n.2.2.take n.1.toNat, 0, n.2.2.drop n.1.toNat) else some ([], n.2.1, l)) else none
set_option maxRecDepth 100000 in
set_option maxHeartbeats 1000000 in
theorem countedV_calls (k : Nat) (W : World) (g : Nat) (P : Nat → Prop) (e e2 : Int) (l r l2 : List Int) (hR : RdAt W g P e l) (hl : l.length < 140737488355328)  (h : rdLong k e l = some (r, e2, l2)) :
    Calls Try.prog 50 #[.pointer (some ⟨g, 0, none⟩), .func (.func 23) #[.pointer (some ⟨g, 0, none⟩)] #[]] W fun en W' => ∃ v, en = .returned v ∧ Kd.R (Kd.int .u8) 5 W' W.heap.size (fun _ => True) v r ∧ RdAt W' g P e2 l2 ∧ W.grownBy W' (some g) := by
  unfold rdLong at h
  obtain ⟨⟨n, e1, l1⟩, hn, h⟩ := Option.bind_eq_some_iff.1 h
  dsimp only at h
  have HS := Aside0.mk (vari_calls k W g P e n e1 l l1 hR hl hn)
  obtain ⟨A, c, hbk, hc, hF, hg⟩ := hR.opens
  have hc1 := blk_cell hbk 1
  simp at hc1
  have HLL := Aside0.mk hl
  have HF := Aside0.mk hF
  have HC := Aside0.mk hc
  have HG := Aside0.mk hg
  have hl1 : l1.length ≤ l.length := rdVari_len hn
  have hl1b : l1.length < 140737488355328 := by omega
  have HL1 := Aside0.mk hl1b
  clear hn hR hbk hF hc hg hl hl1
  by_cases h0 : 0 ≤ n
  · rw [if_pos h0] at h
    by_cases hq : n > (l1.length : Int)
    · rw [if_pos hq] at h
      obtain ⟨e3, he3⟩ : ∃ e3, e3 = (if e1 = 0 then 12 else e1) := ⟨_, rfl⟩
      rw [← he3] at h
      simp only [Option.some.injEq, Prod.mk.injEq] at h
      obtain ⟨rfl, rfl, rfl⟩ := h
      have hz : (e3 != 0) = true := bne_iff_ne.mpr (by rw [he3]; split <;> omega)
      have H3 := Aside0.mk hz
      have HE := Aside0.mk he3
      clear hz he3
      go_enter Try.func50, Try.ntmps50
      go_wp2_with (first | (go_at_call 23; (with_reducible refine HS.out.mono ?_); rintro en w1 ⟨rfl, hr1, hg1⟩; obtain ⟨A1, c1, hb1, hc1, hF1, hgg⟩ := hr1.opens; have hd0 := blk_cell hb1 0; have hd1 := blk_cell hb1 1; have hf1 := blk_frozen hb1 1; have hf0 := blk_frozen hb1 0; simp at hd0 hd1; have HR1 := Aside0.mk hr1; have HG1 := Aside0.mk hg1; have HB1 := Aside0.mk hb1; clear hr1 hg1 hb1 hF1 hc1 hgg) | (go_at_call 45; (with_reducible refine (fail_calls w1 g e1 12 e3 (.slice A1 l1.length c1) HB1.out HE.out).mono ?_); rintro en w2 ⟨rfl, hb2, hg2⟩; have hk0 := blk_cell hb2 0; have hk1 := blk_cell hb2 1; have hm1 := blk_frozen hb2 1; simp at hk0 hk1; rw [H3.out]; have hz := H3.out; have HB2 := Aside0.mk hb2; have HG2 := Aside0.mk (HG1.out.trans hg2); clear hb2 hg2))
      go_ret
      have hgf := HG2.out.trans (setCell_grownBy w2 g 1 (.slice A l.length c))
      exact ⟨_, rfl, Kd.R_nil _ _ _ _ _, ⟨A, c, blk_put (cs := #[.int .i64 e3, .slice A1 l1.length c1]) HB2.out 1 _ rfl, HC.out, Kd.F_grown HF.out hgf (fun k hk e => HG.out (by cases e; exact hk)), HG.out⟩, hgf⟩
    · rw [if_neg hq] at h
      by_cases hz : e1 = 0
      · rw [if_pos hz] at h
        simp only [Option.some.injEq, Prod.mk.injEq] at h
        obtain ⟨hy, rfl, hl2⟩ := h
        obtain ⟨m, rfl⟩ := Int.eq_ofNat_of_zero_le h0
        rw [Int.toNat_natCast] at hy hl2
        have HY := Aside0.mk hy.symm
        have HZ := Aside0.mk hl2.symm
        have HM := Aside0.mk (show m ≤ l1.length by omega)
        subst hz
        clear hy hl2
        go_enter Try.func50, Try.ntmps50
        go_wp2_with (first | (go_at_call 23; (with_reducible refine HS.out.mono ?_); rintro en w1 ⟨rfl, hr1, hg1⟩; obtain ⟨A1, c1, hb1, hc1, hF1, hgg⟩ := hr1.opens; have hd0 := blk_cell hb1 0; have hd1 := blk_cell hb1 1; have hf1 := blk_frozen hb1 1; have hf0 := blk_frozen hb1 0; simp at hd0 hd1; have HR1 := Aside0.mk hr1; have HG1 := Aside0.mk hg1; have HB1 := Aside0.mk hb1; clear hr1 hg1 hb1 hF1 hc1 hgg) | (go_at_call 48; (with_reducible refine (cut_calls w1 g m P 0 l1 r l2 HY.out HZ.out HR1.out HM.out HL1.out).mono ?_); rintro en w2 ⟨vr, rfl, hv, hr2, hg2⟩; have HV := Aside0.mk hv; have HR2 := Aside0.mk hr2; have HG2 := Aside0.mk (HG1.out.trans hg2); clear hv hr2 hg2))
        go_ret
        exact ⟨_, rfl, Kd.R_lower HV.out HG1.out.size, HR2.out, HG2.out⟩
      · rw [if_neg hz] at h
        simp only [Option.some.injEq, Prod.mk.injEq] at h
        obtain ⟨rfl, rfl, rfl⟩ := h
        have hz2 : (e1 != 0) = true := bne_iff_ne.mpr hz
        clear hz
        go_enter Try.func50, Try.ntmps50
        go_wp2_with (go_at_call 23; (with_reducible refine HS.out.mono ?_); rintro en w1 ⟨rfl, hr1, hg1⟩; obtain ⟨A1, c1, hb1, hc1, hF1, hgg⟩ := hr1.opens; have hd0 := blk_cell hb1 0; have hd1 := blk_cell hb1 1; have hf1 := blk_frozen hb1 1; have hf0 := blk_frozen hb1 0; simp at hd0 hd1; have HR1 := Aside0.mk hr1; have HG1 := Aside0.mk hg1; have HB1 := Aside0.mk hb1; clear hr1 hg1 hb1 hF1 hc1 hgg)
        go_ret
        have hgf := HG1.out.trans (setCell_grownBy w1 g 1 (.slice A l.length c))
        exact ⟨_, rfl, Kd.R_nil _ _ _ _ _, ⟨A, c, blk_put (cs := #[.int .i64 e1, .slice A1 l1.length c1]) HB1.out 1 _ rfl, HC.out, Kd.F_grown HF.out hgf (fun k hk e => HG.out (by cases e; exact hk)), HG.out⟩, hgf⟩
  · rw [if_neg h0] at h
    cases h
set_option maxRecDepth 100000 in
set_option maxHeartbeats 1000000 in
theorem long_calls (k : Nat) (W : World) (g : Nat) (P : Nat → Prop) (e e2 : Int) (l r l2 : List Int) (hR : RdAt W g P e l) (hl : l.length < 140737488355328) (h : rdLong k e l = some (r, e2, l2)) :
    Calls Try.prog 25 #[.pointer (some ⟨g, 0, none⟩)] W fun en W' => ∃ v, en = .returned v ∧ Kd.R (Kd.int .u8) 5 W' W.heap.size (fun _ => True) v r ∧ RdAt W' g P e2 l2 ∧ W.grownBy W' (some g) := by
  have HS := Aside0.mk (countedV_calls k W g P e e2 l r l2 hR hl h)
  clear hR h hl
  go_enter Try.func25, Try.ntmps25
  go_wp2_with fail
  (with_reducible refine HS.out.mono ?_)
  rintro en w1 ⟨v, rfl, hv, hr1, hg1⟩
  have HV := Aside0.mk hv
  have HR1 := Aside0.mk hr1
  have HG1 := Aside0.mk hg1
  clear hv hr1 hg1
  go_wp2_with fail
  go_ret
  exact ⟨_, rfl, HV.out, HR1.out, HG1.out⟩
theorem rdLong_len {k : Nat} {e e2 : Int} {l r l2 : List Int} (h : rdLong k e l = some (r, e2, l2)) : l2.length ≤ l.length := by
  unfold rdLong at h
  obtain ⟨⟨n, e1, l1⟩, hn, h⟩ := Option.bind_eq_some_iff.1 h
  have := rdVari_len hn
  dsimp only at h
  split at h
  · split at h
    · simp only [Option.some.injEq, Prod.mk.injEq] at h
      rw [h.2.2]; exact Nat.le_refl _
    · split at h
      · simp only [Option.some.injEq, Prod.mk.injEq] at h
        rw [← h.2.2, List.length_drop]; omega
      · simp only [Option.some.injEq, Prod.mk.injEq] at h
        rw [h.2.2]; exact Nat.le_refl _
  · cases h


/-! ### scan_Reader_Rest: function 26, typed by hand -/
set_option maxRecDepth 100000 in
set_option maxHeartbeats 1000000 in
theorem rest_calls (W : World) (g : Nat) (P : Nat → Prop) (e e2 : Int) (l r l2 : List Int) (hR : RdAt W g P e l) (hl : l.length < 140737488355328) (h : rdBytes e l (l.length : Int) = (r, e2, l2)) :
    Calls Try.prog 26 #[.pointer (some ⟨g, 0, none⟩)] W fun en W' => ∃ v, en = .returned v ∧ Kd.R (Kd.int .u8) 5 W' W.heap.size (fun _ => True) v r ∧ RdAt W' g P e2 l2 ∧ W.grownBy W' (some g) := by
  have HS := Aside0.mk (bytes_calls W g P e (l.length : Int) e2 l r l2 hR hl h)
  obtain ⟨A, c, hb, _, _, _⟩ := hR.opens
  have hc1 := blk_cell hb 1
  simp at hc1
  clear hR hb h hl
  go_enter Try.func26, Try.ntmps26
  go_wp2_with (go_at_call 22; (with_reducible refine HS.out.mono ?_); rintro en w1 ⟨v, rfl, hv, hr1, hg1⟩; have HV := Aside0.mk hv; have HR1 := Aside0.mk hr1; have HG1 := Aside0.mk hg1; clear hv hr1 hg1)
  go_ret
  exact ⟨_, rfl, HV.out, HR1.out, HG1.out⟩


end Go.Proofs.Ytmhmmmkpijbbiaa.M
