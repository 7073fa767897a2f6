/- Contracts of the Go functions that the laws reach, each as a plain Lean function: written by xprint.py, a program of this repo. -/
import Derived.Test.YtnmhnihhlakinacM0
import Derived.Test.YtnmhnihhlakinacM1
import Derived.Test.YtnmhnihhlakinacM4
import Derived.Test.YtnmhnihhlakinacM5
namespace Go.Proofs.Ytnmhnihhlakinac.M
open Go.RowKit Go.Proofs.YtnmhnihhlakinacW.PrintWords Go.Proofs.YtnmhnihhlakinacW.PrintLast Go.Proofs.YtnmhnihhlakinacW.PrintMore Go.Proofs.Ytnmhnihhlakinac.X
attribute [local go_sem] max2_int min2_int max_two min_two max_three min_three max_four min_four   -- for this text's walks alone
set_option linter.unusedVariables false
set_option linter.unusedSimpArgs false

/-! ### offer_Parse: function 15, typed by hand -/
theorem left_calls (W : World) (g : Nat) (P : Nat → Prop) (e : Int) (l : List Int) (hR : RdAt W g P e l) :
    Calls Try.prog 31 #[.pointer (some ⟨g, 0, none⟩)] W fun en W' => en = .returned (.int .i64 (l.length : Int)) ∧ W' = W := by
  obtain ⟨A, c, hb, _, _, _⟩ := hR.opens
  have hc1 := blk_cell hb 1
  simp at hc1
  clear hb
  go_enter Try.func31, Try.ntmps31
  go_wp2
  go_ret
  exact ⟨rfl, rfl⟩
theorem RdAt.grown {W W' : World} {g : Nat} {P : Nat → Prop} {e : Int} {l : List Int} {row : Option Nat} (h : RdAt W g P e l) (hg : W.grownBy W' row) (h1 : row ≠ some g) (h2 : ∀ k, P k → row ≠ some k) : RdAt W' g P e l := by
  obtain ⟨A, c, hb, hc, hF, hn⟩ := h.opens
  exact ⟨A, c, blk_grown hb hg (fun e => h1 e.symm), hc, Kd.F_grown hF hg (fun k hk e => h2 k hk e.symm), hn⟩
/-- Numbers of four bytes, read till nothing is left. -/
def rdVers (k : Nat) : Nat → Int → List Int → List Int → Option (List Int)
  | 0, _, l, acc => if l.length = 0 then some acc else none
  | n + 1, e, l, acc => if l.length = 0 then some acc else if acc.length < 35184372088832 then (rdNum k e l 4).bind fun q => rdVers k n q.2.1 q.2.2 (acc ++ [q.1 % 4294967296]) else none
theorem rowIn_below {W W' : World} {B B' : Nat} {v : Value} {l : List Int} (h : RowIn W B B' v l) (hb : Below W.heap.size W W') : RowIn W' B B' v l := Kd.R_grown h (grown_of_below hb none) (fun k hk e => by cases e)
theorem offend_blk {W : World} {g : Nat} (hT : W.heap[g]? = some (.cells #[.int .u8 0, .int .u32 0, .slice none 0 0, .slice none 0 0] 37 (0, 0))) :
    ((((W.setCell ⟨g, 0, none⟩ (.int .u8 0)).setCell ⟨g, 1, none⟩ (.int .u32 0)).setCell ⟨g, 2, none⟩ (.slice none 0 0)).setCell ⟨g, 3, none⟩ (.slice none 0 0)).heap[g]? = some (.cells #[.int .u8 0, .int .u32 0, .slice none 0 0, .slice none 0 0] 37 (0, 0)) :=
  blk_put (cs := #[.int .u8 0, .int .u32 0, .slice none 0 0, .slice none 0 0]) (blk_put (cs := #[.int .u8 0, .int .u32 0, .slice none 0 0, .slice none 0 0]) (blk_put (cs := #[.int .u8 0, .int .u32 0, .slice none 0 0, .slice none 0 0]) (blk_put (cs := #[.int .u8 0, .int .u32 0, .slice none 0 0, .slice none 0 0]) hT 0 _ rfl) 1 _ rfl) 2 _ rfl) 3 _ rfl
theorem offend_below {w W : World} {g : Nat} (hB : Below w.heap.size w W) (hg : w.heap.size ≤ g) (x0 x1 x2 x3 : Value) : Below w.heap.size w ((((W.setCell ⟨g, 0, none⟩ x0).setCell ⟨g, 1, none⟩ x1).setCell ⟨g, 2, none⟩ x2).setCell ⟨g, 3, none⟩ x3) :=
  (((hB.setCell (p := ⟨g, 0, none⟩) hg _).setCell (p := ⟨g, 1, none⟩) hg _).setCell (p := ⟨g, 2, none⟩) hg _).setCell (p := ⟨g, 3, none⟩) hg _
theorem R_far {kd : IntKind} {t : TypeId} {W : World} {B : Nat} {ok : Nat → Prop} {v : Value} {l : List Int} (h : Kd.R (Kd.int kd) t W B ok v l) {p : Addr} (hp : p.block < B) (u : Value) : Kd.R (Kd.int kd) t (W.setCell p u) B ok v l :=
  Kd.R_mono (Kd.R_grown (Kd.R_bound h) (row := some p.block) (by
    refine ⟨rfl, rfl, rfl, by simp, fun k _ hk => Below.heap_setCell W p u k (fun e => hk (by rw [e]))⟩) (fun k hk e => by cases e; have := hk.2.1; omega)) (fun k hk => hk.1)
set_option maxRecDepth 100000 in
set_option maxHeartbeats 4000000 in
theorem offparse_straight (k : Nat) (A0 : Option Addr) (c0 : Nat) (l0 x y l out : List Int) (a : Int) (w : World) (hr0 : Kd.C (Kd.int .u8) w A0 l0.length l0) (hc0 : l0.length ≤ c0) (qp : head_Parse.f k l0 = some (a, 0, x, y, l, 0)) (hl0 : 0 < l.length) (hl4 : l.length % 4 = 0) (hl : l.length < 140737488355328) (qv : rdVers k l.length 0 l [] = some out) :
    Calls Try.prog 15 #[.slice A0 l0.length c0] w fun e w' => ∃ v2_ v3_ v4_ : Value, e = .returned (.tuple #[.agg #[.int .u8 a, .int .u32 0, v2_, v3_], v4_, .int .i64 0]) ∧ Kd.R (Kd.int .u8) 5 w' w.heap.size (fun k_ => some k_ ≠ (v3_ : Value).ownBlock) v2_ x ∧ Kd.R (Kd.int .u8) 5 w' w.heap.size (fun k_ => some k_ ≠ (v2_ : Value).ownBlock) v3_ y ∧ Kd.R (Kd.int .u32) 34 w' w.heap.size (fun _ => True) v4_ out ∧ Below w.heap.size w w' := by
  have HR0 := Aside0.mk hr0
  have HC0 := Aside0.mk hc0
  have QP := Aside0.mk qp
  have QV := Aside0.mk qv
  have HL := Aside0.mk hl
  have g1 : ((l.length : Int) == 0) = false := beq_eq_false_iff_ne.mpr (by omega)
  have g2 : (l.length : Int) % 4 = 0 := by omega
  have g3 : Int.tmod (l.length : Int) 4 = 0 := by rw [Int.tmod_eq_emod_of_nonneg (by omega)]; exact g2
  obtain ⟨n, hn⟩ : ∃ n : Nat, n = l.length := ⟨_, rfl⟩
  have HN := Aside0.mk hn
  rw [← hn] at g1 g2 g3
  clear hr0 hc0 qp qv hl hl0 hl4 hn
  go_enter Try.func15, Try.ntmps15
  go_wp2_with fail
  (with_reducible refine (head_Parse.calls k _ _ _ _ _ _ _ _ _ _ (Kd.C_alloc HR0.out _) HC0.out QP.out).mono ?_)
  rintro en w1 ⟨v1, v2, v3, rfl, hv1, hv2, hv3, hb1⟩
  obtain ⟨B1, d1, rfl, _, _⟩ := row_at hv1
  obtain ⟨B2, d2, rfl, _, _⟩ := row_at hv2
  obtain ⟨B3, d3, rfl, hd3, hC3⟩ := row_at hv3
  have HT1 := Aside0.mk (blk_below (heap_alloc_new w (.cells #[.int .u8 0, .int .u32 0, .slice none 0 0, .slice none 0 0] 37)) hb1)
  have HV1 := Aside0.mk hv1
  have HV2 := Aside0.mk hv2
  have HC3 := Aside0.mk hC3
  have HD3 := Aside0.mk (show l.length ≤ d3 from hd3)
  have HB1 := Aside0.mk ((below_alloc (Below.refl _ w) (.cells #[.int .u8 0, .int .u32 0, .slice none 0 0, .slice none 0 0] 37)).trans (hb1.mono (by simp)))
  have HS1 := Aside0.mk hb1.size
  clear hv1 hv2 hv3 hd3 hC3 hb1
  rw [← HN.out]
  go_wp2_with fail
  have hH2 := heap_alloc_new w1 (.cells #[.int .u8 a, .int .u32 0, .slice B1 x.length d1, .slice B2 y.length d2] 37)
  have hB2 := below_alloc HB1.out (.cells #[.int .u8 a, .int .u32 0, .slice B1 x.length d1, .slice B2 y.length d2] 37)
  have hT2 := blk_alloc HT1.out (.cells #[.int .u8 a, .int .u32 0, .slice B1 x.length d1, .slice B2 y.length d2] 37)
  have hV1 := Kd.R_alloc HV1.out (.cells #[.int .u8 a, .int .u32 0, .slice B1 x.length d1, .slice B2 y.length d2] 37)
  have hV2 := Kd.R_alloc HV2.out (.cells #[.int .u8 a, .int .u32 0, .slice B1 x.length d1, .slice B2 y.length d2] 37)
  have hC2 := Kd.C_alloc HC3.out (.cells #[.int .u8 a, .int .u32 0, .slice B1 x.length d1, .slice B2 y.length d2] 37)
  have hs2 : (w1.alloc (.cells #[.int .u8 a, .int .u32 0, .slice B1 x.length d1, .slice B2 y.length d2] 37)).heap.size = w1.heap.size + 1 := by simp
  generalize w1.alloc (.cells #[.int .u8 a, .int .u32 0, .slice B1 x.length d1, .slice B2 y.length d2] 37) = w2 at hH2 hB2 hT2 hV1 hV2 hC2 hs2 ⊢
  obtain ⟨gh, hgh⟩ : ∃ gh, gh = w1.heap.size := ⟨_, rfl⟩
  rw [← hgh] at hH2 hs2 ⊢
  have HLT := Aside0.mk (show w.heap.size < gh by have := HS1.out; simp at this; omega)
  have HH2 := Aside0.mk hH2
  have HB2 := Aside0.mk hB2
  have HT2 := Aside0.mk hT2
  have HV12 := Aside0.mk hV1
  have HV22 := Aside0.mk hV2
  have HC2 := Aside0.mk hC2
  have HS2 := Aside0.mk hs2
  clear hH2 hB2 hT2 hV1 hV2 hC2 hs2 hgh HS1 HT1 HB1 HV1 HV2 HC3
  (with_reducible refine (read_calls _ _ _ _).mono ?_)
  rintro en w3 ⟨rfl, hw3⟩
  rw [HN.out] at hw3
  obtain ⟨g, hg⟩ : ∃ g, g = w2.heap.size := ⟨_, rfl⟩
  have hR3 : RdAt w3 g (fun k => k < g) 0 l := by rw [hw3, hg]; exact read_at HC2.out HD3.out
  have hB3 : Below g w2 w3 := by rw [hw3, hg]; exact below_alloc (Below.refl _ _) _
  rw [← hg]
  have HR3 := Aside0.mk hR3
  have HB3 := Aside0.mk hB3
  have HG := Aside0.mk hg
  have HLI := Aside0.mk (show l.length ≤ l.length from Nat.le_refl _)
  clear hw3 hR3 hB3 hg
  go_wp2_with fail
  go_loopg [8] n (fun kq v8 wr => ∃ (e : Int) (m acc : List Int), Aside0 (rdVers k kq e m acc = some out) ∧ Aside0 (m.length ≤ l.length) ∧ Aside0 (RdAt wr g (fun k => k < g) e m) ∧ Aside0 (Kd.R (Kd.int .u32) 34 wr g (fun k => k ≠ g) v8 acc) ∧ Aside0 (Below g w2 wr))
  case atStart => exact ⟨0, l, [], by rw [HN.out]; exact QV, HLI, HR3, ⟨Kd.R_nil _ _ _ _ _⟩, HB3⟩
  case round =>
    obtain ⟨e, m, acc, HQ, HM, HR, HO, HB⟩ := hrel
    clear HR3 HB3 QV
    by_cases hm : m.length = 0
    · have hout : acc = out := by
        have := HQ.out
        cases gk with
        | zero => rw [rdVers, if_pos hm] at this; exact Option.some.inj this
        | succ j => rw [rdVers, if_pos hm] at this; exact Option.some.inj this
      subst hout
      have hlc := left_calls wr g _ e m HR.out
      rw [hm] at hlc
      have HLC := Aside0.mk hlc
      clear hm hlc HQ
      go_wp2_with fail
      (with_reducible refine HLC.out.mono ?_)
      rintro en w4 ⟨rfl, rfl⟩
      have hH := blk_below HH2.out (by rw [← HG.out]; exact HB.out)
      have hT := blk_below HT2.out (by rw [← HG.out]; exact HB.out)
      have ht0 := blk_cell hT 0
      have ht1 := blk_cell hT 1
      have ht2 := blk_cell hT 2
      have ht3 := blk_cell hT 3
      have hu0 := blk_frozen hT 0
      have hu1 := blk_frozen hT 1
      have hu2 := blk_frozen hT 2
      have hu3 := blk_frozen hT 3
      have hh0 := blk_cell hH 0
      have hh1 := blk_cell hH 1
      have hh2 := blk_cell hH 2
      have hh3 := blk_cell hH 3
      simp at ht0 ht1 ht2 ht3 hh0 hh1 hh2 hh3
      have HT := Aside0.mk hT
      clear hT hH
      go_wp2_with fail
      have hlt := HLT.out
      have hs2 := HS2.out
      have hgg := HG.out
      have hs0 : (w.alloc (.cells #[.int .u8 0, .int .u32 0, .slice none 0 0, .slice none 0 0] 37)).heap.size = w.heap.size + 1 := by simp
      have hbw := HB.out
      rw [hgg] at hbw
      have hv1 := Kd.R_below HV12.out hbw
      have hv2 := Kd.R_below HV22.out hbw
      rw [hs0] at hv1 hv2
      refine bodyPost_ret (results_ctt rfl _ _ w.heap.size 37 #[.int .u8 a, .int .u32 0, .slice B1 x.length d1, .slice B2 y.length d2] (0, 0) _ rfl (blk_put (cs := #[.int .u8 a, .int .u32 0, .slice B1 x.length d1, .slice none 0 0]) (blk_put (cs := #[.int .u8 a, .int .u32 0, .slice none 0 0, .slice none 0 0]) (blk_put (cs := #[.int .u8 a, .int .u32 0, .slice none 0 0, .slice none 0 0]) (blk_put (cs := #[.int .u8 0, .int .u32 0, .slice none 0 0, .slice none 0 0]) HT.out 0 _ rfl) 1 _ rfl) 2 _ rfl) 3 _ rfl) Try.underlying37 rfl (by kernel_rfl)) rfl ?_
      have q1 := R_far (R_far (R_far (R_far hv1 (p := ⟨w.heap.size, 0, none⟩) (Nat.lt_succ_self _) (.int .u8 a)) (p := ⟨w.heap.size, 1, none⟩) (Nat.lt_succ_self _) (.int .u32 0)) (p := ⟨w.heap.size, 2, none⟩) (Nat.lt_succ_self _) (.slice B1 x.length d1)) (p := ⟨w.heap.size, 3, none⟩) (Nat.lt_succ_self _) (.slice B2 y.length d2)
      have q2 := R_far (R_far (R_far (R_far hv2 (p := ⟨w.heap.size, 0, none⟩) (Nat.lt_succ_self _) (.int .u8 a)) (p := ⟨w.heap.size, 1, none⟩) (Nat.lt_succ_self _) (.int .u32 0)) (p := ⟨w.heap.size, 2, none⟩) (Nat.lt_succ_self _) (.slice B1 x.length d1)) (p := ⟨w.heap.size, 3, none⟩) (Nat.lt_succ_self _) (.slice B2 y.length d2)
      have hwg : w.heap.size < g := by omega
      have q3 := R_far (R_far (R_far (R_far HO.out (p := ⟨w.heap.size, 0, none⟩) hwg (.int .u8 a)) (p := ⟨w.heap.size, 1, none⟩) hwg (.int .u32 0)) (p := ⟨w.heap.size, 2, none⟩) hwg (.slice B1 x.length d1)) (p := ⟨w.heap.size, 3, none⟩) hwg (.slice B2 y.length d2)
      exact ⟨.slice B1 x.length d1, .slice B2 y.length d2, _, rfl, Kd.R_lower (Kd.R_mono q1 (fun k hk => hk.1)) (Nat.le_succ _), Kd.R_lower (Kd.R_mono q2 (fun k hk => hk.1)) (Nat.le_succ _), Kd.R_lower (Kd.R_mono q3 (fun _ _ => trivial)) (by omega), offend_below (HB2.out.trans (hbw.mono HB2.out.size)) (Nat.le_refl _) _ _ _ _⟩
    · obtain ⟨j, hj⟩ : ∃ j, gk = j + 1 := by
        cases gk with
        | zero => have := HQ.out; rw [rdVers, if_neg hm] at this; cases this
        | succ j => exact ⟨j, rfl⟩
      subst hj
      have hq := HQ.out
      rw [rdVers, if_neg hm] at hq
      by_cases hacc : acc.length < 35184372088832
      · rw [if_pos hacc] at hq
        obtain ⟨⟨v, e2, m2⟩, q1, q2⟩ := Option.bind_eq_some_iff.1 hq
        dsimp only at q2
        have hlen := rdNum_len q1
        have HLC := Aside0.mk (left_calls wr g _ e m HR.out)
        have HM2 := Aside0.mk (show m2.length ≤ l.length by have := HM.out; omega)
        have HML := Aside0.mk (show m.length < 140737488355328 by have := HM.out; have := HL.out; omega)
        have Q1 := Aside0.mk q1
        have Q2 := Aside0.mk q2
        have HACC := Aside0.mk hacc
        obtain ⟨i, hi⟩ : ∃ i : Nat, i = m.length := ⟨_, rfl⟩
        rw [← hi] at HLC
        have hc : decide (0 < i) = true := decide_eq_true (by omega)
        clear hm hq hacc q1 q2 hlen hi HQ HM
        go_wp2_with fail
        (with_reducible refine HLC.out.mono ?_)
        rintro en w4 ⟨rfl, rfl⟩
        go_wp2_with fail
        (with_reducible refine (num_calls k _ _ _ _ _ _ _ _ _ HR.out HML.out Q1.out).mono ?_)
        rintro en w5 ⟨rfl, hr5, hg5⟩
        have HR5 := Aside0.mk hr5
        have HO5 := Aside0.mk (Kd.R_grown HO.out hg5 (fun k hk e => hk (by cases e; rfl)))
        have HB5 := Aside0.mk (HB.out.grown hg5 (by rw [HG.out]; exact HB.out.size) (fun k e => by cases e; exact Nat.le_refl _))
        have HS5 := Aside0.mk (show g < w5.heap.size from blk_lt (HR5.out.opens.choose_spec.choose_spec.1))
        clear hr5 hg5
        go_wp2_with (first | ((with_reducible refine gate_builtin (b := .append) (xs := #[.tmp 42, .tmp 46]) rfl ?_); at_builtin; refine Kd.R_append (Kd.int .u32) (w0 := w2) g rfl (.tmp 42) (.tmp 46) 23 34 (.int .u32 0) 4 rfl Try.underlying23 info34 rfl (by decide) (by omega) _ acc (v % 4294967296) [.int .u32 (v % 4294967296)] (fun k => k ≠ g) (fun _ => False) rfl rfl ?aP (fun _ hk => hk.elim) ?aF HO5.out HB5.out (Nat.le_of_lt HS5.out) ?aL ?_; (case aP => exact rfl); (case aF => exact (fun k hk e => by have := HS5.out; omega)); (case aL => have := HACC.out; omega); intro v7 w7 ho hb hg hat; have HO7 := Aside0.mk ho; have HB7 := Aside0.mk hb; have HG7 := Aside0.mk hg; clear ho hb hg hat))
        go_roundg j
        case measure => exact Nat.lt_succ_self j
        case rel =>
          have hown := HO5.out.1
          exact ⟨e2, m2, acc ++ [v % 4294967296], Q2, HM2, ⟨HR5.out.grown HG7.out (fun e => hown g e rfl) (fun k hk e => by have := Kd.R_base HO5.out k e; omega)⟩, HO7, HB7⟩
      · rw [if_neg hacc] at hq
        cases hq
set_option maxRecDepth 100000 in
set_option maxHeartbeats 4000000 in
theorem offparse_err (k : Nat) (A0 : Option Addr) (c0 : Nat) (l0 x y l : List Int) (a b eh r : Int) (w : World) (hr0 : Kd.C (Kd.int .u8) w A0 l0.length l0) (hc0 : l0.length ≤ c0) (qp : head_Parse.f k l0 = some (a, b, x, y, l, eh)) (h : (eh ≠ 0 ∧ r = eh) ∨ (eh = 0 ∧ b ≠ 0 ∧ r = 14) ∨ (eh = 0 ∧ b = 0 ∧ (l.length = 0 ∨ l.length % 4 ≠ 0) ∧ r = 10)) :
    Calls Try.prog 15 #[.slice A0 l0.length c0] w fun e w' => e = .returned (.tuple #[.agg #[.int .u8 0, .int .u32 0, .slice none 0 0, .slice none 0 0], .slice none 0 0, .int .i64 r]) ∧ Below w.heap.size w w' := by
  have HR0 := Aside0.mk hr0
  have HC0 := Aside0.mk hc0
  have QP := Aside0.mk qp
  clear hr0 hc0 qp
  rcases h with ⟨h1, rfl⟩ | ⟨rfl, h1, rfl⟩ | ⟨rfl, rfl, h1, rfl⟩
  · have g0 : (r != 0) = true := bne_iff_ne.mpr h1
    clear h1
    go_enter Try.func15, Try.ntmps15
    go_wp2_with fail
    (with_reducible refine (head_Parse.calls k _ _ _ _ _ _ _ _ _ _ (Kd.C_alloc HR0.out _) HC0.out QP.out).mono ?_)
    rintro en w1 ⟨v1, v2, v3, rfl, hv1, hv2, hv3, hb1⟩
    obtain ⟨B1, d1, rfl, _, _⟩ := row_at hv1
    obtain ⟨B2, d2, rfl, _, _⟩ := row_at hv2
    obtain ⟨B3, d3, rfl, _, _⟩ := row_at hv3
    have hT := blk_below (heap_alloc_new w (.cells #[.int .u8 0, .int .u32 0, .slice none 0 0, .slice none 0 0] 37)) hb1
    have hB := (below_alloc (Below.refl _ w) (.cells #[.int .u8 0, .int .u32 0, .slice none 0 0, .slice none 0 0] 37)).trans (hb1.mono (by simp))
    have hT2 := blk_alloc hT (.cells #[.int .u8 a, .int .u32 b, .slice B1 x.length d1, .slice B2 y.length d2] 37)
    have hB2 := below_alloc hB (.cells #[.int .u8 a, .int .u32 b, .slice B1 x.length d1, .slice B2 y.length d2] 37)
    have ht0 := (blk_cell hT2 0).trans rfl
    have ht1 := (blk_cell hT2 1).trans rfl
    have ht2 := (blk_cell hT2 2).trans rfl
    have ht3 := (blk_cell hT2 3).trans rfl
    have hu0 := blk_frozen hT2 0
    have hu1 := blk_frozen hT2 1
    have hu2 := blk_frozen hT2 2
    have hu3 := blk_frozen hT2 3
    have HT2 := Aside0.mk hT2
    have HB2 := Aside0.mk hB2
    clear hv1 hv2 hv3 hb1 hT hB hT2 hB2
    skip
    go_wp2_with fail
    have hT2 := HT2.out
    have hB2 := HB2.out
    clear HT2 HB2 ht0 ht1 ht2 ht3 hu0 hu1 hu2 hu3
    generalize w1.alloc (.cells #[.int .u8 a, .int .u32 b, .slice B1 x.length d1, .slice B2 y.length d2] 37) = w2 at hT2 hB2 ⊢
    refine bodyPost_ret (results_ctt rfl _ _ w.heap.size 37 #[.int .u8 0, .int .u32 0, .slice none 0 0, .slice none 0 0] (0, 0) _ rfl (offend_blk hT2) Try.underlying37 rfl (by kernel_rfl)) rfl ?_
    exact ⟨rfl, offend_below hB2 (Nat.le_refl _) _ _ _ _⟩
  · have g0 : (b != 0) = true := bne_iff_ne.mpr h1
    clear h1
    go_enter Try.func15, Try.ntmps15
    go_wp2_with fail
    (with_reducible refine (head_Parse.calls k _ _ _ _ _ _ _ _ _ _ (Kd.C_alloc HR0.out _) HC0.out QP.out).mono ?_)
    rintro en w1 ⟨v1, v2, v3, rfl, hv1, hv2, hv3, hb1⟩
    obtain ⟨B1, d1, rfl, _, _⟩ := row_at hv1
    obtain ⟨B2, d2, rfl, _, _⟩ := row_at hv2
    obtain ⟨B3, d3, rfl, _, _⟩ := row_at hv3
    have hT := blk_below (heap_alloc_new w (.cells #[.int .u8 0, .int .u32 0, .slice none 0 0, .slice none 0 0] 37)) hb1
    have hB := (below_alloc (Below.refl _ w) (.cells #[.int .u8 0, .int .u32 0, .slice none 0 0, .slice none 0 0] 37)).trans (hb1.mono (by simp))
    have hT2 := blk_alloc hT (.cells #[.int .u8 a, .int .u32 b, .slice B1 x.length d1, .slice B2 y.length d2] 37)
    have hB2 := below_alloc hB (.cells #[.int .u8 a, .int .u32 b, .slice B1 x.length d1, .slice B2 y.length d2] 37)
    have ht0 := (blk_cell hT2 0).trans rfl
    have ht1 := (blk_cell hT2 1).trans rfl
    have ht2 := (blk_cell hT2 2).trans rfl
    have ht3 := (blk_cell hT2 3).trans rfl
    have hu0 := blk_frozen hT2 0
    have hu1 := blk_frozen hT2 1
    have hu2 := blk_frozen hT2 2
    have hu3 := blk_frozen hT2 3
    have HT2 := Aside0.mk hT2
    have HB2 := Aside0.mk hB2
    clear hv1 hv2 hv3 hb1 hT hB hT2 hB2
    skip
    go_wp2_with fail
    have hT2 := HT2.out
    have hB2 := HB2.out
    clear HT2 HB2 ht0 ht1 ht2 ht3 hu0 hu1 hu2 hu3
    generalize w1.alloc (.cells #[.int .u8 a, .int .u32 b, .slice B1 x.length d1, .slice B2 y.length d2] 37) = w2 at hT2 hB2 ⊢
    refine bodyPost_ret (results_ctt rfl _ _ w.heap.size 37 #[.int .u8 0, .int .u32 0, .slice none 0 0, .slice none 0 0] (0, 0) _ rfl (offend_blk hT2) Try.underlying37 rfl (by kernel_rfl)) rfl ?_
    exact ⟨rfl, offend_below hB2 (Nat.le_refl _) _ _ _ _⟩
  · obtain ⟨n, hn⟩ : ∃ n : Nat, n = l.length := ⟨_, rfl⟩
    have HN := Aside0.mk hn
    rw [← hn] at h1
    clear hn
    by_cases h0 : n = 0
    · have HZ := Aside0.mk (show l.length = 0 by rw [← HN.out]; exact h0)
      clear h0 h1 HN
      go_enter Try.func15, Try.ntmps15
      go_wp2_with fail
      (with_reducible refine (head_Parse.calls k _ _ _ _ _ _ _ _ _ _ (Kd.C_alloc HR0.out _) HC0.out QP.out).mono ?_)
      rintro en w1 ⟨v1, v2, v3, rfl, hv1, hv2, hv3, hb1⟩
      obtain ⟨B1, d1, rfl, _, _⟩ := row_at hv1
      obtain ⟨B2, d2, rfl, _, _⟩ := row_at hv2
      obtain ⟨B3, d3, rfl, _, _⟩ := row_at hv3
      have hT := blk_below (heap_alloc_new w (.cells #[.int .u8 0, .int .u32 0, .slice none 0 0, .slice none 0 0] 37)) hb1
      have hB := (below_alloc (Below.refl _ w) (.cells #[.int .u8 0, .int .u32 0, .slice none 0 0, .slice none 0 0] 37)).trans (hb1.mono (by simp))
      have hT2 := blk_alloc hT (.cells #[.int .u8 a, .int .u32 0, .slice B1 x.length d1, .slice B2 y.length d2] 37)
      have hB2 := below_alloc hB (.cells #[.int .u8 a, .int .u32 0, .slice B1 x.length d1, .slice B2 y.length d2] 37)
      have ht0 := (blk_cell hT2 0).trans rfl
      have ht1 := (blk_cell hT2 1).trans rfl
      have ht2 := (blk_cell hT2 2).trans rfl
      have ht3 := (blk_cell hT2 3).trans rfl
      have hu0 := blk_frozen hT2 0
      have hu1 := blk_frozen hT2 1
      have hu2 := blk_frozen hT2 2
      have hu3 := blk_frozen hT2 3
      have HT2 := Aside0.mk hT2
      have HB2 := Aside0.mk hB2
      clear hv1 hv2 hv3 hb1 hT hB hT2 hB2
      rw [HZ.out]
      go_wp2_with fail
      have hT2 := HT2.out
      have hB2 := HB2.out
      clear HT2 HB2 ht0 ht1 ht2 ht3 hu0 hu1 hu2 hu3
      generalize w1.alloc (.cells #[.int .u8 a, .int .u32 0, .slice B1 x.length d1, .slice B2 y.length d2] 37) = w2 at hT2 hB2 ⊢
      refine bodyPost_ret (results_ctt rfl _ _ w.heap.size 37 #[.int .u8 0, .int .u32 0, .slice none 0 0, .slice none 0 0] (0, 0) _ rfl (offend_blk hT2) Try.underlying37 rfl (by kernel_rfl)) rfl ?_
      exact ⟨rfl, offend_below hB2 (Nat.le_refl _) _ _ _ _⟩
    · have g1 : ((n : Int) == 0) = false := beq_eq_false_iff_ne.mpr (by omega)
      have g3 : (Int.tmod (n : Int) 4 != 0) = true := bne_iff_ne.mpr (by rw [Int.tmod_eq_emod_of_nonneg (by omega)]; omega)
      have g4 : ((n : Int) % 4 != 0) = true := bne_iff_ne.mpr (by omega)
      have g5 : ¬ ((n : Int) % 4 = 0) := by omega
      clear h0 h1
      go_enter Try.func15, Try.ntmps15
      go_wp2_with fail
      (with_reducible refine (head_Parse.calls k _ _ _ _ _ _ _ _ _ _ (Kd.C_alloc HR0.out _) HC0.out QP.out).mono ?_)
      rintro en w1 ⟨v1, v2, v3, rfl, hv1, hv2, hv3, hb1⟩
      obtain ⟨B1, d1, rfl, _, _⟩ := row_at hv1
      obtain ⟨B2, d2, rfl, _, _⟩ := row_at hv2
      obtain ⟨B3, d3, rfl, _, _⟩ := row_at hv3
      have hT := blk_below (heap_alloc_new w (.cells #[.int .u8 0, .int .u32 0, .slice none 0 0, .slice none 0 0] 37)) hb1
      have hB := (below_alloc (Below.refl _ w) (.cells #[.int .u8 0, .int .u32 0, .slice none 0 0, .slice none 0 0] 37)).trans (hb1.mono (by simp))
      have hT2 := blk_alloc hT (.cells #[.int .u8 a, .int .u32 0, .slice B1 x.length d1, .slice B2 y.length d2] 37)
      have hB2 := below_alloc hB (.cells #[.int .u8 a, .int .u32 0, .slice B1 x.length d1, .slice B2 y.length d2] 37)
      have ht0 := (blk_cell hT2 0).trans rfl
      have ht1 := (blk_cell hT2 1).trans rfl
      have ht2 := (blk_cell hT2 2).trans rfl
      have ht3 := (blk_cell hT2 3).trans rfl
      have hu0 := blk_frozen hT2 0
      have hu1 := blk_frozen hT2 1
      have hu2 := blk_frozen hT2 2
      have hu3 := blk_frozen hT2 3
      have HT2 := Aside0.mk hT2
      have HB2 := Aside0.mk hB2
      clear hv1 hv2 hv3 hb1 hT hB hT2 hB2
      rw [← HN.out]
      go_wp2_with fail
      have hT2 := HT2.out
      have hB2 := HB2.out
      clear HT2 HB2 ht0 ht1 ht2 ht3 hu0 hu1 hu2 hu3
      generalize w1.alloc (.cells #[.int .u8 a, .int .u32 0, .slice B1 x.length d1, .slice B2 y.length d2] 37) = w2 at hT2 hB2 ⊢
      refine bodyPost_ret (results_ctt rfl _ _ w.heap.size 37 #[.int .u8 0, .int .u32 0, .slice none 0 0, .slice none 0 0] (0, 0) _ rfl (offend_blk hT2) Try.underlying37 rfl (by kernel_rfl)) rfl ?_
      exact ⟨rfl, offend_below hB2 (Nat.le_refl _) _ _ _ _⟩
def offer_Parse.f (k : Nat) (l0 : List Int) : Option (Int × Int × List Int × List Int × List Int × Int) :=
  (head_Parse.f k l0).bind fun p => if p.2.2.2.2.2 = 0 then (if p.2.1 = 0 then (if p.2.2.2.2.1.length = 0 ∨ p.2.2.2.2.1.length % 4 ≠ 0 then some (0, 0, [], [], [], 10) else if p.2.2.2.2.1.length < 140737488355328 then (rdVers k p.2.2.2.2.1.length 0 p.2.2.2.2.1 []).bind fun out => some (p.1, 0, p.2.2.1, p.2.2.2.1, out, 0) else none) else some (0, 0, [], [], [], 14)) else some (0, 0, [], [], [], p.2.2.2.2.2)
theorem rdVers_mono (k : Nat) : ∀ (n : Nat) (e : Int) (l acc : List Int), LeO (rdVers k n e l acc) (rdVers (k + 1) n e l acc)
  | 0, _, _, _ => LeO.refl _
  | n + 1, e, l, acc => by
    unfold rdVers
    refine LeO.ite (LeO.refl _) (LeO.ite (LeO.bind ?_ (fun q => rdVers_mono k n _ _ _)) (LeO.refl _))
    unfold rdNum
    exact LeO.ite (LeO.bind (octet_Num.mono _ k) (fun _ => LeO.refl _)) (LeO.refl _)
theorem offer_Parse.mono : ∀ (l0 : List Int) (k : Nat), LeO (offer_Parse.f k l0) (offer_Parse.f (k + 1) l0) := by
  intro l0 k
  unfold offer_Parse.f
  exact LeO.bind (head_Parse.mono _ k) (fun p => LeO.ite (LeO.ite (LeO.ite (LeO.refl _) (LeO.ite (LeO.bind (rdVers_mono k _ _ _ _) (fun _ => LeO.refl _)) (LeO.refl _))) (LeO.refl _)) (LeO.refl _))
theorem offer_Parse.calls (k : Nat) (A0 : Option Addr) (c0 : Nat) (l0 : List Int) (r1 : Int) (r2 : Int) (r3 : List Int) (r4 : List Int) (r5 : List Int) (r6 : Int) (w : World) (hr0 : Kd.C (Kd.int .u8) w A0 l0.length l0) (hc0 : l0.length ≤ c0) (h : offer_Parse.f k l0 = some (r1, r2, r3, r4, r5, r6)) :
    Calls Try.prog 15 #[.slice A0 l0.length c0] w fun e w' => ∃ v2_ v3_ v4_ : Value, e = .returned (.tuple #[.agg #[.int .u8 r1, .int .u32 r2, v2_, v3_], v4_, .int .i64 r6]) ∧ Kd.R (Kd.int .u8) 5 w' w.heap.size (fun k_ => some k_ ≠ (v3_ : Value).ownBlock) v2_ r3 ∧ Kd.R (Kd.int .u8) 5 w' w.heap.size (fun k_ => some k_ ≠ (v2_ : Value).ownBlock) v3_ r4 ∧ Kd.R (Kd.int .u32) 34 w' w.heap.size (fun _ => True) v4_ r5 ∧ Below w.heap.size w w' := by
  unfold offer_Parse.f at h
  obtain ⟨⟨a, b, x, y, l, eh⟩, qp, h⟩ := Option.bind_eq_some_iff.1 h
  dsimp only at h
  have fin : ∀ e : Int, (0, 0, [], [], [], e) = (r1, r2, r3, r4, r5, r6) → ((eh ≠ 0 ∧ e = eh) ∨ (eh = 0 ∧ b ≠ 0 ∧ e = 14) ∨ (eh = 0 ∧ b = 0 ∧ (l.length = 0 ∨ l.length % 4 ≠ 0) ∧ e = 10)) →
      Calls Try.prog 15 #[.slice A0 l0.length c0] w fun e w' => ∃ v2_ v3_ v4_ : Value, e = .returned (.tuple #[.agg #[.int .u8 r1, .int .u32 r2, v2_, v3_], v4_, .int .i64 r6]) ∧ Kd.R (Kd.int .u8) 5 w' w.heap.size (fun k_ => some k_ ≠ (v3_ : Value).ownBlock) v2_ r3 ∧ Kd.R (Kd.int .u8) 5 w' w.heap.size (fun k_ => some k_ ≠ (v2_ : Value).ownBlock) v3_ r4 ∧ Kd.R (Kd.int .u32) 34 w' w.heap.size (fun _ => True) v4_ r5 ∧ Below w.heap.size w w' := by
    intro e he hk
    simp only [Prod.mk.injEq] at he
    obtain ⟨rfl, rfl, rfl, rfl, rfl, rfl⟩ := he
    exact (offparse_err k A0 c0 l0 x y l a b eh e w hr0 hc0 qp hk).mono fun en w' ⟨he, hB⟩ => ⟨_, _, _, he, Kd.R_nil _ _ _ _ _, Kd.R_nil _ _ _ _ _, Kd.R_nil _ _ _ _ _, hB⟩
  by_cases h0 : eh = 0
  · rw [if_pos h0] at h
    by_cases h1 : b = 0
    · rw [if_pos h1] at h
      by_cases h2 : l.length = 0 ∨ l.length % 4 ≠ 0
      · rw [if_pos h2] at h
        exact fin 10 (Option.some.inj h) (.inr (.inr ⟨h0, h1, h2, rfl⟩))
      · rw [if_neg h2] at h
        split at h
        · rename_i hl
          obtain ⟨out, qv, h⟩ := Option.bind_eq_some_iff.1 h
          simp only [Option.some.injEq, Prod.mk.injEq] at h
          obtain ⟨rfl, rfl, rfl, rfl, rfl, rfl⟩ := h
          subst h0
          subst h1
          exact offparse_straight k A0 c0 l0 x y l out a w hr0 hc0 qp (by omega) (by omega) hl qv
        · cases h
    · rw [if_neg h1] at h
      exact fin 14 (Option.some.inj h) (.inr (.inl ⟨h0, h1, rfl⟩))
  · rw [if_neg h0] at h
    exact fin eh (Option.some.inj h) (.inl ⟨h0, rfl⟩)


/-! ### slices_Index_uint32_uint32: function 47 -/
def slices_Index_uint32_uint32.l0 : Nat → List Int → Int → Int → Int → Option (Int)
  | 0, _, _, _, _ => none
  | k + 1, x0, x1, x7, x8 => if x8 < x7 then (if 0 ≤ x8 then (if x8 < (x0.length : Int) then (if x1 = (rd x0 x8) then (some x8) else (slices_Index_uint32_uint32.l0 k x0 x1 x7 (wrap64 (x8 + 1)))) else (none)) else (none)) else (some (-1))
def slices_Index_uint32_uint32.f (k : Nat) (l0 : List Int) (a1 : Int) : Option (Int) := slices_Index_uint32_uint32.l0 k l0 a1 (l0.length : Int) 0
theorem slices_Index_uint32_uint32.mono_l : ∀ k, (∀ y0 y1 y2 y3, LeO (slices_Index_uint32_uint32.l0 k y0 y1 y2 y3) (slices_Index_uint32_uint32.l0 (k + 1) y0 y1 y2 y3))
  | 0 => fun _ _ _ _ r h => by simp [slices_Index_uint32_uint32.l0] at h
  | k + 1 => by
    have ih0 := slices_Index_uint32_uint32.mono_l k
    · intro y0 y1 y2 y3
      unfold slices_Index_uint32_uint32.l0
      repeat' first
      | (with_reducible exact ih0 _ _ _ _)
      | (with_reducible exact LeO.refl _)
      | (with_reducible exact LeO.none _)
      | (with_reducible refine LeO.ite ?_ ?_)
      | (with_reducible refine LeO.bind ?_ (fun _ => ?_))
      | exact ih0 _ _ _ _
      | exact LeO.none _
      | refine LeO.ite ?_ ?_
      | refine LeO.bind ?_ (fun _ => ?_)
theorem slices_Index_uint32_uint32.mono : ∀ a0 a1 k, LeO (slices_Index_uint32_uint32.f k a0 a1) (slices_Index_uint32_uint32.f (k + 1) a0 a1) := by
  intro a0 a1 k
  have ih0 := slices_Index_uint32_uint32.mono_l k
  unfold slices_Index_uint32_uint32.f
  repeat' first
      | (with_reducible exact ih0 _ _ _ _)
      | (with_reducible exact LeO.refl _)
      | (with_reducible exact LeO.none _)
      | (with_reducible refine LeO.ite ?_ ?_)
      | (with_reducible refine LeO.bind ?_ (fun _ => ?_))
      | exact ih0 _ _ _ _
      | exact LeO.none _
      | refine LeO.ite ?_ ?_
      | refine LeO.bind ?_ (fun _ => ?_)
set_option maxHeartbeats 8000000 in
set_option maxRecDepth 100000 in
theorem slices_Index_uint32_uint32.calls (k : Nat) (A0 : Option Addr) (c0 : Nat) (l0 : List Int) (a1 : Int) (r : Int) (w : World) (hr0 : Kd.C (Kd.int .u32) w A0 l0.length l0) (hc0 : l0.length ≤ c0) (h : slices_Index_uint32_uint32.f k l0 a1 = some r) :
    Calls Try.prog 47 #[.slice A0 l0.length c0, .int .u32 a1] w fun e w' => e = .returned (.int .i64 r) ∧ Drawn0 w w' := by
  have HR0 := Aside0.mk hr0
  have HC0 := Aside0.mk hc0
  clear hr0 hc0
  have H : (slices_Index_uint32_uint32.l0 k l0 a1 (l0.length : Int) 0) = some r := h
  clear h
  have H' := Aside0.mk H
  clear H
  go_enter Try.func47, Try.ntmps47
  go_wp2
  go_loopg [8] k (fun kq v8 w' => ∃ (x8_1 : Int), v8 = .int .i64 x8_1 ∧ Aside0 (slices_Index_uint32_uint32.l0 kq l0 a1 (l0.length : Int) x8_1 = some r) ∧ Aside0 (kq ≤ k) ∧ Drawn0 w w')
  case atStart => exact ⟨(0), (by first | rfl | (simp; done) | (simp [*]; done) | (simp only [i64_w]; done) | (simp [i64_w]; done)), H', ⟨Nat.le_refl _⟩, by repeat (first | exact Drawn0.refl _ | apply Drawn0.step)⟩
  case round =>
    clear H'
    try clear p2
    obtain ⟨x8_1, rfl, HA, HK1, ⟨m1, rfl⟩⟩ := hrel
    cases gk with
    | zero => exact absurd HA.out (by simp [slices_Index_uint32_uint32.l0])
    | succ k1 =>
      have H := HA.out
      clear HA
      simp only [slices_Index_uint32_uint32.l0] at H
      by_cases c3 : x8_1 < (l0.length : Int)
      · rw [if_pos c3] at H
        have c3b0 : decide (x8_1 < (l0.length : Int)) = true := decide_eq_true c3
        clear c3
        by_cases c4 : 0 ≤ x8_1
        · rw [if_pos c4] at H
          have c4b0 : decide (0 ≤ x8_1) = true := decide_eq_true c4
          clear c4
          by_cases c5 : x8_1 < (l0.length : Int)
          · rw [if_pos c5] at H
            have c5b0 : decide (x8_1 < (l0.length : Int)) = true := decide_eq_true c5
            clear c5
            by_cases c6 : a1 = (rd l0 x8_1)
            · rw [if_pos c6] at H
              have c6b0 : (a1 == (rd l0 x8_1)) = true := beq_iff_eq.mpr c6
              have c6b1 : (a1 != (rd l0 x8_1)) = false := bne_eq_false_iff_eq.mpr c6
              clear c6
              obtain rfl := Option.some.inj H
              have p139 : 0 ≤ (x8_1 : Int) := of_decide_eq_true (by first | (with_reducible assumption) | assumption)
              have q139 : x8_1 < (l0.length : Int) := of_decide_eq_true (by first | (with_reducible assumption) | assumption)
              obtain ⟨ad139, e139, hx139_0⟩ := Kd.at_int HR0.out x8_1 p139 q139
              cases e139
              replace p139 := eq_true p139
              replace q139 := eq_true q139
              go_wp2
              go_ret
              exact ⟨by first | rfl | (simp; done) | (simp [*]; done), by repeat (first | exact Drawn0.refl _ | apply Drawn0.step)⟩
            · rw [if_neg c6] at H
              have c6b0 : (a1 == (rd l0 x8_1)) = false := beq_eq_false_iff_ne.mpr c6
              have c6b1 : (a1 != (rd l0 x8_1)) = true := bne_iff_ne.mpr c6
              have H' := Aside0.mk H
              clear H
              have p139 : 0 ≤ (x8_1 : Int) := of_decide_eq_true (by first | (with_reducible assumption) | assumption)
              have q139 : x8_1 < (l0.length : Int) := of_decide_eq_true (by first | (with_reducible assumption) | assumption)
              obtain ⟨ad139, e139, hx139_0⟩ := Kd.at_int HR0.out x8_1 p139 q139
              cases e139
              replace p139 := eq_true p139
              replace q139 := eq_true q139
              go_wp2
              go_roundg k1
              case measure => have := HK1.out; omega
              case rel => exact ⟨(wrap64 (x8_1 + 1)), (by first | rfl | (simp; done) | (simp [*]; done) | (simp only [i64_w]; done) | (simp [i64_w]; done)), H', ⟨by have := HK1.out; omega⟩, by repeat (first | exact Drawn0.refl _ | apply Drawn0.step)⟩
          · rw [if_neg c5] at H
            exact absurd H (by simp)
        · rw [if_neg c4] at H
          exact absurd H (by simp)
      · rw [if_neg c3] at H
        have c3b0 : decide (x8_1 < (l0.length : Int)) = false := decide_eq_false c3
        clear c3
        obtain rfl := Option.some.inj H
        go_wp2
        go_ret
        exact ⟨by first | rfl | (simp; done) | (simp [*]; done), by repeat (first | exact Drawn0.refl _ | apply Drawn0.step)⟩

/-! ### slices_Contains_uint32_uint32: function 33 -/
def slices_Contains_uint32_uint32.f (k : Nat) (l0 : List Int) (a1 : Int) : Option (Bool) := (slices_Index_uint32_uint32.f k l0 a1).bind fun t140 => (some (decide (t140 ≥ 0)))
theorem slices_Contains_uint32_uint32.mono : ∀ a0 a1 k, LeO (slices_Contains_uint32_uint32.f k a0 a1) (slices_Contains_uint32_uint32.f (k + 1) a0 a1) := by
  intro a0 a1 k
  unfold slices_Contains_uint32_uint32.f
  repeat' first
      | (with_reducible exact slices_Index_uint32_uint32.mono _ _ _)
      | (with_reducible exact LeO.refl _)
      | (with_reducible exact LeO.none _)
      | (with_reducible refine LeO.ite ?_ ?_)
      | (with_reducible refine LeO.bind ?_ (fun _ => ?_))
      | exact slices_Index_uint32_uint32.mono _ _ _
      | exact LeO.none _
      | refine LeO.ite ?_ ?_
      | refine LeO.bind ?_ (fun _ => ?_)
set_option maxHeartbeats 8000000 in
set_option maxRecDepth 100000 in
theorem slices_Contains_uint32_uint32.calls (k : Nat) (A0 : Option Addr) (c0 : Nat) (l0 : List Int) (a1 : Int) (r : Bool) (w : World) (hr0 : Kd.C (Kd.int .u32) w A0 l0.length l0) (hc0 : l0.length ≤ c0) (h : slices_Contains_uint32_uint32.f k l0 a1 = some r) :
    Calls Try.prog 33 #[.slice A0 l0.length c0, .int .u32 a1] w fun e w' => e = .returned (.bool r) ∧ Drawn0 w w' := by
  have HR0 := Aside0.mk hr0
  have HC0 := Aside0.mk hc0
  clear hr0 hc0
  have H : ((slices_Index_uint32_uint32.f k l0 a1).bind fun t140 => (some (decide (t140 ≥ 0)))) = some r := h
  clear h
  replace H := Option.bind_eq_some_iff.mp H
  obtain ⟨t140, A30, H⟩ := H
  replace H : (some (decide (t140 ≥ 0))) = some r := H
  have A3 := Aside0.mk A30
  clear A30
  obtain rfl := Option.some.inj H
  go_enter Try.func33, Try.ntmps33
  go_wp2_with (first | ((with_reducible refine gate_callee (f := 47) rfl ?_); refine goesL_ (some 7) rfl rfl Try.func47 (by kernel_rfl) rfl #[.slice A0 l0.length c0, .int .u32 a1] rfl (by (try simp only [List.map_toArray, List.map_cons, List.map_nil]); first | done | rfl | (simp only [List.length_drop, List.length_take]; rfl)) ?_; (with_reducible refine (slices_Index_uint32_uint32.calls k _ _ l0 a1 t140 _ ?side1 ?side2 A3.out).mono ?_); (case side1 => repeat (first | exact HR0.out | (with_reducible refine Kd.C_alloc ?_ _) | (with_reducible refine Kd.C_drewN ?_ _) | (with_reducible refine Kd.C_drew ?_))); (case side2 => exact HC0.out); rintro e w' ⟨rfl, ⟨nd, rfl⟩⟩; refine ⟨_, rfl, ?_⟩))
  go_ret
  exact ⟨by first | rfl | (simp; done) | (simp [*]; done), by repeat (first | exact Drawn0.refl _ | apply Drawn0.step)⟩

/-! ### offer_Has: function 19 -/
def offer_Has.f (k : Nat) (l0 : List Int) (a1 : Int) : Option (Bool) := (offer_Parse.f k l0).bind fun bt141 => ((slices_Contains_uint32_uint32.f k bt141.2.2.2.2.1 a1).bind fun t154 => (some t154))
theorem offer_Has.mono : ∀ a0 a1 k, LeO (offer_Has.f k a0 a1) (offer_Has.f (k + 1) a0 a1) := by
  intro a0 a1 k
  unfold offer_Has.f
  repeat' first
      | (with_reducible exact offer_Parse.mono _ _)
      | (with_reducible exact slices_Contains_uint32_uint32.mono _ _ _)
      | (with_reducible exact LeO.refl _)
      | (with_reducible exact LeO.none _)
      | (with_reducible refine LeO.ite ?_ ?_)
      | (with_reducible refine LeO.bind ?_ (fun _ => ?_))
      | exact offer_Parse.mono _ _
      | exact slices_Contains_uint32_uint32.mono _ _ _
      | exact LeO.none _
      | refine LeO.ite ?_ ?_
      | refine LeO.bind ?_ (fun _ => ?_)
set_option maxHeartbeats 8000000 in
set_option maxRecDepth 100000 in
theorem offer_Has.calls (k : Nat) (A0 : Option Addr) (c0 : Nat) (l0 : List Int) (a1 : Int) (r : Bool) (w : World) (hr0 : Kd.C (Kd.int .u8) w A0 l0.length l0) (hc0 : l0.length ≤ c0) (h : offer_Has.f k l0 a1 = some r) :
    Calls Try.prog 19 #[.slice A0 l0.length c0, .int .u32 a1] w fun e w' => e = .returned (.bool r) ∧ Below w.heap.size w w' := by
  have hu37 := Try.underlying37
  have HR0 := Aside0.mk hr0
  have HC0 := Aside0.mk hc0
  clear hr0 hc0
  have HB := Aside0.mk (Below.refl w.heap.size w)
  have H : ((offer_Parse.f k l0).bind fun bt141 => ((slices_Contains_uint32_uint32.f k bt141.2.2.2.2.1 a1).bind fun t154 => (some t154))) = some r := h
  clear h
  replace H := Option.bind_eq_some_iff.mp H
  obtain ⟨⟨t141, t142, t143, t146, t149, t152⟩, A30, H⟩ := H
  replace H : ((slices_Contains_uint32_uint32.f k t149 a1).bind fun t154 => (some t154)) = some r := H
  have A3 := Aside0.mk A30
  clear A30
  replace H := Option.bind_eq_some_iff.mp H
  obtain ⟨t154, A40, H⟩ := H
  replace H : (some t154) = some r := H
  have A4 := Aside0.mk A40
  clear A40
  obtain rfl := Option.some.inj H
  go_enter Try.func19, Try.ntmps19
  go_wp2_with (first | ((with_reducible refine gate_callee (f := 15) rfl ?_); refine goesL_ (some 10) rfl rfl Try.func15 (by kernel_rfl) rfl #[.slice A0 l0.length c0] rfl (by (try simp only [List.map_toArray, List.map_cons, List.map_nil]); first | done | rfl | (simp only [List.length_drop, List.length_take]; rfl)) ?_; (with_reducible refine (offer_Parse.calls k _ _ l0 t141 t142 t143 t146 t149 t152 _ ?side1 ?side2 A3.out).mono ?_); (case side1 => repeat (first | exact HR0.out | (with_reducible refine Kd.C_alloc ?_ _) | (with_reducible refine Kd.C_drewN ?_ _) | (with_reducible refine Kd.C_drew ?_))); (case side2 => exact HC0.out); rintro e w5 ⟨v144, v147, v150, rfl, ho0, ho1, ho2, hb⟩; refine ⟨_, rfl, ?_⟩; have n0_ := Aside0.mk (Kd.R_lower ho0 (below_size (by repeat (first | (with_reducible first | exact HB.out | apply below_alloc | apply pw_below_drewN | apply below_drew1) | exact HB.out)))); have n1_ := Aside0.mk (Kd.R_lower ho1 (below_size (by repeat (first | (with_reducible first | exact HB.out | apply below_alloc | apply pw_below_drewN | apply below_drew1) | exact HB.out)))); have n2_ := Aside0.mk (Kd.R_lower ho2 (below_size (by repeat (first | (with_reducible first | exact HB.out | apply below_alloc | apply pw_below_drewN | apply below_drew1) | exact HB.out)))); have n3_ := Aside0.mk (below_step (by repeat (first | (with_reducible first | exact HB.out | apply below_alloc | apply pw_below_drewN | apply below_drew1) | exact HB.out)) hb); clear HB; have HO145 := n0_; have HO148 := n1_; have HO151 := n2_; have HB := n3_; clear n0_ n1_ n2_ n3_; (try clear hb); (try clear hb2); (try clear hk); (try clear hi); (try clear ho0); (try clear ho1); (try clear ho2)) | ((with_reducible refine gate_dst (N := 5) rfl ?_); refine box_event ?hg (N := 5) ?hd (cs := #[.int .u8 0, .int .u32 0, .slice none 0 0, .slice none 0 0]) (t := 37) ?hr ?_; (case hd => rfl); (case hg => rfl); (case hr => first | (go_simp; done) | (go_simp; rfl)); intro gb153 hg w6 hbox hb; have n0_ := Aside0.mk (Kd.R_below (by (with_reducible repeat (first | apply Kd.R_alloc | apply Kd.R_drewN | apply Kd.R_drew)); exact HO145.out) hb); have n1_ := Aside0.mk (Kd.R_below (by (with_reducible repeat (first | apply Kd.R_alloc | apply Kd.R_drewN | apply Kd.R_drew)); exact HO148.out) hb); have n2_ := Aside0.mk (Kd.R_below (by (with_reducible repeat (first | apply Kd.R_alloc | apply Kd.R_drewN | apply Kd.R_drew)); exact HO151.out) hb); have n3_ := Aside0.mk (below_step (by repeat (first | (with_reducible first | exact HB.out | apply below_alloc | apply pw_below_drewN | apply below_drew1) | exact HB.out)) hb); have n4_ := Aside0.mk (hbox); have n5_ := Aside0.mk ((by rw [hg]; exact (below_size (by repeat (first | (with_reducible first | exact HB.out | apply below_alloc | apply pw_below_drewN | apply below_drew1) | exact HB.out))) : w.heap.size ≤ gb153)); have n6_ := Aside0.mk ((by rw [hg]; exact (below_size (by repeat (first | (with_reducible first | exact HB.out | apply below_alloc | apply pw_below_drewN | apply below_drew1) | exact HB.out))) : w.heap.size ≤ gb153)); clear HO145; clear HO148; clear HO151; clear HB; have HO145 := n0_; have HO148 := n1_; have HO151 := n2_; have HB := n3_; have BK153 := n4_; have GW153 := n5_; have GE153 := n6_; clear n0_ n1_ n2_ n3_ n4_ n5_ n6_; clear hb hbox hg; have hcz7_0 : w6.cell? ⟨gb153, 0, none⟩ = some (.int .u8 0) := (blk_cell BK153.out 0).trans rfl; have hcz7_1 : w6.cell? ⟨gb153, 1, none⟩ = some (.int .u32 0) := (blk_cell BK153.out 1).trans rfl; have hcz7_2 : w6.cell? ⟨gb153, 2, none⟩ = some (.slice none 0 0) := (blk_cell BK153.out 2).trans rfl; have hcz7_3 : w6.cell? ⟨gb153, 3, none⟩ = some (.slice none 0 0) := (blk_cell BK153.out 3).trans rfl; have hfz7_0 := blk_frozen BK153.out 0; have hfz7_1 := blk_frozen BK153.out 1; have hfz7_2 := blk_frozen BK153.out 2; have hfz7_3 := blk_frozen BK153.out 3; obtain ⟨Ao8, co8, eo8⟩ := Kd.R_slice HO145.out; subst eo8; obtain ⟨Ao9, co9, eo9⟩ := Kd.R_slice HO148.out; subst eo9; obtain ⟨Ao10, co10, eo10⟩ := Kd.R_slice HO151.out; subst eo10) | ((with_reducible refine gate_callee (f := 33) rfl ?_); refine goesL_ (some 16) rfl rfl Try.func33 (by kernel_rfl) rfl #[.slice Ao10 t149.length co10, .int .u32 a1] rfl (by (try simp only [List.map_toArray, List.map_cons, List.map_nil]); first | done | rfl | (simp only [List.length_drop, List.length_take]; rfl)) ?_; (with_reducible refine (slices_Contains_uint32_uint32.calls k _ _ t149 a1 t154 _ ?side1 ?side2 A4.out).mono ?_); (case side1 => refine (Kd.R_reads' (e := 34) (base := w.heap.size) (ok := fun k_ => True) (n := t149.length) (c := co10) ?_).2.2; exact (by (with_reducible repeat (first | apply Kd.R_alloc | apply Kd.R_drewN | apply Kd.R_drew)); exact (Kd.R_mono (Kd.R_far (p := ⟨gb153, 3, none⟩) (Kd.R_far (p := ⟨gb153, 2, none⟩) (Kd.R_far (p := ⟨gb153, 1, none⟩) (Kd.R_far (p := ⟨gb153, 0, none⟩) (Kd.R_types HO151.out BK153.out (by decide)) (fun _ hk => hk.2) (.int .u8 t141)) (fun _ hk => hk.2) (.int .u32 t142)) (fun _ hk => hk.2) (.slice Ao8 t143.length co8)) (fun _ hk => hk.2) (.slice Ao9 t146.length co9)) (fun _ h_ => h_.1)))); (case side2 => exact (Kd.R_reads' HO151.out).2.1); rintro e w' ⟨rfl, ⟨nd, rfl⟩⟩; refine ⟨_, rfl, ?_⟩))
  go_ret
  exact ⟨by first | rfl | (simp [errW_none, errW_some] <;> rfl) | (simp [*, errW_none, errW_some] <;> rfl), by repeat (first | (with_reducible first | exact HB.out | apply below_alloc | apply pw_below_drewN | apply below_drew1 | refine below_set ?_ GE153.out) | exact HB.out)⟩

end Go.Proofs.Ytnmhnihhlakinac.M
