/- Contracts of the Go functions that the laws reach, each as a plain Lean function: written by xprint.py, a program of this repo. -/
import Derived.Test.YtmhmmmkpijbbiadM0
import Derived.Test.YtmhmmmkpijbbiadM1
namespace Go.Proofs.Ytmhmmmkpijbbiad.M
open Go.RowKit Go.Proofs.YtmhmmmkpijbbiadW.PrintWords Go.Proofs.YtmhmmmkpijbbiadW.PrintLast Go.Proofs.YtmhmmmkpijbbiadW.PrintMore Go.Proofs.Ytmhmmmkpijbbiad.X
attribute [local go_sem] max2_int min2_int max_two min_two max_three min_three max_four min_four   -- for this text's walks alone
set_option linter.unusedVariables false
set_option linter.unusedSimpArgs false

/-! ### scan_Reader_Short: function 38, typed by hand -/
theorem short1_calls (k : Nat) (W : World) (g b : Nat) (P : Nat → Prop) (e v e2 : Int) (l l2 : List Int) (hR : RdAt W g P e l) (hl : l.length < 140737488355328) (hb : W.cell? ⟨b, 0, none⟩ = some (.pointer (some ⟨g, 0, none⟩))) (h : rdNum k e l 1 = some (v, e2, l2)) :
    Calls Try.prog 55 #[.pointer (some ⟨b, 0, none⟩)] W fun en W' => en = .returned (.int .u64 v) ∧ RdAt W' g P e2 l2 ∧ W.grownBy W' (some g) := by
  have HN := Aside0.mk (num_calls k W g P e 1 v e2 l l2 hR hl h)
  clear hR h hl
  go_enter Try.func55, Try.ntmps55
  go_wp2_with (go_at_call 37; (with_reducible refine HN.out.mono ?_); rintro en w1 ⟨rfl, hr1, hg1⟩)
  go_ret
  exact ⟨rfl, hr1, hg1⟩
/-- What a reader's Short tells. -/
def rdShort (k : Nat) (e : Int) (l : List Int) : Option (List Int × Int × List Int) := (rdNum k e l 1).bind fun n => if 0 ≤ n.1 then (if n.1 > (n.2.2.length : Int) then some ([], if n.2.1 = 0 then 12 else n.2.1, l) else if n.2.1 = 0 then some (n.2.2.take n.1.toNat, 0, n.2.2.drop n.1.toNat) else some ([], n.2.1, l)) else none
set_option maxRecDepth 100000 in
set_option maxHeartbeats 1000000 in
theorem counted_calls (k : Nat) (W : World) (g b : Nat) (P : Nat → Prop) (e e2 : Int) (l r l2 : List Int) (hR : RdAt W g P e l) (hl : l.length < 140737488355328) (hb : W.cell? ⟨b, 0, none⟩ = some (.pointer (some ⟨g, 0, none⟩))) (h : rdShort k e l = some (r, e2, l2)) :
    Calls Try.prog 39 #[.pointer (some ⟨g, 0, none⟩), .func (.func 55) #[] #[.pointer (some ⟨b, 0, none⟩)]] W fun en W' => ∃ v, en = .returned v ∧ Kd.R (Kd.int .u8) 5 W' W.heap.size (fun _ => True) v r ∧ RdAt W' g P e2 l2 ∧ W.grownBy W' (some g) := by
  unfold rdShort at h
  obtain ⟨⟨n, e1, l1⟩, hn, h⟩ := Option.bind_eq_some_iff.1 h
  dsimp only at h
  have HS := Aside0.mk (short1_calls k W g b P e n e1 l l1 hR hl hb hn)
  obtain ⟨A, c, hbk, hc, hF, hg⟩ := hR.opens
  have hc1 := blk_cell hbk 1
  simp at hc1
  have HLL := Aside0.mk hl
  have HF := Aside0.mk hF
  have HC := Aside0.mk hc
  have HG := Aside0.mk hg
  have hl1 : l1.length ≤ l.length := by
    unfold rdNum at hn
    split at hn
    · obtain ⟨_, _, h2⟩ := Option.bind_eq_some_iff.1 hn
      simp only [Option.some.injEq, Prod.mk.injEq] at h2
      rw [← h2.2.2, List.length_drop]; omega
    · simp only [Option.some.injEq, Prod.mk.injEq] at hn
      rw [hn.2.2]; exact Nat.le_refl _
  have hl1b : l1.length < 140737488355328 := by omega
  have HL1 := Aside0.mk hl1b
  clear hn hR hbk hF hc hg hl hb hl1
  by_cases h0 : 0 ≤ n
  · rw [if_pos h0] at h
    by_cases hq : n > (l1.length : Int)
    · rw [if_pos hq] at h
      obtain ⟨e3, he3⟩ : ∃ e3, e3 = (if e1 = 0 then 12 else e1) := ⟨_, rfl⟩
      rw [← he3] at h
      simp only [Option.some.injEq, Prod.mk.injEq] at h
      obtain ⟨rfl, rfl, rfl⟩ := h
      have hz : (e3 != 0) = true := bne_iff_ne.mpr (by rw [he3]; split <;> omega)
      have H3 := Aside0.mk hz
      have HE := Aside0.mk he3
      clear hz he3
      go_enter Try.func39, Try.ntmps39
      go_wp2_with (first | (go_at_call 55; (with_reducible refine HS.out.mono ?_); rintro en w1 ⟨rfl, hr1, hg1⟩; obtain ⟨A1, c1, hb1, hc1, hF1, hgg⟩ := hr1.opens; have hd0 := blk_cell hb1 0; have hd1 := blk_cell hb1 1; have hf1 := blk_frozen hb1 1; have hf0 := blk_frozen hb1 0; simp at hd0 hd1; have HR1 := Aside0.mk hr1; have HG1 := Aside0.mk hg1; have HB1 := Aside0.mk hb1; clear hr1 hg1 hb1 hF1 hc1 hgg) | (go_at_call 51; (with_reducible refine (fail_calls w1 g e1 12 e3 (.slice A1 l1.length c1) HB1.out HE.out).mono ?_); rintro en w2 ⟨rfl, hb2, hg2⟩; have hk0 := blk_cell hb2 0; have hk1 := blk_cell hb2 1; have hm1 := blk_frozen hb2 1; simp at hk0 hk1; rw [H3.out]; have hz := H3.out; have HB2 := Aside0.mk hb2; have HG2 := Aside0.mk (HG1.out.trans hg2); clear hb2 hg2))
      go_ret
      have hgf := HG2.out.trans (setCell_grownBy w2 g 1 (.slice A l.length c))
      exact ⟨_, rfl, Kd.R_nil _ _ _ _ _, ⟨A, c, blk_put (cs := #[.int .i64 e3, .slice A1 l1.length c1]) HB2.out 1 _ rfl, HC.out, Kd.F_grown HF.out hgf (fun k hk e => HG.out (by cases e; exact hk)), HG.out⟩, hgf⟩
    · rw [if_neg hq] at h
      by_cases hz : e1 = 0
      · rw [if_pos hz] at h
        simp only [Option.some.injEq, Prod.mk.injEq] at h
        obtain ⟨hy, rfl, hl2⟩ := h
        obtain ⟨m, rfl⟩ := Int.eq_ofNat_of_zero_le h0
        rw [Int.toNat_natCast] at hy hl2
        have HY := Aside0.mk hy.symm
        have HZ := Aside0.mk hl2.symm
        have HM := Aside0.mk (show m ≤ l1.length by omega)
        subst hz
        clear hy hl2
        go_enter Try.func39, Try.ntmps39
        go_wp2_with (first | (go_at_call 55; (with_reducible refine HS.out.mono ?_); rintro en w1 ⟨rfl, hr1, hg1⟩; obtain ⟨A1, c1, hb1, hc1, hF1, hgg⟩ := hr1.opens; have hd0 := blk_cell hb1 0; have hd1 := blk_cell hb1 1; have hf1 := blk_frozen hb1 1; have hf0 := blk_frozen hb1 0; simp at hd0 hd1; have HR1 := Aside0.mk hr1; have HG1 := Aside0.mk hg1; have HB1 := Aside0.mk hb1; clear hr1 hg1 hb1 hF1 hc1 hgg) | (go_at_call 54; (with_reducible refine (cut_calls w1 g m P 0 l1 r l2 HY.out HZ.out HR1.out HM.out HL1.out).mono ?_); rintro en w2 ⟨vr, rfl, hv, hr2, hg2⟩; have HV := Aside0.mk hv; have HR2 := Aside0.mk hr2; have HG2 := Aside0.mk (HG1.out.trans hg2); clear hv hr2 hg2))
        go_ret
        exact ⟨_, rfl, Kd.R_lower HV.out HG1.out.size, HR2.out, HG2.out⟩
      · rw [if_neg hz] at h
        simp only [Option.some.injEq, Prod.mk.injEq] at h
        obtain ⟨rfl, rfl, rfl⟩ := h
        have hz2 : (e1 != 0) = true := bne_iff_ne.mpr hz
        clear hz
        go_enter Try.func39, Try.ntmps39
        go_wp2_with (go_at_call 55; (with_reducible refine HS.out.mono ?_); rintro en w1 ⟨rfl, hr1, hg1⟩; obtain ⟨A1, c1, hb1, hc1, hF1, hgg⟩ := hr1.opens; have hd0 := blk_cell hb1 0; have hd1 := blk_cell hb1 1; have hf1 := blk_frozen hb1 1; have hf0 := blk_frozen hb1 0; simp at hd0 hd1; have HR1 := Aside0.mk hr1; have HG1 := Aside0.mk hg1; have HB1 := Aside0.mk hb1; clear hr1 hg1 hb1 hF1 hc1 hgg)
        go_ret
        have hgf := HG1.out.trans (setCell_grownBy w1 g 1 (.slice A l.length c))
        exact ⟨_, rfl, Kd.R_nil _ _ _ _ _, ⟨A, c, blk_put (cs := #[.int .i64 e1, .slice A1 l1.length c1]) HB1.out 1 _ rfl, HC.out, Kd.F_grown HF.out hgf (fun k hk e => HG.out (by cases e; exact hk)), HG.out⟩, hgf⟩
  · rw [if_neg h0] at h
    cases h
set_option maxRecDepth 100000 in
set_option maxHeartbeats 1000000 in
theorem short_calls (k : Nat) (W : World) (g : Nat) (P : Nat → Prop) (e e2 : Int) (l r l2 : List Int) (hR : RdAt W g P e l) (hl : l.length < 140737488355328) (h : rdShort k e l = some (r, e2, l2)) :
    Calls Try.prog 38 #[.pointer (some ⟨g, 0, none⟩)] W fun en W' => ∃ v, en = .returned v ∧ Kd.R (Kd.int .u8) 5 W' W.heap.size (fun _ => True) v r ∧ RdAt W' g P e2 l2 ∧ W.grownBy W' (some g) := by
  have hR1 := hR.below (below_alloc (Below.refl _ W) (.cells #[.pointer (some ⟨g, 0, none⟩)] 52))
  have HS := Aside0.mk (counted_calls k _ g W.heap.size P e e2 l r l2 hR1 hl (by simp [go_sem]) h)
  clear hR hR1 h hl
  go_enter Try.func38, Try.ntmps38
  go_wp2_with (go_at_call 39; (with_reducible refine HS.out.mono ?_); rintro en w1 ⟨v, rfl, hv, hr1, hg1⟩; have HV := Aside0.mk hv; have HR1 := Aside0.mk hr1; have HG1 := Aside0.mk hg1; clear hv hr1 hg1)
  go_ret
  exact ⟨_, rfl, Kd.R_lower HV.out (by simp), HR1.out, (World.grownBy_alloc W _ (some g)).trans HG1.out⟩
theorem rdShort_len {k : Nat} {e e2 : Int} {l r l2 : List Int} (h : rdShort k e l = some (r, e2, l2)) : l2.length ≤ l.length := by
  unfold rdShort at h
  obtain ⟨⟨n, e1, l1⟩, hn, h⟩ := Option.bind_eq_some_iff.1 h
  have := rdNum_len hn
  dsimp only at h
  split at h
  · split at h
    · simp only [Option.some.injEq, Prod.mk.injEq] at h
      rw [h.2.2]; exact Nat.le_refl _
    · split at h
      · simp only [Option.some.injEq, Prod.mk.injEq] at h
        rw [← h.2.2, List.length_drop]; omega
      · simp only [Option.some.injEq, Prod.mk.injEq] at h
        rw [h.2.2]; exact Nat.le_refl _
  · cases h


/-! ### head_Parse: function 18, typed by hand -/
theorem RdAt.alloc {W : World} {g : Nat} {P : Nat → Prop} {e : Int} {l : List Int} (h : RdAt W g P e l) (o : Obj) : RdAt (W.alloc o) g P e l := h.below (below_alloc (Below.refl _ W) o)
theorem RdAt.far {W : World} {g : Nat} {P : Nat → Prop} {e : Int} {l : List Int} (h : RdAt W g P e l) {p : Addr} (hp : g ≠ p.block) (hP : ∀ k, P k → k ≠ p.block) (u : Value) : RdAt (W.setCell p u) g P e l := by
  obtain ⟨A, c, h1, h2, h3, h4⟩ := h
  exact ⟨A, c, blk_far h1 hp u, h2, Kd.F_far h3 hP u, h4⟩
/-- A row of new memory, that lies in blocks from B on and ahead of B'. -/
def RowIn (W : World) (B B' : Nat) (v : Value) (l : List Int) : Prop := Kd.R (Kd.int .u8) 5 W B (fun k => B ≤ k ∧ k < B') v l
theorem RowIn.of {W W' : World} {v : Value} {l : List Int} (h : Kd.R (Kd.int .u8) 5 W' W.heap.size (fun _ => True) v l) : RowIn W' W.heap.size W'.heap.size v l := Kd.R_mono (Kd.R_bound h) (fun _ hk => ⟨hk.2.1, hk.2.2.1⟩)
theorem RowIn.grown {W W' : World} {B B' g : Nat} {v : Value} {l : List Int} (h : RowIn W B B' v l) (hg : W.grownBy W' (some g)) (hgB : g < B) : RowIn W' B B' v l := Kd.R_grown h hg (fun k hk e => by cases e; have := hk.1; omega)
theorem RowIn.alloc {W : World} {B B' : Nat} {v : Value} {l : List Int} (h : RowIn W B B' v l) (o : Obj) : RowIn (W.alloc o) B B' v l := Kd.R_alloc h o
theorem RowIn.far {W : World} {B B' : Nat} {v : Value} {l : List Int} (h : RowIn W B B' v l) {p : Addr} (hp : p.block < B) (u : Value) : RowIn (W.setCell p u) B B' v l := RowIn.grown (g := p.block) h (by
  refine ⟨rfl, rfl, rfl, by simp, fun k _ hk => Below.heap_setCell W p u k (fun e => hk (by rw [e]))⟩) hp
theorem RowIn.drewN {W : World} {B B' : Nat} {v : Value} {l : List Int} (h : RowIn W B B' v l) (n : Nat) : RowIn (W.drewN n) B B' v l := Kd.R_drewN h n
theorem RowIn.base {W : World} {B B' : Nat} {v : Value} {l : List Int} (h : RowIn W B B' v l) : ∀ k, v.ownBlock = some k → B ≤ k ∧ k < B' := fun k hk => h.1 k hk
theorem blk_gb {W W' : World} {b g : Nat} {o : Obj} (h : W.heap[b]? = some o) (hg : W.grownBy W' (some g)) (hne : b ≠ g) : W'.heap[b]? = some o := blk_grown h hg (fun e => hne (Option.some.inj e))
set_option maxRecDepth 100000 in
set_option maxHeartbeats 4000000 in
theorem head_Parse.straight (k : Nat) (A0 : Option Addr) (c0 : Nat) (l0 : List Int) (n1 n2 e1 e2 e3 e4 e5 : Int) (m1 m2 m3 m4 m5 t1 t2 t3 : List Int) (w : World) (hr0 : Kd.C (Kd.int .u8) w A0 l0.length l0) (hc0 : l0.length ≤ c0) (hl : l0.length < 140737488355328) (b : Bool) (hb : head_Long.f l0 = some b) (hlen : 0 < l0.length) (hbt : b = true)
    (q1 : rdNum k 0 l0 1 = some (n1, e1, m1)) (q2 : rdNum k e1 m1 4 = some (n2, e2, m2)) (q3 : rdShort k e2 m2 = some (t1, e3, m3)) (q4 : rdShort k e3 m3 = some (t2, e4, m4)) (q5 : rdBytes e4 m4 (m4.length : Int) = (t3, e5, m5)) (r1 r2 r6 : Int) (r3 r4 r5 : List Int) (hres : (if e5 = 0 then (n1 % 256, n2 % 4294967296, t1, t2, t3, (0 : Int)) else (0, 0, [], [], [], e5)) = (r1, r2, r3, r4, r5, r6)) :
    Calls Try.prog 18 #[.slice A0 l0.length c0] w fun e w' => ∃ v2_ v3_ v4_ : Value, e = .returned (.tuple #[.agg #[.int .u8 r1, .int .u32 r2, v2_, v3_], v4_, .int .i64 r6]) ∧ Kd.R (Kd.int .u8) 5 w' w.heap.size (fun k_ => some k_ ≠ (v3_ : Value).ownBlock ∧ some k_ ≠ (v4_ : Value).ownBlock) v2_ r3 ∧ Kd.R (Kd.int .u8) 5 w' w.heap.size (fun k_ => some k_ ≠ (v2_ : Value).ownBlock ∧ some k_ ≠ (v4_ : Value).ownBlock) v3_ r4 ∧ Kd.R (Kd.int .u8) 5 w' w.heap.size (fun k_ => some k_ ≠ (v2_ : Value).ownBlock ∧ some k_ ≠ (v3_ : Value).ownBlock) v4_ r5 ∧ Below w.heap.size w w' := by
  have z1 := rdNum_len q1
  have z2 := rdNum_len q2
  have z3 := rdShort_len q3
  have z4 := rdShort_len q4
  have HZ1 := Aside0.mk (show m1.length < 140737488355328 by omega)
  have HZ2 := Aside0.mk (show m2.length < 140737488355328 by omega)
  have HZ3 := Aside0.mk (show m3.length < 140737488355328 by omega)
  have HZ4 := Aside0.mk (show m4.length < 140737488355328 by omega)
  have HL := Aside0.mk hl
  have Q1 := Aside0.mk q1
  have Q2 := Aside0.mk q2
  have Q3 := Aside0.mk q3
  have Q4 := Aside0.mk q4
  have HR0 := Aside0.mk hr0
  have HC0 := Aside0.mk hc0
  subst hbt
  have HRES := Aside0.mk hres
  clear hres
  have Q5 := Aside0.mk q5
  have HLG := Aside0.mk hb
  clear z1 z2 z3 z4 hl q1 q2 q3 q4 q5 hr0 hc0 hb
  go_enter Try.func18, Try.ntmps18
  go_wp2_with fail
  (with_reducible refine (head_Long.calls _ _ _ _ _ (Kd.C_alloc HR0.out _) HC0.out HLG.out).mono ?_)
  rintro en w1 ⟨rfl, ⟨nd, rfl⟩⟩
  go_wp2_with fail
  (with_reducible refine (read_calls _ _ _ _).mono ?_)
  rintro en w2 ⟨rfl, hw2⟩
  have hr2 := read_at (Kd.C_drewN (Kd.C_alloc HR0.out (.cells #[.int .u8 0, .int .u32 0, .slice none 0 0, .slice none 0 0] 27)) nd) HC0.out
  rw [← hw2] at hr2
  have hbl : Below w.heap.size w w2 := by rw [hw2]; exact below_alloc (pw_below_drewN (below_alloc (Below.refl _ _) _) _) _
  have hz2 : w2.heap[w.heap.size]? = some (.cells #[.int .u8 0, .int .u32 0, .slice none 0 0, .slice none 0 0] 27 (0, 0)) := by rw [hw2]; exact blk_alloc (blk_drewN (heap_alloc_new w _) _) _
  have hs2 : w2.heap.size = w.heap.size + 1 + 1 := by rw [hw2]; simp
  have hgz : ((w.alloc (.cells #[.int .u8 0, .int .u32 0, .slice none 0 0, .slice none 0 0] 27)).drewN nd).heap.size = w.heap.size + 1 := by simp
  rw [hgz] at hr2
  have HR2 := Aside0.mk hr2
  have HB2 := Aside0.mk hbl
  have HT2 := Aside0.mk hz2
  have HS2 := Aside0.mk hs2
  clear hr2 hbl hz2 hw2 hs2 hgz
  go_wp2_with fail
  (with_reducible refine (num_calls k _ _ _ _ _ _ _ _ _ HR2.out HL.out Q1.out).mono ?_)
  rintro en w3 ⟨rfl, hr3, hg3⟩
  have HR3 := Aside0.mk hr3
  have HG3 := Aside0.mk hg3
  clear hr3 hg3
  go_wp2_with fail
  (with_reducible refine (num_calls k _ _ _ _ _ _ _ _ _ HR3.out HZ1.out Q2.out).mono ?_)
  rintro en w4 ⟨rfl, hr4, hg4⟩
  have HR4 := Aside0.mk hr4
  have HG4 := Aside0.mk (HG3.out.trans hg4)
  clear hr4 hg4
  go_wp2_with fail
  have hle4 := HG4.out.size
  rw [HS2.out] at hle4
  have hP4 : ∀ k, k < w.heap.size + 1 → k ≠ w4.heap.size := fun k hk => by omega
  have HT4 := Aside0.mk (blk_gb HT2.out HG4.out (by omega))
  have HB4 := Aside0.mk (grownBy_below HG4.out HB2.out (by omega))
  obtain ⟨gh, hgh⟩ : ∃ gh, gh = w4.heap.size := ⟨_, rfl⟩
  have hbh := heap_alloc_new w4 (.cells #[.int .u8 (n1 % 256), .int .u32 (n2 % 4294967296), .slice none 0 0, .slice none 0 0] 27)
  have hr5 := HR4.out.alloc (.cells #[.int .u8 (n1 % 256), .int .u32 (n2 % 4294967296), .slice none 0 0, .slice none 0 0] 27)
  have hb5 := below_alloc HB4.out (.cells #[.int .u8 (n1 % 256), .int .u32 (n2 % 4294967296), .slice none 0 0, .slice none 0 0] 27)
  have ht5 := blk_alloc HT4.out (.cells #[.int .u8 (n1 % 256), .int .u32 (n2 % 4294967296), .slice none 0 0, .slice none 0 0] 27)
  have hs5 : (w4.alloc (.cells #[.int .u8 (n1 % 256), .int .u32 (n2 % 4294967296), .slice none 0 0, .slice none 0 0] 27)).heap.size = gh + 1 := by rw [hgh]; simp
  generalize w4.alloc (.cells #[.int .u8 (n1 % 256), .int .u32 (n2 % 4294967296), .slice none 0 0, .slice none 0 0] 27) = w5 at hbh hr5 hb5 ht5 hs5 ⊢
  rw [← hgh] at hbh hP4 hle4 ⊢
  have HBH := Aside0.mk hbh
  have HR5 := Aside0.mk hr5
  have HB5 := Aside0.mk hb5
  have HT5 := Aside0.mk ht5
  have HS5 := Aside0.mk hs5
  have HLE := Aside0.mk hle4
  clear hbh hr5 hb5 ht5 hs5 hP4 hle4 hgh HR4 HB4 HT4 HG4 HG3 HR3 HR2 HB2 HT2 HS2
  (with_reducible refine (short_calls k _ _ _ _ _ _ _ _ HR5.out HZ2.out Q3.out).mono ?_)
  rintro en w6 ⟨v1, rfl, hv1, hr6, hg6⟩
  obtain ⟨A1, c1, rfl, _, _⟩ := row_at hv1
  have hv1' := RowIn.of hv1
  rw [HS5.out] at hv1'
  have hbh6 := blk_gb HBH.out hg6 (by have := HLE.out; omega)
  have HV1 := Aside0.mk hv1'
  have HR6 := Aside0.mk hr6
  have HBH6 := Aside0.mk hbh6
  have HT6 := Aside0.mk (blk_gb HT5.out hg6 (by omega))
  have HB6 := Aside0.mk (grownBy_below hg6 HB5.out (by omega))
  have HS6 := Aside0.mk (show gh + 1 ≤ w6.heap.size by have := hg6.size; rw [HS5.out] at this; exact this)
  clear hv1 hv1' hr6 hg6 hbh6 HR5 HBH HT5 HB5
  go_wp2_with fail
  (with_reducible refine (short_calls k _ _ _ _ _ _ _ _ HR6.out HZ3.out Q4.out).mono ?_)
  rintro en w7 ⟨v2, rfl, hv2, hr7, hg7⟩
  obtain ⟨A2, c2, rfl, _, _⟩ := row_at hv2
  have hbh7 := blk_gb HBH6.out hg7 (by have := HLE.out; omega)
  have HV2 := Aside0.mk (RowIn.of hv2)
  have HV1b := Aside0.mk (HV1.out.grown hg7 (by have := HLE.out; omega))
  have HR7 := Aside0.mk hr7
  have HT7 := Aside0.mk (blk_gb HT6.out hg7 (by omega))
  have HB7 := Aside0.mk (grownBy_below hg7 HB6.out (by omega))
  have HS7 := Aside0.mk hg7.size
  have hc2 := blk_cell hbh7 2
  have hc3 := blk_cell hbh7 3
  have hf2 := blk_frozen hbh7 2
  have hf3 := blk_frozen hbh7 3
  simp at hc2 hc3
  have HBH7 := Aside0.mk hbh7
  clear hv2 hr7 hg7 hbh7 HR6 HBH6 HT6 HB6 HV1
  go_wp2_with fail
  have hlt7 : gh < w7.heap.size := blk_lt HBH7.out
  have hR8 := (HR7.out.far (p := ⟨gh, 2, none⟩) (by have := HLE.out; dsimp only; omega) (fun k hk => by have := HLE.out; dsimp only; omega) (.slice A1 t1.length c1)).far (p := ⟨gh, 3, none⟩) (by have := HLE.out; dsimp only; omega) (fun k hk => by have := HLE.out; dsimp only; omega) (.slice A2 t2.length c2)
  have hB8 := (HB7.out.setCell (p := ⟨gh, 2, none⟩) (by have := HLE.out; dsimp only; omega) (.slice A1 t1.length c1)).setCell (p := ⟨gh, 3, none⟩) (by have := HLE.out; dsimp only; omega) (.slice A2 t2.length c2)
  have hT8 := blk_far (blk_far HT7.out (p := ⟨gh, 2, none⟩) (by have := HLE.out; dsimp only; omega) (.slice A1 t1.length c1)) (p := ⟨gh, 3, none⟩) (by have := HLE.out; dsimp only; omega) (.slice A2 t2.length c2)
  have hH8 := blk_put (cs := #[.int .u8 (n1 % 256), .int .u32 (n2 % 4294967296), .slice A1 t1.length c1, .slice none 0 0]) (blk_put (cs := #[.int .u8 (n1 % 256), .int .u32 (n2 % 4294967296), .slice none 0 0, .slice none 0 0]) HBH7.out 2 (.slice A1 t1.length c1) rfl) 3 (.slice A2 t2.length c2) rfl
  have hV18 := (HV1b.out.far (p := ⟨gh, 2, none⟩) (by dsimp only; omega) (.slice A1 t1.length c1)).far (p := ⟨gh, 3, none⟩) (by dsimp only; omega) (.slice A2 t2.length c2)
  have hV28 := (HV2.out.far (p := ⟨gh, 2, none⟩) (by have := HS6.out; dsimp only; omega) (.slice A1 t1.length c1)).far (p := ⟨gh, 3, none⟩) (by have := HS6.out; dsimp only; omega) (.slice A2 t2.length c2)
  have hS8 : ((w7.setCell ⟨gh, 2, none⟩ (.slice A1 t1.length c1)).setCell ⟨gh, 3, none⟩ (.slice A2 t2.length c2)).heap.size = w7.heap.size := by simp
  generalize (w7.setCell ⟨gh, 2, none⟩ (.slice A1 t1.length c1)).setCell ⟨gh, 3, none⟩ (.slice A2 t2.length c2) = w8 at hR8 hB8 hT8 hH8 hV18 hV28 hS8 ⊢
  have HR8 := Aside0.mk hR8
  have HB8 := Aside0.mk hB8
  have HT8 := Aside0.mk hT8
  have HH8 := Aside0.mk hH8
  have HV18 := Aside0.mk hV18
  have HV28 := Aside0.mk hV28
  have HS8 := Aside0.mk hS8
  clear hR8 hB8 hT8 hH8 hV18 hV28 hS8 hlt7 hc2 hc3 hf2 hf3 HR7 HB7 HT7 HBH7 HV1b HV2
  (with_reducible refine (rest_calls _ _ _ _ _ _ _ _ HR8.out HZ4.out Q5.out).mono ?_)
  rintro en w9 ⟨v3, rfl, hv3, hr9, hg9⟩
  obtain ⟨A3, c3, rfl, _, _⟩ := row_at hv3
  have HV3 := Aside0.mk (RowIn.of hv3)
  have HV19 := Aside0.mk (HV18.out.grown hg9 (by have := HLE.out; omega))
  have HV29 := Aside0.mk (HV28.out.grown hg9 (by have := HS6.out; have := HLE.out; omega))
  have HT9 := Aside0.mk (blk_gb HT8.out hg9 (by omega))
  have HH9 := Aside0.mk (blk_gb HH8.out hg9 (by have := HLE.out; omega))
  have HB9 := Aside0.mk (grownBy_below hg9 HB8.out (by omega))
  have HS9 := Aside0.mk hg9.size
  have HR9 := Aside0.mk hr9
  clear hv3 hr9 hg9 HR8 HB8 HT8 HH8 HV18 HV28
  obtain ⟨A9, c9, hb9, _, _, _⟩ := HR9.out.opens
  have HE := Aside0.mk (err_calls w9 (w.heap.size + 1) e5 _ hb9)
  clear hb9
  have ht0 := blk_cell HT9.out 0
  have ht1 := blk_cell HT9.out 1
  have ht2 := blk_cell HT9.out 2
  have ht3 := blk_cell HT9.out 3
  have hu0 := blk_frozen HT9.out 0
  have hu1 := blk_frozen HT9.out 1
  have hu2 := blk_frozen HT9.out 2
  have hu3 := blk_frozen HT9.out 3
  have hh0 := blk_cell HH9.out 0
  have hh1 := blk_cell HH9.out 1
  have hh2 := blk_cell HH9.out 2
  have hh3 := blk_cell HH9.out 3
  simp at ht0 ht1 ht2 ht3 hh0 hh1 hh2 hh3
  by_cases h5 : e5 = 0
  · subst h5
    go_wp2_with (go_at_call 23; (with_reducible refine HE.out.mono ?_); rintro en w10 ⟨rfl, rfl⟩)
    have hres := HRES.out
    rw [if_pos trivial] at hres
    simp only [Prod.mk.injEq] at hres
    obtain ⟨rfl, rfl, rfl, rfl, rfl, rfl⟩ := hres
    have hlt := HLE.out
    have hs6 := HS6.out
    have hs7 := HS7.out
    have hs8 := HS8.out
    have hs9 := HS9.out
    refine bodyPost_ret (results_ctt rfl _ _ w.heap.size 27 #[.int .u8 (n1 % 256), .int .u32 (n2 % 4294967296), .slice A1 t1.length c1, .slice A2 t2.length c2] (0, 0) _ rfl (blk_put (cs := #[.int .u8 (n1 % 256), .int .u32 (n2 % 4294967296), .slice A1 t1.length c1, .slice none 0 0]) (blk_put (cs := #[.int .u8 (n1 % 256), .int .u32 (n2 % 4294967296), .slice none 0 0, .slice none 0 0]) (blk_put (cs := #[.int .u8 (n1 % 256), .int .u32 0, .slice none 0 0, .slice none 0 0]) (blk_put (cs := #[.int .u8 0, .int .u32 0, .slice none 0 0, .slice none 0 0]) HT9.out 0 _ rfl) 1 _ rfl) 2 _ rfl) 3 _ rfl) Try.underlying27 rfl (by kernel_rfl)) rfl ?_
    have q1 := (((HV19.out.far (p := ⟨w.heap.size, 0, none⟩) (by dsimp only; omega) (.int .u8 (n1 % 256))).far (p := ⟨w.heap.size, 1, none⟩) (by dsimp only; omega) (.int .u32 (n2 % 4294967296))).far (p := ⟨w.heap.size, 2, none⟩) (by dsimp only; omega) (.slice A1 t1.length c1)).far (p := ⟨w.heap.size, 3, none⟩) (by dsimp only; omega) (.slice A2 t2.length c2)
    have q2 := (((HV29.out.far (p := ⟨w.heap.size, 0, none⟩) (by dsimp only; omega) (.int .u8 (n1 % 256))).far (p := ⟨w.heap.size, 1, none⟩) (by dsimp only; omega) (.int .u32 (n2 % 4294967296))).far (p := ⟨w.heap.size, 2, none⟩) (by dsimp only; omega) (.slice A1 t1.length c1)).far (p := ⟨w.heap.size, 3, none⟩) (by dsimp only; omega) (.slice A2 t2.length c2)
    have q3 := (((HV3.out.far (p := ⟨w.heap.size, 0, none⟩) (by dsimp only; omega) (.int .u8 (n1 % 256))).far (p := ⟨w.heap.size, 1, none⟩) (by dsimp only; omega) (.int .u32 (n2 % 4294967296))).far (p := ⟨w.heap.size, 2, none⟩) (by dsimp only; omega) (.slice A1 t1.length c1)).far (p := ⟨w.heap.size, 3, none⟩) (by dsimp only; omega) (.slice A2 t2.length c2)
    refine ⟨.slice A1 t1.length c1, .slice A2 t2.length c2, .slice A3 t3.length c3, rfl, Kd.R_lower (Kd.R_mono q1 (fun k hk => ⟨fun e => ?_, fun e => ?_⟩)) (by omega), Kd.R_lower (Kd.R_mono q2 (fun k hk => ⟨fun e => ?_, fun e => ?_⟩)) (by omega), Kd.R_lower (Kd.R_mono q3 (fun k hk => ⟨fun e => ?_, fun e => ?_⟩)) (by omega), ?_⟩
    · have := q2.base k e.symm; omega
    · have := q3.base k e.symm; omega
    · have := q1.base k e.symm; omega
    · have := q3.base k e.symm; omega
    · have := q1.base k e.symm; omega
    · have := q2.base k e.symm; omega
    · exact (((HB9.out.setCell (p := ⟨w.heap.size, 0, none⟩) (Nat.le_refl _) _).setCell (p := ⟨w.heap.size, 1, none⟩) (Nat.le_refl _) _).setCell (p := ⟨w.heap.size, 2, none⟩) (Nat.le_refl _) _).setCell (p := ⟨w.heap.size, 3, none⟩) (Nat.le_refl _) _
  · have h5b : (e5 != 0) = true := bne_iff_ne.mpr h5
    go_wp2_with (go_at_call 23; (with_reducible refine HE.out.mono ?_); rintro en w10 ⟨rfl, rfl⟩)
    have hres := HRES.out
    rw [if_neg h5] at hres
    simp only [Prod.mk.injEq] at hres
    obtain ⟨rfl, rfl, rfl, rfl, rfl, rfl⟩ := hres
    have hlt := HLE.out
    have hs6 := HS6.out
    have hs7 := HS7.out
    have hs8 := HS8.out
    have hs9 := HS9.out
    refine bodyPost_ret (results_ctt rfl _ _ w.heap.size 27 #[.int .u8 0, .int .u32 0, .slice none 0 0, .slice none 0 0] (0, 0) _ rfl (blk_put (cs := #[.int .u8 0, .int .u32 0, .slice none 0 0, .slice none 0 0]) (blk_put (cs := #[.int .u8 0, .int .u32 0, .slice none 0 0, .slice none 0 0]) (blk_put (cs := #[.int .u8 0, .int .u32 0, .slice none 0 0, .slice none 0 0]) (blk_put (cs := #[.int .u8 0, .int .u32 0, .slice none 0 0, .slice none 0 0]) HT9.out 0 _ rfl) 1 _ rfl) 2 _ rfl) 3 _ rfl) Try.underlying27 rfl (by kernel_rfl)) rfl ?_
    refine ⟨.slice none 0 0, .slice none 0 0, .slice none 0 0, rfl, Kd.R_nil _ _ _ _ _, Kd.R_nil _ _ _ _ _, Kd.R_nil _ _ _ _ _, ?_⟩
    exact (((HB9.out.setCell (p := ⟨w.heap.size, 0, none⟩) (Nat.le_refl _) _).setCell (p := ⟨w.heap.size, 1, none⟩) (Nat.le_refl _) _).setCell (p := ⟨w.heap.size, 2, none⟩) (Nat.le_refl _) _).setCell (p := ⟨w.heap.size, 3, none⟩) (Nat.le_refl _) _
set_option maxRecDepth 100000 in
set_option maxHeartbeats 4000000 in
theorem head_Parse.empty (k : Nat) (A0 : Option Addr) (c0 : Nat) (l0 : List Int) (n1 n2 e1 e2 e3 e4 e5 : Int) (m1 m2 m3 m4 m5 t1 t2 t3 : List Int) (w : World) (hr0 : Kd.C (Kd.int .u8) w A0 l0.length l0) (hc0 : l0.length ≤ c0) (hl : l0.length < 140737488355328) (hlen : ¬ 0 < l0.length)
    (q1 : rdNum k 0 l0 1 = some (n1, e1, m1)) (q2 : rdNum k e1 m1 4 = some (n2, e2, m2)) (q3 : rdShort k e2 m2 = some (t1, e3, m3)) (q4 : rdShort k e3 m3 = some (t2, e4, m4)) (q5 : rdBytes e4 m4 (m4.length : Int) = (t3, e5, m5)) (r1 r2 r6 : Int) (r3 r4 r5 : List Int) (hres : (if e5 = 0 then (n1 % 256, n2 % 4294967296, t1, t2, t3, (0 : Int)) else (0, 0, [], [], [], e5)) = (r1, r2, r3, r4, r5, r6)) :
    Calls Try.prog 18 #[.slice A0 l0.length c0] w fun e w' => ∃ v2_ v3_ v4_ : Value, e = .returned (.tuple #[.agg #[.int .u8 r1, .int .u32 r2, v2_, v3_], v4_, .int .i64 r6]) ∧ Kd.R (Kd.int .u8) 5 w' w.heap.size (fun k_ => some k_ ≠ (v3_ : Value).ownBlock ∧ some k_ ≠ (v4_ : Value).ownBlock) v2_ r3 ∧ Kd.R (Kd.int .u8) 5 w' w.heap.size (fun k_ => some k_ ≠ (v2_ : Value).ownBlock ∧ some k_ ≠ (v4_ : Value).ownBlock) v3_ r4 ∧ Kd.R (Kd.int .u8) 5 w' w.heap.size (fun k_ => some k_ ≠ (v2_ : Value).ownBlock ∧ some k_ ≠ (v3_ : Value).ownBlock) v4_ r5 ∧ Below w.heap.size w w' := by
  have z1 := rdNum_len q1
  have z2 := rdNum_len q2
  have z3 := rdShort_len q3
  have z4 := rdShort_len q4
  have HZ1 := Aside0.mk (show m1.length < 140737488355328 by omega)
  have HZ2 := Aside0.mk (show m2.length < 140737488355328 by omega)
  have HZ3 := Aside0.mk (show m3.length < 140737488355328 by omega)
  have HZ4 := Aside0.mk (show m4.length < 140737488355328 by omega)
  have HL := Aside0.mk hl
  have Q1 := Aside0.mk q1
  have Q2 := Aside0.mk q2
  have Q3 := Aside0.mk q3
  have Q4 := Aside0.mk q4
  have HR0 := Aside0.mk hr0
  have HC0 := Aside0.mk hc0
  have HRES := Aside0.mk hres
  clear hres
  have Q5 := Aside0.mk q5
  clear z1 z2 z3 z4 hl q1 q2 q3 q4 q5 hr0 hc0
  go_enter Try.func18, Try.ntmps18
  go_wp2_with fail
  (with_reducible refine (read_calls _ _ _ _).mono ?_)
  rintro en w2 ⟨rfl, hw2⟩
  have hr2 := read_at (Kd.C_alloc HR0.out (.cells #[.int .u8 0, .int .u32 0, .slice none 0 0, .slice none 0 0] 27)) HC0.out
  rw [← hw2] at hr2
  have hbl : Below w.heap.size w w2 := by rw [hw2]; exact below_alloc (below_alloc (Below.refl _ _) _) _
  have hz2 : w2.heap[w.heap.size]? = some (.cells #[.int .u8 0, .int .u32 0, .slice none 0 0, .slice none 0 0] 27 (0, 0)) := by rw [hw2]; exact blk_alloc (heap_alloc_new w _) _
  have hs2 : w2.heap.size = w.heap.size + 1 + 1 := by rw [hw2]; simp
  have hgz : (w.alloc (.cells #[.int .u8 0, .int .u32 0, .slice none 0 0, .slice none 0 0] 27)).heap.size = w.heap.size + 1 := by simp
  rw [hgz] at hr2
  have HR2 := Aside0.mk hr2
  have HB2 := Aside0.mk hbl
  have HT2 := Aside0.mk hz2
  have HS2 := Aside0.mk hs2
  clear hr2 hbl hz2 hw2 hs2 hgz
  go_wp2_with fail
  (with_reducible refine (num_calls k _ _ _ _ _ _ _ _ _ HR2.out HL.out Q1.out).mono ?_)
  rintro en w3 ⟨rfl, hr3, hg3⟩
  have HR3 := Aside0.mk hr3
  have HG3 := Aside0.mk hg3
  clear hr3 hg3
  go_wp2_with fail
  (with_reducible refine (num_calls k _ _ _ _ _ _ _ _ _ HR3.out HZ1.out Q2.out).mono ?_)
  rintro en w4 ⟨rfl, hr4, hg4⟩
  have HR4 := Aside0.mk hr4
  have HG4 := Aside0.mk (HG3.out.trans hg4)
  clear hr4 hg4
  go_wp2_with fail
  have hle4 := HG4.out.size
  rw [HS2.out] at hle4
  have hP4 : ∀ k, k < w.heap.size + 1 → k ≠ w4.heap.size := fun k hk => by omega
  have HT4 := Aside0.mk (blk_gb HT2.out HG4.out (by omega))
  have HB4 := Aside0.mk (grownBy_below HG4.out HB2.out (by omega))
  obtain ⟨gh, hgh⟩ : ∃ gh, gh = w4.heap.size := ⟨_, rfl⟩
  have hbh := heap_alloc_new w4 (.cells #[.int .u8 (n1 % 256), .int .u32 (n2 % 4294967296), .slice none 0 0, .slice none 0 0] 27)
  have hr5 := HR4.out.alloc (.cells #[.int .u8 (n1 % 256), .int .u32 (n2 % 4294967296), .slice none 0 0, .slice none 0 0] 27)
  have hb5 := below_alloc HB4.out (.cells #[.int .u8 (n1 % 256), .int .u32 (n2 % 4294967296), .slice none 0 0, .slice none 0 0] 27)
  have ht5 := blk_alloc HT4.out (.cells #[.int .u8 (n1 % 256), .int .u32 (n2 % 4294967296), .slice none 0 0, .slice none 0 0] 27)
  have hs5 : (w4.alloc (.cells #[.int .u8 (n1 % 256), .int .u32 (n2 % 4294967296), .slice none 0 0, .slice none 0 0] 27)).heap.size = gh + 1 := by rw [hgh]; simp
  generalize w4.alloc (.cells #[.int .u8 (n1 % 256), .int .u32 (n2 % 4294967296), .slice none 0 0, .slice none 0 0] 27) = w5 at hbh hr5 hb5 ht5 hs5 ⊢
  rw [← hgh] at hbh hP4 hle4 ⊢
  have HBH := Aside0.mk hbh
  have HR5 := Aside0.mk hr5
  have HB5 := Aside0.mk hb5
  have HT5 := Aside0.mk ht5
  have HS5 := Aside0.mk hs5
  have HLE := Aside0.mk hle4
  clear hbh hr5 hb5 ht5 hs5 hP4 hle4 hgh HR4 HB4 HT4 HG4 HG3 HR3 HR2 HB2 HT2 HS2
  (with_reducible refine (short_calls k _ _ _ _ _ _ _ _ HR5.out HZ2.out Q3.out).mono ?_)
  rintro en w6 ⟨v1, rfl, hv1, hr6, hg6⟩
  obtain ⟨A1, c1, rfl, _, _⟩ := row_at hv1
  have hv1' := RowIn.of hv1
  rw [HS5.out] at hv1'
  have hbh6 := blk_gb HBH.out hg6 (by have := HLE.out; omega)
  have HV1 := Aside0.mk hv1'
  have HR6 := Aside0.mk hr6
  have HBH6 := Aside0.mk hbh6
  have HT6 := Aside0.mk (blk_gb HT5.out hg6 (by omega))
  have HB6 := Aside0.mk (grownBy_below hg6 HB5.out (by omega))
  have HS6 := Aside0.mk (show gh + 1 ≤ w6.heap.size by have := hg6.size; rw [HS5.out] at this; exact this)
  clear hv1 hv1' hr6 hg6 hbh6 HR5 HBH HT5 HB5
  go_wp2_with fail
  (with_reducible refine (short_calls k _ _ _ _ _ _ _ _ HR6.out HZ3.out Q4.out).mono ?_)
  rintro en w7 ⟨v2, rfl, hv2, hr7, hg7⟩
  obtain ⟨A2, c2, rfl, _, _⟩ := row_at hv2
  have hbh7 := blk_gb HBH6.out hg7 (by have := HLE.out; omega)
  have HV2 := Aside0.mk (RowIn.of hv2)
  have HV1b := Aside0.mk (HV1.out.grown hg7 (by have := HLE.out; omega))
  have HR7 := Aside0.mk hr7
  have HT7 := Aside0.mk (blk_gb HT6.out hg7 (by omega))
  have HB7 := Aside0.mk (grownBy_below hg7 HB6.out (by omega))
  have HS7 := Aside0.mk hg7.size
  have hc2 := blk_cell hbh7 2
  have hc3 := blk_cell hbh7 3
  have hf2 := blk_frozen hbh7 2
  have hf3 := blk_frozen hbh7 3
  simp at hc2 hc3
  have HBH7 := Aside0.mk hbh7
  clear hv2 hr7 hg7 hbh7 HR6 HBH6 HT6 HB6 HV1
  go_wp2_with fail
  have hlt7 : gh < w7.heap.size := blk_lt HBH7.out
  have hR8 := (HR7.out.far (p := ⟨gh, 2, none⟩) (by have := HLE.out; dsimp only; omega) (fun k hk => by have := HLE.out; dsimp only; omega) (.slice A1 t1.length c1)).far (p := ⟨gh, 3, none⟩) (by have := HLE.out; dsimp only; omega) (fun k hk => by have := HLE.out; dsimp only; omega) (.slice A2 t2.length c2)
  have hB8 := (HB7.out.setCell (p := ⟨gh, 2, none⟩) (by have := HLE.out; dsimp only; omega) (.slice A1 t1.length c1)).setCell (p := ⟨gh, 3, none⟩) (by have := HLE.out; dsimp only; omega) (.slice A2 t2.length c2)
  have hT8 := blk_far (blk_far HT7.out (p := ⟨gh, 2, none⟩) (by have := HLE.out; dsimp only; omega) (.slice A1 t1.length c1)) (p := ⟨gh, 3, none⟩) (by have := HLE.out; dsimp only; omega) (.slice A2 t2.length c2)
  have hH8 := blk_put (cs := #[.int .u8 (n1 % 256), .int .u32 (n2 % 4294967296), .slice A1 t1.length c1, .slice none 0 0]) (blk_put (cs := #[.int .u8 (n1 % 256), .int .u32 (n2 % 4294967296), .slice none 0 0, .slice none 0 0]) HBH7.out 2 (.slice A1 t1.length c1) rfl) 3 (.slice A2 t2.length c2) rfl
  have hV18 := (HV1b.out.far (p := ⟨gh, 2, none⟩) (by dsimp only; omega) (.slice A1 t1.length c1)).far (p := ⟨gh, 3, none⟩) (by dsimp only; omega) (.slice A2 t2.length c2)
  have hV28 := (HV2.out.far (p := ⟨gh, 2, none⟩) (by have := HS6.out; dsimp only; omega) (.slice A1 t1.length c1)).far (p := ⟨gh, 3, none⟩) (by have := HS6.out; dsimp only; omega) (.slice A2 t2.length c2)
  have hS8 : ((w7.setCell ⟨gh, 2, none⟩ (.slice A1 t1.length c1)).setCell ⟨gh, 3, none⟩ (.slice A2 t2.length c2)).heap.size = w7.heap.size := by simp
  generalize (w7.setCell ⟨gh, 2, none⟩ (.slice A1 t1.length c1)).setCell ⟨gh, 3, none⟩ (.slice A2 t2.length c2) = w8 at hR8 hB8 hT8 hH8 hV18 hV28 hS8 ⊢
  have HR8 := Aside0.mk hR8
  have HB8 := Aside0.mk hB8
  have HT8 := Aside0.mk hT8
  have HH8 := Aside0.mk hH8
  have HV18 := Aside0.mk hV18
  have HV28 := Aside0.mk hV28
  have HS8 := Aside0.mk hS8
  clear hR8 hB8 hT8 hH8 hV18 hV28 hS8 hlt7 hc2 hc3 hf2 hf3 HR7 HB7 HT7 HBH7 HV1b HV2
  (with_reducible refine (rest_calls _ _ _ _ _ _ _ _ HR8.out HZ4.out Q5.out).mono ?_)
  rintro en w9 ⟨v3, rfl, hv3, hr9, hg9⟩
  obtain ⟨A3, c3, rfl, _, _⟩ := row_at hv3
  have HV3 := Aside0.mk (RowIn.of hv3)
  have HV19 := Aside0.mk (HV18.out.grown hg9 (by have := HLE.out; omega))
  have HV29 := Aside0.mk (HV28.out.grown hg9 (by have := HS6.out; have := HLE.out; omega))
  have HT9 := Aside0.mk (blk_gb HT8.out hg9 (by omega))
  have HH9 := Aside0.mk (blk_gb HH8.out hg9 (by have := HLE.out; omega))
  have HB9 := Aside0.mk (grownBy_below hg9 HB8.out (by omega))
  have HS9 := Aside0.mk hg9.size
  have HR9 := Aside0.mk hr9
  clear hv3 hr9 hg9 HR8 HB8 HT8 HH8 HV18 HV28
  obtain ⟨A9, c9, hb9, _, _, _⟩ := HR9.out.opens
  have HE := Aside0.mk (err_calls w9 (w.heap.size + 1) e5 _ hb9)
  clear hb9
  have ht0 := blk_cell HT9.out 0
  have ht1 := blk_cell HT9.out 1
  have ht2 := blk_cell HT9.out 2
  have ht3 := blk_cell HT9.out 3
  have hu0 := blk_frozen HT9.out 0
  have hu1 := blk_frozen HT9.out 1
  have hu2 := blk_frozen HT9.out 2
  have hu3 := blk_frozen HT9.out 3
  have hh0 := blk_cell HH9.out 0
  have hh1 := blk_cell HH9.out 1
  have hh2 := blk_cell HH9.out 2
  have hh3 := blk_cell HH9.out 3
  simp at ht0 ht1 ht2 ht3 hh0 hh1 hh2 hh3
  by_cases h5 : e5 = 0
  · subst h5
    go_wp2_with (go_at_call 23; (with_reducible refine HE.out.mono ?_); rintro en w10 ⟨rfl, rfl⟩)
    have hres := HRES.out
    rw [if_pos trivial] at hres
    simp only [Prod.mk.injEq] at hres
    obtain ⟨rfl, rfl, rfl, rfl, rfl, rfl⟩ := hres
    have hlt := HLE.out
    have hs6 := HS6.out
    have hs7 := HS7.out
    have hs8 := HS8.out
    have hs9 := HS9.out
    refine bodyPost_ret (results_ctt rfl _ _ w.heap.size 27 #[.int .u8 (n1 % 256), .int .u32 (n2 % 4294967296), .slice A1 t1.length c1, .slice A2 t2.length c2] (0, 0) _ rfl (blk_put (cs := #[.int .u8 (n1 % 256), .int .u32 (n2 % 4294967296), .slice A1 t1.length c1, .slice none 0 0]) (blk_put (cs := #[.int .u8 (n1 % 256), .int .u32 (n2 % 4294967296), .slice none 0 0, .slice none 0 0]) (blk_put (cs := #[.int .u8 (n1 % 256), .int .u32 0, .slice none 0 0, .slice none 0 0]) (blk_put (cs := #[.int .u8 0, .int .u32 0, .slice none 0 0, .slice none 0 0]) HT9.out 0 _ rfl) 1 _ rfl) 2 _ rfl) 3 _ rfl) Try.underlying27 rfl (by kernel_rfl)) rfl ?_
    have q1 := (((HV19.out.far (p := ⟨w.heap.size, 0, none⟩) (by dsimp only; omega) (.int .u8 (n1 % 256))).far (p := ⟨w.heap.size, 1, none⟩) (by dsimp only; omega) (.int .u32 (n2 % 4294967296))).far (p := ⟨w.heap.size, 2, none⟩) (by dsimp only; omega) (.slice A1 t1.length c1)).far (p := ⟨w.heap.size, 3, none⟩) (by dsimp only; omega) (.slice A2 t2.length c2)
    have q2 := (((HV29.out.far (p := ⟨w.heap.size, 0, none⟩) (by dsimp only; omega) (.int .u8 (n1 % 256))).far (p := ⟨w.heap.size, 1, none⟩) (by dsimp only; omega) (.int .u32 (n2 % 4294967296))).far (p := ⟨w.heap.size, 2, none⟩) (by dsimp only; omega) (.slice A1 t1.length c1)).far (p := ⟨w.heap.size, 3, none⟩) (by dsimp only; omega) (.slice A2 t2.length c2)
    have q3 := (((HV3.out.far (p := ⟨w.heap.size, 0, none⟩) (by dsimp only; omega) (.int .u8 (n1 % 256))).far (p := ⟨w.heap.size, 1, none⟩) (by dsimp only; omega) (.int .u32 (n2 % 4294967296))).far (p := ⟨w.heap.size, 2, none⟩) (by dsimp only; omega) (.slice A1 t1.length c1)).far (p := ⟨w.heap.size, 3, none⟩) (by dsimp only; omega) (.slice A2 t2.length c2)
    refine ⟨.slice A1 t1.length c1, .slice A2 t2.length c2, .slice A3 t3.length c3, rfl, Kd.R_lower (Kd.R_mono q1 (fun k hk => ⟨fun e => ?_, fun e => ?_⟩)) (by omega), Kd.R_lower (Kd.R_mono q2 (fun k hk => ⟨fun e => ?_, fun e => ?_⟩)) (by omega), Kd.R_lower (Kd.R_mono q3 (fun k hk => ⟨fun e => ?_, fun e => ?_⟩)) (by omega), ?_⟩
    · have := q2.base k e.symm; omega
    · have := q3.base k e.symm; omega
    · have := q1.base k e.symm; omega
    · have := q3.base k e.symm; omega
    · have := q1.base k e.symm; omega
    · have := q2.base k e.symm; omega
    · exact (((HB9.out.setCell (p := ⟨w.heap.size, 0, none⟩) (Nat.le_refl _) _).setCell (p := ⟨w.heap.size, 1, none⟩) (Nat.le_refl _) _).setCell (p := ⟨w.heap.size, 2, none⟩) (Nat.le_refl _) _).setCell (p := ⟨w.heap.size, 3, none⟩) (Nat.le_refl _) _
  · have h5b : (e5 != 0) = true := bne_iff_ne.mpr h5
    go_wp2_with (go_at_call 23; (with_reducible refine HE.out.mono ?_); rintro en w10 ⟨rfl, rfl⟩)
    have hres := HRES.out
    rw [if_neg h5] at hres
    simp only [Prod.mk.injEq] at hres
    obtain ⟨rfl, rfl, rfl, rfl, rfl, rfl⟩ := hres
    have hlt := HLE.out
    have hs6 := HS6.out
    have hs7 := HS7.out
    have hs8 := HS8.out
    have hs9 := HS9.out
    refine bodyPost_ret (results_ctt rfl _ _ w.heap.size 27 #[.int .u8 0, .int .u32 0, .slice none 0 0, .slice none 0 0] (0, 0) _ rfl (blk_put (cs := #[.int .u8 0, .int .u32 0, .slice none 0 0, .slice none 0 0]) (blk_put (cs := #[.int .u8 0, .int .u32 0, .slice none 0 0, .slice none 0 0]) (blk_put (cs := #[.int .u8 0, .int .u32 0, .slice none 0 0, .slice none 0 0]) (blk_put (cs := #[.int .u8 0, .int .u32 0, .slice none 0 0, .slice none 0 0]) HT9.out 0 _ rfl) 1 _ rfl) 2 _ rfl) 3 _ rfl) Try.underlying27 rfl (by kernel_rfl)) rfl ?_
    refine ⟨.slice none 0 0, .slice none 0 0, .slice none 0 0, rfl, Kd.R_nil _ _ _ _ _, Kd.R_nil _ _ _ _ _, Kd.R_nil _ _ _ _ _, ?_⟩
    exact (((HB9.out.setCell (p := ⟨w.heap.size, 0, none⟩) (Nat.le_refl _) _).setCell (p := ⟨w.heap.size, 1, none⟩) (Nat.le_refl _) _).setCell (p := ⟨w.heap.size, 2, none⟩) (Nat.le_refl _) _).setCell (p := ⟨w.heap.size, 3, none⟩) (Nat.le_refl _) _
set_option maxRecDepth 100000 in
set_option maxHeartbeats 1000000 in
theorem head_Parse.kind (A0 : Option Addr) (c0 : Nat) (l0 : List Int) (w : World) (hr0 : Kd.C (Kd.int .u8) w A0 l0.length l0) (hc0 : l0.length ≤ c0) (hb : head_Long.f l0 = some false) (hlen : 0 < l0.length) :
    Calls Try.prog 18 #[.slice A0 l0.length c0] w fun e w' => e = .returned (.tuple #[.agg #[.int .u8 0, .int .u32 0, .slice none 0 0, .slice none 0 0], .slice none 0 0, .int .i64 14]) ∧ Below w.heap.size w w' := by
  have HR0 := Aside0.mk hr0
  have HC0 := Aside0.mk hc0
  have HLG := Aside0.mk hb
  clear hr0 hc0 hb
  go_enter Try.func18, Try.ntmps18
  go_wp2_with fail
  (with_reducible refine (head_Long.calls _ _ _ _ _ (Kd.C_alloc HR0.out _) HC0.out HLG.out).mono ?_)
  rintro en w1 ⟨rfl, ⟨nd, rfl⟩⟩
  go_wp2_with fail
  have h0 := heap_alloc_new w (.cells #[.int .u8 0, .int .u32 0, .slice none 0 0, .slice none 0 0] 27)
  refine bodyPost_ret (results_ctt rfl _ _ w.heap.size 27 #[.int .u8 0, .int .u32 0, .slice none 0 0, .slice none 0 0] (0, 0) _ rfl (by exact blk_put (cs := #[.int .u8 0, .int .u32 0, .slice none 0 0, .slice none 0 0]) (blk_put (cs := #[.int .u8 0, .int .u32 0, .slice none 0 0, .slice none 0 0]) (blk_put (cs := #[.int .u8 0, .int .u32 0, .slice none 0 0, .slice none 0 0]) (blk_put (cs := #[.int .u8 0, .int .u32 0, .slice none 0 0, .slice none 0 0]) (blk_drewN h0 _) 0 _ rfl) 1 _ rfl) 2 _ rfl) 3 _ rfl) Try.underlying27 rfl (by kernel_rfl)) rfl ?_
  have hB := pw_below_drewN (below_alloc (Below.refl _ w) (.cells #[.int .u8 0, .int .u32 0, .slice none 0 0, .slice none 0 0] 27)) nd
  exact ⟨rfl, (((hB.setCell (p := ⟨w.heap.size, 0, none⟩) (Nat.le_refl _) _).setCell (p := ⟨w.heap.size, 1, none⟩) (Nat.le_refl _) _).setCell (p := ⟨w.heap.size, 2, none⟩) (Nat.le_refl _) _).setCell (p := ⟨w.heap.size, 3, none⟩) (Nat.le_refl _) _⟩
def head_Parse.f (k : Nat) (l0 : List Int) : Option (Int × Int × List Int × List Int × List Int × Int) :=
  if l0.length < 140737488355328 then (head_Long.f l0).bind fun b => if (decide (0 < l0.length) && !b) = true then some (0, 0, [], [], [], 14) else
    (rdNum k 0 l0 1).bind fun n1 => (rdNum k n1.2.1 n1.2.2 4).bind fun n2 => (rdShort k n2.2.1 n2.2.2).bind fun s1 => (rdShort k s1.2.1 s1.2.2).bind fun s2 =>
      if (rdBytes s2.2.1 s2.2.2 (s2.2.2.length : Int)).2.1 = 0 then some (n1.1 % 256, n2.1 % 4294967296, s1.1, s2.1, (rdBytes s2.2.1 s2.2.2 (s2.2.2.length : Int)).1, (0 : Int)) else some (0, 0, [], [], [], (rdBytes s2.2.1 s2.2.2 (s2.2.2.length : Int)).2.1)
  else none
theorem rdNum_mono (k : Nat) (e : Int) (l : List Int) (size : Int) : LeO (rdNum k e l size) (rdNum (k + 1) e l size) := by
  unfold rdNum
  exact LeO.ite (LeO.bind (octet_Num.mono _ k) (fun _ => LeO.refl _)) (LeO.refl _)
theorem rdShort_mono (k : Nat) (e : Int) (l : List Int) : LeO (rdShort k e l) (rdShort (k + 1) e l) := by
  unfold rdShort
  exact LeO.bind (rdNum_mono k e l 1) (fun _ => LeO.refl _)
theorem head_Parse.mono : ∀ (l0 : List Int) (k : Nat), LeO (head_Parse.f k l0) (head_Parse.f (k + 1) l0) := by
  intro l0 k
  unfold head_Parse.f
  exact LeO.ite (LeO.bind (LeO.refl _) (fun _ => LeO.ite (LeO.refl _) (LeO.bind (rdNum_mono k _ _ _) (fun _ => LeO.bind (rdNum_mono k _ _ _) (fun _ => LeO.bind (rdShort_mono k _ _) (fun _ => LeO.bind (rdShort_mono k _ _) (fun _ => LeO.refl _))))))) (LeO.refl _)
theorem head_Parse.calls (k : Nat) (A0 : Option Addr) (c0 : Nat) (l0 : List Int) (r1 : Int) (r2 : Int) (r3 : List Int) (r4 : List Int) (r5 : List Int) (r6 : Int) (w : World) (hr0 : Kd.C (Kd.int .u8) w A0 l0.length l0) (hc0 : l0.length ≤ c0) (h : head_Parse.f k l0 = some (r1, r2, r3, r4, r5, r6)) :
    Calls Try.prog 18 #[.slice A0 l0.length c0] w fun e w' => ∃ v2_ v3_ v4_ : Value, e = .returned (.tuple #[.agg #[.int .u8 r1, .int .u32 r2, v2_, v3_], v4_, .int .i64 r6]) ∧ Kd.R (Kd.int .u8) 5 w' w.heap.size (fun k_ => some k_ ≠ (v3_ : Value).ownBlock ∧ some k_ ≠ (v4_ : Value).ownBlock) v2_ r3 ∧ Kd.R (Kd.int .u8) 5 w' w.heap.size (fun k_ => some k_ ≠ (v2_ : Value).ownBlock ∧ some k_ ≠ (v4_ : Value).ownBlock) v3_ r4 ∧ Kd.R (Kd.int .u8) 5 w' w.heap.size (fun k_ => some k_ ≠ (v2_ : Value).ownBlock ∧ some k_ ≠ (v3_ : Value).ownBlock) v4_ r5 ∧ Below w.heap.size w w' := by
  unfold head_Parse.f at h
  by_cases hl : l0.length < 140737488355328
  · rw [if_pos hl] at h
    obtain ⟨b, hb, h⟩ := Option.bind_eq_some_iff.1 h
    by_cases hk : (decide (0 < l0.length) && !b) = true
    · rw [if_pos hk] at h
      simp only [Option.some.injEq, Prod.mk.injEq] at h
      obtain ⟨rfl, rfl, rfl, rfl, rfl, rfl⟩ := h
      rw [Bool.and_eq_true, decide_eq_true_iff, Bool.not_eq_true'] at hk
      obtain ⟨hlen, rfl⟩ := hk
      exact (head_Parse.kind A0 c0 l0 w hr0 hc0 hb hlen).mono fun e w' ⟨he, hB⟩ => ⟨_, _, _, he, Kd.R_nil _ _ _ _ _, Kd.R_nil _ _ _ _ _, Kd.R_nil _ _ _ _ _, hB⟩
    · rw [if_neg hk] at h
      obtain ⟨⟨n1, e1, m1⟩, q1, h⟩ := Option.bind_eq_some_iff.1 h
      obtain ⟨⟨n2, e2, m2⟩, q2, h⟩ := Option.bind_eq_some_iff.1 h
      obtain ⟨⟨t1, e3, m3⟩, q3, h⟩ := Option.bind_eq_some_iff.1 h
      obtain ⟨⟨t2, e4, m4⟩, q4, h⟩ := Option.bind_eq_some_iff.1 h
      obtain ⟨⟨t3, e5, m5⟩, q5⟩ : ∃ x, rdBytes e4 m4 (m4.length : Int) = x := ⟨_, rfl⟩
      dsimp only at q2 q3 q4 h
      rw [q5] at h
      have hres : (if e5 = 0 then (n1 % 256, n2 % 4294967296, t1, t2, t3, (0 : Int)) else (0, 0, [], [], [], e5)) = (r1, r2, r3, r4, r5, r6) := by
        split at h <;> rename_i h5
        · rw [if_pos h5]; exact Option.some.inj h
        · rw [if_neg h5]; exact Option.some.inj h
      by_cases hlen : 0 < l0.length
      · have hbt : b = true := by
          rw [decide_eq_true hlen, Bool.true_and] at hk
          cases b <;> simp_all
        exact head_Parse.straight k A0 c0 l0 n1 n2 e1 e2 e3 e4 e5 m1 m2 m3 m4 m5 t1 t2 t3 w hr0 hc0 hl b hb hlen hbt q1 q2 q3 q4 q5 r1 r2 r6 r3 r4 r5 hres
      · exact head_Parse.empty k A0 c0 l0 n1 n2 e1 e2 e3 e4 e5 m1 m2 m3 m4 m5 t1 t2 t3 w hr0 hc0 hl hlen q1 q2 q3 q4 q5 r1 r2 r6 r3 r4 r5 hres
  · rw [if_neg hl] at h
    cases h


/-! ### initial_Type: function 12 -/
def initial_Type.f (a0 : Int) : Option (Int) := some (wrap64 (Go.bits .and .u8 (a0 / 16) 3))
set_option maxHeartbeats 8000000 in
set_option maxRecDepth 100000 in
theorem initial_Type.calls (a0 : Int) (r : Int) (w : World) (h : initial_Type.f a0 = some r) :
    Calls Try.prog 12 #[.int .u8 a0] w fun e w' => e = .returned (.int .i64 r) ∧ Drawn0 w w' := by
  have H : (some (wrap64 (Go.bits .and .u8 (a0 / 16) 3))) = some r := h
  clear h
  obtain rfl := Option.some.inj H
  go_enter Try.func12, Try.ntmps12
  go_wp2
  go_ret
  exact ⟨by first | rfl | (simp; done) | (simp [*]; done), by repeat (first | exact Drawn0.refl _ | apply Drawn0.step)⟩

end Go.Proofs.Ytmhmmmkpijbbiad.M
