/- The document's reader (package crosswayref09): the contract of each of its methods. Written by hand. -/
import Derived.Test.YtmhmmmkpijbbiaaMB
namespace Go.Proofs.Ytmhmmmkpijbbiaa.M
open Go.RowKit Go.Proofs.YtmhmmmkpijbbiaaW.PrintWords Go.Proofs.YtmhmmmkpijbbiaaW.PrintLast Go.Proofs.YtmhmmmkpijbbiaaW.PrintMore Go.Proofs.Ytmhmmmkpijbbiaa.X
attribute [local go_sem] max2_int min2_int max_two min_two max_three min_three max_four min_four
set_option linter.unusedVariables false
set_option linter.unusedSimpArgs false
/-- The document's reader at block s. -/
def RfAt (W : World) (s : Nat) (P : Nat → Prop) (e : Int) (l : List Int) : Prop := ∃ A c, W.heap[s]? = some (.cells #[.slice A l.length c, .int .i64 e] 44 (0, 0)) ∧ l.length ≤ c ∧ Kd.F (Kd.int .u8) W P A l.length l ∧ ¬ P s
theorem RfAt.below {W W1 : World} {s : Nat} {P : Nat → Prop} {e : Int} {l : List Int} (h : RfAt W s P e l) (hb : Below W.heap.size W W1) : RfAt W1 s P e l := by
  obtain ⟨A, c, h1, h2, h3, h4⟩ := h
  exact ⟨A, c, blk_below h1 hb, h2, Kd.F_below h3 hb, h4⟩
theorem RfAt.grown {W W' : World} {g : Nat} {P : Nat → Prop} {e : Int} {l : List Int} {row : Option Nat} (h : RfAt W g P e l) (hg : W.grownBy W' row) (h1 : row ≠ some g) (h2 : ∀ k, P k → row ≠ some k) : RfAt W' g P e l := by
  obtain ⟨A, c, hb, hc, hF, hn⟩ := h
  exact ⟨A, c, blk_grown hb hg (fun e => h1 e.symm), hc, Kd.F_grown hF hg (fun k hk e => h2 k hk e.symm), hn⟩
theorem RfAt.opens {W : World} {s : Nat} {P : Nat → Prop} {e : Int} {l : List Int} (h : RfAt W s P e l) : ∃ A c, W.heap[s]? = some (.cells #[.slice A l.length c, .int .i64 e] 44 (0, 0)) ∧ l.length ≤ c ∧ Kd.F (Kd.int .u8) W P A l.length l ∧ ¬ P s := h
set_option maxRecDepth 100000 in
set_option maxHeartbeats 2000000 in
theorem rfBytes_calls (W : World) (s : Nat) (P : Nat → Prop) (e n e2 : Int) (l r l2 : List Int) (hR : RfAt W s P e l) (hl : l.length < 140737488355328) (h : rdBytes e l n = (r, e2, l2)) :
    Calls Try.prog 39 #[.pointer (some ⟨s, 0, none⟩), .int .i64 n] W fun en W' => ∃ v, en = .returned v ∧ Kd.R (Kd.int .u8) 5 W' W.heap.size (fun _ => True) v r ∧ RfAt W' s P e2 l2 ∧ W.grownBy W' (some s) := by
  obtain ⟨A, c, hb, hc, hF, hg⟩ := hR
  have hc0 := blk_cell hb 0
  have hc1 := blk_cell hb 1
  have hf0 := blk_frozen hb 0
  have hf1 := blk_frozen hb 1
  simp at hc0 hc1
  unfold rdBytes at h
  have HB := Aside0.mk hb
  have HC := Aside0.mk hc
  have HF := Aside0.mk hF
  have HG := Aside0.mk hg
  clear hb hc hF hg
  by_cases h0 : e = 0
  rotate_left
  · have hs : stays e n (mx n 0) l.length = e := if_neg h0
    rw [hs, if_neg h0] at h
    simp only [Prod.mk.injEq] at h
    obtain ⟨rfl, rfl, rfl⟩ := h
    have h1 : (e == 0) = false := beq_eq_false_iff_ne.mpr h0
    have h2 : (e != 0) = true := bne_iff_ne.mpr h0
    clear h0 hs hl
    go_enter Try.func39, Try.ntmps39
    go_wp2_with fail
    go_ret
    exact ⟨_, rfl, Kd.R_nil _ _ _ _ _, ⟨A, c, HB.out, HC.out, HF.out, HG.out⟩, World.grownBy.refl _ _⟩
  subst h0
  by_cases hn : n < 0
  · have hs : stays 0 n (mx n 0) l.length = 11 := by rw [stays, if_pos rfl, chkS, if_pos (.inl hn)]
    rw [hs, if_neg (by decide)] at h
    simp only [Prod.mk.injEq] at h
    obtain ⟨rfl, rfl, rfl⟩ := h
    clear hs hl
    have hd : decide (n < 0) = true := decide_eq_true hn
    go_enter Try.func39, Try.ntmps39
    go_wp2_with fail
    go_ret
    have hgf := setCell_grownBy W s 1 (.int .i64 11)
    exact ⟨_, rfl, Kd.R_nil _ _ _ _ _, ⟨A, c, blk_put (cs := #[.slice A l.length c, .int .i64 0]) HB.out 1 _ rfl, HC.out, Kd.F_grown HF.out hgf (fun k hk e => HG.out (by cases e; exact hk)), HG.out⟩, hgf⟩
  have hmx : mx n 0 = n := by unfold mx; first | (rw [if_neg (by omega)]) | (rw [if_pos (by omega)]) | (split <;> omega)
  rw [hmx] at h
  obtain ⟨m, rfl⟩ := Int.eq_ofNat_of_zero_le (show 0 ≤ n by omega)
  have hd : decide ((m : Int) < 0) = false := decide_eq_false hn
  by_cases hq : (m : Int) > (l.length : Int)
  · have hs : stays 0 (m : Int) (m : Int) l.length = 12 := by rw [stays, if_pos rfl, chkS, if_neg (by omega), if_pos hq]
    rw [hs, if_neg (by decide)] at h
    simp only [Prod.mk.injEq] at h
    obtain ⟨rfl, rfl, rfl⟩ := h
    have hd2 : decide (m > l.length) = true := decide_eq_true (by omega)
    clear hs hl hmx hn
    go_enter Try.func39, Try.ntmps39
    go_wp2_with fail
    go_ret
    have hgf := setCell_grownBy W s 1 (.int .i64 12)
    exact ⟨_, rfl, Kd.R_nil _ _ _ _ _, ⟨A, c, blk_put (cs := #[.slice A l.length c, .int .i64 0]) HB.out 1 _ rfl, HC.out, Kd.F_grown HF.out hgf (fun k hk e => HG.out (by cases e; exact hk)), HG.out⟩, hgf⟩
  have hs : stays 0 (m : Int) (m : Int) l.length = 0 := by rw [stays, if_pos rfl, chkS, if_neg (by omega), if_neg hq]
  rw [hs, if_pos rfl, Int.toNat_natCast] at h
  simp only [Prod.mk.injEq] at h
  obtain ⟨hy, rfl, hz⟩ := h
  have hm : m ≤ l.length := by omega
  have hd2 : decide (m > l.length) = false := decide_eq_false (by omega)
  obtain ⟨i0, hi0, _, hsz, _⟩ := info_parts info5
  have hcut := cut_to (P := Try.prog) 28 5 .i64 Try.underlying28 hi0 A l.length c (m : Int) (by omega) (by omega) HC.out
  rw [Int.toNat_natCast] at hcut
  have hyl : r.length = m := by rw [← hy, List.length_take]; omega
  have hcut1 : ∀ W' : World, (Instr.slice 28 (.slice A l.length c) none (some (.int .i64 (m : Int))) none).run Try.prog W' = .ok (.slice A r.length c) W' := fun W' => by rw [hyl]; exact hcut W'
  clear hcut
  have HY := Aside0.mk (show Kd.C (Kd.int .u8) W A r.length r by rw [← hy]; exact Kd.F_now (Kd.F_take HF.out hm))
  have hzl : l2.length = l.length - m := by rw [← hz, List.length_drop]
  have hcut2 := cut_from (P := Try.prog) 28 5 .i64 Try.underlying28 hi0 1 hsz A l.length c (m : Int) (by omega) (by omega)
  rw [Int.toNat_natCast] at hcut2
  have hFz := Kd.F_cut (m := m) (c := c) HF.out hm HC.out
  obtain ⟨A2, hA2⟩ : ∃ A2 : Option Addr, A2 = (if c = m then A else A.map (·.add (m * 1))) := ⟨_, rfl⟩
  obtain ⟨c2, hc2⟩ : ∃ c2 : Nat, c2 = c - m := ⟨_, rfl⟩
  have HZ := Aside0.mk (show Kd.F (Kd.int .u8) W P A2 l2.length l2 by rw [hA2, ← hz]; exact hFz)
  rw [← hA2, ← hzl, ← hc2] at hcut2
  have HZ2 := Aside0.mk (show l2.length ≤ c2 by have := HC.out; omega)
  have HL := Aside0.mk (show r.length < 140737488355328 by omega)
  clear hFz hyl hzl hA2 hc2 hm hl hi0 hsz hy hz hs hn hq hmx
  go_enter Try.func39, Try.ntmps39
  go_wp2_with (first | ((with_reducible refine gate_dst (N := 40) rfl ?_); refine Kd.R_lit (Kd.int .u8) _ 5 ?hg (N := 40) ?hd (xs := ([] : List Int)) (inner := []) (ok := fun _ => True) (okp := fun _ => True) ?hr ?hp (fun _ hk => hk) trivial (Below.refl _ _) (Nat.le_refl _) (by simp) ?_; (case hd => rfl); (case hg => rfl); (case hr => first | (go_simp; done) | (go_simp; rfl)); (case hp => exact (Reps.none _ _)); intro v3 w3 ho4 hb3 hg_ hnew_; clear hg_ hnew_; have hb_ := blk_below HB.out hb3; have hk0 := blk_cell hb_ 0; have hk1 := blk_cell hb_ 1; have hm0 := blk_frozen hb_ 0; simp at hk0 hk1; have HO4 := Aside0.mk ho4; have HBel := Aside0.mk hb3; clear hb_ ho4 hb3) | (at_builtin; refine Kd.R_append_rows (Kd.int .u8) (w0 := W) W.heap.size rfl (.tmp 40) (.tmp 46) 28 5 (.int .u8 0) 1 rfl Try.underlying28 info5 rfl (by decide) (by omega) v3 [] r A r.length c (fun _ => True) (fun _ => False) rfl rfl HO4.out (Kd.C_below HY.out HBel.out) (fun _ _ h => h) (fun _ h => h.elim) (fun _ _ => trivial) HBel.out ?aS ?aL ?_; (case aS => exact HBel.out.size); (case aL => have := HL.out; simp only [List.length_nil]; omega); intro v5 w5 ho hb5 hg5 hat; rw [List.nil_append] at ho; have hb_ := blk_below HB.out hb5; have hj0 := blk_cell hb_ 0; have hj1 := blk_cell hb_ 1; have hn0 := blk_frozen hb_ 0; simp at hj0 hj1; have HB5 := Aside0.mk hb_; have HO := Aside0.mk ho; have HBel5 := Aside0.mk hb5; clear hb_ ho hb5 hg5 hat))
  go_ret
  have hsg := setCell_grownBy w5 s 0 (.slice A2 l2.length c2)
  have hlt : s < W.heap.size := blk_lt HB.out
  refine ⟨_, rfl, ?_, ?_, (below_grownBy HBel5.out (some s)).trans hsg⟩
  · exact Kd.R_mono (Kd.R_grown (Kd.R_bound HO.out) hsg (fun k hk e => by cases e; have := hk.2.1; omega)) (fun _ _ => trivial)
  · exact ⟨A2, c2, blk_put (cs := #[.slice A l.length c, .int .i64 0]) HB5.out 0 _ rfl, HZ2.out, Kd.F_grown (Kd.F_below HZ.out HBel5.out) hsg (fun k hk e => HG.out (by cases e; exact hk)), HG.out⟩
/-- What the document's Num tells. -/
def rfNum (k : Nat) (e : Int) (l : List Int) (size : Int) : Option (Int × Int × List Int) :=
  if stays e size 8 l.length = 0 then (crosswayref01_Num.f k (l.take size.toNat)).bind fun b => some (b.1, 0, l.drop size.toNat) else (crosswayref01_Num.f k []).bind fun b => some (b.1, stays e size 8 l.length, l)
theorem rfNum_open {k : Nat} {e size v e2 : Int} {l l2 : List Int} (h : rfNum k e l size = some (v, e2, l2)) : ∃ r b, rdBytes (if e = 0 ∧ (size < 0 ∨ size > 8) then 11 else e) l size = (r, e2, l2) ∧ crosswayref01_Num.f k r = some (v, b) := by
  have hst : stays (if e = 0 ∧ (size < 0 ∨ size > 8) then 11 else e) size (mx size 0) l.length = stays e size 8 l.length := by
    have hmx : size ≥ 0 → mx size 0 = size := by intro hs; unfold mx; first | (rw [if_neg (by omega)]) | (rw [if_pos (by omega)]) | (split <;> omega)
    by_cases h0 : e = 0
    · by_cases h1 : size < 0 ∨ size > 8
      · rw [if_pos ⟨h0, h1⟩, stays, stays, if_neg (by decide), if_pos h0, chkS, if_pos h1]
      · rw [if_neg (fun x => h1 x.2), stays, stays, if_pos h0, if_pos h0, chkS, chkS, hmx (by omega), if_neg (by omega), if_neg h1]
    · rw [if_neg (fun x => h0 x.1), stays, stays, if_neg h0, if_neg h0]
  unfold rfNum at h
  unfold rdBytes
  rw [hst]
  by_cases hs : stays e size 8 l.length = 0
  · rw [if_pos hs] at h ⊢
    obtain ⟨⟨b1, b2⟩, hn, h2⟩ := Option.bind_eq_some_iff.1 h
    simp only [Option.some.injEq, Prod.mk.injEq] at h2
    obtain ⟨rfl, rfl, rfl⟩ := h2
    exact ⟨_, b2, rfl, hn⟩
  · rw [if_neg hs] at h ⊢
    obtain ⟨⟨b1, b2⟩, hn, h2⟩ := Option.bind_eq_some_iff.1 h
    simp only [Option.some.injEq, Prod.mk.injEq] at h2
    obtain ⟨rfl, rfl, rfl⟩ := h2
    exact ⟨_, b2, rfl, hn⟩
set_option maxRecDepth 100000 in
set_option maxHeartbeats 2000000 in
theorem rfNum_calls (k : Nat) (W : World) (s : Nat) (P : Nat → Prop) (e size v e2 : Int) (l l2 : List Int) (hR : RfAt W s P e l) (hl : l.length < 140737488355328) (h : rfNum k e l size = some (v, e2, l2)) :
    Calls Try.prog 38 #[.pointer (some ⟨s, 0, none⟩), .int .i64 size] W fun en W' => en = .returned (.int .u64 v) ∧ RfAt W' s P e2 l2 ∧ W.grownBy W' (some s) := by
  obtain ⟨r, b, hby, hnum⟩ := rfNum_open h
  clear h
  obtain ⟨A, c, hb, hc, hF, hg⟩ := hR.opens
  have hc0 := blk_cell hb 0
  have hc1 := blk_cell hb 1
  have hf0 := blk_frozen hb 0
  have hf1 := blk_frozen hb 1
  simp at hc0 hc1
  have HB := Aside0.mk hb
  have HC := Aside0.mk hc
  have HF := Aside0.mk hF
  have HG := Aside0.mk hg
  have HR := Aside0.mk hR
  have HL := Aside0.mk hl
  have HN := Aside0.mk hnum
  clear hb hc hF hg hR hl hnum
  by_cases h0 : e = 0
  rotate_left
  · rw [if_neg (fun x => h0 x.1)] at hby
    have HBY := Aside0.mk hby
    have h1 : (e == 0) = false := beq_eq_false_iff_ne.mpr h0
    clear hby h0
    go_enter Try.func38, Try.ntmps38
    go_wp2_with (first | (go_at_call 39; (with_reducible refine (rfBytes_calls _ s P e size e2 l r l2 HR.out HL.out HBY.out).mono ?_); rintro en w2 ⟨vr, rfl, hv, hr2, hg2⟩; obtain ⟨A2, c2, rfl, hvc, hvC⟩ := row_at hv; have HV := Aside0.mk hvC; have HVC := Aside0.mk hvc; have HR2 := Aside0.mk hr2; have HG2 := Aside0.mk hg2; clear hv hvc hvC hr2 hg2) | (go_at_call 59; (with_reducible refine (crosswayref01_Num.calls k _ _ _ _ _ _ HV.out HVC.out HN.out).mono ?_); rintro en w3 ⟨rfl, hd3⟩; have HD := Aside0.mk hd3.below; clear hd3))
    go_ret
    exact ⟨rfl, HR2.out.below HD.out, (HG2.out.trans (below_grownBy HD.out _))⟩
  subst h0
  have h1 : ((0 : Int) == 0) = true := rfl
  by_cases hq : size < 0
  · rw [if_pos ⟨rfl, (.inl hq)⟩] at hby
    have HBY := Aside0.mk hby
    have hq2 : decide (size < 0) = true := decide_eq_true hq
    clear hby
    go_enter Try.func38, Try.ntmps38
    go_wp2_with fail
    have HR1 := Aside0.mk (show RfAt (W.setCell ⟨s, 1, none⟩ (.int .i64 11)) s P 11 l from ⟨A, c, blk_put (cs := #[.slice A l.length c, .int .i64 0]) HB.out 1 _ rfl, HC.out, Kd.F_grown HF.out (setCell_grownBy W s 1 _) (fun k hk e => HG.out (by cases e; exact hk)), HG.out⟩)
    go_wp2_with (first | (go_at_call 39; (with_reducible refine (rfBytes_calls _ s P 11 size e2 l r l2 HR1.out HL.out HBY.out).mono ?_); rintro en w2 ⟨vr, rfl, hv, hr2, hg2⟩; obtain ⟨A2, c2, rfl, hvc, hvC⟩ := row_at hv; have HV := Aside0.mk hvC; have HVC := Aside0.mk hvc; have HR2 := Aside0.mk hr2; have HG2 := Aside0.mk hg2; clear hv hvc hvC hr2 hg2) | (go_at_call 59; (with_reducible refine (crosswayref01_Num.calls k _ _ _ _ _ _ HV.out HVC.out HN.out).mono ?_); rintro en w3 ⟨rfl, hd3⟩; have HD := Aside0.mk hd3.below; clear hd3))
    go_ret
    exact ⟨rfl, HR2.out.below HD.out, ((setCell_grownBy W s 1 (.int .i64 11)).trans (HG2.out.trans (below_grownBy HD.out _)))⟩
  by_cases hq : size > 8
  · rw [if_pos ⟨rfl, (.inr hq)⟩] at hby
    have HBY := Aside0.mk hby
    have hq2 : decide (size > 8) = true := decide_eq_true hq
    clear hby
    go_enter Try.func38, Try.ntmps38
    go_wp2_with fail
    have HR1 := Aside0.mk (show RfAt (W.setCell ⟨s, 1, none⟩ (.int .i64 11)) s P 11 l from ⟨A, c, blk_put (cs := #[.slice A l.length c, .int .i64 0]) HB.out 1 _ rfl, HC.out, Kd.F_grown HF.out (setCell_grownBy W s 1 _) (fun k hk e => HG.out (by cases e; exact hk)), HG.out⟩)
    go_wp2_with (first | (go_at_call 39; (with_reducible refine (rfBytes_calls _ s P 11 size e2 l r l2 HR1.out HL.out HBY.out).mono ?_); rintro en w2 ⟨vr, rfl, hv, hr2, hg2⟩; obtain ⟨A2, c2, rfl, hvc, hvC⟩ := row_at hv; have HV := Aside0.mk hvC; have HVC := Aside0.mk hvc; have HR2 := Aside0.mk hr2; have HG2 := Aside0.mk hg2; clear hv hvc hvC hr2 hg2) | (go_at_call 59; (with_reducible refine (crosswayref01_Num.calls k _ _ _ _ _ _ HV.out HVC.out HN.out).mono ?_); rintro en w3 ⟨rfl, hd3⟩; have HD := Aside0.mk hd3.below; clear hd3))
    go_ret
    exact ⟨rfl, HR2.out.below HD.out, ((setCell_grownBy W s 1 (.int .i64 11)).trans (HG2.out.trans (below_grownBy HD.out _)))⟩
  rw [if_neg (fun x => by omega)] at hby
  have HBY := Aside0.mk hby
  clear hby
  go_enter Try.func38, Try.ntmps38
  go_wp2_with (first | (go_at_call 39; (with_reducible refine (rfBytes_calls _ s P 0 size e2 l r l2 HR.out HL.out HBY.out).mono ?_); rintro en w2 ⟨vr, rfl, hv, hr2, hg2⟩; obtain ⟨A2, c2, rfl, hvc, hvC⟩ := row_at hv; have HV := Aside0.mk hvC; have HVC := Aside0.mk hvc; have HR2 := Aside0.mk hr2; have HG2 := Aside0.mk hg2; clear hv hvc hvC hr2 hg2) | (go_at_call 59; (with_reducible refine (crosswayref01_Num.calls k _ _ _ _ _ _ HV.out HVC.out HN.out).mono ?_); rintro en w3 ⟨rfl, hd3⟩; have HD := Aside0.mk hd3.below; clear hd3))
  go_ret
  exact ⟨rfl, HR2.out.below HD.out, (HG2.out.trans (below_grownBy HD.out _))⟩
/-- What the document's Vari tells. -/
def rfVari (k : Nat) (e : Int) (l : List Int) : Option (Int × Int × List Int) := if e = 0 then (crosswayref08_Take.f k l).bind fun t => if 0 ≤ t.2.1 ∧ t.2.1 ≤ (l.length : Int) then some (t.1, t.2.2, l.drop t.2.1.toNat) else none else some (0, e, l)
set_option maxRecDepth 100000 in
set_option maxHeartbeats 2000000 in
theorem rfVari_calls (k : Nat) (W : World) (s : Nat) (P : Nat → Prop) (e v e2 : Int) (l l2 : List Int) (hR : RfAt W s P e l) (hl : l.length < 140737488355328) (h : rfVari k e l = some (v, e2, l2)) :
    Calls Try.prog 40 #[.pointer (some ⟨s, 0, none⟩)] W fun en W' => en = .returned (.int .u64 v) ∧ RfAt W' s P e2 l2 ∧ W.grownBy W' (some s) := by
  obtain ⟨A, c, hb, hc, hF, hg⟩ := hR.opens
  have hc0 := blk_cell hb 0
  have hc1 := blk_cell hb 1
  simp at hc0 hc1
  have HB := Aside0.mk hb
  have HC := Aside0.mk hc
  have HF := Aside0.mk hF
  have HG := Aside0.mk hg
  have HR := Aside0.mk hR
  clear hb hc hF hg hR
  unfold rfVari at h
  by_cases h0 : e = 0
  rotate_left
  · rw [if_neg h0] at h
    simp only [Option.some.injEq, Prod.mk.injEq] at h
    obtain ⟨rfl, rfl, rfl⟩ := h
    have h1 : (e != 0) = true := bne_iff_ne.mpr h0
    clear h0 hl
    go_enter Try.func40, Try.ntmps40
    go_wp2_with fail
    go_ret
    exact ⟨rfl, HR.out, World.grownBy.refl _ _⟩
  rw [if_pos h0] at h
  subst h0
  obtain ⟨⟨t1, t2, t3⟩, ht, h2⟩ := Option.bind_eq_some_iff.1 h
  clear h
  dsimp only at h2
  by_cases hq : 0 ≤ t2 ∧ t2 ≤ (l.length : Int)
  rotate_left
  · rw [if_neg hq] at h2; cases h2
  rw [if_pos hq] at h2
  simp only [Option.some.injEq, Prod.mk.injEq] at h2
  obtain ⟨rfl, rfl, hz⟩ := h2
  obtain ⟨m, rfl⟩ := Int.eq_ofNat_of_zero_le hq.1
  rw [Int.toNat_natCast] at hz
  have hm : m ≤ l.length := by have := hq.2; omega
  obtain ⟨i0, hi0, _, hsz, _⟩ := info_parts info5
  have hzl : l2.length = l.length - m := by rw [← hz, List.length_drop]
  have hcut2 := cut_from (P := Try.prog) 28 5 .i64 Try.underlying28 hi0 1 hsz A l.length c (m : Int) (by omega) (by omega)
  rw [Int.toNat_natCast] at hcut2
  have hFz := Kd.F_cut (m := m) (c := c) HF.out hm HC.out
  obtain ⟨A2, hA2⟩ : ∃ A2 : Option Addr, A2 = (if c = m then A else A.map (·.add (m * 1))) := ⟨_, rfl⟩
  obtain ⟨c2, hc2⟩ : ∃ c2 : Nat, c2 = c - m := ⟨_, rfl⟩
  have HZ := Aside0.mk (show Kd.F (Kd.int .u8) W P A2 l2.length l2 by rw [hA2, ← hz]; exact hFz)
  rw [← hA2, ← hzl, ← hc2] at hcut2
  have HZ2 := Aside0.mk (show l2.length ≤ c2 by have := HC.out; omega)
  have HT := Aside0.mk ht
  have HCA := Aside0.mk (Kd.F_now HF.out)
  have hlt := blk_lt HB.out
  have HLT := Aside0.mk hlt
  clear hFz hzl hA2 hc2 hm hl hi0 hsz hz ht hq hlt
  go_enter Try.func40, Try.ntmps40
  go_wp2_with (go_at_call 60; (with_reducible refine (crosswayref08_Take.calls k _ _ _ _ _ _ _ HCA.out HC.out HT.out).mono ?_); rintro en w1 ⟨rfl, hb1⟩; have hb_ := blk_below HB.out hb1; have hk0 := blk_cell hb_ 0; have hk1 := blk_cell hb_ 1; have hm0 := blk_frozen hb_ 0; have hm1 := blk_frozen hb_ 1; simp at hk0 hk1; have HB1 := Aside0.mk hb_; have HBel := Aside0.mk hb1; clear hb_ hb1)
  go_ret
  have hg1 := setCell_grownBy w1 s 1 (.int .i64 t3)
  have hg2 := setCell_grownBy (w1.setCell ⟨s, 1, none⟩ (.int .i64 t3)) s 0 (.slice A2 l2.length c2)
  have hgf := (below_grownBy HBel.out (some s)).trans (hg1.trans hg2)
  refine ⟨rfl, ⟨A2, c2, ?_, HZ2.out, Kd.F_grown HZ.out hgf (fun k hk e => HG.out (by cases e; exact hk)), HG.out⟩, hgf⟩
  have := blk_put (cs := #[.slice A l.length c, .int .i64 0]) HB1.out 1 (.int .i64 t3) rfl
  exact blk_put (cs := #[.slice A l.length c, .int .i64 t3]) this 0 _ rfl
/-- What the document's counted tells: the count v behind the state e1, l1; l as it was. -/
def rfCount (v e1 : Int) (l l1 : List Int) : Option (List Int × Int × List Int) := if 0 ≤ v ∧ v < 18446744073709551616 then (if v > (l1.length : Int) then some ([], if e1 = 0 then 12 else e1, l) else if e1 = 0 then some (l1.take v.toNat, 0, l1.drop v.toNat) else some ([], e1, l)) else none
set_option maxRecDepth 100000 in
set_option maxHeartbeats 2000000 in
theorem rfCount_calls (W : World) (s : Nat) (P : Nat → Prop) (v e1 e2 : Int) (l r l1 l2 : List Int) (A : Option Addr) (c : Nat) (hc : l.length ≤ c) (hF : Kd.F (Kd.int .u8) W P A l.length l) (hR : RfAt W s P e1 l1) (hl : l1.length < 140737488355328) (h : rfCount v e1 l l1 = some (r, e2, l2)) :
    Calls Try.prog 61 #[.pointer (some ⟨s, 0, none⟩), .slice A l.length c, .int .u64 v] W fun en W' => ∃ v, en = .returned v ∧ Kd.R (Kd.int .u8) 5 W' W.heap.size (fun _ => True) v r ∧ RfAt W' s P e2 l2 ∧ W.grownBy W' (some s) := by
  obtain ⟨A1, c1, hb, hc1, hF1, hg⟩ := hR.opens
  have hd0 := blk_cell hb 0
  have hd1 := blk_cell hb 1
  have hf0 := blk_frozen hb 0
  have hf1 := blk_frozen hb 1
  simp at hd0 hd1
  have HB := Aside0.mk hb
  have HC := Aside0.mk hc
  have HF := Aside0.mk hF
  have HG := Aside0.mk hg
  have HR := Aside0.mk hR
  have HL := Aside0.mk hl
  clear hb hc hF hg hR hc1 hF1
  unfold rfCount at h
  by_cases hv : 0 ≤ v ∧ v < 18446744073709551616
  rotate_left
  · rw [if_neg hv] at h; cases h
  rw [if_pos hv] at h
  obtain ⟨m, rfl⟩ := Int.eq_ofNat_of_zero_le hv.1
  by_cases h0 : e1 = 0
  · subst h0
    by_cases hq : (m : Int) > (l1.length : Int)
    · rw [if_pos hq, if_pos rfl] at h
      simp only [Option.some.injEq, Prod.mk.injEq] at h
      obtain ⟨rfl, rfl, rfl⟩ := h
      have hw : IntKind.u64.wrap (l1.length : Int) = (l1.length : Int) := by have := HL.out; simp [IntKind.wrap, IntKind.bits, IntKind.signed]; omega
      have hd2 : decide (m > l1.length) = true := decide_eq_true (by omega)
      clear hl hv hq
      go_enter Try.func61, Try.ntmps61
      go_wp2_with fail
      go_ret
      have hg1 := setCell_grownBy W s 1 (.int .i64 12)
      have hg2 := setCell_grownBy (W.setCell ⟨s, 1, none⟩ (.int .i64 12)) s 0 (.slice A l.length c)
      have hgf := hg1.trans hg2
      have := blk_put (cs := #[.slice A1 l1.length c1, .int .i64 0]) HB.out 1 (.int .i64 12) rfl
      exact ⟨_, rfl, Kd.R_nil _ _ _ _ _, ⟨A, c, blk_put (cs := #[.slice A1 l1.length c1, .int .i64 12]) this 0 _ rfl, HC.out, Kd.F_grown HF.out hgf (fun k hk e => HG.out (by cases e; exact hk)), HG.out⟩, hgf⟩
    · rw [if_neg hq, if_pos rfl] at h
      have hby : rdBytes 0 l1 (m : Int) = (r, e2, l2) := by
        have hmx : mx (m : Int) 0 = (m : Int) := by unfold mx; first | (rw [if_neg (by omega)]) | (rw [if_pos (by omega)]) | (split <;> omega)
        have hs : stays 0 (m : Int) (m : Int) l1.length = 0 := by rw [stays, if_pos rfl, chkS, if_neg (by omega), if_neg hq]
        unfold rdBytes
        rw [hmx, hs, if_pos rfl]
        exact Option.some.inj h
      have HBY := Aside0.mk hby
      have hw : IntKind.u64.wrap (l1.length : Int) = (l1.length : Int) := by have := HL.out; simp [IntKind.wrap, IntKind.bits, IntKind.signed]; omega
      have hw2 : wrap64 (m : Int) = (m : Int) := by have := HL.out; unfold wrap64; omega
      have hd2 : decide (m > l1.length) = false := decide_eq_false (by omega)
      clear hl hv hq h hby
      go_enter Try.func61, Try.ntmps61
      go_wp2_with (go_at_call 39; (with_reducible refine (rfBytes_calls _ s P 0 (m : Int) e2 l1 r l2 HR.out HL.out HBY.out).mono ?_); rintro en w2 ⟨vr, rfl, hv, hr2, hg2⟩; have HV := Aside0.mk hv; have HR2 := Aside0.mk hr2; have HG2 := Aside0.mk hg2; clear hv hr2 hg2)
      go_ret
      exact ⟨_, rfl, HV.out, HR2.out, HG2.out⟩
  · have hh : r = [] ∧ e2 = e1 ∧ l2 = l := by
      by_cases hq : (m : Int) > (l1.length : Int)
      · rw [if_pos hq, if_neg h0] at h
        simp only [Option.some.injEq, Prod.mk.injEq] at h
        exact ⟨h.1.symm, h.2.1.symm, h.2.2.symm⟩
      · rw [if_neg hq, if_neg h0] at h
        simp only [Option.some.injEq, Prod.mk.injEq] at h
        exact ⟨h.1.symm, h.2.1.symm, h.2.2.symm⟩
    obtain ⟨rfl, rfl, rfl⟩ := hh
    have h1 : (e2 == 0) = false := beq_eq_false_iff_ne.mpr h0
    have h2 : (e2 != 0) = true := bne_iff_ne.mpr h0
    clear hl hv h h0
    go_enter Try.func61, Try.ntmps61
    go_wp2_with fail
    go_ret
    have hgf := setCell_grownBy W s 0 (.slice A l2.length c)
    exact ⟨_, rfl, Kd.R_nil _ _ _ _ _, ⟨A, c, blk_put (cs := #[.slice A1 l1.length c1, .int .i64 e2]) HB.out 0 _ rfl, HC.out, Kd.F_grown HF.out hgf (fun k hk e => HG.out (by cases e; exact hk)), HG.out⟩, hgf⟩
/-- What the document's Short tells. -/
def rfShort (k : Nat) (e : Int) (l : List Int) : Option (List Int × Int × List Int) := (rfNum k e l 1).bind fun n => if n.2.2.length ≤ l.length then rfCount n.1 n.2.1 l n.2.2 else none
set_option maxRecDepth 100000 in
set_option maxHeartbeats 2000000 in
theorem rfShort_calls (k : Nat) (W : World) (s : Nat) (P : Nat → Prop) (e e2 : Int) (l r l2 : List Int) (hR : RfAt W s P e l) (hl : l.length < 140737488355328) (h : rfShort k e l = some (r, e2, l2)) :
    Calls Try.prog 41 #[.pointer (some ⟨s, 0, none⟩)] W fun en W' => ∃ v, en = .returned v ∧ Kd.R (Kd.int .u8) 5 W' W.heap.size (fun _ => True) v r ∧ RfAt W' s P e2 l2 ∧ W.grownBy W' (some s) := by
  unfold rfShort at h
  obtain ⟨⟨v, e1, l1⟩, hn, h⟩ := Option.bind_eq_some_iff.1 h
  dsimp only at h
  by_cases hq : l1.length ≤ l.length
  rotate_left
  · rw [if_neg hq] at h; cases h
  rw [if_pos hq] at h
  obtain ⟨A, c, hb, hc, hF, hg⟩ := hR.opens
  have hc0 := blk_cell hb 0
  simp at hc0
  have HC := Aside0.mk hc
  have HF := Aside0.mk hF
  have HG := Aside0.mk hg
  have HR := Aside0.mk hR
  have HL := Aside0.mk hl
  have HL1 := Aside0.mk (show l1.length < 140737488355328 by omega)
  have HN := Aside0.mk hn
  have HC2 := Aside0.mk h
  clear hb hc hF hg hR hl hn h hq
  go_enter Try.func41, Try.ntmps41
  go_wp2_with (first | (go_at_call 38; (with_reducible refine (rfNum_calls k _ s P e 1 v e1 l l1 HR.out HL.out HN.out).mono ?_); rintro en w1 ⟨rfl, hr1, hg1⟩; have HR1 := Aside0.mk hr1; have HF1 := Aside0.mk (Kd.F_grown HF.out hg1 (fun k hk e => HG.out (by cases e; exact hk))); have HG1 := Aside0.mk hg1; clear hr1 hg1) | (go_at_call 61; (with_reducible refine (rfCount_calls _ s P v e1 e2 l r l1 l2 A c HC.out HF1.out HR1.out HL1.out HC2.out).mono ?_); rintro en w2 ⟨vr, rfl, hv, hr2, hg2⟩; have HV := Aside0.mk hv; have HR2 := Aside0.mk hr2; have HG2 := Aside0.mk hg2; clear hv hr2 hg2))
  go_ret
  exact ⟨_, rfl, Kd.R_lower HV.out HG1.out.size, HR2.out, HG1.out.trans HG2.out⟩
/-- What the document's Long tells. -/
def rfLong (k : Nat) (e : Int) (l : List Int) : Option (List Int × Int × List Int) := (rfVari k e l).bind fun n => if n.2.2.length ≤ l.length then rfCount n.1 n.2.1 l n.2.2 else none
set_option maxRecDepth 100000 in
set_option maxHeartbeats 2000000 in
theorem rfLong_calls (k : Nat) (W : World) (s : Nat) (P : Nat → Prop) (e e2 : Int) (l r l2 : List Int) (hR : RfAt W s P e l) (hl : l.length < 140737488355328) (h : rfLong k e l = some (r, e2, l2)) :
    Calls Try.prog 42 #[.pointer (some ⟨s, 0, none⟩)] W fun en W' => ∃ v, en = .returned v ∧ Kd.R (Kd.int .u8) 5 W' W.heap.size (fun _ => True) v r ∧ RfAt W' s P e2 l2 ∧ W.grownBy W' (some s) := by
  unfold rfLong at h
  obtain ⟨⟨v, e1, l1⟩, hn, h⟩ := Option.bind_eq_some_iff.1 h
  dsimp only at h
  by_cases hq : l1.length ≤ l.length
  rotate_left
  · rw [if_neg hq] at h; cases h
  rw [if_pos hq] at h
  obtain ⟨A, c, hb, hc, hF, hg⟩ := hR.opens
  have hc0 := blk_cell hb 0
  simp at hc0
  have HC := Aside0.mk hc
  have HF := Aside0.mk hF
  have HG := Aside0.mk hg
  have HR := Aside0.mk hR
  have HL := Aside0.mk hl
  have HL1 := Aside0.mk (show l1.length < 140737488355328 by omega)
  have HN := Aside0.mk hn
  have HC2 := Aside0.mk h
  clear hb hc hF hg hR hl hn h hq
  go_enter Try.func42, Try.ntmps42
  go_wp2_with (first | (go_at_call 40; (with_reducible refine (rfVari_calls k _ s P e v e1 l l1 HR.out HL.out HN.out).mono ?_); rintro en w1 ⟨rfl, hr1, hg1⟩; have HR1 := Aside0.mk hr1; have HF1 := Aside0.mk (Kd.F_grown HF.out hg1 (fun k hk e => HG.out (by cases e; exact hk))); have HG1 := Aside0.mk hg1; clear hr1 hg1) | (go_at_call 61; (with_reducible refine (rfCount_calls _ s P v e1 e2 l r l1 l2 A c HC.out HF1.out HR1.out HL1.out HC2.out).mono ?_); rintro en w2 ⟨vr, rfl, hv, hr2, hg2⟩; have HV := Aside0.mk hv; have HR2 := Aside0.mk hr2; have HG2 := Aside0.mk hg2; clear hv hr2 hg2))
  go_ret
  exact ⟨_, rfl, Kd.R_lower HV.out HG1.out.size, HR2.out, HG1.out.trans HG2.out⟩
set_option maxRecDepth 100000 in
set_option maxHeartbeats 2000000 in
theorem rfRest_calls (W : World) (s : Nat) (P : Nat → Prop) (e e2 : Int) (l r l2 : List Int) (hR : RfAt W s P e l) (hl : l.length < 140737488355328) (h : rdBytes e l (l.length : Int) = (r, e2, l2)) :
    Calls Try.prog 43 #[.pointer (some ⟨s, 0, none⟩)] W fun en W' => ∃ v, en = .returned v ∧ Kd.R (Kd.int .u8) 5 W' W.heap.size (fun _ => True) v r ∧ RfAt W' s P e2 l2 ∧ W.grownBy W' (some s) := by
  have HS := Aside0.mk (rfBytes_calls W s P e (l.length : Int) e2 l r l2 hR hl h)
  obtain ⟨A, c, hb, _, _, _⟩ := hR.opens
  have hc0 := blk_cell hb 0
  simp at hc0
  clear hR hb h hl
  go_enter Try.func43, Try.ntmps43
  go_wp2_with (go_at_call 39; (with_reducible refine HS.out.mono ?_); rintro en w1 ⟨v, rfl, hv, hr1, hg1⟩; have HV := Aside0.mk hv; have HR1 := Aside0.mk hr1; have HG1 := Aside0.mk hg1; clear hv hr1 hg1)
  go_ret
  exact ⟨_, rfl, HV.out, HR1.out, HG1.out⟩
/-- What End tells: the error, that stays. -/
def rdEnd (e : Int) (l : List Int) : Int := if e = 0 ∧ l ≠ [] then 10 else e
set_option maxRecDepth 100000 in
set_option maxHeartbeats 2000000 in
theorem rfEnd_calls (W : World) (s : Nat) (P : Nat → Prop) (e : Int) (l : List Int) (hR : RfAt W s P e l) :
    Calls Try.prog 44 #[.pointer (some ⟨s, 0, none⟩)] W fun en W' => en = .returned (.int .i64 (rdEnd e l)) ∧ RfAt W' s P (rdEnd e l) l ∧ W.grownBy W' (some s) := by
  obtain ⟨A, c, hb, hc, hF, hg⟩ := hR.opens
  have hc0 := blk_cell hb 0
  have hc1 := blk_cell hb 1
  have hf1 := blk_frozen hb 1
  simp at hc0 hc1
  have HB := Aside0.mk hb
  have HC := Aside0.mk hc
  have HF := Aside0.mk hF
  have HG := Aside0.mk hg
  have HR := Aside0.mk hR
  clear hb hc hF hg hR
  by_cases h0 : e = 0
  rotate_left
  · have hs : rdEnd e l = e := if_neg (fun x => h0 x.1)
    rw [hs]
    have h1 : (e == 0) = false := beq_eq_false_iff_ne.mpr h0
    clear hs h0
    go_enter Try.func44, Try.ntmps44
    go_wp2_with fail
    go_ret
    exact ⟨rfl, HR.out, World.grownBy.refl _ _⟩
  subst h0
  by_cases hl : l = []
  · have hs : rdEnd 0 l = 0 := if_neg (fun x => x.2 hl)
    rw [hs]
    have hd : decide (0 < l.length) = false := by rw [hl]; rfl
    clear hs hl
    go_enter Try.func44, Try.ntmps44
    go_wp2_with fail
    go_ret
    exact ⟨rfl, HR.out, World.grownBy.refl _ _⟩
  · have hs : rdEnd 0 l = 10 := if_pos ⟨rfl, hl⟩
    rw [hs]
    have hd : decide (0 < l.length) = true := decide_eq_true (List.length_pos_iff.2 hl)
    clear hs hl
    go_enter Try.func44, Try.ntmps44
    go_wp2_with fail
    go_ret
    have hgf := setCell_grownBy W s 1 (.int .i64 10)
    exact ⟨rfl, ⟨A, c, blk_put (cs := #[.slice A l.length c, .int .i64 0]) HB.out 1 _ rfl, HC.out, Kd.F_grown HF.out hgf (fun k hk e => HG.out (by cases e; exact hk)), HG.out⟩, hgf⟩
end Go.Proofs.Ytmhmmmkpijbbiaa.M
