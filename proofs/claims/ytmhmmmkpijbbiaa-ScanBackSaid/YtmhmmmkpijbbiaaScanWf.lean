/- The document's writer: the contract of each of its methods, with what it leaves apart. Written by wip/gen/scanwf.py. -/
import Derived.Test.YtmhmmmkpijbbiaaMB
namespace Go.Proofs.Ytmhmmmkpijbbiaa.M
open Go.RowKit Go.Proofs.YtmhmmmkpijbbiaaW.PrintWords Go.Proofs.YtmhmmmkpijbbiaaW.PrintLast Go.Proofs.YtmhmmmkpijbbiaaW.PrintMore Go.Proofs.Ytmhmmmkpijbbiaa.X
attribute [local go_sem] max2_int min2_int max_two min_two max_three min_three max_four min_four
set_option linter.unusedVariables false
set_option linter.unusedSimpArgs false
/-- The document's writer at block s: its error, and what was put. -/
def WfAt (W : World) (s B : Nat) (e : Int) (l : List Int) : Prop := ∃ v, W.heap[s]? = some (.cells #[v, .int .i64 e] 31 (0, 0)) ∧ Kd.R (Kd.int .u8) 5 W B (fun _ => True) v l ∧ B ≤ s
theorem WfAt.below {W W1 : World} {s B : Nat} {e : Int} {l : List Int} (h : WfAt W s B e l) (hb : Below W.heap.size W W1) : WfAt W1 s B e l := by
  obtain ⟨v, h1, h2, h3⟩ := h
  exact ⟨v, blk_below h1 hb, Kd.R_below h2 hb, h3⟩
theorem WfAt.row_lt {W : World} {s B : Nat} {e : Int} {l : List Int} (hW : WfAt W s B e l) : s < W.heap.size := by
  obtain ⟨v, hb, _⟩ := hW; exact blk_lt hb
/-- A block that is neither the writer's nor its row's. -/
def ApartF (W : World) (s i : Nat) : Prop := i ≠ s ∧ ∀ (e : Int) (v : Value), W.heap[s]? = some (.cells #[v, .int .i64 e] 31 (0, 0)) → some i ≠ v.ownBlock
def KeepF (W W' : World) (s : Nat) : Prop := W.heap.size ≤ W'.heap.size ∧ ∀ i, i < W.heap.size → ApartF W s i → W'.heap[i]? = W.heap[i]? ∧ ApartF W' s i
theorem KeepF.trans {W W1 W2 : World} {s : Nat} (h : KeepF W W1 s) (k : KeepF W1 W2 s) : KeepF W W2 s :=
  ⟨Nat.le_trans h.1 k.1, fun i hi ha => ⟨(k.2 i (Nat.lt_of_lt_of_le hi h.1) (h.2 i hi ha).2).1.trans (h.2 i hi ha).1, (k.2 i (Nat.lt_of_lt_of_le hi h.1) (h.2 i hi ha).2).2⟩⟩
theorem KeepF.below {W W1 : World} {s : Nat} (hb : Below W.heap.size W W1) (hg : s < W.heap.size) : KeepF W W1 s :=
  ⟨hb.size, fun i hi ha => ⟨hb.block i hi, ha.1, fun e v hv => ha.2 e v ((hb.block s hg).symm.trans hv)⟩⟩
set_option maxRecDepth 100000 in
set_option maxHeartbeats 2000000 in
theorem wfPut_calls (W : World) (s B : Nat) (e e1 e2 : Int) (l ys l2 : List Int) (A : Option Addr) (c : Nat) (hW : WfAt W s B e l) (hC : ∀ W2, W.grownBy W2 (some s) → Kd.C (Kd.int .u8) W2 A ys.length ys) (hl : l.length + ys.length ≤ 140737488355328) (hp : putS2 e e1 l ys = (e2, l2)) :
    Calls Try.prog 33 #[.pointer (some ⟨s, 0, none⟩), .slice A ys.length c, .int .i64 e1] W fun en W' => en = .returned (.tuple #[]) ∧ WfAt W' s B e2 l2 ∧ Below B W W' ∧ KeepF W W' s := by
  obtain ⟨v, hb, hR, hg⟩ := hW
  obtain ⟨Av, cv, rfl, hvc, _⟩ := row_at hR
  have hc0 := blk_cell hb 0
  have hc1 := blk_cell hb 1
  have hf0 := blk_frozen hb 0
  have hf1 := blk_frozen hb 1
  simp at hc0 hc1
  have HC := Aside0.mk hC
  have HR := Aside0.mk hR
  have HG := Aside0.mk hg
  have HL := Aside0.mk hl
  have HBK := Aside0.mk hb
  have HLT := Aside0.mk (blk_lt hb)
  clear hC hR hg hl hb hvc
  unfold putS2 at hp
  by_cases h0 : e = 0
  rotate_left
  · rw [if_neg h0, if_neg h0] at hp
    simp only [Prod.mk.injEq] at hp
    obtain ⟨rfl, rfl⟩ := hp
    have h1 : (e == 0) = false := beq_eq_false_iff_ne.mpr h0
    clear h0
    go_enter Try.func33, Try.ntmps33
    go_wp2_with fail
    (first | go_end0 | ((try simp only [Exit.inBlock, Exit.then]); refine bodyPost_ret (results_none rfl _ _ _) rfl ?_))
    exact ⟨rfl, ⟨_, HBK.out, HR.out, HG.out⟩, Below.refl _ _, Nat.le_refl _, fun i hi ha => ⟨rfl, ha⟩⟩
  subst h0
  rw [if_pos rfl] at hp
  have HG1 := Aside0.mk (setCell_grownBy W s 1 (.int .i64 e1))
  have HB1 := Aside0.mk (blk_put (cs := #[.slice Av l.length cv, .int .i64 0]) HBK.out 1 (.int .i64 e1) rfl)
  have HR1 := Aside0.mk (Kd.R_grown2 HR.out rfl HG1.out (fun k e => by cases e; exact Kd.R_ne HR.out HBK.out (by decide)))
  have HBel := Aside0.mk ((Below.refl B W).grown HG1.out (Nat.le_trans HG.out (Nat.le_of_lt HLT.out)) (fun k e => by cases e; exact HG.out))
  by_cases h1 : e1 = 0
  rotate_left
  · rw [if_neg h1] at hp
    simp only [Prod.mk.injEq] at hp
    obtain ⟨rfl, rfl⟩ := hp
    have h2 : (e1 == 0) = false := beq_eq_false_iff_ne.mpr h1
    clear h1
    go_enter Try.func33, Try.ntmps33
    go_wp2_with fail
    (first | go_end0 | ((try simp only [Exit.inBlock, Exit.then]); refine bodyPost_ret (results_none rfl _ _ _) rfl ?_))
    refine ⟨rfl, ⟨_, HB1.out, HR1.out, HG.out⟩, HBel.out, by simp, fun i hi ha => ⟨Below.heap_setCell W ⟨s, 1, none⟩ _ i ha.1, ha.1, fun e v hv => ?_⟩⟩
    have e9 := HB1.out.symm.trans hv
    simp only [Option.some.injEq, Obj.cells.injEq] at e9
    have e8 := e9.1
    simp at e8
    rw [← e8.1]
    exact ha.2 _ _ HBK.out
  subst h1
  rw [if_pos rfl] at hp
  simp only [Prod.mk.injEq] at hp
  obtain ⟨rfl, hl2⟩ := hp
  have HL2 := Aside0.mk hl2
  clear hl2
  go_enter Try.func33, Try.ntmps33
  go_wp2_with (at_builtin; refine Kd.R_append_rows (Kd.int .u8) (w0 := W) B rfl (.tmp 24) (.tmp 25) 28 5 (.int .u8 0) 1 rfl Try.underlying28 info5 rfl (by decide) (by omega) (.slice Av l.length cv) l ys A ys.length c (fun _ => True) (fun _ => False) rfl rfl HR1.out (HC.out _ HG1.out) (fun _ _ h => h) (fun _ h => h.elim) (fun _ _ => trivial) HBel.out ?aS ?aL ?_; (case aS => exact Nat.le_trans HG.out (Nat.le_trans (Nat.le_of_lt HLT.out) HG1.out.size)); (case aL => have := HL.out; omega); intro v1 w2 ho hb2 hg2 hat; rw [HL2.out] at ho; obtain ⟨A1, c1, rfl, _, _⟩ := row_at ho; have hb3 := blk_grown HB1.out hg2 (Kd.R_ne HR1.out HB1.out (by decide)); have hk0 := blk_cell hb3 0; have hm0 := blk_frozen hb3 0; simp at hk0; have HO := Aside0.mk ho; have HB3 := Aside0.mk hb3; have HBel2 := Aside0.mk hb2; have HGG2 := Aside0.mk hg2; have HAT := Aside0.mk hat; clear hb3 ho hb2 hg2 hat)
  (first | go_end0 | ((try simp only [Exit.inBlock, Exit.then]); refine bodyPost_ret (results_none rfl _ _ _) rfl ?_))
  have hnew := blk_put (cs := #[.slice Av l.length cv, .int .i64 0]) HB3.out 0 (.slice A1 l2.length c1) rfl
  refine ⟨rfl, ⟨_, hnew, Kd.R_grown2 HO.out rfl (setCell_grownBy _ s 0 _) (fun k e => by cases e; exact Kd.R_ne HO.out HB3.out (by decide)), HG.out⟩, HBel2.out.setCell (p := ⟨s, 0, none⟩) HG.out _, ?_⟩
  have hs1 := HG1.out.size
  have hs2 := HGG2.out.size
  refine ⟨by simp; omega, fun i hi ha => ⟨?_, ha.1, fun e v hv => ?_⟩⟩
  · exact (Below.heap_setCell w2 ⟨s, 0, none⟩ _ i ha.1).trans ((HGG2.out.block i (by omega) (ha.2 _ _ HBK.out)).trans (HG1.out.block i hi (fun e => ha.1 (Option.some.inj e))))
  · have e9 := hnew.symm.trans hv
    simp only [Option.some.injEq, Obj.cells.injEq] at e9
    have e8 := e9.1
    simp at e8
    rw [← e8.1]
    rcases HAT.out with h | ⟨b, h, hb⟩
    · rw [h]; exact ha.2 _ _ HBK.out
    · rw [h]; intro e; have := Option.some.inj e; omega
/-- What the document's Num leaves. -/
def wfNum (k : Nat) (e : Int) (l : List Int) (n size : Int) : Option (Int × List Int) := (crosswayref01_Put.f k n size).bind fun p => if l.length + p.1.length ≤ 140737488355328 then some (putS2 e p.2 l p.1) else none
/-- What the document's Vari leaves. -/
def wfVars (k : Nat) (e : Int) (l ns : List Int) : Option (Int × List Int) := (crosswayref08_Row.f k ns).bind fun p => if l.length + p.1.length ≤ 140737488355328 then some (putS2 e p.2 l p.1) else none
set_option maxRecDepth 100000 in
set_option maxHeartbeats 2000000 in
theorem wfNum_calls (k : Nat) (W : World) (s B : Nat) (e e2 : Int) (l l2 : List Int) (n size : Int) (hW : WfAt W s B e l) (h : wfNum k e l n size = some (e2, l2)) :
    Calls Try.prog 32 #[.pointer (some ⟨s, 0, none⟩), .int .u64 n, .int .i64 size] W fun en W' => en = .returned (.tuple #[]) ∧ WfAt W' s B e2 l2 ∧ Below B W W' ∧ KeepF W W' s := by
  obtain ⟨⟨p1, ep⟩, hp, h⟩ := Option.bind_eq_some_iff.1 h
  (try dsimp only at h)
  by_cases hl : l.length + p1.length ≤ 140737488355328
  rotate_left
  · rw [if_neg hl] at h; cases h
  rw [if_pos hl] at h
  have HP := Aside0.mk hp
  have HS := Aside0.mk (Option.some.inj h)
  have HL := Aside0.mk hl
  obtain ⟨v, hb, _, hg⟩ := id hW
  have HBB := Aside0.mk (Nat.le_trans hg (Nat.le_of_lt (blk_lt hb)))
  have HLTg := Aside0.mk (blk_lt hb)
  have HW := Aside0.mk hW
  have hj := Aside0.mk (crosswayref01_Put.calls k n size p1 ep W hp)
  clear hp h hl hb hg hW
  go_enter Try.func32, Try.ntmps32
  go_wp2_with fail
  (with_reducible refine hj.out.mono ?_)
  rintro en w1 ⟨vp, rfl, hrp, hbp⟩
  obtain ⟨A1, c1, rfl, _, _⟩ := row_at hrp
  have HW1 := Aside0.mk (HW.out.below hbp)
  have HRP := Aside0.mk hrp
  have HB1 := Aside0.mk hbp
  clear hrp hbp
  go_wp2_with fail
  obtain ⟨v1, hb1, hR1, hg1⟩ := id HW1.out
  refine (wfPut_calls w1 s B e ep e2 l p1 l2 A1 c1 HW1.out (fun W2 hg2 => (Kd.R_reads' (Kd.R_grown2 HRP.out rfl hg2 (fun k e => by cases e; exact Kd.R_ne HRP.out hb1 (by decide)))).2.2) HL.out HS.out).mono ?_
  rintro en w2 ⟨rfl, hw2, hb2, hk2⟩
  clear hb1 hR1 hg1
  go_wp2_with fail
  (first | go_end0 | ((try simp only [Exit.inBlock, Exit.then]); refine bodyPost_ret (results_none rfl _ _ _) rfl ?_))
  exact ⟨rfl, hw2, (HB1.out.mono HBB.out).trans hb2, (KeepF.below HB1.out HLTg.out).trans hk2⟩
set_option maxRecDepth 100000 in
set_option maxHeartbeats 2000000 in
theorem wfVars_calls (k : Nat) (W : World) (s B : Nat) (e e2 : Int) (l l2 : List Int) (A : Option Addr) (c : Nat) (ns : List Int) (hW : WfAt W s B e l) (hA : Kd.C (Kd.int .u64) W A ns.length ns) (hc : ns.length ≤ c) (h : wfVars k e l ns = some (e2, l2)) :
    Calls Try.prog 34 #[.pointer (some ⟨s, 0, none⟩), .slice A ns.length c] W fun en W' => en = .returned (.tuple #[]) ∧ WfAt W' s B e2 l2 ∧ Below B W W' ∧ KeepF W W' s := by
  obtain ⟨⟨p1, ep⟩, hp, h⟩ := Option.bind_eq_some_iff.1 h
  (try dsimp only at h)
  by_cases hl : l.length + p1.length ≤ 140737488355328
  rotate_left
  · rw [if_neg hl] at h; cases h
  rw [if_pos hl] at h
  have HP := Aside0.mk hp
  have HS := Aside0.mk (Option.some.inj h)
  have HL := Aside0.mk hl
  obtain ⟨v, hb, _, hg⟩ := id hW
  have HBB := Aside0.mk (Nat.le_trans hg (Nat.le_of_lt (blk_lt hb)))
  have HLTg := Aside0.mk (blk_lt hb)
  have HW := Aside0.mk hW
  have hj := Aside0.mk (crosswayref08_Row.calls k A c ns p1 ep W hA hc hp)
  clear hp h hl hb hg hW
  go_enter Try.func34, Try.ntmps34
  go_wp2_with fail
  (with_reducible refine hj.out.mono ?_)
  rintro en w1 ⟨vp, rfl, hrp, hbp⟩
  obtain ⟨A1, c1, rfl, _, _⟩ := row_at hrp
  have HW1 := Aside0.mk (HW.out.below hbp)
  have HRP := Aside0.mk hrp
  have HB1 := Aside0.mk hbp
  clear hrp hbp
  go_wp2_with fail
  obtain ⟨v1, hb1, hR1, hg1⟩ := id HW1.out
  refine (wfPut_calls w1 s B e ep e2 l p1 l2 A1 c1 HW1.out (fun W2 hg2 => (Kd.R_reads' (Kd.R_grown2 HRP.out rfl hg2 (fun k e => by cases e; exact Kd.R_ne HRP.out hb1 (by decide)))).2.2) HL.out HS.out).mono ?_
  rintro en w2 ⟨rfl, hw2, hb2, hk2⟩
  clear hb1 hR1 hg1
  go_wp2_with fail
  (first | go_end0 | ((try simp only [Exit.inBlock, Exit.then]); refine bodyPost_ret (results_none rfl _ _ _) rfl ?_))
  exact ⟨rfl, hw2, (HB1.out.mono HBB.out).trans hb2, (KeepF.below HB1.out HLTg.out).trans hk2⟩
theorem Reps_one_int (W : World) (base : Nat) (ok : Nat → Prop) (n : Int) : Reps ((Kd.int .u8).M W base ok) (Kd.int .u8).sz [n] [.int .u8 n] := by
  exact Reps.one rfl (Reps.none _ _)
/-- What the document's Short leaves. -/
def wfShort (e : Int) (l ys : List Int) : Option (Int × List Int) := if (ys.length : Int) > 255 then (if l.length ≤ 140737488355328 then some (putS2 e 15 l []) else none) else if l.length + (ys.length + 1) ≤ 140737488355328 then some (putS2 e 0 l ((ys.length : Int) :: ys)) else none
set_option maxRecDepth 100000 in
set_option maxHeartbeats 2000000 in
theorem wfShort_calls (W : World) (s B : Nat) (e e2 : Int) (l l2 ys : List Int) (A : Option Addr) (c : Nat) (hW : WfAt W s B e l) (hC : Kd.C (Kd.int .u8) W A ys.length ys) (hc : ys.length ≤ c) (h : wfShort e l ys = some (e2, l2)) :
    Calls Try.prog 35 #[.pointer (some ⟨s, 0, none⟩), .slice A ys.length c] W fun en W' => en = .returned (.tuple #[]) ∧ WfAt W' s B e2 l2 ∧ Below B W W' ∧ KeepF W W' s := by
  unfold wfShort at h
  obtain ⟨v, hb, _, hg⟩ := id hW
  have HBB := Aside0.mk (Nat.le_trans hg (Nat.le_of_lt (blk_lt hb)))
  have HLTg := Aside0.mk (blk_lt hb)
  have HW := Aside0.mk hW
  have HC := Aside0.mk hC
  have HCC := Aside0.mk hc
  clear hb hg hW hC hc
  by_cases hq : (ys.length : Int) > 255
  · rw [if_pos hq] at h
    by_cases hl : l.length ≤ 140737488355328
    · rw [if_pos hl] at h
      have HP := Aside0.mk (wfPut_calls W s B e 15 e2 l [] l2 none 0 HW.out (fun W2 _ => Kd.C_nil _ _) (by simpa using hl) (Option.some.inj h))
      clear h hl
      go_enter Try.func35, Try.ntmps35
      go_wp2_with fail
      refine HP.out.mono ?_
      rintro en w2 ⟨rfl, hw2, hb2, hk2⟩
      go_wp2_with fail
      (first | go_end0 | ((try simp only [Exit.inBlock, Exit.then]); refine bodyPost_ret (results_none rfl _ _ _) rfl ?_))
      exact ⟨rfl, hw2, hb2, hk2⟩
    · rw [if_neg hl] at h
      cases h
  rw [if_neg hq] at h
  by_cases hl : l.length + (ys.length + 1) ≤ 140737488355328
  rotate_left
  · rw [if_neg hl] at h; cases h
  rw [if_pos hl] at h
  obtain ⟨n, hnn⟩ : ∃ n : Nat, n = ys.length := ⟨_, rfl⟩
  obtain ⟨yl, hyl⟩ : ∃ yl : List Int, yl = [((n : Nat) : Int)] ++ ys := ⟨_, rfl⟩
  have HS := Aside0.mk (show putS2 e 0 l yl = (e2, l2) by rw [hyl, hnn]; exact Option.some.inj h)
  have HL := Aside0.mk (show l.length + yl.length ≤ 140737488355328 by rw [hyl]; simp; omega)
  have HYL := Aside0.mk hyl
  have HNN := Aside0.mk hnn
  have hu : IntKind.u8.wrap (n : Int) = (n : Int) := by simp [IntKind.wrap, IntKind.bits, IntKind.signed]; omega
  have hle : n ≤ 255 := by omega
  have hn255 : decide (255 < n) = false := decide_eq_false (by omega)
  rw [← hnn]
  clear h hl hq hnn hyl
  go_enter Try.func35, Try.ntmps35
  go_wp2_with (first | ((with_reducible refine gate_dst (N := 13) rfl ?_); refine Kd.R_lit (Kd.int .u8) _ 5 ?hg (N := 13) ?hd (xs := [((n : Nat) : Int)]) (inner := [.int .u8 ((n : Nat) : Int)]) (ok := fun _ => True) (okp := fun _ => True) ?hr ?hp (fun _ hk => hk) trivial (Below.refl _ _) (Nat.le_refl _) (by simp) ?_; (case hd => rfl); (case hg => rfl); (case hr => first | (go_simp; done) | (go_simp; rfl)); (case hp => exact Reps_one_int _ _ _ _); intro v3 w3 ho4 hb3 hg_ hnew_; clear hg_ hnew_; have HO4 := Aside0.mk ho4; have HBel := Aside0.mk hb3; clear ho4 hb3) | (at_builtin; refine Kd.R_append_rows (Kd.int .u8) (w0 := W) W.heap.size rfl (.tmp 13) (.tmp 14) 28 5 (.int .u8 0) 1 rfl Try.underlying28 info5 rfl (by decide) (by omega) v3 [((n : Nat) : Int)] ys A n c (fun _ => True) (fun _ => False) rfl rfl HO4.out (by have h_ := Kd.C_below HC.out HBel.out; rw [← HNN.out] at h_; exact h_) (fun _ _ h => h) (fun _ h => h.elim) (fun _ _ => trivial) HBel.out ?aS ?aL ?_; (case aS => exact HBel.out.size); (case aL => have := HL.out; have := HNN.out; simp only [List.length_cons, List.length_nil]; omega); intro v5 w5 ho hb5 hg5 hat; rw [← HYL.out] at ho; obtain ⟨A5, c5, rfl, hc5, _⟩ := row_at ho; have HO := Aside0.mk ho; have HBel5 := Aside0.mk hb5; clear ho hb5 hg5 hat hc5) | (go_at_call 33; obtain ⟨v1_, hb1_, _, _⟩ := (HW.out.below HBel5.out); refine (wfPut_calls w5 s B e 0 e2 l yl l2 A5 c5 (HW.out.below HBel5.out) (fun W2 hg2 => (Kd.R_reads' (Kd.R_grown2 HO.out rfl hg2 (fun k e => by cases e; exact Kd.R_ne HO.out hb1_ (by decide)))).2.2) HL.out HS.out).mono ?_; clear hb1_; rintro en w6 ⟨rfl, hw6, hb6, hk6⟩; have HW6 := Aside0.mk hw6; have HB6 := Aside0.mk hb6; have HK6 := Aside0.mk hk6; clear hw6 hb6 hk6))
  (first | go_end0 | ((try simp only [Exit.inBlock, Exit.then]); refine bodyPost_ret (results_none rfl _ _ _) rfl ?_))
  exact ⟨rfl, HW6.out, (HBel5.out.mono HBB.out).trans HB6.out, (KeepF.below HBel5.out HLTg.out).trans HK6.out⟩
/-- What the document's Long leaves. -/
def wfLong (k : Nat) (e : Int) (l ys : List Int) : Option (Int × List Int) := (crosswayref08_Put.f k (ys.length : Int)).bind fun p => if l.length + (p.1.length + ys.length) ≤ 140737488355328 then some (putS2 e 0 l (p.1 ++ ys)) else none
set_option maxRecDepth 100000 in
set_option maxHeartbeats 2000000 in
theorem wfLong_calls (k : Nat) (W : World) (s B : Nat) (e e2 : Int) (l l2 ys : List Int) (A : Option Addr) (c : Nat) (hW : WfAt W s B e l) (hC : Kd.C (Kd.int .u8) W A ys.length ys) (hc : ys.length ≤ c) (h : wfLong k e l ys = some (e2, l2)) :
    Calls Try.prog 36 #[.pointer (some ⟨s, 0, none⟩), .slice A ys.length c] W fun en W' => en = .returned (.tuple #[]) ∧ WfAt W' s B e2 l2 ∧ Below B W W' ∧ KeepF W W' s := by
  unfold wfLong at h
  obtain ⟨v, hb, _, hg⟩ := id hW
  have HBB := Aside0.mk (Nat.le_trans hg (Nat.le_of_lt (blk_lt hb)))
  have HLTg := Aside0.mk (blk_lt hb)
  have HW := Aside0.mk hW
  have HC := Aside0.mk hC
  have HCC := Aside0.mk hc
  clear hb hg hW hC hc
  obtain ⟨⟨p1, ep⟩, hp, h⟩ := Option.bind_eq_some_iff.1 h
  (try dsimp only at h)
  by_cases hl : l.length + (p1.length + ys.length) ≤ 140737488355328
  rotate_left
  · rw [if_neg hl] at h; cases h
  rw [if_pos hl] at h
  obtain ⟨n, hnn⟩ : ∃ n : Nat, n = ys.length := ⟨_, rfl⟩
  obtain ⟨yl, hyl⟩ : ∃ yl : List Int, yl = p1 ++ ys := ⟨_, rfl⟩
  have HS := Aside0.mk (show putS2 e 0 l yl = (e2, l2) by rw [hyl]; exact Option.some.inj h)
  have HL := Aside0.mk (show l.length + yl.length ≤ 140737488355328 by rw [hyl]; simp; omega)
  have HLP := Aside0.mk (show p1.length + ys.length ≤ 140737488355328 by omega)
  have HYL := Aside0.mk hyl
  have HNN := Aside0.mk hnn
  have hu : IntKind.u64.wrap (n : Int) = (n : Int) := IntWalk.u64_in _ (by omega)
  have hlt : (n : Int) ≤ 140737488355328 := by omega
  rw [← hnn] at hp ⊢
  have HP := Aside0.mk (crosswayref08_Put.calls k (n : Int) p1 ep W hp)
  clear h hl hnn hyl hp
  go_enter Try.func36, Try.ntmps36
  go_wp2_with (first | (go_at_call 58; (with_reducible refine HP.out.mono ?_); rintro en w3 ⟨v3, rfl, ho4, hb3⟩; obtain ⟨A3, c3, rfl, _, _⟩ := row_at ho4; have HO4 := Aside0.mk ho4; have HBel := Aside0.mk hb3; clear ho4 hb3) | (at_builtin; refine Kd.R_append_rows (Kd.int .u8) (w0 := W) W.heap.size rfl (.tmp 14) (.tmp 15) 28 5 (.int .u8 0) 1 rfl Try.underlying28 info5 rfl (by decide) (by omega) (.slice A3 p1.length c3) p1 ys A n c (fun _ => True) (fun _ => False) rfl rfl HO4.out (by have h_ := Kd.C_below HC.out HBel.out; rw [← HNN.out] at h_; exact h_) (fun _ _ h => h) (fun _ h => h.elim) (fun _ _ => trivial) HBel.out ?aS ?aL ?_; (case aS => exact HBel.out.size); (case aL => have := HLP.out; have := HNN.out; omega); intro v5 w5 ho hb5 hg5 hat; rw [← HYL.out] at ho; obtain ⟨A5, c5, rfl, hc5, _⟩ := row_at ho; have HO := Aside0.mk ho; have HBel5 := Aside0.mk hb5; clear ho hb5 hg5 hat hc5) | (go_at_call 33; obtain ⟨v1_, hb1_, _, _⟩ := (HW.out.below HBel5.out); refine (wfPut_calls w5 s B e 0 e2 l yl l2 A5 c5 (HW.out.below HBel5.out) (fun W2 hg2 => (Kd.R_reads' (Kd.R_grown2 HO.out rfl hg2 (fun k e => by cases e; exact Kd.R_ne HO.out hb1_ (by decide)))).2.2) HL.out HS.out).mono ?_; clear hb1_; rintro en w6 ⟨rfl, hw6, hb6, hk6⟩; have HW6 := Aside0.mk hw6; have HB6 := Aside0.mk hb6; have HK6 := Aside0.mk hk6; clear hw6 hb6 hk6))
  (first | go_end0 | ((try simp only [Exit.inBlock, Exit.then]); refine bodyPost_ret (results_none rfl _ _ _) rfl ?_))
  exact ⟨rfl, HW6.out, (HBel5.out.mono HBB.out).trans HB6.out, (KeepF.below HBel5.out HLTg.out).trans HK6.out⟩
set_option maxRecDepth 100000 in
set_option maxHeartbeats 2000000 in
theorem wfDone_calls (W : World) (s B : Nat) (e : Int) (l : List Int) (hW : WfAt W s B e l) (hl : l.length < 140737488355328) :
    Calls Try.prog 12 #[.pointer (some ⟨s, 0, none⟩)] W fun en W' => ∃ v, en = .returned (.tuple #[v, .int .i64 e]) ∧ Kd.R (Kd.int .u8) 5 W' W.heap.size (fun _ => True) v (if e = 0 then l else []) ∧ Below W.heap.size W W' := by
  obtain ⟨v, hb, hR, hg⟩ := hW
  obtain ⟨A, c, rfl, hc, hC⟩ := row_at hR
  have hc0 := blk_cell hb 0
  have hc1 := blk_cell hb 1
  simp at hc0 hc1
  have HC := Aside0.mk hC
  have HCC := Aside0.mk hc
  have HBK := Aside0.mk hb
  have HL := Aside0.mk hl
  clear hb hR hg hC hc hl
  by_cases h0 : e = 0
  · subst h0
    rw [if_pos rfl]
    go_enter Try.func12, Try.ntmps12
    go_wp2_with (first | ((with_reducible refine gate_dst (N := 13) rfl ?_); refine Kd.R_lit (Kd.int .u8) _ 5 ?hg (N := 13) ?hd (xs := ([] : List Int)) (inner := []) (ok := fun _ => True) (okp := fun _ => True) ?hr ?hp (fun _ hk => hk) trivial (Below.refl _ _) (Nat.le_refl _) (by simp) ?_; (case hd => rfl); (case hg => rfl); (case hr => first | (go_simp; done) | (go_simp; rfl)); (case hp => exact (Reps.none _ _)); intro v3 w3 ho4 hb3 hg_ hnew_; clear hg_ hnew_; have hb_ := blk_below HBK.out hb3; have hk0 := blk_cell hb_ 0; have hk1 := blk_cell hb_ 1; simp at hk0 hk1; have HO4 := Aside0.mk ho4; have HBel := Aside0.mk hb3; clear hb_ ho4 hb3) | (at_builtin; refine Kd.R_append_rows (Kd.int .u8) (w0 := W) W.heap.size rfl (.tmp 13) (.tmp 17) 28 5 (.int .u8 0) 1 rfl Try.underlying28 info5 rfl (by decide) (by omega) v3 [] l A l.length c (fun _ => True) (fun _ => False) rfl rfl HO4.out (Kd.C_below HC.out HBel.out) (fun _ _ h => h) (fun _ h => h.elim) (fun _ _ => trivial) HBel.out ?aS ?aL ?_; (case aS => exact HBel.out.size); (case aL => have := HL.out; simp only [List.length_nil]; omega); intro v5 w5 ho hb5 hg5 hat; rw [List.nil_append] at ho; have HO := Aside0.mk ho; have HBel5 := Aside0.mk hb5; clear ho hb5 hg5 hat))
    go_ret2
    exact ⟨_, rfl, HO.out, HBel5.out⟩
  · rw [if_neg h0]
    have h1 : (e != 0) = true := bne_iff_ne.mpr h0
    clear h0
    go_enter Try.func12, Try.ntmps12
    go_wp2_with fail
    go_quiet (fail)
    go_wp2_with fail
    go_ret2
    exact ⟨_, rfl, Kd.R_nil _ _ _ _ _, pw_below_drewN (Below.refl _ _) _⟩
end Go.Proofs.Ytmhmmmkpijbbiaa.M
