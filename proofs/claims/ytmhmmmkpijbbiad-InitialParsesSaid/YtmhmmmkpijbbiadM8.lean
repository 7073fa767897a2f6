/- Contracts of the Go functions that the laws reach, each as a plain Lean function: written by xprint.py, a program of this repo. -/
import Derived.Test.YtmhmmmkpijbbiadM0
import Derived.Test.YtmhmmmkpijbbiadM1
import Derived.Test.YtmhmmmkpijbbiadM3
import Derived.Test.YtmhmmmkpijbbiadM5
import Derived.Test.YtmhmmmkpijbbiadM6
import Derived.Test.YtmhmmmkpijbbiadM7
namespace Go.Proofs.Ytmhmmmkpijbbiad.M
open Go.RowKit Go.Proofs.YtmhmmmkpijbbiadW.PrintWords Go.Proofs.YtmhmmmkpijbbiadW.PrintLast Go.Proofs.YtmhmmmkpijbbiadW.PrintMore Go.Proofs.Ytmhmmmkpijbbiad.X
attribute [local go_sem] max2_int min2_int max_two min_two max_three min_three max_four min_four   -- for this text's walks alone
set_option linter.unusedVariables false
set_option linter.unusedSimpArgs false

/-! ### scan_Writer_Long: function 32, typed by hand -/
/-- What a writer's Long leaves. -/
def wrLong (k : Nat) (e : Int) (l ys : List Int) : Option (Int × List Int) := if ys.length < 140737488355328 then (wrVari k e l (ys.length : Int)).bind fun q => wrOne k q.1 q.2 ys else none
set_option maxRecDepth 100000 in
set_option maxHeartbeats 1000000 in
theorem wlong_calls (k : Nat) (W : World) (g B : Nat) (e e2 : Int) (l l2 ys : List Int) (A : Option Addr) (c : Nat) (hW : WrAt W g B e l) (hC : ∀ W2, Below B W W2 → Kd.C (Kd.int .u8) W2 A ys.length ys) (hc : ys.length ≤ c) (h : wrLong k e l ys = some (e2, l2)) :
    Calls Try.prog 32 #[.pointer (some ⟨g, 0, none⟩), .slice A ys.length c] W fun en W' => en = .returned (.pointer (some ⟨g, 0, none⟩)) ∧ WrAt W' g B e2 l2 ∧ Below B W W' := by
  unfold wrLong at h
  obtain ⟨v, hb, _, hg⟩ := id hW
  have HBB := Aside0.mk (Nat.le_trans hg (Nat.le_of_lt (blk_lt hb)))
  have HW := Aside0.mk hW
  have HC := Aside0.mk hC
  have HCC := Aside0.mk hc
  clear hb hg hW hC hc
  by_cases hq : ys.length < 140737488355328
  · rw [if_pos hq] at h
    obtain ⟨⟨e1, l1⟩, hn, ho⟩ := Option.bind_eq_some_iff.1 h
    dsimp only at ho
    obtain ⟨n, hnn⟩ : ∃ n : Nat, n = ys.length := ⟨_, rfl⟩
    have hu : IntKind.u64.wrap (n : Int) = (n : Int) := IntWalk.u64_in _ (by omega)
    have hlt : (n : Int) < 140737488355328 := by omega
    rw [← hnn] at hn ⊢
    have hv := wvari_calls k (W.alloc (.cells #[.int .u64 (n : Int)] 63)) g B e e1 (n : Int) l l1 (some ⟨W.heap.size, 0, none⟩) 1 (HW.out.below (below_alloc (Below.refl _ W) _)) (one_int W (n : Int)) (Nat.le_refl _) hn
    have HN := Aside0.mk hv
    have HO := Aside0.mk ho
    have HNN := Aside0.mk hnn
    clear hn ho h hq hv hnn
    go_enter Try.func32, Try.ntmps32
    go_wp2_with fail
    refine HN.out.mono ?_
    rintro en w1 ⟨rfl, hw1, hb1⟩
    have HW1 := Aside0.mk hw1
    have HB1 := Aside0.mk (((below_alloc (Below.refl _ W) (.cells #[.int .u64 (n : Int)] 63)).mono HBB.out).trans hb1)
    clear hw1 hb1
    go_wp2_with fail
    rw [HNN.out]
    have hrow := Aside0.mk (one_row (t := 5) (u := 22) (HC.out w1 HB1.out) HCC.out)
    have hw2 := Aside0.mk (HW1.out.below (below_alloc (Below.refl _ w1) (.cells #[.slice A ys.length c] 22)))
    refine (wone_calls k _ g B e1 e2 l1 l2 ys _ 1 hw2.out hrow.out (Nat.le_refl _) HO.out).mono ?_
    rintro en w2 ⟨rfl, hw2, hb2⟩
    go_wp2_with fail
    go_ret
    exact ⟨rfl, hw2, (HB1.out.trans ((below_alloc (Below.refl _ w1) (.cells #[.slice A ys.length c] 22)).mono (Nat.le_trans HBB.out HB1.out.size))).trans hb2⟩
  · rw [if_neg hq] at h
    cases h
/-- A block that is neither the writer's at g nor its row's. -/
def ApartW (W : World) (g i : Nat) : Prop := i ≠ g ∧ ∀ (e : Int) (v : Value), W.heap[g]? = some (.cells #[.int .i64 e, v] 86 (0, 0)) → some i ≠ v.ownBlock
/-- What is apart from the writer stays as it was, and apart. -/
def KeepW (W W' : World) (g : Nat) : Prop := W.heap.size ≤ W'.heap.size ∧ ∀ i, i < W.heap.size → ApartW W g i → W'.heap[i]? = W.heap[i]? ∧ ApartW W' g i
theorem KeepW.trans {W W1 W2 : World} {g : Nat} (h : KeepW W W1 g) (k : KeepW W1 W2 g) : KeepW W W2 g :=
  ⟨Nat.le_trans h.1 k.1, fun i hi ha => ⟨(k.2 i (Nat.lt_of_lt_of_le hi h.1) (h.2 i hi ha).2).1.trans (h.2 i hi ha).1, (k.2 i (Nat.lt_of_lt_of_le hi h.1) (h.2 i hi ha).2).2⟩⟩
theorem KeepW.below {W W1 : World} {g : Nat} (hb : Below W.heap.size W W1) (hg : g < W.heap.size) : KeepW W W1 g :=
  ⟨hb.size, fun i hi ha => ⟨hb.block i hi, ha.1, fun e v hv => ha.2 e v ((hb.block g hg).symm.trans hv)⟩⟩
set_option maxRecDepth 100000 in
set_option maxHeartbeats 1000000 in
theorem putK_calls (W : World) (g B : Nat) (e e1 e2 : Int) (l ys l2 : List Int) (A : Option Addr) (c : Nat) (hW : WrAt W g B e l) (hC : ∀ W2, W.grownBy W2 (some g) → Kd.C (Kd.int .u8) W2 A ys.length ys) (hl : l.length + ys.length ≤ 140737488355328) (hp : putS2 e e1 l ys = (e2, l2)) :
    Calls Try.prog 47 #[.pointer (some ⟨g, 0, none⟩), .slice A ys.length c, .int .i64 e1] W fun en W' => en = .returned (.pointer (some ⟨g, 0, none⟩)) ∧ WrAt W' g B e2 l2 ∧ Below B W W' ∧ KeepW W W' g := by
  obtain ⟨v, hb, hR, hg⟩ := hW
  obtain ⟨e3, he3⟩ : ∃ e3, e3 = (if e = 0 then e1 else e) := ⟨_, rfl⟩
  unfold putS2 at hp
  rw [← he3] at hp
  obtain ⟨Av, cv, rfl, hvc, _⟩ := row_at hR
  have HF := Aside0.mk (failW_calls W g e e1 e3 _ hb he3)
  have HC := Aside0.mk hC
  have HR := Aside0.mk hR
  have HG := Aside0.mk hg
  have HL := Aside0.mk hl
  have HBK := Aside0.mk hb
  have HLT := Aside0.mk (blk_lt hb)
  clear hC hR hg hl hb he3 hvc
  by_cases h0 : e3 = 0
  · rw [if_pos h0] at hp
    simp only [Prod.mk.injEq] at hp
    obtain ⟨rfl, hl2⟩ := hp
    subst h0
    have HL2 := Aside0.mk hl2
    clear hl2
    go_enter Try.func47, Try.ntmps47
    go_wp2_with (first | (go_at_call 51; (with_reducible refine HF.out.mono ?_); rintro en w1 ⟨rfl, hb1, hg1⟩; have hd1 := blk_cell hb1 1; have hf1 := blk_frozen hb1 1; simp at hd1; have HB1 := Aside0.mk hb1; have HG1 := Aside0.mk hg1; have HR1 := Aside0.mk (Kd.R_grown2 HR.out rfl hg1 (fun k e => by cases e; exact Kd.R_ne HR.out HBK.out (by decide))); have HBel := Aside0.mk ((Below.refl B W).grown hg1 (Nat.le_trans HG.out (Nat.le_of_lt HLT.out)) (fun k e => by cases e; exact HG.out)); clear hb1 hg1) | (at_builtin; refine Kd.R_append_rows (Kd.int .u8) (w0 := W) B rfl (.tmp 17) (.tmp 18) 22 5 (.int .u8 0) 1 rfl Try.underlying22 info5 rfl (by decide) (by omega) (.slice Av l.length cv) l ys A ys.length c (fun _ => True) (fun _ => False) rfl rfl HR1.out (HC.out _ HG1.out) (fun _ _ h => h) (fun _ h => h.elim) (fun _ _ => trivial) HBel.out ?aS ?aL ?_; (case aS => exact Nat.le_trans HG.out (Nat.le_trans (Nat.le_of_lt HLT.out) HG1.out.size)); (case aL => have := HL.out; omega); intro v1 w2 ho hb2 hg2 hat; rw [HL2.out] at ho; obtain ⟨A1, c1, rfl, _, _⟩ := row_at ho; have hb3 := blk_grown HB1.out hg2 (Kd.R_ne HR1.out HB1.out (by decide)); have hk1 := blk_cell hb3 1; have hm1 := blk_frozen hb3 1; simp at hk1; have HO := Aside0.mk ho; have HB3 := Aside0.mk hb3; have HBel2 := Aside0.mk hb2; have HGG2 := Aside0.mk hg2; have HAT := Aside0.mk hat; clear hb3 ho hb2 hg2 hat HR1 HB1))
    go_ret
    refine ⟨rfl, ⟨_, blk_put (cs := #[.int .i64 0, .slice Av l.length cv]) HB3.out 1 _ rfl, Kd.R_grown2 HO.out rfl (setCell_grownBy _ g 1 _) (fun k e => by cases e; exact Kd.R_ne HO.out HB3.out (by decide)), HG.out⟩, HBel2.out.setCell (p := ⟨g, 1, none⟩) HG.out _, ?_⟩
    have hnew := blk_put (cs := #[.int .i64 0, .slice Av l.length cv]) HB3.out 1 (.slice A1 l2.length c1) rfl
    have hs1 := HG1.out.size
    have hs2 := HGG2.out.size
    refine ⟨by simp; omega, fun i hi ha => ⟨?_, ha.1, fun e v hv => ?_⟩⟩
    · exact (Below.heap_setCell w2 ⟨g, 1, none⟩ _ i ha.1).trans ((HGG2.out.block i (by omega) (ha.2 _ _ HBK.out)).trans (HG1.out.block i hi (fun e => ha.1 (Option.some.inj e))))
    · have e9 := hnew.symm.trans hv
      simp only [Option.some.injEq, Obj.cells.injEq] at e9
      have e8 := e9.1
      simp at e8
      rw [← e8.2]
      rcases HAT.out with h | ⟨b, h, hb⟩
      · rw [h]; exact ha.2 _ _ HBK.out
      · rw [h]; intro e; have := Option.some.inj e; omega
  · rw [if_neg h0] at hp
    simp only [Prod.mk.injEq] at hp
    obtain ⟨rfl, rfl⟩ := hp
    have hz : (e3 != 0) = true := bne_iff_ne.mpr h0
    have HZ := Aside0.mk hz
    clear h0 hz
    go_enter Try.func47, Try.ntmps47
    go_wp2_with (go_at_call 51; (with_reducible refine HF.out.mono ?_); rintro en w1 ⟨rfl, hb1, hg1⟩; rw [HZ.out]; have HB1 := Aside0.mk hb1; have HG1 := Aside0.mk hg1; clear hb1 hg1)
    go_ret
    refine ⟨rfl, ⟨_, HB1.out, Kd.R_grown2 HR.out rfl HG1.out (fun k e => by cases e; exact Kd.R_ne HR.out HBK.out (by decide)), HG.out⟩, ?_, ?_⟩
    · exact (Below.refl B W).grown HG1.out (Nat.le_trans HG.out (Nat.le_of_lt HLT.out)) (fun k e => by cases e; exact HG.out)
    · refine ⟨HG1.out.size, fun i hi ha => ⟨HG1.out.block i hi (fun e => ha.1 (Option.some.inj e)), ha.1, fun e v hv => ?_⟩⟩
      have e9 := HB1.out.symm.trans hv
      simp only [Option.some.injEq, Obj.cells.injEq] at e9
      have e8 := e9.1
      simp at e8
      rw [← e8.2]
      exact ha.2 _ _ HBK.out
set_option maxRecDepth 100000 in
set_option maxHeartbeats 1000000 in
theorem woneK_calls (k : Nat) (W : World) (g B : Nat) (e e2 : Int) (l l2 ys : List Int) (A : Option Addr) (c : Nat) (hW : WrAt W g B e l) (hA : Kd.C (Kd.slice 5 (Kd.int .u8)) W A 1 [ys]) (hc : 1 ≤ c) (h : wrOne k e l ys = some (e2, l2)) :
    Calls Try.prog 31 #[.pointer (some ⟨g, 0, none⟩), .slice A 1 c] W fun en W' => en = .returned (.pointer (some ⟨g, 0, none⟩)) ∧ WrAt W' g B e2 l2 ∧ Below B W W' ∧ KeepW W W' g := by
  obtain ⟨p1, hp, h⟩ := Option.bind_eq_some_iff.1 h
  by_cases hl : l.length + p1.length ≤ 140737488355328
  · rw [if_pos hl] at h
    have HP := Aside0.mk hp
    have HS := Aside0.mk (Option.some.inj h)
    have HL := Aside0.mk hl
    obtain ⟨v, hb, _, hg⟩ := id hW
    have HBB := Aside0.mk (Nat.le_trans hg (Nat.le_of_lt (blk_lt hb)))
    have HLTg := Aside0.mk (blk_lt hb)
    have HW := Aside0.mk hW
    have HA := Aside0.mk (show Kd.C (Kd.slice 5 (Kd.int .u8)) W A ([ys] : List (List Int)).length [ys] from hA)
    have HC := Aside0.mk hc
    clear hp h hl hb hg hW hA hc
    have hj := Aside0.mk (octet_Join.calls k A c [ys] p1 W HA.out HC.out HP.out)
    go_enter Try.func31, Try.ntmps31
    go_wp2_with fail
    refine hj.out.mono ?_
    rintro en w1 ⟨vp, rfl, hrp, hbp⟩
    obtain ⟨A1, c1, rfl, _, _⟩ := row_at hrp
    have HW1 := Aside0.mk (HW.out.below hbp)
    have HRP := Aside0.mk hrp
    have HB1 := Aside0.mk hbp
    clear hrp hbp
    go_wp2_with fail
    obtain ⟨v1, hb1, hR1, hg1⟩ := id HW1.out
    refine (putK_calls w1 g B e 0 e2 l p1 l2 A1 c1 HW1.out (fun W2 hg2 => (Kd.R_reads' (Kd.R_grown2 HRP.out rfl hg2 (fun k e => by cases e; exact Kd.R_ne HRP.out hb1 (by decide)))).2.2) HL.out HS.out).mono ?_
    rintro en w2 ⟨rfl, hw2, hb2, hk2⟩
    clear hb1 hR1 hg1
    go_wp2_with fail
    go_ret
    exact ⟨rfl, hw2, (HB1.out.mono HBB.out).trans hb2, (KeepW.below HB1.out HLTg.out).trans hk2⟩
  · rw [if_neg hl] at h
    cases h


set_option maxRecDepth 100000 in
set_option maxHeartbeats 1000000 in
theorem wvariK_calls (k : Nat) (W : World) (g B : Nat) (e e2 n : Int) (l l2 : List Int) (A : Option Addr) (c : Nat) (hW : WrAt W g B e l) (hA : Kd.C (Kd.int .u64) W A 1 [n]) (hc : 1 ≤ c) (h : wrVari k e l n = some (e2, l2)) :
    Calls Try.prog 49 #[.pointer (some ⟨g, 0, none⟩), .slice A 1 c] W fun en W' => en = .returned (.pointer (some ⟨g, 0, none⟩)) ∧ WrAt W' g B e2 l2 ∧ Below B W W' ∧ KeepW W W' g := by
  obtain ⟨⟨p1, ep⟩, hp, h⟩ := Option.bind_eq_some_iff.1 h
  dsimp only at h
  by_cases hl : l.length + p1.length ≤ 140737488355328
  · rw [if_pos hl] at h
    have HP := Aside0.mk hp
    have HS := Aside0.mk (Option.some.inj h)
    have HL := Aside0.mk hl
    obtain ⟨v, hb, _, hg⟩ := id hW
    have HBB := Aside0.mk (Nat.le_trans hg (Nat.le_of_lt (blk_lt hb)))
    have HLTg := Aside0.mk (blk_lt hb)
    have HW := Aside0.mk hW
    have HA := Aside0.mk (show Kd.C (Kd.int .u64) W A ([n] : List Int).length [n] from hA)
    have HC := Aside0.mk hc
    clear hp h hl hb hg hW hA hc
    have hj := Aside0.mk (vari_Row.calls k A c [n] p1 ep W HA.out HC.out HP.out)
    go_enter Try.func49, Try.ntmps49
    go_wp2_with fail
    refine hj.out.mono ?_
    rintro en w1 ⟨vp, rfl, hrp, hbp⟩
    obtain ⟨A1, c1, rfl, _, _⟩ := row_at hrp
    have HW1 := Aside0.mk (HW.out.below hbp)
    have HRP := Aside0.mk hrp
    have HB1 := Aside0.mk hbp
    clear hrp hbp
    go_wp2_with fail
    obtain ⟨v1, hb1, hR1, hg1⟩ := id HW1.out
    refine (putK_calls w1 g B e ep e2 l p1 l2 A1 c1 HW1.out (fun W2 hg2 => (Kd.R_reads' (Kd.R_grown2 HRP.out rfl hg2 (fun k e => by cases e; exact Kd.R_ne HRP.out hb1 (by decide)))).2.2) HL.out HS.out).mono ?_
    rintro en w2 ⟨rfl, hw2, hb2, hk2⟩
    clear hb1 hR1 hg1
    go_wp2_with fail
    go_ret
    exact ⟨rfl, hw2, (HB1.out.mono HBB.out).trans hb2, (KeepW.below HB1.out HLTg.out).trans hk2⟩
  · rw [if_neg hl] at h
    cases h


set_option maxRecDepth 100000 in
set_option maxHeartbeats 1000000 in
theorem wlongK_calls (k : Nat) (W : World) (g B : Nat) (e e2 : Int) (l l2 ys : List Int) (A : Option Addr) (c : Nat) (hW : WrAt W g B e l) (hC : ∀ W2, Below B W W2 → Kd.C (Kd.int .u8) W2 A ys.length ys) (hc : ys.length ≤ c) (h : wrLong k e l ys = some (e2, l2)) :
    Calls Try.prog 32 #[.pointer (some ⟨g, 0, none⟩), .slice A ys.length c] W fun en W' => en = .returned (.pointer (some ⟨g, 0, none⟩)) ∧ WrAt W' g B e2 l2 ∧ Below B W W' ∧ KeepW W W' g := by
  unfold wrLong at h
  obtain ⟨v, hb, _, hg⟩ := id hW
  have HBB := Aside0.mk (Nat.le_trans hg (Nat.le_of_lt (blk_lt hb)))
  have HLTg := Aside0.mk (blk_lt hb)
  have HW := Aside0.mk hW
  have HC := Aside0.mk hC
  have HCC := Aside0.mk hc
  clear hb hg hW hC hc
  by_cases hq : ys.length < 140737488355328
  · rw [if_pos hq] at h
    obtain ⟨⟨e1, l1⟩, hn, ho⟩ := Option.bind_eq_some_iff.1 h
    dsimp only at ho
    obtain ⟨n, hnn⟩ : ∃ n : Nat, n = ys.length := ⟨_, rfl⟩
    have hu : IntKind.u64.wrap (n : Int) = (n : Int) := IntWalk.u64_in _ (by omega)
    have hlt : (n : Int) < 140737488355328 := by omega
    rw [← hnn] at hn ⊢
    have hv := wvariK_calls k (W.alloc (.cells #[.int .u64 (n : Int)] 63)) g B e e1 (n : Int) l l1 (some ⟨W.heap.size, 0, none⟩) 1 (HW.out.below (below_alloc (Below.refl _ W) _)) (one_int W (n : Int)) (Nat.le_refl _) hn
    have HN := Aside0.mk hv
    have HO := Aside0.mk ho
    have HNN := Aside0.mk hnn
    clear hn ho h hq hv hnn
    go_enter Try.func32, Try.ntmps32
    go_wp2_with fail
    refine HN.out.mono ?_
    rintro en w1 ⟨rfl, hw1, hb1, hk1⟩
    have HW1 := Aside0.mk hw1
    have HB1 := Aside0.mk (((below_alloc (Below.refl _ W) (.cells #[.int .u64 (n : Int)] 63)).mono HBB.out).trans hb1)
    have HK1 := Aside0.mk ((KeepW.below (below_alloc (Below.refl _ W) _) HLTg.out).trans hk1)
    have HLT1 := Aside0.mk (show g < w1.heap.size by obtain ⟨v, hb, _⟩ := HW1.out; exact blk_lt hb)
    clear hw1 hb1 hk1
    go_wp2_with fail
    rw [HNN.out]
    have hrow := Aside0.mk (one_row (t := 5) (u := 22) (HC.out w1 HB1.out) HCC.out)
    have hw2 := Aside0.mk (HW1.out.below (below_alloc (Below.refl _ w1) (.cells #[.slice A ys.length c] 22)))
    refine (woneK_calls k _ g B e1 e2 l1 l2 ys _ 1 hw2.out hrow.out (Nat.le_refl _) HO.out).mono ?_
    rintro en w2 ⟨rfl, hw2, hb2, hk2⟩
    go_wp2_with fail
    go_ret
    exact ⟨rfl, hw2, (HB1.out.trans ((below_alloc (Below.refl _ w1) (.cells #[.slice A ys.length c] 22)).mono (Nat.le_trans HBB.out HB1.out.size))).trans hb2, HK1.out.trans ((KeepW.below (below_alloc (Below.refl _ w1) _) HLT1.out).trans hk2)⟩
  · rw [if_neg hq] at h
    cases h






/-! ### initial_Initial_Bytes: function 16, typed by hand -/
theorem apart_high {W : World} {g B : Nat} {e : Int} {l : List Int} (h : WrAt W g B e l) {i : Nat} (hi : W.heap.size ≤ i) : ApartW W g i := by
  obtain ⟨v, hb, hR, hg⟩ := h
  refine ⟨fun e => by have := blk_lt hb; omega, fun e' v' hv => ?_⟩
  have e9 := hb.symm.trans hv
  simp only [Option.some.injEq, Obj.cells.injEq] at e9
  have e8 := e9.1
  simp at e8
  rw [← e8.2]
  intro he
  have := (Kd.R_bound hR).1 i he.symm
  omega
theorem apart_alloc {W : World} {g i : Nat} (h : ApartW W g i) (hg : g < W.heap.size) (o : Obj) : ApartW (W.alloc o) g i :=
  ⟨h.1, fun e v hv => h.2 e v (((below_alloc (Below.refl _ W) o).block g hg).symm.trans hv)⟩
theorem write_any (W : World) (B : Nat) (hB : B ≤ W.heap.size) : Calls Try.prog 30 #[] W fun en W' => ∃ g, en = .returned (.pointer (some ⟨g, 0, none⟩)) ∧ WrAt W' g B 0 [] ∧ Below W.heap.size W W' ∧ ∀ i, i < W.heap.size → ApartW W' g i := by
  refine (write_calls W).mono ?_
  rintro en W' ⟨rfl, rfl⟩
  refine ⟨_, rfl, write_at W B hB, below_alloc (Below.refl _ W) _, fun i hi => ⟨Nat.ne_of_lt hi, fun e v hv => ?_⟩⟩
  have e9 := (heap_alloc_new W (.cells #[.int .i64 0, .slice none 0 0] 86)).symm.trans hv
  simp only [Option.some.injEq, Obj.cells.injEq] at e9
  have e8 := e9.1
  simp at e8
  rw [← e8.2]
  simp [Value.ownBlock]
theorem row_of_blk {k : IntKind} {t : Nat} {w : World} {A : Option Addr} {c u x : Nat} {l : List Int} (hb : w.heap[x]? = some (.cells #[.slice A l.length c] u (0, 0))) (h : Kd.C (Kd.int k) w A l.length l) (hc : l.length ≤ c) : Kd.C (Kd.slice t (Kd.int k)) w (some ⟨x, 0, none⟩) 1 [l] := by
  refine ⟨rfl, by decide, fun _ => ⟨_, rfl, fun j p hj => ?_⟩⟩
  obtain ⟨hjl, hp⟩ := List.getElem?_eq_some_iff.1 hj
  obtain rfl : j = 0 := by simp at hjl; omega
  simp only [List.getElem_cons_zero] at hp
  subst hp
  refine ⟨[.slice A l.length c], rfl, ⟨A, c, rfl, hc, h⟩, fun i v hv => ?_⟩
  obtain ⟨hi, hv2⟩ := List.getElem?_eq_some_iff.1 hv
  obtain rfl : i = 0 := by simp at hi; omega
  simp only [List.getElem_cons_zero] at hv2
  subst hv2
  exact blk_cell hb 0
theorem two_at {W : World} {b t : Nat} {x0 x1 x2 x3 x4 x5 : Value} (h : W.heap[b]? = some (.cells #[x0, x1, x2, x3, x4, x5] t (0, 0))) : W.cell? ⟨b, 4, none⟩ = some x4 ∧ W.cell? ⟨b, 5, none⟩ = some x5 := ⟨blk_cell h 4, blk_cell h 5⟩
set_option maxRecDepth 100000 in
set_option maxHeartbeats 16000000 in
theorem ibytes_straight (k : Nat) (a0 a1 : Int) (A2 A3 A4 A5 : Option Addr) (c2 c3 c4 c5 : Nat) (l2 l3 l4 l5 b m1 m2 m3 r : List Int) (eb e1 e2 e3 : Int) (w : World) (hr2 : Kd.C (Kd.int .u8) w A2 l2.length l2) (hc2 : l2.length ≤ c2) (hr3 : Kd.C (Kd.int .u8) w A3 l3.length l3) (hc3 : l3.length ≤ c3) (hr4 : Kd.C (Kd.int .u8) w A4 l4.length l4) (hc4 : l4.length ≤ c4) (hr5 : Kd.C (Kd.int .u8) w A5 l5.length l5) (hc5 : l5.length ≤ c5)
    (qc : initial_check.f k a0 a1 l2 l3 = some 0) (qb : head_Head_Bytes.f k a0 a1 l2 l3 = some (b, eb)) (q1 : wrOne k 0 [] b = some (e1, m1)) (q2 : wrLong k e1 m1 l4 = some (e2, m2)) (q3 : wrOne k e2 m2 l5 = some (e3, m3)) (hl : m3.length < 140737488355328) (hres : r = if e3 = 0 then m3 else []) :
    Calls Try.prog 16 #[.agg #[.int .u8 a0, .int .u32 a1, .slice A2 l2.length c2, .slice A3 l3.length c3, .slice A4 l4.length c4, .slice A5 l5.length c5]] w fun e w' => ∃ v0_ : Value, e = .returned (.tuple #[v0_, .int .i64 e3]) ∧ Kd.R (Kd.int .u8) 5 w' w.heap.size (fun _ => True) v0_ r ∧ Below w.heap.size w w' := by
  have HRES := Aside0.mk hres
  have QC := Aside0.mk qc
  have QB := Aside0.mk qb
  have Q1 := Aside0.mk q1
  have Q2 := Aside0.mk q2
  have Q3 := Aside0.mk q3
  have HL := Aside0.mk hl
  have HR2 := Aside0.mk hr2
  have HR3 := Aside0.mk hr3
  have HR4 := Aside0.mk hr4
  have HR5 := Aside0.mk hr5
  have HK2 := Aside0.mk hc2
  have HK3 := Aside0.mk hc3
  have HK4 := Aside0.mk hc4
  have HK5 := Aside0.mk hc5
  clear hres qc qb q1 q2 q3 hl hr2 hr3 hr4 hr5 hc2 hc3 hc4 hc5
  go_enter Try.func16, Try.ntmps16
  go_wp2_with fail
  (with_reducible refine (initial_check.calls k _ _ _ _ _ _ _ _ _ _ (Kd.C_alloc HR2.out _) HK2.out (Kd.C_alloc HR3.out _) HK3.out QC.out).mono ?_)
  rintro en w1 ⟨rfl, hb1⟩
  have hbx := blk_below (heap_alloc_new w (.cells #[.int .u8 a0, .int .u32 a1, .slice A2 l2.length c2, .slice A3 l3.length c3, .slice A4 l4.length c4, .slice A5 l5.length c5] 29)) hb1
  have HB1 := Aside0.mk ((below_alloc (Below.refl w.heap.size w) (.cells #[.int .u8 a0, .int .u32 a1, .slice A2 l2.length c2, .slice A3 l3.length c3, .slice A4 l4.length c4, .slice A5 l5.length c5] 29)).trans (hb1.mono (by simp)))
  have hx0 := (blk_cell hbx 0).trans rfl
  have hx1 := (blk_cell hbx 1).trans rfl
  have hx2 := (blk_cell hbx 2).trans rfl
  have hx3 := (blk_cell hbx 3).trans rfl
  have HBX1 := Aside0.mk hbx
  clear hbx hb1
  go_wp2_with fail
  (with_reducible refine (head_Head_Bytes.calls k _ _ _ _ _ _ _ _ _ _ _ (Kd.C_below HR2.out HB1.out) HK2.out (Kd.C_below HR3.out HB1.out) HK3.out QB.out).mono ?_)
  rintro en w2 ⟨vb, rfl, hvb, hb2⟩
  obtain ⟨Ab, cb, rfl, hcb, hCb⟩ := row_at hvb
  have HCB := Aside0.mk hCb
  have HKB := Aside0.mk (show b.length ≤ cb from hcb)
  have HBX := Aside0.mk (blk_below HBX1.out hb2)
  have HB2 := Aside0.mk (HB1.out.trans (hb2.mono HB1.out.size))
  have HC4 := Aside0.mk (Kd.C_below HR4.out HB2.out)
  have HC5 := Aside0.mk (Kd.C_below HR5.out HB2.out)
  have hx4 := (blk_cell HBX.out 4).trans rfl
  have hx5 := (blk_cell HBX.out 5).trans rfl
  clear hvb hcb hCb hb2 hx0 hx1 hx2 hx3 HBX1
  go_wp2_with fail
  go_region_held3 (fun w' => w'.cell? ⟨w.heap.size, 4, none⟩ = some (.slice A4 l4.length c4) ∧ w'.cell? ⟨w.heap.size, 5, none⟩ = some (.slice A5 l5.length c5))
    (first
      | with_reducible exact HSk7.out
      | with_reducible exact HSk6.out
      | with_reducible exact HSk5.out
      | with_reducible exact HSk4.out
      | with_reducible exact HSk3.out
      | with_reducible exact two_at (blk_alloc (blk_below HBX.out HB5.out) _)
      | with_reducible exact two_at (blk_alloc (blk_alloc (blk_below HBX.out HB5.out) _) _)
      | with_reducible exact two_at (blk_alloc (blk_below HBX.out HB4.out) _)
      | with_reducible exact two_at (blk_alloc (blk_alloc (blk_below HBX.out HB4.out) _) _)
      | with_reducible exact two_at (blk_alloc (blk_below HBX.out HB3.out) _)
      | with_reducible exact two_at (blk_alloc (blk_alloc (blk_below HBX.out HB3.out) _) _)
      | with_reducible exact two_at (blk_drew (blk_alloc (HBX.out) _))
      | with_reducible exact two_at (blk_drew (blk_alloc (blk_alloc (HBX.out) _) _))
      | go_keep)
    (first
      | (go_at_call 30; (with_reducible refine (write_any w2.drew w2.heap.size (by simp)).mono ?_); rintro en w3 ⟨g, rfl, hw3, hb3, hap3⟩; have HB3 := Aside0.mk ((below_drew (Below.refl w2.heap.size w2)).trans (hb3.mono (by simp))); have HW3 := Aside0.mk hw3; have HG3 := Aside0.mk (show g < w3.heap.size by obtain ⟨v_, h_, _⟩ := hw3; exact blk_lt h_); have HSk3 := Aside0.mk (two_at (blk_below HBX.out HB3.out)); clear hw3 hb3 hap3)
      | (go_at_call 30; (with_reducible refine (write_any (w2.alloc (.cells #[.slice Ab b.length cb] 22)).drew w2.heap.size (by simp; try omega)).mono ?_); rintro en w3 ⟨g, rfl, hw3, hb3, hap3⟩; have HB3 := Aside0.mk ((below_drew (below_alloc (Below.refl w2.heap.size w2) _)).trans (hb3.mono (by simp; try omega))); have HW3 := Aside0.mk hw3; have H21a := Aside0.mk (show w3.heap[w2.heap.size]? = some (.cells #[.slice Ab b.length cb] 22 (0, 0)) from blk_below (blk_drew (heap_alloc_new w2 (.cells #[.slice Ab b.length cb] 22))) hb3); have G21a := Aside0.mk (hap3 w2.heap.size (by simp; try omega)); have HG3 := Aside0.mk (show g < w3.heap.size by obtain ⟨v_, h_, _⟩ := hw3; exact blk_lt h_); have HSk3 := Aside0.mk (two_at (blk_below HBX.out HB3.out)); clear hw3 hb3 hap3)
      | (go_at_call 30; (with_reducible refine (write_any (w2.alloc (.cells #[.slice A5 l5.length c5] 22)).drew w2.heap.size (by simp; try omega)).mono ?_); rintro en w3 ⟨g, rfl, hw3, hb3, hap3⟩; have HB3 := Aside0.mk ((below_drew (below_alloc (Below.refl w2.heap.size w2) _)).trans (hb3.mono (by simp; try omega))); have HW3 := Aside0.mk hw3; have H28a := Aside0.mk (show w3.heap[w2.heap.size]? = some (.cells #[.slice A5 l5.length c5] 22 (0, 0)) from blk_below (blk_drew (heap_alloc_new w2 (.cells #[.slice A5 l5.length c5] 22))) hb3); have G28a := Aside0.mk (hap3 w2.heap.size (by simp; try omega)); have HG3 := Aside0.mk (show g < w3.heap.size by obtain ⟨v_, h_, _⟩ := hw3; exact blk_lt h_); have HSk3 := Aside0.mk (two_at (blk_below HBX.out HB3.out)); clear hw3 hb3 hap3)
      | (go_at_call 30; (with_reducible refine (write_any ((w2.alloc (.cells #[.slice Ab b.length cb] 22)).alloc (.cells #[.slice A5 l5.length c5] 22)).drew w2.heap.size (by simp; try omega)).mono ?_); rintro en w3 ⟨g, rfl, hw3, hb3, hap3⟩; have HB3 := Aside0.mk ((below_drew (below_alloc (below_alloc (Below.refl w2.heap.size w2) _) _)).trans (hb3.mono (by simp; try omega))); have HW3 := Aside0.mk hw3; have H21a := Aside0.mk (show w3.heap[w2.heap.size]? = some (.cells #[.slice Ab b.length cb] 22 (0, 0)) from blk_below (blk_drew (blk_alloc (heap_alloc_new w2 (.cells #[.slice Ab b.length cb] 22)) _)) hb3); have G21a := Aside0.mk (hap3 w2.heap.size (by simp; try omega)); have H28a := Aside0.mk (show w3.heap[(w2.heap.size + 1)]? = some (.cells #[.slice A5 l5.length c5] 22 (0, 0)) from blk_below (blk_drew ((by simpa using heap_alloc_new (w2.alloc (.cells #[.slice Ab b.length cb] 22)) (.cells #[.slice A5 l5.length c5] 22)))) hb3); have G28a := Aside0.mk (hap3 (w2.heap.size + 1) (by simp; try omega)); have HG3 := Aside0.mk (show g < w3.heap.size by obtain ⟨v_, h_, _⟩ := hw3; exact blk_lt h_); have HSk3 := Aside0.mk (two_at (blk_below HBX.out HB3.out)); clear hw3 hb3 hap3)
      | (go_at_call 30; (with_reducible refine (write_any ((w2.alloc (.cells #[.slice A5 l5.length c5] 22)).alloc (.cells #[.slice Ab b.length cb] 22)).drew w2.heap.size (by simp; try omega)).mono ?_); rintro en w3 ⟨g, rfl, hw3, hb3, hap3⟩; have HB3 := Aside0.mk ((below_drew (below_alloc (below_alloc (Below.refl w2.heap.size w2) _) _)).trans (hb3.mono (by simp; try omega))); have HW3 := Aside0.mk hw3; have H28a := Aside0.mk (show w3.heap[w2.heap.size]? = some (.cells #[.slice A5 l5.length c5] 22 (0, 0)) from blk_below (blk_drew (blk_alloc (heap_alloc_new w2 (.cells #[.slice A5 l5.length c5] 22)) _)) hb3); have G28a := Aside0.mk (hap3 w2.heap.size (by simp; try omega)); have H21a := Aside0.mk (show w3.heap[(w2.heap.size + 1)]? = some (.cells #[.slice Ab b.length cb] 22 (0, 0)) from blk_below (blk_drew ((by simpa using heap_alloc_new (w2.alloc (.cells #[.slice A5 l5.length c5] 22)) (.cells #[.slice Ab b.length cb] 22)))) hb3); have G21a := Aside0.mk (hap3 (w2.heap.size + 1) (by simp; try omega)); have HG3 := Aside0.mk (show g < w3.heap.size by obtain ⟨v_, h_, _⟩ := hw3; exact blk_lt h_); have HSk3 := Aside0.mk (two_at (blk_below HBX.out HB3.out)); clear hw3 hb3 hap3)
      | (go_at_call 31; (with_reducible refine (woneK_calls k w3 g w2.heap.size 0 e1 [] m1 b _ 1 (HW3.out) (row_of_blk (t := 5) (H21a.out) (Kd.C_below HCB.out (HB3.out)) HKB.out) (Nat.le_refl _) Q1.out).mono ?_); rintro en w4 ⟨rfl, hw4, hb4, hk4⟩; have HW4 := Aside0.mk hw4; have HB4 := Aside0.mk ((HB3.out).trans hb4); (try (have hq28 := hk4.2 _ (Nat.lt_of_lt_of_le (blk_lt H28a.out) (by simp)) (G28a.out); have H28b := Aside0.mk (hq28.1.trans (H28a.out)); have G28b := Aside0.mk hq28.2; clear hq28)); have HG4 := Aside0.mk (show g < w4.heap.size by obtain ⟨v_, h_, _⟩ := hw4; exact blk_lt h_); have HSk4 := Aside0.mk (two_at (blk_below HBX.out HB4.out)); clear hw4 hb4 hk4)
      | (go_at_call 31; (with_reducible refine (woneK_calls k (w3.alloc (.cells #[.slice A5 l5.length c5] 22)) g w2.heap.size 0 e1 [] m1 b _ 1 ((HW3.out).below (below_alloc (Below.refl _ _) _)) (row_of_blk (t := 5) (blk_alloc (H21a.out) _) (Kd.C_below HCB.out (below_alloc (HB3.out) _)) HKB.out) (Nat.le_refl _) Q1.out).mono ?_); rintro en w4 ⟨rfl, hw4, hb4, hk4⟩; have HW4 := Aside0.mk hw4; have HB4 := Aside0.mk ((below_alloc (HB3.out) _).trans hb4); have hq28 := hk4.2 w3.heap.size (by simp; try omega) (apart_alloc (apart_high HW3.out (i := w3.heap.size) (by omega)) HG3.out _); have H28b := Aside0.mk (show w4.heap[w3.heap.size]? = some (.cells #[.slice A5 l5.length c5] 22 (0, 0)) from hq28.1.trans (heap_alloc_new w3 (.cells #[.slice A5 l5.length c5] 22))); have G28b := Aside0.mk hq28.2; clear hq28; have HG4 := Aside0.mk (show g < w4.heap.size by obtain ⟨v_, h_, _⟩ := hw4; exact blk_lt h_); have HSk4 := Aside0.mk (two_at (blk_below HBX.out HB4.out)); clear hw4 hb4 hk4)
      | (go_at_call 31; (with_reducible refine (woneK_calls k (w3.alloc (.cells #[.slice Ab b.length cb] 22)) g w2.heap.size 0 e1 [] m1 b _ 1 ((HW3.out).below (below_alloc (Below.refl _ _) _)) (row_of_blk (t := 5) (heap_alloc_new w3 (.cells #[.slice Ab b.length cb] 22)) (Kd.C_below HCB.out (below_alloc (HB3.out) _)) HKB.out) (Nat.le_refl _) Q1.out).mono ?_); rintro en w4 ⟨rfl, hw4, hb4, hk4⟩; have HW4 := Aside0.mk hw4; have HB4 := Aside0.mk ((below_alloc (HB3.out) _).trans hb4); (try (have hq28 := hk4.2 _ (Nat.lt_of_lt_of_le (blk_lt H28a.out) (by simp)) (apart_alloc (G28a.out) HG3.out _); have H28b := Aside0.mk (hq28.1.trans (blk_alloc (H28a.out) _)); have G28b := Aside0.mk hq28.2; clear hq28)); have HG4 := Aside0.mk (show g < w4.heap.size by obtain ⟨v_, h_, _⟩ := hw4; exact blk_lt h_); have HSk4 := Aside0.mk (two_at (blk_below HBX.out HB4.out)); clear hw4 hb4 hk4)
      | (go_at_call 31; (with_reducible refine (woneK_calls k ((w3.alloc (.cells #[.slice Ab b.length cb] 22)).alloc (.cells #[.slice A5 l5.length c5] 22)) g w2.heap.size 0 e1 [] m1 b _ 1 (((HW3.out).below (below_alloc (Below.refl _ _) _)).below (below_alloc (Below.refl _ _) _)) (row_of_blk (t := 5) (blk_alloc (heap_alloc_new w3 (.cells #[.slice Ab b.length cb] 22)) _) (Kd.C_below HCB.out (below_alloc (below_alloc (HB3.out) _) _)) HKB.out) (Nat.le_refl _) Q1.out).mono ?_); rintro en w4 ⟨rfl, hw4, hb4, hk4⟩; have HW4 := Aside0.mk hw4; have HB4 := Aside0.mk ((below_alloc (below_alloc (HB3.out) _) _).trans hb4); have hq28 := hk4.2 (w3.heap.size + 1) (by simp; try omega) (apart_alloc (apart_alloc (apart_high HW3.out (i := (w3.heap.size + 1)) (by omega)) HG3.out _) (by have := HG3.out; simp; try omega) _); have H28b := Aside0.mk (show w4.heap[(w3.heap.size + 1)]? = some (.cells #[.slice A5 l5.length c5] 22 (0, 0)) from hq28.1.trans ((by simpa using heap_alloc_new (w3.alloc (.cells #[.slice Ab b.length cb] 22)) (.cells #[.slice A5 l5.length c5] 22)))); have G28b := Aside0.mk hq28.2; clear hq28; have HG4 := Aside0.mk (show g < w4.heap.size by obtain ⟨v_, h_, _⟩ := hw4; exact blk_lt h_); have HSk4 := Aside0.mk (two_at (blk_below HBX.out HB4.out)); clear hw4 hb4 hk4)
      | (go_at_call 31; (with_reducible refine (woneK_calls k ((w3.alloc (.cells #[.slice A5 l5.length c5] 22)).alloc (.cells #[.slice Ab b.length cb] 22)) g w2.heap.size 0 e1 [] m1 b _ 1 (((HW3.out).below (below_alloc (Below.refl _ _) _)).below (below_alloc (Below.refl _ _) _)) (row_of_blk (t := 5) ((by simpa using heap_alloc_new (w3.alloc (.cells #[.slice A5 l5.length c5] 22)) (.cells #[.slice Ab b.length cb] 22))) (Kd.C_below HCB.out (below_alloc (below_alloc (HB3.out) _) _)) HKB.out) (Nat.le_refl _) Q1.out).mono ?_); rintro en w4 ⟨rfl, hw4, hb4, hk4⟩; have HW4 := Aside0.mk hw4; have HB4 := Aside0.mk ((below_alloc (below_alloc (HB3.out) _) _).trans hb4); have hq28 := hk4.2 w3.heap.size (by simp; try omega) (apart_alloc (apart_alloc (apart_high HW3.out (i := w3.heap.size) (by omega)) HG3.out _) (by have := HG3.out; simp; try omega) _); have H28b := Aside0.mk (show w4.heap[w3.heap.size]? = some (.cells #[.slice A5 l5.length c5] 22 (0, 0)) from hq28.1.trans (blk_alloc (heap_alloc_new w3 (.cells #[.slice A5 l5.length c5] 22)) _)); have G28b := Aside0.mk hq28.2; clear hq28; have HG4 := Aside0.mk (show g < w4.heap.size by obtain ⟨v_, h_, _⟩ := hw4; exact blk_lt h_); have HSk4 := Aside0.mk (two_at (blk_below HBX.out HB4.out)); clear hw4 hb4 hk4)
      | (go_at_call 32; (with_reducible refine (wlongK_calls k w4 g w2.heap.size e1 e2 m1 m2 l4 A4 c4 (HW4.out) (fun W2 hW2 => Kd.C_below HC4.out ((HB4.out).trans hW2)) HK4.out Q2.out).mono ?_); rintro en w5 ⟨rfl, hw5, hb5, hk5⟩; have HW5 := Aside0.mk hw5; have HB5 := Aside0.mk ((HB4.out).trans hb5); (try (have hq28 := hk5.2 _ (Nat.lt_of_lt_of_le (blk_lt H28b.out) (by simp)) (G28b.out); have H28c := Aside0.mk (hq28.1.trans (H28b.out)); have G28c := Aside0.mk hq28.2; clear hq28)); have HG5 := Aside0.mk (show g < w5.heap.size by obtain ⟨v_, h_, _⟩ := hw5; exact blk_lt h_); have HSk5 := Aside0.mk (two_at (blk_below HBX.out HB5.out)); clear hw5 hb5 hk5)
      | (go_at_call 32; (with_reducible refine (wlongK_calls k (w4.alloc (.cells #[.slice A5 l5.length c5] 22)) g w2.heap.size e1 e2 m1 m2 l4 A4 c4 ((HW4.out).below (below_alloc (Below.refl _ _) _)) (fun W2 hW2 => Kd.C_below HC4.out ((below_alloc (HB4.out) _).trans hW2)) HK4.out Q2.out).mono ?_); rintro en w5 ⟨rfl, hw5, hb5, hk5⟩; have HW5 := Aside0.mk hw5; have HB5 := Aside0.mk ((below_alloc (HB4.out) _).trans hb5); have hq28 := hk5.2 w4.heap.size (by simp; try omega) (apart_alloc (apart_high HW4.out (i := w4.heap.size) (by omega)) HG4.out _); have H28c := Aside0.mk (show w5.heap[w4.heap.size]? = some (.cells #[.slice A5 l5.length c5] 22 (0, 0)) from hq28.1.trans (heap_alloc_new w4 (.cells #[.slice A5 l5.length c5] 22))); have G28c := Aside0.mk hq28.2; clear hq28; have HG5 := Aside0.mk (show g < w5.heap.size by obtain ⟨v_, h_, _⟩ := hw5; exact blk_lt h_); have HSk5 := Aside0.mk (two_at (blk_below HBX.out HB5.out)); clear hw5 hb5 hk5)
      | (go_at_call 31; (with_reducible refine (woneK_calls k w5 g w2.heap.size e2 e3 m2 m3 l5 _ 1 (HW5.out) (row_of_blk (t := 5) (H28c.out) (Kd.C_below HC5.out (HB5.out)) HK5.out) (Nat.le_refl _) Q3.out).mono ?_); rintro en w6 ⟨rfl, hw6, hb6, hk6⟩; have HW6 := Aside0.mk hw6; have HB6 := Aside0.mk ((HB5.out).trans hb6); have HSk6 := Aside0.mk (two_at (blk_below HBX.out HB6.out)); clear hw6 hb6 hk6)
      | (go_at_call 31; (with_reducible refine (woneK_calls k (w5.alloc (.cells #[.slice A5 l5.length c5] 22)) g w2.heap.size e2 e3 m2 m3 l5 _ 1 ((HW5.out).below (below_alloc (Below.refl _ _) _)) (row_of_blk (t := 5) (heap_alloc_new w5 (.cells #[.slice A5 l5.length c5] 22)) (Kd.C_below HC5.out (below_alloc (HB5.out) _)) HK5.out) (Nat.le_refl _) Q3.out).mono ?_); rintro en w6 ⟨rfl, hw6, hb6, hk6⟩; have HW6 := Aside0.mk hw6; have HB6 := Aside0.mk ((below_alloc (HB5.out) _).trans hb6); have HSk6 := Aside0.mk (two_at (blk_below HBX.out HB6.out)); clear hw6 hb6 hk6)
      | (go_at_call 33; (with_reducible refine (done_calls _ _ _ _ _ HW6.out HL.out).mono ?_); rintro en w7 ⟨v7, rfl, hr7, hb7⟩; have HR7 := Aside0.mk hr7; have HB7 := Aside0.mk (HB6.out.trans (hb7.mono HB6.out.size)); have HSk7 := Aside0.mk (two_at (blk_below HBX.out HB7.out)); have HZ7 := Aside0.mk HB6.out.size; clear hr7 hb7))
  all_goals go_wp2_with fail
  all_goals go_ret2
  all_goals exact ⟨v7, rfl, by rw [HRES.out]; exact Kd.R_lower HR7.out (Nat.le_trans HB2.out.size HZ7.out), HB2.out.trans (HB7.out.mono HB2.out.size)⟩
set_option maxRecDepth 100000 in
set_option maxHeartbeats 1000000 in
theorem ibytes_err (k : Nat) (a0 a1 : Int) (A2 A3 A4 A5 : Option Addr) (c2 c3 c4 c5 n4 n5 : Nat) (l2 l3 : List Int) (c : Int) (w : World) (hr2 : Kd.C (Kd.int .u8) w A2 l2.length l2) (hc2 : l2.length ≤ c2) (hr3 : Kd.C (Kd.int .u8) w A3 l3.length l3) (hc3 : l3.length ≤ c3) (qc : initial_check.f k a0 a1 l2 l3 = some c) (hc : c ≠ 0) :
    Calls Try.prog 16 #[.agg #[.int .u8 a0, .int .u32 a1, .slice A2 l2.length c2, .slice A3 l3.length c3, .slice A4 n4 c4, .slice A5 n5 c5]] w fun e w' => e = .returned (.tuple #[.slice none 0 0, .int .i64 c]) ∧ Below w.heap.size w w' := by
  have QC := Aside0.mk qc
  have HR2 := Aside0.mk hr2
  have HR3 := Aside0.mk hr3
  have HK2 := Aside0.mk hc2
  have HK3 := Aside0.mk hc3
  have g0 : (c != 0) = true := bne_iff_ne.mpr hc
  clear qc hr2 hr3 hc2 hc3 hc
  go_enter Try.func16, Try.ntmps16
  go_wp2_with fail
  (with_reducible refine (initial_check.calls k _ _ _ _ _ _ _ _ _ _ (Kd.C_alloc HR2.out _) HK2.out (Kd.C_alloc HR3.out _) HK3.out QC.out).mono ?_)
  rintro en w1 ⟨rfl, hb1⟩
  have HB1 := Aside0.mk ((below_alloc (Below.refl w.heap.size w) (.cells #[.int .u8 a0, .int .u32 a1, .slice A2 l2.length c2, .slice A3 l3.length c3, .slice A4 n4 c4, .slice A5 n5 c5] 29)).trans (hb1.mono (by simp)))
  clear hb1
  go_wp2_with fail
  go_ret2
  exact ⟨rfl, HB1.out⟩
def initial_Initial_Bytes.f (k : Nat) (a0 a1 : Int) (l2 l3 l4 l5 : List Int) : Option (List Int × Int) :=
  (initial_check.f k a0 a1 l2 l3).bind fun c => if c = 0 then (head_Head_Bytes.f k a0 a1 l2 l3).bind fun h => (wrOne k 0 [] h.1).bind fun x => (wrLong k x.1 x.2 l4).bind fun y => (wrOne k y.1 y.2 l5).bind fun z => if z.2.length < 140737488355328 then some (if z.1 = 0 then z.2 else [], z.1) else none else some ([], c)
theorem wrOne_mono3 (k : Nat) (e : Int) (l ys : List Int) : LeO (wrOne k e l ys) (wrOne (k + 1) e l ys) := by
  unfold wrOne
  exact LeO.bind (octet_Join.mono _ k) (fun _ => LeO.refl _)
theorem wrLong_mono (k : Nat) (e : Int) (l ys : List Int) : LeO (wrLong k e l ys) (wrLong (k + 1) e l ys) := by
  unfold wrLong
  refine LeO.ite (LeO.bind ?_ (fun _ => wrOne_mono3 k _ _ _)) (LeO.refl _)
  unfold wrVari
  exact LeO.bind (vari_Row.mono _ k) (fun _ => LeO.refl _)
theorem initial_Initial_Bytes.mono : ∀ (a0 a1 : Int) (l2 l3 l4 l5 : List Int) (k : Nat), LeO (initial_Initial_Bytes.f k a0 a1 l2 l3 l4 l5) (initial_Initial_Bytes.f (k + 1) a0 a1 l2 l3 l4 l5) := by
  intro a0 a1 l2 l3 l4 l5 k
  unfold initial_Initial_Bytes.f
  exact LeO.bind (initial_check.mono _ _ _ _ k) (fun c => LeO.ite (LeO.bind (head_Head_Bytes.mono _ _ _ _ k) (fun _ => LeO.bind (wrOne_mono3 k _ _ _) (fun _ => LeO.bind (wrLong_mono k _ _ _) (fun _ => LeO.bind (wrOne_mono3 k _ _ _) (fun _ => LeO.refl _))))) (LeO.refl _))
theorem initial_Initial_Bytes.calls (k : Nat) (a0_0 : Int) (a0_1 : Int) (A0_2 : Option Addr) (c0_2 : Nat) (l0_2 : List Int) (A0_3 : Option Addr) (c0_3 : Nat) (l0_3 : List Int) (A0_4 : Option Addr) (c0_4 : Nat) (l0_4 : List Int) (A0_5 : Option Addr) (c0_5 : Nat) (l0_5 : List Int) (r1 : List Int) (r2 : Int) (w : World) (hr0_2 : Kd.C (Kd.int .u8) w A0_2 l0_2.length l0_2) (hc0_2 : l0_2.length ≤ c0_2) (hr0_3 : Kd.C (Kd.int .u8) w A0_3 l0_3.length l0_3) (hc0_3 : l0_3.length ≤ c0_3) (hr0_4 : Kd.C (Kd.int .u8) w A0_4 l0_4.length l0_4) (hc0_4 : l0_4.length ≤ c0_4) (hr0_5 : Kd.C (Kd.int .u8) w A0_5 l0_5.length l0_5) (hc0_5 : l0_5.length ≤ c0_5) (h : initial_Initial_Bytes.f k a0_0 a0_1 l0_2 l0_3 l0_4 l0_5 = some (r1, r2)) :
    Calls Try.prog 16 #[.agg #[.int .u8 a0_0, .int .u32 a0_1, .slice A0_2 l0_2.length c0_2, .slice A0_3 l0_3.length c0_3, .slice A0_4 l0_4.length c0_4, .slice A0_5 l0_5.length c0_5]] w fun e w' => ∃ v0_ : Value, e = .returned (.tuple #[v0_, .int .i64 r2]) ∧ Kd.R (Kd.int .u8) 5 w' w.heap.size (fun _ => True) v0_ r1 ∧ Below w.heap.size w w' := by
  unfold initial_Initial_Bytes.f at h
  obtain ⟨c, qc, h⟩ := Option.bind_eq_some_iff.1 h
  by_cases h1 : c = 0
  · rw [if_pos h1] at h
    obtain ⟨⟨b, eb⟩, qb, h2⟩ := Option.bind_eq_some_iff.1 h
    obtain ⟨⟨e1, m1⟩, q1, h3⟩ := Option.bind_eq_some_iff.1 h2
    obtain ⟨⟨e2, m2⟩, q2, h4⟩ := Option.bind_eq_some_iff.1 h3
    obtain ⟨⟨e3, m3⟩, q3, h5⟩ := Option.bind_eq_some_iff.1 h4
    dsimp only at q1 q2 q3 h5
    split at h5
    · rename_i hl
      simp only [Option.some.injEq, Prod.mk.injEq] at h5
      obtain ⟨h6, rfl⟩ := h5
      subst h1
      exact ibytes_straight k a0_0 a0_1 A0_2 A0_3 A0_4 A0_5 c0_2 c0_3 c0_4 c0_5 l0_2 l0_3 l0_4 l0_5 b m1 m2 m3 r1 eb e1 e2 e3 w hr0_2 hc0_2 hr0_3 hc0_3 hr0_4 hc0_4 hr0_5 hc0_5 qc qb q1 q2 q3 hl h6.symm
    · cases h5
  · rw [if_neg h1] at h
    simp only [Option.some.injEq, Prod.mk.injEq] at h
    obtain ⟨rfl, rfl⟩ := h
    exact (ibytes_err k a0_0 a0_1 A0_2 A0_3 A0_4 A0_5 c0_2 c0_3 c0_4 c0_5 _ _ l0_2 l0_3 c w hr0_2 hc0_2 hr0_3 hc0_3 qc h1).mono fun e w' ⟨he, hb⟩ => ⟨_, he, Kd.R_nil _ _ _ _ _, hb⟩


/-! ### initial_Make: function 15 -/
def initial_Make.f (k : Nat) (l0 : List Int) (l1 : List Int) (l2 : List Int) (l3 : List Int) (a4 : Int) : Option (List Int × Int) := if a4 > 65535 then (some (([] : List Int), 11)) else ((initial_Initial_Bytes.f k 192 1 l0 l1 l2 l3).bind fun bt164 => (if bt164.2 = 0 then (if 0 ≤ (wrap64 ((mx a4 (bt164.1.length : Int)) - (bt164.1.length : Int))) then (if bt164.1.length + (wrap64 ((mx a4 (bt164.1.length : Int)) - (bt164.1.length : Int)) : Int).toNat < 140737488355328 then (some ((bt164.1 ++ List.replicate (wrap64 ((mx a4 (bt164.1.length : Int)) - (bt164.1.length : Int)) : Int).toNat 0), 0)) else (none)) else (none)) else (some (([] : List Int), bt164.2))))
theorem initial_Make.mono : ∀ a0 a1 a2 a3 a4 k, LeO (initial_Make.f k a0 a1 a2 a3 a4) (initial_Make.f (k + 1) a0 a1 a2 a3 a4) := by
  intro a0 a1 a2 a3 a4 k
  unfold initial_Make.f
  repeat' first
      | (with_reducible exact initial_Initial_Bytes.mono _ _ _ _ _ _ _)
      | (with_reducible exact LeO.refl _)
      | (with_reducible exact LeO.none _)
      | (with_reducible refine LeO.ite ?_ ?_)
      | (with_reducible refine LeO.bind ?_ (fun _ => ?_))
      | exact initial_Initial_Bytes.mono _ _ _ _ _ _ _
      | exact LeO.none _
      | refine LeO.ite ?_ ?_
      | refine LeO.bind ?_ (fun _ => ?_)
set_option maxHeartbeats 8000000 in
set_option maxRecDepth 100000 in
theorem initial_Make.calls (k : Nat) (A0 : Option Addr) (c0 : Nat) (l0 : List Int) (A1 : Option Addr) (c1 : Nat) (l1 : List Int) (A2 : Option Addr) (c2 : Nat) (l2 : List Int) (A3 : Option Addr) (c3 : Nat) (l3 : List Int) (a4 : Int) (r1 : List Int) (r2 : Int) (w : World) (hr0 : Kd.C (Kd.int .u8) w A0 l0.length l0) (hc0 : l0.length ≤ c0) (hr1 : Kd.C (Kd.int .u8) w A1 l1.length l1) (hc1 : l1.length ≤ c1) (hr2 : Kd.C (Kd.int .u8) w A2 l2.length l2) (hc2 : l2.length ≤ c2) (hr3 : Kd.C (Kd.int .u8) w A3 l3.length l3) (hc3 : l3.length ≤ c3) (h : initial_Make.f k l0 l1 l2 l3 a4 = some (r1, r2)) :
    Calls Try.prog 15 #[.slice A0 l0.length c0, .slice A1 l1.length c1, .slice A2 l2.length c2, .slice A3 l3.length c3, .int .i64 a4] w fun e w' => ∃ v0_ : Value, e = .returned (.tuple #[v0_, .int .i64 r2]) ∧ Kd.R (Kd.int .u8) 5 w' w.heap.size (fun _ => True) v0_ r1 ∧ Below w.heap.size w w' := by
  have hu27 := Try.underlying27
  have hu29 := Try.underlying29
  have HR0 := Aside0.mk hr0
  have HC0 := Aside0.mk hc0
  clear hr0 hc0
  have HR1 := Aside0.mk hr1
  have HC1 := Aside0.mk hc1
  clear hr1 hc1
  have HR2 := Aside0.mk hr2
  have HC2 := Aside0.mk hc2
  clear hr2 hc2
  have HR3 := Aside0.mk hr3
  have HC3 := Aside0.mk hc3
  clear hr3 hc3
  have HB := Aside0.mk (Below.refl w.heap.size w)
  have H : (if a4 > 65535 then (some (([] : List Int), 11)) else ((initial_Initial_Bytes.f k 192 1 l0 l1 l2 l3).bind fun bt164 => (if bt164.2 = 0 then (if 0 ≤ (wrap64 ((mx a4 (bt164.1.length : Int)) - (bt164.1.length : Int))) then (if bt164.1.length + (wrap64 ((mx a4 (bt164.1.length : Int)) - (bt164.1.length : Int)) : Int).toNat < 140737488355328 then (some ((bt164.1 ++ List.replicate (wrap64 ((mx a4 (bt164.1.length : Int)) - (bt164.1.length : Int)) : Int).toNat 0), 0)) else (none)) else (none)) else (some (([] : List Int), bt164.2))))) = some (r1, r2) := h
  clear h
  by_cases c6 : a4 > 65535
  · rw [if_pos c6] at H
    have c6b0 : decide (65535 < a4) = true := decide_eq_true c6
    clear c6
    simp only [Option.some.injEq, Prod.mk.injEq] at H
    obtain ⟨rfl, rfl⟩ := H
    go_enter Try.func15, Try.ntmps15
    go_wp2
    go_ret2
    exact ⟨_, by first | rfl | (simp [errW_none, errW_some] <;> rfl) | (simp [*, errW_none, errW_some] <;> rfl), by first | exact Kd.R_nil _ _ _ _ _ | exact Kd.N_nil _ _ _ _ _ | exact Kd.V_nil _ _ _ _ _ | exact Kd.Q_nil _ _ _ _ _ | exact Kd.S_nil _ _ _ _ _, by repeat (first | (with_reducible first | exact HB.out | apply below_alloc | apply pw_below_drewN | apply below_drew1) | exact HB.out)⟩
  · rw [if_neg c6] at H
    have c6b0 : decide (65535 < a4) = false := decide_eq_false c6
    clear c6
    replace H := Option.bind_eq_some_iff.mp H
    obtain ⟨⟨t164, t167⟩, A70, H⟩ := H
    replace H : (if t167 = 0 then (if 0 ≤ (wrap64 ((mx a4 (t164.length : Int)) - (t164.length : Int))) then (if t164.length + (wrap64 ((mx a4 (t164.length : Int)) - (t164.length : Int)) : Int).toNat < 140737488355328 then (some ((t164 ++ List.replicate (wrap64 ((mx a4 (t164.length : Int)) - (t164.length : Int)) : Int).toNat 0), 0)) else (none)) else (none)) else (some (([] : List Int), t167))) = some (r1, r2) := H
    have A7 := Aside0.mk A70
    clear A70
    by_cases c8 : t167 = 0
    · rw [if_pos c8] at H
      have c8b0 : (t167 == 0) = true := beq_iff_eq.mpr c8
      have c8b1 : (t167 != 0) = false := bne_eq_false_iff_eq.mpr c8
      clear c8
      obtain ⟨ji9, hji9⟩ : ∃ j_ : Int, (mx a4 (t164.length : Int)) = j_ := ⟨_, rfl⟩
      replace H : (if 0 ≤ (wrap64 ((ji9) - (t164.length : Int))) then (if t164.length + (wrap64 ((ji9) - (t164.length : Int)) : Int).toNat < 140737488355328 then (some ((t164 ++ List.replicate (wrap64 ((ji9) - (t164.length : Int)) : Int).toNat 0), 0)) else (none)) else (none)) = some (r1, r2) := by first | (rw [hji9] at H; exact H) | (simp only [hji9] at H ⊢; exact H)
      (try rw [hji9] at A7)
      (try (have hji9l : 0 ≤ ji9 := by (rw [← hji9]; unfold mx; (repeat' split) <;> omega)))
      (try (have hji9m : 0 ≤ ji9 := by omega))
      have hji9_ : (if a4 < (t164.length : Int) then (t164.length : Int) else a4) = ji9 := hji9
      obtain ⟨ji10, hji10⟩ : ∃ j_ : Int, (wrap64 ((ji9) - (t164.length : Int))) = j_ := ⟨_, rfl⟩
      replace H : (if 0 ≤ (ji10) then (if t164.length + (ji10 : Int).toNat < 140737488355328 then (some ((t164 ++ List.replicate (ji10 : Int).toNat 0), 0)) else (none)) else (none)) = some (r1, r2) := by first | (rw [hji10] at H; exact H) | (simp only [hji10] at H ⊢; exact H)
      (try rw [hji10] at A7)
      have hji10w : (IntKind.i64.wrap ((ji9) - (t164.length : Int))) = ji10 := (i64_w _).trans hji10
      by_cases c11 : 0 ≤ (ji10)
      · rw [if_pos c11] at H
        have c11b0 := eq_true c11
        have c11b1 : decide (0 ≤ (ji10)) = true := decide_eq_true c11
        clear c11
        by_cases c12 : t164.length + (ji10 : Int).toNat < 140737488355328
        · rw [if_pos c12] at H
          have LMc12 := Aside0.mk c12
          clear c12
          obtain ⟨y168, hy168⟩ : ∃ y_ : List Int, y_ = (t164 ++ List.replicate (ji10 : Int).toNat 0) := ⟨_, rfl⟩
          replace H : (some (y168, 0)) = some (r1, r2) := by first | (rw [hy168]; with_reducible exact H) | (have H2_ := (Option.bind_some _ _).symm.trans H; rw [hy168]; with_reducible exact H2_) | (have H2_ := (Option.bind_some _ _).symm.trans H; with_reducible exact H2_) | with_reducible exact H | (rw [hy168]; exact H) | exact H
          have Ny168 := Aside0.mk hy168
          clear hy168
          simp only [Option.some.injEq, Prod.mk.injEq] at H
          obtain ⟨rfl, rfl⟩ := H
          go_enter Try.func15, Try.ntmps15
          go_wp2_with (first | ((with_reducible refine gate_callee (f := 16) rfl ?_); refine goesL_ (some 23) rfl rfl Try.func16 (by kernel_rfl) rfl #[.agg #[.int .u8 192, .int .u32 1, .slice A0 l0.length c0, .slice A1 l1.length c1, .slice A2 l2.length c2, .slice A3 l3.length c3]] rfl (by (try simp only [List.map_toArray, List.map_cons, List.map_nil]); first | done | rfl | (simp only [List.length_drop, List.length_take]; rfl)) ?_; (with_reducible refine (initial_Initial_Bytes.calls k 192 1 _ _ l0 _ _ l1 _ _ l2 _ _ l3 t164 t167 _ ?side1 ?side2 ?side3 ?side4 ?side5 ?side6 ?side7 ?side8 A7.out).mono ?_); (case side1 => repeat (first | exact HR0.out | (with_reducible refine Kd.C_alloc ?_ _) | (with_reducible refine Kd.C_drewN ?_ _) | (with_reducible refine Kd.C_drew ?_))); (case side2 => exact HC0.out); (case side3 => repeat (first | exact HR1.out | (with_reducible refine Kd.C_alloc ?_ _) | (with_reducible refine Kd.C_drewN ?_ _) | (with_reducible refine Kd.C_drew ?_))); (case side4 => exact HC1.out); (case side5 => repeat (first | exact HR2.out | (with_reducible refine Kd.C_alloc ?_ _) | (with_reducible refine Kd.C_drewN ?_ _) | (with_reducible refine Kd.C_drew ?_))); (case side6 => exact HC2.out); (case side7 => repeat (first | exact HR3.out | (with_reducible refine Kd.C_alloc ?_ _) | (with_reducible refine Kd.C_drewN ?_ _) | (with_reducible refine Kd.C_drew ?_))); (case side8 => exact HC3.out); rintro e w13 ⟨v165, rfl, ho0, hb⟩; refine ⟨_, rfl, ?_⟩; have n0_ := Aside0.mk (Kd.R_lower ho0 (below_size (by repeat (first | (with_reducible first | exact HB.out | apply below_alloc | apply pw_below_drewN | apply below_drew1) | exact HB.out)))); have n1_ := Aside0.mk (below_step (by repeat (first | (with_reducible first | exact HB.out | apply below_alloc | apply pw_below_drewN | apply below_drew1) | exact HB.out)) hb); clear HB; have HO166 := n0_; have HB := n1_; clear n0_ n1_; (try clear hb); (try clear hb2); (try clear hk); (try clear hi); (try clear ho0); obtain ⟨Ao14, co14, eo14⟩ := Kd.R_slice HO166.out; subst eo14) | (at_builtin; refine Kd.R_append_zeros (Kd.int .u8) (w0 := w) w.heap.size rfl (.tmp 29) (.tmp 36) 22 3 5 (.int .u8 0) 1 rfl Try.underlying22 Try.underlying3 info5 rfl (by decide) (by omega) (.slice Ao14 t164.length co14) t164 0 (ji10 : Int) (fun _ => True) rfl rfl rfl ?aF ?aO (of_decide_eq_true (by first | (with_reducible assumption) | assumption)) ?aB ?aS ?aL ?_; (case aB => exact (by repeat (first | (with_reducible first | exact HB.out | apply below_alloc | apply pw_below_drewN | apply below_drew1) | exact HB.out))); (case aF => exact (fun _ _ => trivial)); (case aO => exact (by (with_reducible repeat (first | apply Kd.R_alloc | apply Kd.R_drewN | apply Kd.R_drew)); exact HO166.out)); (case aS => exact (below_size (by repeat (first | (with_reducible first | exact HB.out | apply below_alloc | apply pw_below_drewN | apply below_drew1) | exact HB.out)))); (case aL => have := LMc12.out; omega); intro v169 w15 ho hb hg hat; rw [← Ny168.out] at ho; have n0_ := Aside0.mk (hb); have n1_ := Aside0.mk (ho); clear HB; clear HO166; have HB := n0_; have HO170 := n1_; clear n0_ n1_; clear ho hb hg hat))
          go_ret2
          exact ⟨_, by first | rfl | (simp [errW_none, errW_some] <;> rfl) | (simp only [← hji9, ← hji10]; first | rfl | (simp [errW_none, errW_some] <;> rfl)) | (simp [*, errW_none, errW_some] <;> rfl), by (with_reducible repeat (first | apply Kd.R_alloc | apply Kd.R_drewN | apply Kd.R_drew)); exact HO170.out, by repeat (first | (with_reducible first | exact HB.out | apply below_alloc | apply pw_below_drewN | apply below_drew1) | exact HB.out)⟩
        · rw [if_neg c12] at H
          exact absurd H (by simp)
      · rw [if_neg c11] at H
        exact absurd H (by simp)
    · rw [if_neg c8] at H
      have c8b0 : (t167 == 0) = false := beq_eq_false_iff_ne.mpr c8
      have c8b1 : (t167 != 0) = true := bne_iff_ne.mpr c8
      simp only [Option.some.injEq, Prod.mk.injEq] at H
      obtain ⟨rfl, rfl⟩ := H
      go_enter Try.func15, Try.ntmps15
      go_wp2_with (first | ((with_reducible refine gate_callee (f := 16) rfl ?_); refine goesL_ (some 23) rfl rfl Try.func16 (by kernel_rfl) rfl #[.agg #[.int .u8 192, .int .u32 1, .slice A0 l0.length c0, .slice A1 l1.length c1, .slice A2 l2.length c2, .slice A3 l3.length c3]] rfl (by (try simp only [List.map_toArray, List.map_cons, List.map_nil]); first | done | rfl | (simp only [List.length_drop, List.length_take]; rfl)) ?_; (with_reducible refine (initial_Initial_Bytes.calls k 192 1 _ _ l0 _ _ l1 _ _ l2 _ _ l3 t164 t167 _ ?side1 ?side2 ?side3 ?side4 ?side5 ?side6 ?side7 ?side8 A7.out).mono ?_); (case side1 => repeat (first | exact HR0.out | (with_reducible refine Kd.C_alloc ?_ _) | (with_reducible refine Kd.C_drewN ?_ _) | (with_reducible refine Kd.C_drew ?_))); (case side2 => exact HC0.out); (case side3 => repeat (first | exact HR1.out | (with_reducible refine Kd.C_alloc ?_ _) | (with_reducible refine Kd.C_drewN ?_ _) | (with_reducible refine Kd.C_drew ?_))); (case side4 => exact HC1.out); (case side5 => repeat (first | exact HR2.out | (with_reducible refine Kd.C_alloc ?_ _) | (with_reducible refine Kd.C_drewN ?_ _) | (with_reducible refine Kd.C_drew ?_))); (case side6 => exact HC2.out); (case side7 => repeat (first | exact HR3.out | (with_reducible refine Kd.C_alloc ?_ _) | (with_reducible refine Kd.C_drewN ?_ _) | (with_reducible refine Kd.C_drew ?_))); (case side8 => exact HC3.out); rintro e w16 ⟨v165, rfl, ho0, hb⟩; refine ⟨_, rfl, ?_⟩; have n0_ := Aside0.mk (Kd.R_lower ho0 (below_size (by repeat (first | (with_reducible first | exact HB.out | apply below_alloc | apply pw_below_drewN | apply below_drew1) | exact HB.out)))); have n1_ := Aside0.mk (below_step (by repeat (first | (with_reducible first | exact HB.out | apply below_alloc | apply pw_below_drewN | apply below_drew1) | exact HB.out)) hb); clear HB; have HO166 := n0_; have HB := n1_; clear n0_ n1_; (try clear hb); (try clear hb2); (try clear hk); (try clear hi); (try clear ho0)))
      go_ret2
      exact ⟨_, by first | rfl | (simp [errW_none, errW_some] <;> rfl) | (simp [*, errW_none, errW_some] <;> rfl), by first | exact Kd.R_nil _ _ _ _ _ | exact Kd.N_nil _ _ _ _ _ | exact Kd.V_nil _ _ _ _ _ | exact Kd.Q_nil _ _ _ _ _ | exact Kd.S_nil _ _ _ _ _, by repeat (first | (with_reducible first | exact HB.out | apply below_alloc | apply pw_below_drewN | apply below_drew1) | exact HB.out)⟩

/-! ### bytes_Equal: function 35 -/
def bytes_Equal.f (l0 : List Int) (l1 : List Int) : Option (Bool) := some ((strOfNums l0).toList == (strOfNums l1).toList)
set_option maxHeartbeats 8000000 in
set_option maxRecDepth 100000 in
theorem bytes_Equal.calls (A0 : Option Addr) (c0 : Nat) (l0 : List Int) (A1 : Option Addr) (c1 : Nat) (l1 : List Int) (r : Bool) (w : World) (hr0 : Kd.C (Kd.int .u8) w A0 l0.length l0) (hc0 : l0.length ≤ c0) (hr1 : Kd.C (Kd.int .u8) w A1 l1.length l1) (hc1 : l1.length ≤ c1) (h : bytes_Equal.f l0 l1 = some r) :
    Calls Try.prog 35 #[.slice A0 l0.length c0, .slice A1 l1.length c1] w fun e w' => e = .returned (.bool r) ∧ Drawn0 w w' := by
  have HR0 := Aside0.mk hr0
  have HC0 := Aside0.mk hc0
  clear hr0 hc0
  have HR1 := Aside0.mk hr1
  have HC1 := Aside0.mk hc1
  clear hr1 hc1
  have H : (some ((strOfNums l0).toList == (strOfNums l1).toList)) = some r := h
  clear h
  obtain rfl := Option.some.inj H
  have hcv3 := Kd.C_string (P := Try.prog) (A := A0) (c := c0) Try.underlying22 Try.underlying5 Try.underlying9 HR0.out
  have hcv4 := Kd.C_string (P := Try.prog) (A := A1) (c := c1) Try.underlying22 Try.underlying5 Try.underlying9 HR1.out
  go_enter Try.func35, Try.ntmps35
  go_wp2
  go_ret
  exact ⟨by first | rfl | (simp; done) | (simp [*]; done), by repeat (first | exact Drawn0.refl _ | apply Drawn0.step)⟩

end Go.Proofs.Ytmhmmmkpijbbiad.M
