/- Contracts of the Go functions that the laws reach, each as a plain Lean function: written by xprint.py, a program of this repo. -/
import Derived.Test.YtmhmmmkpijbbiaaM0
import Derived.Test.YtmhmmmkpijbbiaaM1
import Derived.Test.YtmhmmmkpijbbiaaM2
import Derived.Test.YtmhmmmkpijbbiaaM4
import Derived.Test.YtmhmmmkpijbbiaaM5
namespace Go.Proofs.Ytmhmmmkpijbbiaa.M
open Go.RowKit Go.Proofs.YtmhmmmkpijbbiaaW.PrintWords Go.Proofs.YtmhmmmkpijbbiaaW.PrintLast Go.Proofs.YtmhmmmkpijbbiaaW.PrintMore Go.Proofs.Ytmhmmmkpijbbiaa.X
attribute [local go_sem] max2_int min2_int max_two min_two max_three min_three max_four min_four   -- for this text's walks alone
set_option linter.unusedVariables false
set_option linter.unusedSimpArgs false

/-! ### scan_Writer_Long: function 30, typed by hand -/
/-- What a writer's Long leaves. -/
def wrLong (k : Nat) (e : Int) (l ys : List Int) : Option (Int × List Int) := if ys.length < 140737488355328 then (wrVari k e l (ys.length : Int)).bind fun q => wrOne k q.1 q.2 ys else none
set_option maxRecDepth 100000 in
set_option maxHeartbeats 1000000 in
theorem wlong_calls (k : Nat) (W : World) (g B : Nat) (e e2 : Int) (l l2 ys : List Int) (A : Option Addr) (c : Nat) (hW : WrAt W g B e l) (hC : ∀ W2, Below B W W2 → Kd.C (Kd.int .u8) W2 A ys.length ys) (hc : ys.length ≤ c) (h : wrLong k e l ys = some (e2, l2)) :
    Calls Try.prog 30 #[.pointer (some ⟨g, 0, none⟩), .slice A ys.length c] W fun en W' => en = .returned (.pointer (some ⟨g, 0, none⟩)) ∧ WrAt W' g B e2 l2 ∧ Below B W W' := by
  unfold wrLong at h
  obtain ⟨v, hb, _, hg⟩ := id hW
  have HBB := Aside0.mk (Nat.le_trans hg (Nat.le_of_lt (blk_lt hb)))
  have HW := Aside0.mk hW
  have HC := Aside0.mk hC
  have HCC := Aside0.mk hc
  clear hb hg hW hC hc
  by_cases hq : ys.length < 140737488355328
  · rw [if_pos hq] at h
    obtain ⟨⟨e1, l1⟩, hn, ho⟩ := Option.bind_eq_some_iff.1 h
    dsimp only at ho
    obtain ⟨n, hnn⟩ : ∃ n : Nat, n = ys.length := ⟨_, rfl⟩
    have hu : IntKind.u64.wrap (n : Int) = (n : Int) := IntWalk.u64_in _ (by omega)
    have hlt : (n : Int) < 140737488355328 := by omega
    rw [← hnn] at hn ⊢
    have hv := wvari_calls k (W.alloc (.cells #[.int .u64 (n : Int)] 33)) g B e e1 (n : Int) l l1 (some ⟨W.heap.size, 0, none⟩) 1 (HW.out.below (below_alloc (Below.refl _ W) _)) (one_int W (n : Int)) (Nat.le_refl _) hn
    have HN := Aside0.mk hv
    have HO := Aside0.mk ho
    have HNN := Aside0.mk hnn
    clear hn ho h hq hv hnn
    go_enter Try.func30, Try.ntmps30
    go_wp2_with fail
    refine HN.out.mono ?_
    rintro en w1 ⟨rfl, hw1, hb1⟩
    have HW1 := Aside0.mk hw1
    have HB1 := Aside0.mk (((below_alloc (Below.refl _ W) (.cells #[.int .u64 (n : Int)] 33)).mono HBB.out).trans hb1)
    clear hw1 hb1
    go_wp2_with fail
    rw [HNN.out]
    have hrow := Aside0.mk (one_row (t := 5) (u := 28) (HC.out w1 HB1.out) HCC.out)
    have hw2 := Aside0.mk (HW1.out.below (below_alloc (Below.refl _ w1) (.cells #[.slice A ys.length c] 28)))
    refine (wone_calls k _ g B e1 e2 l1 l2 ys _ 1 hw2.out hrow.out (Nat.le_refl _) HO.out).mono ?_
    rintro en w2 ⟨rfl, hw2, hb2⟩
    go_wp2_with fail
    go_ret
    exact ⟨rfl, hw2, (HB1.out.trans ((below_alloc (Below.refl _ w1) (.cells #[.slice A ys.length c] 28)).mono (Nat.le_trans HBB.out HB1.out.size))).trans hb2⟩
  · rw [if_neg hq] at h
    cases h
/-- A block that is neither the writer's at g nor its row's. -/
def ApartW (W : World) (g i : Nat) : Prop := i ≠ g ∧ ∀ (e : Int) (v : Value), W.heap[g]? = some (.cells #[.int .i64 e, v] 66 (0, 0)) → some i ≠ v.ownBlock
/-- What is apart from the writer stays as it was, and apart. -/
def KeepW (W W' : World) (g : Nat) : Prop := W.heap.size ≤ W'.heap.size ∧ ∀ i, i < W.heap.size → ApartW W g i → W'.heap[i]? = W.heap[i]? ∧ ApartW W' g i
theorem KeepW.trans {W W1 W2 : World} {g : Nat} (h : KeepW W W1 g) (k : KeepW W1 W2 g) : KeepW W W2 g :=
  ⟨Nat.le_trans h.1 k.1, fun i hi ha => ⟨(k.2 i (Nat.lt_of_lt_of_le hi h.1) (h.2 i hi ha).2).1.trans (h.2 i hi ha).1, (k.2 i (Nat.lt_of_lt_of_le hi h.1) (h.2 i hi ha).2).2⟩⟩
theorem KeepW.below {W W1 : World} {g : Nat} (hb : Below W.heap.size W W1) (hg : g < W.heap.size) : KeepW W W1 g :=
  ⟨hb.size, fun i hi ha => ⟨hb.block i hi, ha.1, fun e v hv => ha.2 e v ((hb.block g hg).symm.trans hv)⟩⟩
set_option maxRecDepth 100000 in
set_option maxHeartbeats 1000000 in
theorem putK_calls (W : World) (g B : Nat) (e e1 e2 : Int) (l ys l2 : List Int) (A : Option Addr) (c : Nat) (hW : WrAt W g B e l) (hC : ∀ W2, W.grownBy W2 (some g) → Kd.C (Kd.int .u8) W2 A ys.length ys) (hl : l.length + ys.length ≤ 140737488355328) (hp : putS2 e e1 l ys = (e2, l2)) :
    Calls Try.prog 52 #[.pointer (some ⟨g, 0, none⟩), .slice A ys.length c, .int .i64 e1] W fun en W' => en = .returned (.pointer (some ⟨g, 0, none⟩)) ∧ WrAt W' g B e2 l2 ∧ Below B W W' ∧ KeepW W W' g := by
  obtain ⟨v, hb, hR, hg⟩ := hW
  obtain ⟨e3, he3⟩ : ∃ e3, e3 = (if e = 0 then e1 else e) := ⟨_, rfl⟩
  unfold putS2 at hp
  rw [← he3] at hp
  obtain ⟨Av, cv, rfl, hvc, _⟩ := row_at hR
  have HF := Aside0.mk (failW_calls W g e e1 e3 _ hb he3)
  have HC := Aside0.mk hC
  have HR := Aside0.mk hR
  have HG := Aside0.mk hg
  have HL := Aside0.mk hl
  have HBK := Aside0.mk hb
  have HLT := Aside0.mk (blk_lt hb)
  clear hC hR hg hl hb he3 hvc
  by_cases h0 : e3 = 0
  · rw [if_pos h0] at hp
    simp only [Prod.mk.injEq] at hp
    obtain ⟨rfl, hl2⟩ := hp
    subst h0
    have HL2 := Aside0.mk hl2
    clear hl2
    go_enter Try.func52, Try.ntmps52
    go_wp2_with (first | (go_at_call 45; (with_reducible refine HF.out.mono ?_); rintro en w1 ⟨rfl, hb1, hg1⟩; have hd1 := blk_cell hb1 1; have hf1 := blk_frozen hb1 1; simp at hd1; have HB1 := Aside0.mk hb1; have HG1 := Aside0.mk hg1; have HR1 := Aside0.mk (Kd.R_grown2 HR.out rfl hg1 (fun k e => by cases e; exact Kd.R_ne HR.out HBK.out (by decide))); have HBel := Aside0.mk ((Below.refl B W).grown hg1 (Nat.le_trans HG.out (Nat.le_of_lt HLT.out)) (fun k e => by cases e; exact HG.out)); clear hb1 hg1) | (at_builtin; refine Kd.R_append_rows (Kd.int .u8) (w0 := W) B rfl (.tmp 17) (.tmp 18) 28 5 (.int .u8 0) 1 rfl Try.underlying28 info5 rfl (by decide) (by omega) (.slice Av l.length cv) l ys A ys.length c (fun _ => True) (fun _ => False) rfl rfl HR1.out (HC.out _ HG1.out) (fun _ _ h => h) (fun _ h => h.elim) (fun _ _ => trivial) HBel.out ?aS ?aL ?_; (case aS => exact Nat.le_trans HG.out (Nat.le_trans (Nat.le_of_lt HLT.out) HG1.out.size)); (case aL => have := HL.out; omega); intro v1 w2 ho hb2 hg2 hat; rw [HL2.out] at ho; obtain ⟨A1, c1, rfl, _, _⟩ := row_at ho; have hb3 := blk_grown HB1.out hg2 (Kd.R_ne HR1.out HB1.out (by decide)); have hk1 := blk_cell hb3 1; have hm1 := blk_frozen hb3 1; simp at hk1; have HO := Aside0.mk ho; have HB3 := Aside0.mk hb3; have HBel2 := Aside0.mk hb2; have HGG2 := Aside0.mk hg2; have HAT := Aside0.mk hat; clear hb3 ho hb2 hg2 hat HR1 HB1))
    go_ret
    refine ⟨rfl, ⟨_, blk_put (cs := #[.int .i64 0, .slice Av l.length cv]) HB3.out 1 _ rfl, Kd.R_grown2 HO.out rfl (setCell_grownBy _ g 1 _) (fun k e => by cases e; exact Kd.R_ne HO.out HB3.out (by decide)), HG.out⟩, HBel2.out.setCell (p := ⟨g, 1, none⟩) HG.out _, ?_⟩
    have hnew := blk_put (cs := #[.int .i64 0, .slice Av l.length cv]) HB3.out 1 (.slice A1 l2.length c1) rfl
    have hs1 := HG1.out.size
    have hs2 := HGG2.out.size
    refine ⟨by simp; omega, fun i hi ha => ⟨?_, ha.1, fun e v hv => ?_⟩⟩
    · exact (Below.heap_setCell w2 ⟨g, 1, none⟩ _ i ha.1).trans ((HGG2.out.block i (by omega) (ha.2 _ _ HBK.out)).trans (HG1.out.block i hi (fun e => ha.1 (Option.some.inj e))))
    · have e9 := hnew.symm.trans hv
      simp only [Option.some.injEq, Obj.cells.injEq] at e9
      have e8 := e9.1
      simp at e8
      rw [← e8.2]
      rcases HAT.out with h | ⟨b, h, hb⟩
      · rw [h]; exact ha.2 _ _ HBK.out
      · rw [h]; intro e; have := Option.some.inj e; omega
  · rw [if_neg h0] at hp
    simp only [Prod.mk.injEq] at hp
    obtain ⟨rfl, rfl⟩ := hp
    have hz : (e3 != 0) = true := bne_iff_ne.mpr h0
    have HZ := Aside0.mk hz
    clear h0 hz
    go_enter Try.func52, Try.ntmps52
    go_wp2_with (go_at_call 45; (with_reducible refine HF.out.mono ?_); rintro en w1 ⟨rfl, hb1, hg1⟩; rw [HZ.out]; have HB1 := Aside0.mk hb1; have HG1 := Aside0.mk hg1; clear hb1 hg1)
    go_ret
    refine ⟨rfl, ⟨_, HB1.out, Kd.R_grown2 HR.out rfl HG1.out (fun k e => by cases e; exact Kd.R_ne HR.out HBK.out (by decide)), HG.out⟩, ?_, ?_⟩
    · exact (Below.refl B W).grown HG1.out (Nat.le_trans HG.out (Nat.le_of_lt HLT.out)) (fun k e => by cases e; exact HG.out)
    · refine ⟨HG1.out.size, fun i hi ha => ⟨HG1.out.block i hi (fun e => ha.1 (Option.some.inj e)), ha.1, fun e v hv => ?_⟩⟩
      have e9 := HB1.out.symm.trans hv
      simp only [Option.some.injEq, Obj.cells.injEq] at e9
      have e8 := e9.1
      simp at e8
      rw [← e8.2]
      exact ha.2 _ _ HBK.out
set_option maxRecDepth 100000 in
set_option maxHeartbeats 1000000 in
theorem woneK_calls (k : Nat) (W : World) (g B : Nat) (e e2 : Int) (l l2 ys : List Int) (A : Option Addr) (c : Nat) (hW : WrAt W g B e l) (hA : Kd.C (Kd.slice 5 (Kd.int .u8)) W A 1 [ys]) (hc : 1 ≤ c) (h : wrOne k e l ys = some (e2, l2)) :
    Calls Try.prog 31 #[.pointer (some ⟨g, 0, none⟩), .slice A 1 c] W fun en W' => en = .returned (.pointer (some ⟨g, 0, none⟩)) ∧ WrAt W' g B e2 l2 ∧ Below B W W' ∧ KeepW W W' g := by
  obtain ⟨p1, hp, h⟩ := Option.bind_eq_some_iff.1 h
  by_cases hl : l.length + p1.length ≤ 140737488355328
  · rw [if_pos hl] at h
    have HP := Aside0.mk hp
    have HS := Aside0.mk (Option.some.inj h)
    have HL := Aside0.mk hl
    obtain ⟨v, hb, _, hg⟩ := id hW
    have HBB := Aside0.mk (Nat.le_trans hg (Nat.le_of_lt (blk_lt hb)))
    have HLTg := Aside0.mk (blk_lt hb)
    have HW := Aside0.mk hW
    have HA := Aside0.mk (show Kd.C (Kd.slice 5 (Kd.int .u8)) W A ([ys] : List (List Int)).length [ys] from hA)
    have HC := Aside0.mk hc
    clear hp h hl hb hg hW hA hc
    have hj := Aside0.mk (octet_Join.calls k A c [ys] p1 W HA.out HC.out HP.out)
    go_enter Try.func31, Try.ntmps31
    go_wp2_with fail
    refine hj.out.mono ?_
    rintro en w1 ⟨vp, rfl, hrp, hbp⟩
    obtain ⟨A1, c1, rfl, _, _⟩ := row_at hrp
    have HW1 := Aside0.mk (HW.out.below hbp)
    have HRP := Aside0.mk hrp
    have HB1 := Aside0.mk hbp
    clear hrp hbp
    go_wp2_with fail
    obtain ⟨v1, hb1, hR1, hg1⟩ := id HW1.out
    refine (putK_calls w1 g B e 0 e2 l p1 l2 A1 c1 HW1.out (fun W2 hg2 => (Kd.R_reads' (Kd.R_grown2 HRP.out rfl hg2 (fun k e => by cases e; exact Kd.R_ne HRP.out hb1 (by decide)))).2.2) HL.out HS.out).mono ?_
    rintro en w2 ⟨rfl, hw2, hb2, hk2⟩
    clear hb1 hR1 hg1
    go_wp2_with fail
    go_ret
    exact ⟨rfl, hw2, (HB1.out.mono HBB.out).trans hb2, (KeepW.below HB1.out HLTg.out).trans hk2⟩
  · rw [if_neg hl] at h
    cases h


set_option maxRecDepth 100000 in
set_option maxHeartbeats 1000000 in
theorem wvariK_calls (k : Nat) (W : World) (g B : Nat) (e e2 n : Int) (l l2 : List Int) (A : Option Addr) (c : Nat) (hW : WrAt W g B e l) (hA : Kd.C (Kd.int .u64) W A 1 [n]) (hc : 1 ≤ c) (h : wrVari k e l n = some (e2, l2)) :
    Calls Try.prog 29 #[.pointer (some ⟨g, 0, none⟩), .slice A 1 c] W fun en W' => en = .returned (.pointer (some ⟨g, 0, none⟩)) ∧ WrAt W' g B e2 l2 ∧ Below B W W' ∧ KeepW W W' g := by
  obtain ⟨⟨p1, ep⟩, hp, h⟩ := Option.bind_eq_some_iff.1 h
  dsimp only at h
  by_cases hl : l.length + p1.length ≤ 140737488355328
  · rw [if_pos hl] at h
    have HP := Aside0.mk hp
    have HS := Aside0.mk (Option.some.inj h)
    have HL := Aside0.mk hl
    obtain ⟨v, hb, _, hg⟩ := id hW
    have HBB := Aside0.mk (Nat.le_trans hg (Nat.le_of_lt (blk_lt hb)))
    have HLTg := Aside0.mk (blk_lt hb)
    have HW := Aside0.mk hW
    have HA := Aside0.mk (show Kd.C (Kd.int .u64) W A ([n] : List Int).length [n] from hA)
    have HC := Aside0.mk hc
    clear hp h hl hb hg hW hA hc
    have hj := Aside0.mk (vari_Row.calls k A c [n] p1 ep W HA.out HC.out HP.out)
    go_enter Try.func29, Try.ntmps29
    go_wp2_with fail
    refine hj.out.mono ?_
    rintro en w1 ⟨vp, rfl, hrp, hbp⟩
    obtain ⟨A1, c1, rfl, _, _⟩ := row_at hrp
    have HW1 := Aside0.mk (HW.out.below hbp)
    have HRP := Aside0.mk hrp
    have HB1 := Aside0.mk hbp
    clear hrp hbp
    go_wp2_with fail
    obtain ⟨v1, hb1, hR1, hg1⟩ := id HW1.out
    refine (putK_calls w1 g B e ep e2 l p1 l2 A1 c1 HW1.out (fun W2 hg2 => (Kd.R_reads' (Kd.R_grown2 HRP.out rfl hg2 (fun k e => by cases e; exact Kd.R_ne HRP.out hb1 (by decide)))).2.2) HL.out HS.out).mono ?_
    rintro en w2 ⟨rfl, hw2, hb2, hk2⟩
    clear hb1 hR1 hg1
    go_wp2_with fail
    go_ret
    exact ⟨rfl, hw2, (HB1.out.mono HBB.out).trans hb2, (KeepW.below HB1.out HLTg.out).trans hk2⟩
  · rw [if_neg hl] at h
    cases h


set_option maxRecDepth 100000 in
set_option maxHeartbeats 1000000 in
theorem wlongK_calls (k : Nat) (W : World) (g B : Nat) (e e2 : Int) (l l2 ys : List Int) (A : Option Addr) (c : Nat) (hW : WrAt W g B e l) (hC : ∀ W2, Below B W W2 → Kd.C (Kd.int .u8) W2 A ys.length ys) (hc : ys.length ≤ c) (h : wrLong k e l ys = some (e2, l2)) :
    Calls Try.prog 30 #[.pointer (some ⟨g, 0, none⟩), .slice A ys.length c] W fun en W' => en = .returned (.pointer (some ⟨g, 0, none⟩)) ∧ WrAt W' g B e2 l2 ∧ Below B W W' ∧ KeepW W W' g := by
  unfold wrLong at h
  obtain ⟨v, hb, _, hg⟩ := id hW
  have HBB := Aside0.mk (Nat.le_trans hg (Nat.le_of_lt (blk_lt hb)))
  have HLTg := Aside0.mk (blk_lt hb)
  have HW := Aside0.mk hW
  have HC := Aside0.mk hC
  have HCC := Aside0.mk hc
  clear hb hg hW hC hc
  by_cases hq : ys.length < 140737488355328
  · rw [if_pos hq] at h
    obtain ⟨⟨e1, l1⟩, hn, ho⟩ := Option.bind_eq_some_iff.1 h
    dsimp only at ho
    obtain ⟨n, hnn⟩ : ∃ n : Nat, n = ys.length := ⟨_, rfl⟩
    have hu : IntKind.u64.wrap (n : Int) = (n : Int) := IntWalk.u64_in _ (by omega)
    have hlt : (n : Int) < 140737488355328 := by omega
    rw [← hnn] at hn ⊢
    have hv := wvariK_calls k (W.alloc (.cells #[.int .u64 (n : Int)] 33)) g B e e1 (n : Int) l l1 (some ⟨W.heap.size, 0, none⟩) 1 (HW.out.below (below_alloc (Below.refl _ W) _)) (one_int W (n : Int)) (Nat.le_refl _) hn
    have HN := Aside0.mk hv
    have HO := Aside0.mk ho
    have HNN := Aside0.mk hnn
    clear hn ho h hq hv hnn
    go_enter Try.func30, Try.ntmps30
    go_wp2_with fail
    refine HN.out.mono ?_
    rintro en w1 ⟨rfl, hw1, hb1, hk1⟩
    have HW1 := Aside0.mk hw1
    have HB1 := Aside0.mk (((below_alloc (Below.refl _ W) (.cells #[.int .u64 (n : Int)] 33)).mono HBB.out).trans hb1)
    have HK1 := Aside0.mk ((KeepW.below (below_alloc (Below.refl _ W) _) HLTg.out).trans hk1)
    have HLT1 := Aside0.mk (show g < w1.heap.size by obtain ⟨v, hb, _⟩ := HW1.out; exact blk_lt hb)
    clear hw1 hb1 hk1
    go_wp2_with fail
    rw [HNN.out]
    have hrow := Aside0.mk (one_row (t := 5) (u := 28) (HC.out w1 HB1.out) HCC.out)
    have hw2 := Aside0.mk (HW1.out.below (below_alloc (Below.refl _ w1) (.cells #[.slice A ys.length c] 28)))
    refine (woneK_calls k _ g B e1 e2 l1 l2 ys _ 1 hw2.out hrow.out (Nat.le_refl _) HO.out).mono ?_
    rintro en w2 ⟨rfl, hw2, hb2, hk2⟩
    go_wp2_with fail
    go_ret
    exact ⟨rfl, hw2, (HB1.out.trans ((below_alloc (Below.refl _ w1) (.cells #[.slice A ys.length c] 28)).mono (Nat.le_trans HBB.out HB1.out.size))).trans hb2, HK1.out.trans ((KeepW.below (below_alloc (Below.refl _ w1) _) HLT1.out).trans hk2)⟩
  · rw [if_neg hq] at h
    cases h






/-! ### crosswayref01_Put: function 56 -/
mutual
def crosswayref01_Put.j0 : Nat → Int → Int → Bool → Option (List Int × Int)
  | 0, _, _, _ => none
  | k + 1, x0, x1, x13 => if x13 = true then (some (([] : List Int), 11)) else (if 0 ≤ x1 then (if (x1 : Int).toNat ≤ 281474976710656 then (crosswayref01_Put.l0 k x0 (List.replicate (x1 : Int).toNat 0) (wrap64 (x1 - 1))) else (none)) else (none))
def crosswayref01_Put.l0 : Nat → Int → List Int → Int → Option (List Int × Int)
  | 0, _, _, _ => none
  | k + 1, x0, x6, x7 => if x7 ≥ 0 then (if 0 ≤ x7 then (if x7 < (x6.length : Int) then (crosswayref01_Put.l0 k (IntKind.u64.wrap (Int.tdiv x0 256)) (x6.set (x7 : Int).toNat ((Int.tmod x0 256) % 256)) (wrap64 (x7 - 1))) else (none)) else (none)) else (if x0 > 0 then (some (([] : List Int), 11)) else (some (x6, 0)))
end
def crosswayref01_Put.f (k : Nat) (a0 : Int) (a1 : Int) : Option (List Int × Int) := if a1 < 0 then (crosswayref01_Put.j0 k a0 a1 true) else (crosswayref01_Put.j0 k a0 a1 (decide (a1 > 8)))
theorem crosswayref01_Put.mono_l : ∀ k, (∀ y0 y1 y2, LeO (crosswayref01_Put.j0 k y0 y1 y2) (crosswayref01_Put.j0 (k + 1) y0 y1 y2)) ∧ (∀ y0 y1 y2, LeO (crosswayref01_Put.l0 k y0 y1 y2) (crosswayref01_Put.l0 (k + 1) y0 y1 y2))
  | 0 => ⟨fun _ _ _ r h => by simp [crosswayref01_Put.j0] at h, fun _ _ _ r h => by simp [crosswayref01_Put.l0] at h⟩
  | k + 1 => by
    obtain ⟨ih0, ih1⟩ := crosswayref01_Put.mono_l k
    refine ⟨?_, ?_⟩
    · intro y0 y1 y2
      unfold crosswayref01_Put.j0
      repeat' first
      | (with_reducible exact ih0 _ _ _)
      | (with_reducible exact ih1 _ _ _)
      | (with_reducible exact LeO.refl _)
      | (with_reducible exact LeO.none _)
      | (with_reducible refine LeO.ite ?_ ?_)
      | (with_reducible refine LeO.bind ?_ (fun _ => ?_))
      | exact ih0 _ _ _
      | exact ih1 _ _ _
      | exact LeO.none _
      | refine LeO.ite ?_ ?_
      | refine LeO.bind ?_ (fun _ => ?_)
    · intro y0 y1 y2
      unfold crosswayref01_Put.l0
      repeat' first
      | (with_reducible exact ih0 _ _ _)
      | (with_reducible exact ih1 _ _ _)
      | (with_reducible exact LeO.refl _)
      | (with_reducible exact LeO.none _)
      | (with_reducible refine LeO.ite ?_ ?_)
      | (with_reducible refine LeO.bind ?_ (fun _ => ?_))
      | exact ih0 _ _ _
      | exact ih1 _ _ _
      | exact LeO.none _
      | refine LeO.ite ?_ ?_
      | refine LeO.bind ?_ (fun _ => ?_)
theorem crosswayref01_Put.mono : ∀ a0 a1 k, LeO (crosswayref01_Put.f k a0 a1) (crosswayref01_Put.f (k + 1) a0 a1) := by
  intro a0 a1 k
  obtain ⟨ih0, ih1⟩ := crosswayref01_Put.mono_l k
  unfold crosswayref01_Put.f
  repeat' first
      | (with_reducible exact ih0 _ _ _)
      | (with_reducible exact ih1 _ _ _)
      | (with_reducible exact LeO.refl _)
      | (with_reducible exact LeO.none _)
      | (with_reducible refine LeO.ite ?_ ?_)
      | (with_reducible refine LeO.bind ?_ (fun _ => ?_))
      | exact ih0 _ _ _
      | exact ih1 _ _ _
      | exact LeO.none _
      | refine LeO.ite ?_ ?_
      | refine LeO.bind ?_ (fun _ => ?_)
set_option maxHeartbeats 8000000 in
set_option maxRecDepth 100000 in
theorem crosswayref01_Put.calls (k : Nat) (a0 : Int) (a1 : Int) (r1 : List Int) (r2 : Int) (w : World) (h : crosswayref01_Put.f k a0 a1 = some (r1, r2)) :
    Calls Try.prog 56 #[.int .u64 a0, .int .i64 a1] w fun e w' => ∃ v0_ : Value, e = .returned (.tuple #[v0_, .int .i64 r2]) ∧ Kd.R (Kd.int .u8) 5 w' w.heap.size (fun _ => True) v0_ r1 ∧ Below w.heap.size w w' := by
  have HB := Aside0.mk (Below.refl w.heap.size w)
  have H : (if a1 < 0 then (crosswayref01_Put.j0 k a0 a1 true) else (crosswayref01_Put.j0 k a0 a1 (decide (a1 > 8)))) = some (r1, r2) := h
  clear h
  have HC3 := Aside0.mk H
  clear H
  go_enter Try.func56, Try.ntmps56
  go_upto_region 1 with (fail)
  go_cut [13] (fun v13 wc => ∃ (kq : Nat) (x13_2 : Bool), v13 = .bool x13_2 ∧ Aside0 (crosswayref01_Put.j0 kq a0 a1 x13_2 = some (r1, r2)) ∧ Aside0 (kq ≤ k) ∧ Aside0 (Below w.heap.size w wc))
  case first =>
    have H := HC3.out
    clear HC3
    by_cases c4 : a1 < 0
    · rw [if_pos c4] at H
      have c4b0 : decide (a1 < 0) = true := decide_eq_true c4
      clear c4
      (first | rw [c4b0] | (simp only [i64_w, i32_w]; rw [c4b0]) | skip)
      have H' := Aside0.mk H
      clear H
      go_wp2
      go_meet
      case rel => exact ⟨_, (true), (by first | rfl | (simp; done) | (simp [*]; done) | (simp only [i64_w]; done) | (simp [i64_w]; done)), H', ⟨by first | omega | exact Nat.le_refl _⟩, ⟨by repeat (first | (with_reducible first | exact HB.out | apply below_alloc | apply pw_below_drewN | apply below_drew1) | exact HB.out)⟩⟩
    · rw [if_neg c4] at H
      have c4b0 : decide (a1 < 0) = false := decide_eq_false c4
      clear c4
      (first | rw [c4b0] | (simp only [i64_w, i32_w]; rw [c4b0]) | skip)
      have H' := Aside0.mk H
      clear H
      go_wp2
      go_meet
      case rel => exact ⟨_, (decide (a1 > 8)), (by first | rfl | (simp; done) | (simp [*]; done) | (simp only [i64_w]; done) | (simp [i64_w]; done)), H', ⟨by first | omega | exact Nat.le_refl _⟩, ⟨by repeat (first | (with_reducible first | exact HB.out | apply below_alloc | apply pw_below_drewN | apply below_drew1) | exact HB.out)⟩⟩
  case rest =>
    clear HC3
    try clear p2
    try clear c4
    try clear c4b0
    obtain ⟨kq, x13_2, rfl, HA, HJ2, HB⟩ := hcut
    cases kq with
    | zero => exact absurd HA.out (by simp [crosswayref01_Put.j0])
    | succ kj2 =>
      have H := HA.out
      clear HA
      simp only [crosswayref01_Put.j0] at H
      by_cases c5 : x13_2 = true
      · subst c5
        have H1 : (some (([] : List Int), 11)) = some (r1, r2) := by rw [if_pos rfl] at H; exact H
        clear H
        have H := H1
        clear H1
        simp only [Option.some.injEq, Prod.mk.injEq] at H
        obtain ⟨rfl, rfl⟩ := H
        go_wp2
        go_ret2
        exact ⟨_, by first | rfl | (simp [errW_none, errW_some] <;> rfl) | (simp [*, errW_none, errW_some] <;> rfl), by first | exact Kd.R_nil _ _ _ _ _ | exact Kd.N_nil _ _ _ _ _ | exact Kd.V_nil _ _ _ _ _ | exact Kd.Q_nil _ _ _ _ _ | exact Kd.S_nil _ _ _ _ _, by repeat (first | (with_reducible first | exact HB.out | apply below_alloc | apply pw_below_drewN | apply below_drew1) | exact HB.out)⟩
      · replace c5 := Bool.eq_false_iff.mpr c5
        subst c5
        have H1 : (if 0 ≤ a1 then (if (a1 : Int).toNat ≤ 281474976710656 then (crosswayref01_Put.l0 kj2 a0 (List.replicate (a1 : Int).toNat 0) (wrap64 (a1 - 1))) else (none)) else (none)) = some (r1, r2) := by rw [if_neg (show ¬ (false = true) by decide)] at H; exact H
        clear H
        have H := H1
        clear H1
        by_cases c6 : 0 ≤ a1
        · rw [if_pos c6] at H
          have c6b0 := eq_true c6
          have c6b1 : decide (0 ≤ a1) = true := decide_eq_true c6
          clear c6
          by_cases c7 : (a1 : Int).toNat ≤ 281474976710656
          · rw [if_pos c7] at H
            have c7b0 := eq_true c7
            have c7b1 : decide ((a1 : Int).toNat ≤ 281474976710656) = true := decide_eq_true c7
            clear c7
            obtain ⟨y158, hy158⟩ : ∃ y_ : List Int, y_ = (List.replicate (a1 : Int).toNat 0) := ⟨_, rfl⟩
            replace H : (crosswayref01_Put.l0 kj2 a0 y158 (wrap64 (a1 - 1))) = some (r1, r2) := by first | (rw [hy158]; with_reducible exact H) | (have H2_ := (Option.bind_some _ _).symm.trans H; rw [hy158]; with_reducible exact H2_) | (have H2_ := (Option.bind_some _ _).symm.trans H; with_reducible exact H2_) | with_reducible exact H | (rw [hy158]; exact H) | exact H
            have Ny158 := Aside0.mk hy158
            clear hy158
            have H' := Aside0.mk H
            clear H
            go_wp2_with (first | ((with_reducible refine gate_dst (N := 15) rfl ?_); refine Kd.R_make (Kd.int .u8) _ 5 rfl (N := 15) rfl 28 _ _ rfl a1 rfl rfl Try.underlying28 (.int .u8 0) 1 info5 rfl (by decide) (by omega) 0 (ok := fun _ => True) (okp := fun _ => True) rfl (fun _ hk => hk) trivial (of_decide_eq_true (by first | (with_reducible assumption) | assumption)) (Nat.le_trans (Nat.mul_le_mul_right _ (of_decide_eq_true (by first | (with_reducible assumption) | assumption) : a1.toNat ≤ 281474976710656)) (by omega)) (Below.refl _ _) (Nat.le_refl _) ?_; intro v159 w8 ho9 hb hg_ hnew_; clear hg_ hnew_; (first | rw [← Ny158.out] at ho9 | (simp only [Int.reduceToNat] at ho9; rw [← Ny158.out] at ho9)); have n0_ := Aside0.mk (Kd.R_lower ho9 (below_size (by repeat (first | (with_reducible first | exact HB.out | apply below_alloc | apply pw_below_drewN | apply below_drew1) | exact HB.out)))); have n1_ := Aside0.mk (below_step (by repeat (first | (with_reducible first | exact HB.out | apply below_alloc | apply pw_below_drewN | apply below_drew1) | exact HB.out)) hb); clear HB; have HO160 := n0_; have HB := n1_; clear n0_ n1_; clear hb ho9))
            go_loopg [0, 7] kj2 (fun kq v0 v7 w' => ∃ (x0_2 : Int) (x6_2 : List Int) (x7_2 : Int), v0 = .int .u64 x0_2 ∧ v7 = .int .i64 x7_2 ∧ Aside0 (crosswayref01_Put.l0 kq x0_2 x6_2 x7_2 = some (r1, r2)) ∧ Aside0 (kq ≤ kj2) ∧ Aside0 (Kd.R (Kd.int .u8) 5 w' w.heap.size (fun _ => True) v159 x6_2) ∧ Aside0 (Below w.heap.size w w'))
            case atStart => exact ⟨(a0), (y158), (wrap64 (a1 - 1)), (by first | rfl | (simp; done) | (simp [*]; done) | (simp only [i64_w]; done) | (simp [i64_w]; done)), (by first | rfl | (simp; done) | (simp [*]; done) | (simp only [i64_w]; done) | (simp [i64_w]; done)), H', ⟨Nat.le_refl _⟩, ⟨by (with_reducible repeat (first | apply Kd.R_alloc | apply Kd.R_drewN | apply Kd.R_drew)); exact HO160.out⟩, ⟨by repeat (first | (with_reducible first | exact HB.out | apply below_alloc | apply pw_below_drewN | apply below_drew1) | exact HB.out)⟩⟩
            case round =>
              clear H'
              try clear p2
              try clear c4
              try clear c4b0
              try clear c5
              try clear c6
              try clear c6b0
              try clear c6b1
              try clear p6
              try clear c7
              try clear c7b0
              try clear c7b1
              try clear p2
              obtain ⟨x0_2, x6_2, x7_2, rfl, rfl, HA, HK2, HO_6, HB⟩ := hrel
              cases gk with
              | zero => exact absurd HA.out (by simp [crosswayref01_Put.l0])
              | succ k2 =>
                have H := HA.out
                clear HA
                simp only [crosswayref01_Put.l0] at H
                by_cases c10 : x7_2 ≥ 0
                · rw [if_pos c10] at H
                  have c10b0 : decide (0 ≤ x7_2) = true := decide_eq_true c10
                  clear c10
                  by_cases c11 : 0 ≤ x7_2
                  · rw [if_pos c11] at H
                    have c11b0 : decide (0 ≤ x7_2) = true := decide_eq_true c11
                    clear c11
                    by_cases c12 : x7_2 < (x6_2.length : Int)
                    · rw [if_pos c12] at H
                      have c12b0 : decide (x7_2 < (x6_2.length : Int)) = true := decide_eq_true c12
                      clear c12
                      obtain ⟨y161, hy161⟩ : ∃ y_ : List Int, y_ = (x6_2.set (x7_2 : Int).toNat ((Int.tmod x0_2 256) % 256)) := ⟨_, rfl⟩
                      replace H : (crosswayref01_Put.l0 k2 (IntKind.u64.wrap (Int.tdiv x0_2 256)) y161 (wrap64 (x7_2 - 1))) = some (r1, r2) := by first | (rw [hy161]; with_reducible exact H) | (have H2_ := (Option.bind_some _ _).symm.trans H; rw [hy161]; with_reducible exact H2_) | (have H2_ := (Option.bind_some _ _).symm.trans H; with_reducible exact H2_) | with_reducible exact H | (rw [hy161]; exact H) | exact H
                      have Ny161 := Aside0.mk hy161
                      clear hy161
                      have H' := Aside0.mk H
                      clear H
                      have p13 : 0 ≤ (x7_2 : Int) := of_decide_eq_true (by first | (with_reducible assumption) | assumption)
                      have q13 : (x7_2 : Int) < ((x6_2.length : Int) : Int) := of_decide_eq_true (by first | (with_reducible assumption) | assumption)
                      obtain ⟨go13, co13, eo13, gb13, gl13, cl13, HG13⟩ := Kd.R_form HO_6.out (by omega)
                      (first | cases eo13 | (injection eo13 with ea_ en_ ec_; (first | subst ea_ | (injection ea_ with ea_; subst ea_)); subst ec_; clear en_))
                      have GB13 := Aside0.mk gb13
                      have GG13 := Aside0.mk HG13
                      clear gb13 gl13 HG13
                      obtain ⟨hx13_0, hf13_0⟩ := Kd.R_celln 0 HO_6.out (x7_2 : Int) p13 q13
                      replace p13 := eq_true p13
                      replace q13 := eq_true q13
                      have HP14 := Kd.R_putg HO_6.out (x7_2 : Int) ((Int.tmod x0_2 256) % 256)
                      go_wp2_with (first | ((with_reducible refine gate_store (t := 5) (p := 27) rfl ?_); refine store_event (t := 5) (p := 27) (v := ?vo_w15) (w1 := (wr.setCell ⟨go13, (x7_2 : Int).toNat, none⟩ (.int .u8 ((Int.tmod x0_2 256) % 256)))) ?hg ?ho ?hn ?hr ?_; (case ho => rfl); (case hg => rfl); (case hn => rfl); (case hr => first | (go_simp; done) | (go_simp; rfl)); intro w15 hw; have hg : wr.grownBy w15 (some go13) := (by rw [hw]; exact HP14.2); have hp_ : Kd.R (Kd.int .u8) 5 w15 w.heap.size (fun _ => True) (.slice (some ⟨go13, 0, none⟩) x6_2.length co13) y161 := (by rw [hw, Ny161.out]; exact HP14.1); clear HP14; have n0_ := Aside0.mk (hp_); have n1_ := Aside0.mk ((by rw [hw]; exact below_set (HB.out) GB13.out : Below w.heap.size w w15)); clear HO_6; clear HB; have HO_6 := n0_; have HB := n1_; clear n0_ n1_; clear hg hw hp_))
                      go_roundg k2
                      case measure => have := HJ2.out; have := HK2.out; omega
                      case rel => exact ⟨(IntKind.u64.wrap (Int.tdiv x0_2 256)), (y161), (wrap64 (x7_2 - 1)), (by first | rfl | (simp; done) | (simp [*]; done) | (simp only [i64_w]; done) | (simp [i64_w]; done)), (by first | rfl | (simp; done) | (simp [*]; done) | (simp only [i64_w]; done) | (simp [i64_w]; done)), H', ⟨by have := HJ2.out; have := HK2.out; omega⟩, ⟨by (with_reducible repeat (first | apply Kd.R_alloc | apply Kd.R_drewN | apply Kd.R_drew)); exact HO_6.out⟩, ⟨by repeat (first | (with_reducible first | exact HB.out | apply below_alloc | apply pw_below_drewN | apply below_drew1) | exact HB.out)⟩⟩
                    · rw [if_neg c12] at H
                      exact absurd H (by simp)
                  · rw [if_neg c11] at H
                    exact absurd H (by simp)
                · rw [if_neg c10] at H
                  have c10b0 : decide (0 ≤ x7_2) = false := decide_eq_false c10
                  clear c10
                  by_cases c16 : x0_2 > 0
                  · rw [if_pos c16] at H
                    have c16b0 : decide (0 < x0_2) = true := decide_eq_true c16
                    clear c16
                    simp only [Option.some.injEq, Prod.mk.injEq] at H
                    obtain ⟨rfl, rfl⟩ := H
                    go_wp2
                    go_ret2
                    exact ⟨_, by first | rfl | (simp [errW_none, errW_some] <;> rfl) | (simp [*, errW_none, errW_some] <;> rfl), by first | exact Kd.R_nil _ _ _ _ _ | exact Kd.N_nil _ _ _ _ _ | exact Kd.V_nil _ _ _ _ _ | exact Kd.Q_nil _ _ _ _ _ | exact Kd.S_nil _ _ _ _ _, by repeat (first | (with_reducible first | exact HB.out | apply below_alloc | apply pw_below_drewN | apply below_drew1) | exact HB.out)⟩
                  · rw [if_neg c16] at H
                    have c16b0 : decide (0 < x0_2) = false := decide_eq_false c16
                    clear c16
                    simp only [Option.some.injEq, Prod.mk.injEq] at H
                    obtain ⟨rfl, rfl⟩ := H
                    go_wp2
                    go_ret2
                    exact ⟨_, by first | rfl | (simp [errW_none, errW_some] <;> rfl) | (simp [*, errW_none, errW_some] <;> rfl), by (with_reducible repeat (first | apply Kd.R_alloc | apply Kd.R_drewN | apply Kd.R_drew)); exact HO_6.out, by repeat (first | (with_reducible first | exact HB.out | apply below_alloc | apply pw_below_drewN | apply below_drew1) | exact HB.out)⟩
          · rw [if_neg c7] at H
            exact absurd H (by simp)
        · rw [if_neg c6] at H
          exact absurd H (by simp)

/-! ### crosswayref08_limit: function 68 -/
def crosswayref08_limit.f (a0 : Int) : Option (Int) := if a0 = 1 then (some 64) else (if a0 = 2 then (some 16384) else (if a0 = 4 then (some 1073741824) else (if a0 = 8 then (some 4611686018427387904) else (some 0))))
set_option maxHeartbeats 8000000 in
set_option maxRecDepth 100000 in
theorem crosswayref08_limit.calls (a0 : Int) (r : Int) (w : World) (h : crosswayref08_limit.f a0 = some r) :
    Calls Try.prog 68 #[.int .i64 a0] w fun e w' => e = .returned (.int .u64 r) ∧ Drawn0 w w' := by
  have H : (if a0 = 1 then (some 64) else (if a0 = 2 then (some 16384) else (if a0 = 4 then (some 1073741824) else (if a0 = 8 then (some 4611686018427387904) else (some 0))))) = some r := h
  clear h
  by_cases c2 : a0 = 1
  · rw [if_pos c2] at H
    have c2b0 : (a0 == 1) = true := beq_iff_eq.mpr c2
    have c2b1 : (a0 != 1) = false := bne_eq_false_iff_eq.mpr c2
    clear c2
    obtain rfl := Option.some.inj H
    go_enter Try.func68, Try.ntmps68
    go_wp2
    go_ret
    exact ⟨by first | rfl | (simp; done) | (simp [*]; done), by repeat (first | exact Drawn0.refl _ | apply Drawn0.step)⟩
  · rw [if_neg c2] at H
    have c2b0 : (a0 == 1) = false := beq_eq_false_iff_ne.mpr c2
    have c2b1 : (a0 != 1) = true := bne_iff_ne.mpr c2
    by_cases c3 : a0 = 2
    · rw [if_pos c3] at H
      have c3b0 : (a0 == 2) = true := beq_iff_eq.mpr c3
      have c3b1 : (a0 != 2) = false := bne_eq_false_iff_eq.mpr c3
      clear c3
      obtain rfl := Option.some.inj H
      go_enter Try.func68, Try.ntmps68
      go_wp2
      go_ret
      exact ⟨by first | rfl | (simp; done) | (simp [*]; done), by repeat (first | exact Drawn0.refl _ | apply Drawn0.step)⟩
    · rw [if_neg c3] at H
      have c3b0 : (a0 == 2) = false := beq_eq_false_iff_ne.mpr c3
      have c3b1 : (a0 != 2) = true := bne_iff_ne.mpr c3
      by_cases c4 : a0 = 4
      · rw [if_pos c4] at H
        have c4b0 : (a0 == 4) = true := beq_iff_eq.mpr c4
        have c4b1 : (a0 != 4) = false := bne_eq_false_iff_eq.mpr c4
        clear c4
        obtain rfl := Option.some.inj H
        go_enter Try.func68, Try.ntmps68
        go_wp2
        go_ret
        exact ⟨by first | rfl | (simp; done) | (simp [*]; done), by repeat (first | exact Drawn0.refl _ | apply Drawn0.step)⟩
      · rw [if_neg c4] at H
        have c4b0 : (a0 == 4) = false := beq_eq_false_iff_ne.mpr c4
        have c4b1 : (a0 != 4) = true := bne_iff_ne.mpr c4
        by_cases c5 : a0 = 8
        · rw [if_pos c5] at H
          have c5b0 : (a0 == 8) = true := beq_iff_eq.mpr c5
          have c5b1 : (a0 != 8) = false := bne_eq_false_iff_eq.mpr c5
          clear c5
          obtain rfl := Option.some.inj H
          go_enter Try.func68, Try.ntmps68
          go_wp2
          go_ret
          exact ⟨by first | rfl | (simp; done) | (simp [*]; done), by repeat (first | exact Drawn0.refl _ | apply Drawn0.step)⟩
        · rw [if_neg c5] at H
          have c5b0 : (a0 == 8) = false := beq_eq_false_iff_ne.mpr c5
          have c5b1 : (a0 != 8) = true := bne_iff_ne.mpr c5
          obtain rfl := Option.some.inj H
          go_enter Try.func68, Try.ntmps68
          go_wp2
          go_ret
          exact ⟨by first | rfl | (simp; done) | (simp [*]; done), by repeat (first | exact Drawn0.refl _ | apply Drawn0.step)⟩

/-! ### crosswayref08_class: function 72 -/
def crosswayref08_class.f (a0 : Int) : Option (Int) := if a0 = 1 then (some 0) else (if a0 = 2 then (some 1) else (if a0 = 4 then (some 2) else (some 3)))
set_option maxHeartbeats 8000000 in
set_option maxRecDepth 100000 in
theorem crosswayref08_class.calls (a0 : Int) (r : Int) (w : World) (h : crosswayref08_class.f a0 = some r) :
    Calls Try.prog 72 #[.int .i64 a0] w fun e w' => e = .returned (.int .u64 r) ∧ Drawn0 w w' := by
  have H : (if a0 = 1 then (some 0) else (if a0 = 2 then (some 1) else (if a0 = 4 then (some 2) else (some 3)))) = some r := h
  clear h
  by_cases c2 : a0 = 1
  · rw [if_pos c2] at H
    have c2b0 : (a0 == 1) = true := beq_iff_eq.mpr c2
    have c2b1 : (a0 != 1) = false := bne_eq_false_iff_eq.mpr c2
    clear c2
    obtain rfl := Option.some.inj H
    go_enter Try.func72, Try.ntmps72
    go_wp2
    go_ret
    exact ⟨by first | rfl | (simp; done) | (simp [*]; done), by repeat (first | exact Drawn0.refl _ | apply Drawn0.step)⟩
  · rw [if_neg c2] at H
    have c2b0 : (a0 == 1) = false := beq_eq_false_iff_ne.mpr c2
    have c2b1 : (a0 != 1) = true := bne_iff_ne.mpr c2
    by_cases c3 : a0 = 2
    · rw [if_pos c3] at H
      have c3b0 : (a0 == 2) = true := beq_iff_eq.mpr c3
      have c3b1 : (a0 != 2) = false := bne_eq_false_iff_eq.mpr c3
      clear c3
      obtain rfl := Option.some.inj H
      go_enter Try.func72, Try.ntmps72
      go_wp2
      go_ret
      exact ⟨by first | rfl | (simp; done) | (simp [*]; done), by repeat (first | exact Drawn0.refl _ | apply Drawn0.step)⟩
    · rw [if_neg c3] at H
      have c3b0 : (a0 == 2) = false := beq_eq_false_iff_ne.mpr c3
      have c3b1 : (a0 != 2) = true := bne_iff_ne.mpr c3
      by_cases c4 : a0 = 4
      · rw [if_pos c4] at H
        have c4b0 : (a0 == 4) = true := beq_iff_eq.mpr c4
        have c4b1 : (a0 != 4) = false := bne_eq_false_iff_eq.mpr c4
        clear c4
        obtain rfl := Option.some.inj H
        go_enter Try.func72, Try.ntmps72
        go_wp2
        go_ret
        exact ⟨by first | rfl | (simp; done) | (simp [*]; done), by repeat (first | exact Drawn0.refl _ | apply Drawn0.step)⟩
      · rw [if_neg c4] at H
        have c4b0 : (a0 == 4) = false := beq_eq_false_iff_ne.mpr c4
        have c4b1 : (a0 != 4) = true := bne_iff_ne.mpr c4
        obtain rfl := Option.some.inj H
        go_enter Try.func72, Try.ntmps72
        go_wp2
        go_ret
        exact ⟨by first | rfl | (simp; done) | (simp [*]; done), by repeat (first | exact Drawn0.refl _ | apply Drawn0.step)⟩

end Go.Proofs.Ytmhmmmkpijbbiaa.M
