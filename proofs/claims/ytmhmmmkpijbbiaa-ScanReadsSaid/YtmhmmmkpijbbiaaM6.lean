/- Contracts of the Go functions that the laws reach, each as a plain Lean function: written by xprint.py, a program of this repo. -/
import Derived.Test.YtmhmmmkpijbbiaaM0
import Derived.Test.YtmhmmmkpijbbiaaM1
import Derived.Test.YtmhmmmkpijbbiaaM2
import Derived.Test.YtmhmmmkpijbbiaaM4
import Derived.Test.YtmhmmmkpijbbiaaM5
namespace Go.Proofs.Ytmhmmmkpijbbiaa.M
open Go.RowKit Go.Proofs.YtmhmmmkpijbbiaaW.PrintWords Go.Proofs.YtmhmmmkpijbbiaaW.PrintLast Go.Proofs.YtmhmmmkpijbbiaaW.PrintMore Go.Proofs.Ytmhmmmkpijbbiaa.X
attribute [local go_sem] max2_int min2_int max_two min_two max_three min_three max_four min_four   -- for this text's walks alone
set_option linter.unusedVariables false
set_option linter.unusedSimpArgs false

/-! ### scan_Writer_Long: function 30, typed by hand -/
/-- What a writer's Long leaves. -/
def wrLong (k : Nat) (e : Int) (l ys : List Int) : Option (Int × List Int) := if ys.length < 140737488355328 then (wrVari k e l (ys.length : Int)).bind fun q => wrOne k q.1 q.2 ys else none
set_option maxRecDepth 100000 in
set_option maxHeartbeats 1000000 in
theorem wlong_calls (k : Nat) (W : World) (g B : Nat) (e e2 : Int) (l l2 ys : List Int) (A : Option Addr) (c : Nat) (hW : WrAt W g B e l) (hC : ∀ W2, Below B W W2 → Kd.C (Kd.int .u8) W2 A ys.length ys) (hc : ys.length ≤ c) (h : wrLong k e l ys = some (e2, l2)) :
    Calls Try.prog 30 #[.pointer (some ⟨g, 0, none⟩), .slice A ys.length c] W fun en W' => en = .returned (.pointer (some ⟨g, 0, none⟩)) ∧ WrAt W' g B e2 l2 ∧ Below B W W' := by
  unfold wrLong at h
  obtain ⟨v, hb, _, hg⟩ := id hW
  have HBB := Aside0.mk (Nat.le_trans hg (Nat.le_of_lt (blk_lt hb)))
  have HW := Aside0.mk hW
  have HC := Aside0.mk hC
  have HCC := Aside0.mk hc
  clear hb hg hW hC hc
  by_cases hq : ys.length < 140737488355328
  · rw [if_pos hq] at h
    obtain ⟨⟨e1, l1⟩, hn, ho⟩ := Option.bind_eq_some_iff.1 h
    dsimp only at ho
    obtain ⟨n, hnn⟩ : ∃ n : Nat, n = ys.length := ⟨_, rfl⟩
    have hu : IntKind.u64.wrap (n : Int) = (n : Int) := IntWalk.u64_in _ (by omega)
    have hlt : (n : Int) < 140737488355328 := by omega
    rw [← hnn] at hn ⊢
    have hv := wvari_calls k (W.alloc (.cells #[.int .u64 (n : Int)] 33)) g B e e1 (n : Int) l l1 (some ⟨W.heap.size, 0, none⟩) 1 (HW.out.below (below_alloc (Below.refl _ W) _)) (one_int W (n : Int)) (Nat.le_refl _) hn
    have HN := Aside0.mk hv
    have HO := Aside0.mk ho
    have HNN := Aside0.mk hnn
    clear hn ho h hq hv hnn
    go_enter Try.func30, Try.ntmps30
    go_wp2_with fail
    refine HN.out.mono ?_
    rintro en w1 ⟨rfl, hw1, hb1⟩
    have HW1 := Aside0.mk hw1
    have HB1 := Aside0.mk (((below_alloc (Below.refl _ W) (.cells #[.int .u64 (n : Int)] 33)).mono HBB.out).trans hb1)
    clear hw1 hb1
    go_wp2_with fail
    rw [HNN.out]
    have hrow := Aside0.mk (one_row (t := 5) (u := 28) (HC.out w1 HB1.out) HCC.out)
    have hw2 := Aside0.mk (HW1.out.below (below_alloc (Below.refl _ w1) (.cells #[.slice A ys.length c] 28)))
    refine (wone_calls k _ g B e1 e2 l1 l2 ys _ 1 hw2.out hrow.out (Nat.le_refl _) HO.out).mono ?_
    rintro en w2 ⟨rfl, hw2, hb2⟩
    go_wp2_with fail
    go_ret
    exact ⟨rfl, hw2, (HB1.out.trans ((below_alloc (Below.refl _ w1) (.cells #[.slice A ys.length c] 28)).mono (Nat.le_trans HBB.out HB1.out.size))).trans hb2⟩
  · rw [if_neg hq] at h
    cases h
/-- A block that is neither the writer's at g nor its row's. -/
def ApartW (W : World) (g i : Nat) : Prop := i ≠ g ∧ ∀ (e : Int) (v : Value), W.heap[g]? = some (.cells #[.int .i64 e, v] 66 (0, 0)) → some i ≠ v.ownBlock
/-- What is apart from the writer stays as it was, and apart. -/
def KeepW (W W' : World) (g : Nat) : Prop := W.heap.size ≤ W'.heap.size ∧ ∀ i, i < W.heap.size → ApartW W g i → W'.heap[i]? = W.heap[i]? ∧ ApartW W' g i
theorem KeepW.trans {W W1 W2 : World} {g : Nat} (h : KeepW W W1 g) (k : KeepW W1 W2 g) : KeepW W W2 g :=
  ⟨Nat.le_trans h.1 k.1, fun i hi ha => ⟨(k.2 i (Nat.lt_of_lt_of_le hi h.1) (h.2 i hi ha).2).1.trans (h.2 i hi ha).1, (k.2 i (Nat.lt_of_lt_of_le hi h.1) (h.2 i hi ha).2).2⟩⟩
theorem KeepW.below {W W1 : World} {g : Nat} (hb : Below W.heap.size W W1) (hg : g < W.heap.size) : KeepW W W1 g :=
  ⟨hb.size, fun i hi ha => ⟨hb.block i hi, ha.1, fun e v hv => ha.2 e v ((hb.block g hg).symm.trans hv)⟩⟩
set_option maxRecDepth 100000 in
set_option maxHeartbeats 1000000 in
theorem putK_calls (W : World) (g B : Nat) (e e1 e2 : Int) (l ys l2 : List Int) (A : Option Addr) (c : Nat) (hW : WrAt W g B e l) (hC : ∀ W2, W.grownBy W2 (some g) → Kd.C (Kd.int .u8) W2 A ys.length ys) (hl : l.length + ys.length ≤ 140737488355328) (hp : putS2 e e1 l ys = (e2, l2)) :
    Calls Try.prog 52 #[.pointer (some ⟨g, 0, none⟩), .slice A ys.length c, .int .i64 e1] W fun en W' => en = .returned (.pointer (some ⟨g, 0, none⟩)) ∧ WrAt W' g B e2 l2 ∧ Below B W W' ∧ KeepW W W' g := by
  obtain ⟨v, hb, hR, hg⟩ := hW
  obtain ⟨e3, he3⟩ : ∃ e3, e3 = (if e = 0 then e1 else e) := ⟨_, rfl⟩
  unfold putS2 at hp
  rw [← he3] at hp
  obtain ⟨Av, cv, rfl, hvc, _⟩ := row_at hR
  have HF := Aside0.mk (failW_calls W g e e1 e3 _ hb he3)
  have HC := Aside0.mk hC
  have HR := Aside0.mk hR
  have HG := Aside0.mk hg
  have HL := Aside0.mk hl
  have HBK := Aside0.mk hb
  have HLT := Aside0.mk (blk_lt hb)
  clear hC hR hg hl hb he3 hvc
  by_cases h0 : e3 = 0
  · rw [if_pos h0] at hp
    simp only [Prod.mk.injEq] at hp
    obtain ⟨rfl, hl2⟩ := hp
    subst h0
    have HL2 := Aside0.mk hl2
    clear hl2
    go_enter Try.func52, Try.ntmps52
    go_wp2_with (first | (go_at_call 45; (with_reducible refine HF.out.mono ?_); rintro en w1 ⟨rfl, hb1, hg1⟩; have hd1 := blk_cell hb1 1; have hf1 := blk_frozen hb1 1; simp at hd1; have HB1 := Aside0.mk hb1; have HG1 := Aside0.mk hg1; have HR1 := Aside0.mk (Kd.R_grown2 HR.out rfl hg1 (fun k e => by cases e; exact Kd.R_ne HR.out HBK.out (by decide))); have HBel := Aside0.mk ((Below.refl B W).grown hg1 (Nat.le_trans HG.out (Nat.le_of_lt HLT.out)) (fun k e => by cases e; exact HG.out)); clear hb1 hg1) | (at_builtin; refine Kd.R_append_rows (Kd.int .u8) (w0 := W) B rfl (.tmp 17) (.tmp 18) 28 5 (.int .u8 0) 1 rfl Try.underlying28 info5 rfl (by decide) (by omega) (.slice Av l.length cv) l ys A ys.length c (fun _ => True) (fun _ => False) rfl rfl HR1.out (HC.out _ HG1.out) (fun _ _ h => h) (fun _ h => h.elim) (fun _ _ => trivial) HBel.out ?aS ?aL ?_; (case aS => exact Nat.le_trans HG.out (Nat.le_trans (Nat.le_of_lt HLT.out) HG1.out.size)); (case aL => have := HL.out; omega); intro v1 w2 ho hb2 hg2 hat; rw [HL2.out] at ho; obtain ⟨A1, c1, rfl, _, _⟩ := row_at ho; have hb3 := blk_grown HB1.out hg2 (Kd.R_ne HR1.out HB1.out (by decide)); have hk1 := blk_cell hb3 1; have hm1 := blk_frozen hb3 1; simp at hk1; have HO := Aside0.mk ho; have HB3 := Aside0.mk hb3; have HBel2 := Aside0.mk hb2; have HGG2 := Aside0.mk hg2; have HAT := Aside0.mk hat; clear hb3 ho hb2 hg2 hat HR1 HB1))
    go_ret
    refine ⟨rfl, ⟨_, blk_put (cs := #[.int .i64 0, .slice Av l.length cv]) HB3.out 1 _ rfl, Kd.R_grown2 HO.out rfl (setCell_grownBy _ g 1 _) (fun k e => by cases e; exact Kd.R_ne HO.out HB3.out (by decide)), HG.out⟩, HBel2.out.setCell (p := ⟨g, 1, none⟩) HG.out _, ?_⟩
    have hnew := blk_put (cs := #[.int .i64 0, .slice Av l.length cv]) HB3.out 1 (.slice A1 l2.length c1) rfl
    have hs1 := HG1.out.size
    have hs2 := HGG2.out.size
    refine ⟨by simp; omega, fun i hi ha => ⟨?_, ha.1, fun e v hv => ?_⟩⟩
    · exact (Below.heap_setCell w2 ⟨g, 1, none⟩ _ i ha.1).trans ((HGG2.out.block i (by omega) (ha.2 _ _ HBK.out)).trans (HG1.out.block i hi (fun e => ha.1 (Option.some.inj e))))
    · have e9 := hnew.symm.trans hv
      simp only [Option.some.injEq, Obj.cells.injEq] at e9
      have e8 := e9.1
      simp at e8
      rw [← e8.2]
      rcases HAT.out with h | ⟨b, h, hb⟩
      · rw [h]; exact ha.2 _ _ HBK.out
      · rw [h]; intro e; have := Option.some.inj e; omega
  · rw [if_neg h0] at hp
    simp only [Prod.mk.injEq] at hp
    obtain ⟨rfl, rfl⟩ := hp
    have hz : (e3 != 0) = true := bne_iff_ne.mpr h0
    have HZ := Aside0.mk hz
    clear h0 hz
    go_enter Try.func52, Try.ntmps52
    go_wp2_with (go_at_call 45; (with_reducible refine HF.out.mono ?_); rintro en w1 ⟨rfl, hb1, hg1⟩; rw [HZ.out]; have HB1 := Aside0.mk hb1; have HG1 := Aside0.mk hg1; clear hb1 hg1)
    go_ret
    refine ⟨rfl, ⟨_, HB1.out, Kd.R_grown2 HR.out rfl HG1.out (fun k e => by cases e; exact Kd.R_ne HR.out HBK.out (by decide)), HG.out⟩, ?_, ?_⟩
    · exact (Below.refl B W).grown HG1.out (Nat.le_trans HG.out (Nat.le_of_lt HLT.out)) (fun k e => by cases e; exact HG.out)
    · refine ⟨HG1.out.size, fun i hi ha => ⟨HG1.out.block i hi (fun e => ha.1 (Option.some.inj e)), ha.1, fun e v hv => ?_⟩⟩
      have e9 := HB1.out.symm.trans hv
      simp only [Option.some.injEq, Obj.cells.injEq] at e9
      have e8 := e9.1
      simp at e8
      rw [← e8.2]
      exact ha.2 _ _ HBK.out
set_option maxRecDepth 100000 in
set_option maxHeartbeats 1000000 in
theorem woneK_calls (k : Nat) (W : World) (g B : Nat) (e e2 : Int) (l l2 ys : List Int) (A : Option Addr) (c : Nat) (hW : WrAt W g B e l) (hA : Kd.C (Kd.slice 5 (Kd.int .u8)) W A 1 [ys]) (hc : 1 ≤ c) (h : wrOne k e l ys = some (e2, l2)) :
    Calls Try.prog 31 #[.pointer (some ⟨g, 0, none⟩), .slice A 1 c] W fun en W' => en = .returned (.pointer (some ⟨g, 0, none⟩)) ∧ WrAt W' g B e2 l2 ∧ Below B W W' ∧ KeepW W W' g := by
  obtain ⟨p1, hp, h⟩ := Option.bind_eq_some_iff.1 h
  by_cases hl : l.length + p1.length ≤ 140737488355328
  · rw [if_pos hl] at h
    have HP := Aside0.mk hp
    have HS := Aside0.mk (Option.some.inj h)
    have HL := Aside0.mk hl
    obtain ⟨v, hb, _, hg⟩ := id hW
    have HBB := Aside0.mk (Nat.le_trans hg (Nat.le_of_lt (blk_lt hb)))
    have HLTg := Aside0.mk (blk_lt hb)
    have HW := Aside0.mk hW
    have HA := Aside0.mk (show Kd.C (Kd.slice 5 (Kd.int .u8)) W A ([ys] : List (List Int)).length [ys] from hA)
    have HC := Aside0.mk hc
    clear hp h hl hb hg hW hA hc
    have hj := Aside0.mk (octet_Join.calls k A c [ys] p1 W HA.out HC.out HP.out)
    go_enter Try.func31, Try.ntmps31
    go_wp2_with fail
    refine hj.out.mono ?_
    rintro en w1 ⟨vp, rfl, hrp, hbp⟩
    obtain ⟨A1, c1, rfl, _, _⟩ := row_at hrp
    have HW1 := Aside0.mk (HW.out.below hbp)
    have HRP := Aside0.mk hrp
    have HB1 := Aside0.mk hbp
    clear hrp hbp
    go_wp2_with fail
    obtain ⟨v1, hb1, hR1, hg1⟩ := id HW1.out
    refine (putK_calls w1 g B e 0 e2 l p1 l2 A1 c1 HW1.out (fun W2 hg2 => (Kd.R_reads' (Kd.R_grown2 HRP.out rfl hg2 (fun k e => by cases e; exact Kd.R_ne HRP.out hb1 (by decide)))).2.2) HL.out HS.out).mono ?_
    rintro en w2 ⟨rfl, hw2, hb2, hk2⟩
    clear hb1 hR1 hg1
    go_wp2_with fail
    go_ret
    exact ⟨rfl, hw2, (HB1.out.mono HBB.out).trans hb2, (KeepW.below HB1.out HLTg.out).trans hk2⟩
  · rw [if_neg hl] at h
    cases h


set_option maxRecDepth 100000 in
set_option maxHeartbeats 1000000 in
theorem wvariK_calls (k : Nat) (W : World) (g B : Nat) (e e2 n : Int) (l l2 : List Int) (A : Option Addr) (c : Nat) (hW : WrAt W g B e l) (hA : Kd.C (Kd.int .u64) W A 1 [n]) (hc : 1 ≤ c) (h : wrVari k e l n = some (e2, l2)) :
    Calls Try.prog 29 #[.pointer (some ⟨g, 0, none⟩), .slice A 1 c] W fun en W' => en = .returned (.pointer (some ⟨g, 0, none⟩)) ∧ WrAt W' g B e2 l2 ∧ Below B W W' ∧ KeepW W W' g := by
  obtain ⟨⟨p1, ep⟩, hp, h⟩ := Option.bind_eq_some_iff.1 h
  dsimp only at h
  by_cases hl : l.length + p1.length ≤ 140737488355328
  · rw [if_pos hl] at h
    have HP := Aside0.mk hp
    have HS := Aside0.mk (Option.some.inj h)
    have HL := Aside0.mk hl
    obtain ⟨v, hb, _, hg⟩ := id hW
    have HBB := Aside0.mk (Nat.le_trans hg (Nat.le_of_lt (blk_lt hb)))
    have HLTg := Aside0.mk (blk_lt hb)
    have HW := Aside0.mk hW
    have HA := Aside0.mk (show Kd.C (Kd.int .u64) W A ([n] : List Int).length [n] from hA)
    have HC := Aside0.mk hc
    clear hp h hl hb hg hW hA hc
    have hj := Aside0.mk (vari_Row.calls k A c [n] p1 ep W HA.out HC.out HP.out)
    go_enter Try.func29, Try.ntmps29
    go_wp2_with fail
    refine hj.out.mono ?_
    rintro en w1 ⟨vp, rfl, hrp, hbp⟩
    obtain ⟨A1, c1, rfl, _, _⟩ := row_at hrp
    have HW1 := Aside0.mk (HW.out.below hbp)
    have HRP := Aside0.mk hrp
    have HB1 := Aside0.mk hbp
    clear hrp hbp
    go_wp2_with fail
    obtain ⟨v1, hb1, hR1, hg1⟩ := id HW1.out
    refine (putK_calls w1 g B e ep e2 l p1 l2 A1 c1 HW1.out (fun W2 hg2 => (Kd.R_reads' (Kd.R_grown2 HRP.out rfl hg2 (fun k e => by cases e; exact Kd.R_ne HRP.out hb1 (by decide)))).2.2) HL.out HS.out).mono ?_
    rintro en w2 ⟨rfl, hw2, hb2, hk2⟩
    clear hb1 hR1 hg1
    go_wp2_with fail
    go_ret
    exact ⟨rfl, hw2, (HB1.out.mono HBB.out).trans hb2, (KeepW.below HB1.out HLTg.out).trans hk2⟩
  · rw [if_neg hl] at h
    cases h


set_option maxRecDepth 100000 in
set_option maxHeartbeats 1000000 in
theorem wlongK_calls (k : Nat) (W : World) (g B : Nat) (e e2 : Int) (l l2 ys : List Int) (A : Option Addr) (c : Nat) (hW : WrAt W g B e l) (hC : ∀ W2, Below B W W2 → Kd.C (Kd.int .u8) W2 A ys.length ys) (hc : ys.length ≤ c) (h : wrLong k e l ys = some (e2, l2)) :
    Calls Try.prog 30 #[.pointer (some ⟨g, 0, none⟩), .slice A ys.length c] W fun en W' => en = .returned (.pointer (some ⟨g, 0, none⟩)) ∧ WrAt W' g B e2 l2 ∧ Below B W W' ∧ KeepW W W' g := by
  unfold wrLong at h
  obtain ⟨v, hb, _, hg⟩ := id hW
  have HBB := Aside0.mk (Nat.le_trans hg (Nat.le_of_lt (blk_lt hb)))
  have HLTg := Aside0.mk (blk_lt hb)
  have HW := Aside0.mk hW
  have HC := Aside0.mk hC
  have HCC := Aside0.mk hc
  clear hb hg hW hC hc
  by_cases hq : ys.length < 140737488355328
  · rw [if_pos hq] at h
    obtain ⟨⟨e1, l1⟩, hn, ho⟩ := Option.bind_eq_some_iff.1 h
    dsimp only at ho
    obtain ⟨n, hnn⟩ : ∃ n : Nat, n = ys.length := ⟨_, rfl⟩
    have hu : IntKind.u64.wrap (n : Int) = (n : Int) := IntWalk.u64_in _ (by omega)
    have hlt : (n : Int) < 140737488355328 := by omega
    rw [← hnn] at hn ⊢
    have hv := wvariK_calls k (W.alloc (.cells #[.int .u64 (n : Int)] 33)) g B e e1 (n : Int) l l1 (some ⟨W.heap.size, 0, none⟩) 1 (HW.out.below (below_alloc (Below.refl _ W) _)) (one_int W (n : Int)) (Nat.le_refl _) hn
    have HN := Aside0.mk hv
    have HO := Aside0.mk ho
    have HNN := Aside0.mk hnn
    clear hn ho h hq hv hnn
    go_enter Try.func30, Try.ntmps30
    go_wp2_with fail
    refine HN.out.mono ?_
    rintro en w1 ⟨rfl, hw1, hb1, hk1⟩
    have HW1 := Aside0.mk hw1
    have HB1 := Aside0.mk (((below_alloc (Below.refl _ W) (.cells #[.int .u64 (n : Int)] 33)).mono HBB.out).trans hb1)
    have HK1 := Aside0.mk ((KeepW.below (below_alloc (Below.refl _ W) _) HLTg.out).trans hk1)
    have HLT1 := Aside0.mk (show g < w1.heap.size by obtain ⟨v, hb, _⟩ := HW1.out; exact blk_lt hb)
    clear hw1 hb1 hk1
    go_wp2_with fail
    rw [HNN.out]
    have hrow := Aside0.mk (one_row (t := 5) (u := 28) (HC.out w1 HB1.out) HCC.out)
    have hw2 := Aside0.mk (HW1.out.below (below_alloc (Below.refl _ w1) (.cells #[.slice A ys.length c] 28)))
    refine (woneK_calls k _ g B e1 e2 l1 l2 ys _ 1 hw2.out hrow.out (Nat.le_refl _) HO.out).mono ?_
    rintro en w2 ⟨rfl, hw2, hb2, hk2⟩
    go_wp2_with fail
    go_ret
    exact ⟨rfl, hw2, (HB1.out.trans ((below_alloc (Below.refl _ w1) (.cells #[.slice A ys.length c] 28)).mono (Nat.le_trans HBB.out HB1.out.size))).trans hb2, HK1.out.trans ((KeepW.below (below_alloc (Below.refl _ w1) _) HLT1.out).trans hk2)⟩
  · rw [if_neg hq] at h
    cases h






-- NOT PRINTED: function 7 (crosswaylaw09_alive)

/-! ### crosswaylaw09_great: function 8 -/
def crosswaylaw09_great.l0 : Nat → List (S35) → Int → Option (Bool)
  | 0, _, _ => none
  | k + 1, x0, x3 => if x3 < (x0.length : Int) then (if 0 ≤ x3 then (if (((rd_T35 x0 x3).f3).length : Int) > 300 then (some true) else (crosswaylaw09_great.l0 k x0 (wrap64 (x3 + 1)))) else (none)) else (some false)
def crosswaylaw09_great.f (k : Nat) (l0 : List (S35)) : Option (Bool) := if (l0.length : Int) > 60 then (some true) else (crosswaylaw09_great.l0 k l0 0)
theorem crosswaylaw09_great.mono_l : ∀ k, (∀ y0 y1, LeO (crosswaylaw09_great.l0 k y0 y1) (crosswaylaw09_great.l0 (k + 1) y0 y1))
  | 0 => fun _ _ r h => by simp [crosswaylaw09_great.l0] at h
  | k + 1 => by
    have ih0 := crosswaylaw09_great.mono_l k
    · intro y0 y1
      unfold crosswaylaw09_great.l0
      repeat' first
      | (with_reducible exact ih0 _ _)
      | (with_reducible exact LeO.refl _)
      | (with_reducible exact LeO.none _)
      | (with_reducible refine LeO.ite ?_ ?_)
      | (with_reducible refine LeO.bind ?_ (fun _ => ?_))
      | exact ih0 _ _
      | exact LeO.none _
      | refine LeO.ite ?_ ?_
      | refine LeO.bind ?_ (fun _ => ?_)
theorem crosswaylaw09_great.mono : ∀ a0 k, LeO (crosswaylaw09_great.f k a0) (crosswaylaw09_great.f (k + 1) a0) := by
  intro a0 k
  have ih0 := crosswaylaw09_great.mono_l k
  unfold crosswaylaw09_great.f
  repeat' first
      | (with_reducible exact ih0 _ _)
      | (with_reducible exact LeO.refl _)
      | (with_reducible exact LeO.none _)
      | (with_reducible refine LeO.ite ?_ ?_)
      | (with_reducible refine LeO.bind ?_ (fun _ => ?_))
      | exact ih0 _ _
      | exact LeO.none _
      | refine LeO.ite ?_ ?_
      | refine LeO.bind ?_ (fun _ => ?_)
set_option maxHeartbeats 8000000 in
set_option maxRecDepth 100000 in
theorem crosswaylaw09_great.calls (k : Nat) (A0 : Option Addr) (c0 : Nat) (l0 : List (S35)) (r : Bool) (w : World) (hr0 : Kd.C k35 w A0 l0.length l0) (hc0 : l0.length ≤ c0) (h : crosswaylaw09_great.f k l0 = some r) :
    Calls Try.prog 8 #[.slice A0 l0.length c0] w fun e w' => e = .returned (.bool r) ∧ Drawn0 w w' := by
  have HR0 := Aside0.mk hr0
  have HC0 := Aside0.mk hc0
  clear hr0 hc0
  have H : (if (l0.length : Int) > 60 then (some true) else (crosswaylaw09_great.l0 k l0 0)) = some r := h
  clear h
  by_cases c2 : (l0.length : Int) > 60
  · rw [if_pos c2] at H
    have c2b0 : decide (60 < (l0.length : Int)) = true := decide_eq_true c2
    have c2b1 : decide (60 < l0.length) = true := decide_eq_true (by omega)
    clear c2
    obtain rfl := Option.some.inj H
    go_enter Try.func8, Try.ntmps8
    go_wp2
    go_ret
    exact ⟨by first | rfl | (simp; done) | (simp [*]; done), by repeat (first | exact Drawn0.refl _ | apply Drawn0.step)⟩
  · rw [if_neg c2] at H
    have c2b0 : decide (60 < (l0.length : Int)) = false := decide_eq_false c2
    have c2b1 : decide (60 < l0.length) = false := decide_eq_false (by omega)
    clear c2
    have H' := Aside0.mk H
    clear H
    go_enter Try.func8, Try.ntmps8
    go_wp2
    go_loopg [3] k (fun kq v3 w' => ∃ (x3_1 : Int), v3 = .int .i64 x3_1 ∧ Aside0 (crosswaylaw09_great.l0 kq l0 x3_1 = some r) ∧ Aside0 (kq ≤ k) ∧ Drawn0 w w')
    case atStart => exact ⟨(0), (by first | rfl | (simp; done) | (simp [*]; done) | (simp only [i64_w]; done) | (simp [i64_w]; done)), H', ⟨Nat.le_refl _⟩, by repeat (first | exact Drawn0.refl _ | apply Drawn0.step)⟩
    case round =>
      clear H'
      try clear c2
      try clear c2b0
      try clear c2b1
      try clear p2
      obtain ⟨x3_1, rfl, HA, HK1, ⟨m1, rfl⟩⟩ := hrel
      cases gk with
      | zero => exact absurd HA.out (by simp [crosswaylaw09_great.l0])
      | succ k1 =>
        have H := HA.out
        clear HA
        simp only [crosswaylaw09_great.l0] at H
        by_cases c3 : x3_1 < (l0.length : Int)
        · rw [if_pos c3] at H
          have c3b0 : decide (x3_1 < (l0.length : Int)) = true := decide_eq_true c3
          clear c3
          by_cases c4 : 0 ≤ x3_1
          · rw [if_pos c4] at H
            have c4b0 : decide (0 ≤ x3_1) = true := decide_eq_true c4
            clear c4
            by_cases c5 : (((rd_T35 l0 x3_1).f3).length : Int) > 300
            · rw [if_pos c5] at H
              have c5b0 : decide (300 < (((rd_T35 l0 x3_1).f3).length : Int)) = true := decide_eq_true c5
              have c5b1 : decide (300 < ((rd_T35 l0 x3_1).f3).length) = true := decide_eq_true (by omega)
              clear c5
              obtain rfl := Option.some.inj H
              have p151 : 0 ≤ (x3_1 : Int) := of_decide_eq_true (by first | (with_reducible assumption) | assumption)
              have q151 : x3_1 < (l0.length : Int) := of_decide_eq_true (by first | (with_reducible assumption) | assumption)
              obtain ⟨ad151, A151_3, c151_3, e151, hx151_0, hx151_1, hx151_2, hx151_3, hl151_3, hi151_3⟩ := at_T35 HR0.out x3_1 p151 q151
              cases e151
              have HR151_3 := Aside0.mk hi151_3
              have HC151_3 := Aside0.mk hl151_3
              clear hi151_3 hl151_3
              replace p151 := eq_true p151
              replace q151 := eq_true q151
              go_wp2
              go_ret
              exact ⟨by first | rfl | (simp; done) | (simp [*]; done), by repeat (first | exact Drawn0.refl _ | apply Drawn0.step)⟩
            · rw [if_neg c5] at H
              have c5b0 : decide (300 < (((rd_T35 l0 x3_1).f3).length : Int)) = false := decide_eq_false c5
              have c5b1 : decide (300 < ((rd_T35 l0 x3_1).f3).length) = false := decide_eq_false (by omega)
              clear c5
              have H' := Aside0.mk H
              clear H
              have p151 : 0 ≤ (x3_1 : Int) := of_decide_eq_true (by first | (with_reducible assumption) | assumption)
              have q151 : x3_1 < (l0.length : Int) := of_decide_eq_true (by first | (with_reducible assumption) | assumption)
              obtain ⟨ad151, A151_3, c151_3, e151, hx151_0, hx151_1, hx151_2, hx151_3, hl151_3, hi151_3⟩ := at_T35 HR0.out x3_1 p151 q151
              cases e151
              have HR151_3 := Aside0.mk hi151_3
              have HC151_3 := Aside0.mk hl151_3
              clear hi151_3 hl151_3
              replace p151 := eq_true p151
              replace q151 := eq_true q151
              go_wp2
              go_roundg k1
              case measure => have := HK1.out; omega
              case rel => exact ⟨(wrap64 (x3_1 + 1)), (by first | rfl | (simp; done) | (simp [*]; done) | (simp only [i64_w]; done) | (simp [i64_w]; done)), H', ⟨by have := HK1.out; omega⟩, by repeat (first | exact Drawn0.refl _ | apply Drawn0.step)⟩
          · rw [if_neg c4] at H
            exact absurd H (by simp)
        · rw [if_neg c3] at H
          have c3b0 : decide (x3_1 < (l0.length : Int)) = false := decide_eq_false c3
          clear c3
          obtain rfl := Option.some.inj H
          go_wp2
          go_ret
          exact ⟨by first | rfl | (simp; done) | (simp [*]; done), by repeat (first | exact Drawn0.refl _ | apply Drawn0.step)⟩

/-! ### crosswayref00_CopyBytes: function 14 -/
def crosswayref00_CopyBytes.f (l0 : List Int) : Option (List Int) := (some (([] : List Int) : List Int)).bind fun y152 => (if y152.length + l0.length < 140737488355328 then (some (y152 ++ l0)) else (none))
set_option maxHeartbeats 8000000 in
set_option maxRecDepth 100000 in
theorem crosswayref00_CopyBytes.calls (A0 : Option Addr) (c0 : Nat) (l0 : List Int) (r : List Int) (w : World) (hr0 : Kd.C (Kd.int .u8) w A0 l0.length l0) (hc0 : l0.length ≤ c0) (h : crosswayref00_CopyBytes.f l0 = some r) :
    Calls Try.prog 14 #[.slice A0 l0.length c0] w fun e w' => ∃ v0_ : Value, e = .returned (v0_) ∧ Kd.R (Kd.int .u8) 5 w' w.heap.size (fun _ => True) v0_ r ∧ Below w.heap.size w w' := by
  have HR0 := Aside0.mk hr0
  have HC0 := Aside0.mk hc0
  clear hr0 hc0
  have HB := Aside0.mk (Below.refl w.heap.size w)
  have H : ((some (([] : List Int) : List Int)).bind fun y152 => (if y152.length + l0.length < 140737488355328 then (some (y152 ++ l0)) else (none))) = some r := h
  clear h
  obtain ⟨y152, hy152⟩ : ∃ y_ : List Int, y_ = (([] : List Int)) := ⟨_, rfl⟩
  replace H : (if y152.length + l0.length < 140737488355328 then (some (y152 ++ l0)) else (none)) = some r := by first | (rw [hy152]; with_reducible exact H) | (have H2_ := (Option.bind_some _ _).symm.trans H; rw [hy152]; with_reducible exact H2_) | (have H2_ := (Option.bind_some _ _).symm.trans H; with_reducible exact H2_) | with_reducible exact H | (rw [hy152]; exact H) | exact H
  have Ny152 := Aside0.mk hy152
  clear hy152
  by_cases c2 : y152.length + l0.length < 140737488355328
  · rw [if_pos c2] at H
    have LMc2 := Aside0.mk c2
    clear c2
    obtain ⟨y155, hy155⟩ : ∃ y_ : List Int, y_ = (y152 ++ l0) := ⟨_, rfl⟩
    replace H : (some y155) = some r := by first | (rw [hy155]; with_reducible exact H) | (have H2_ := (Option.bind_some _ _).symm.trans H; rw [hy155]; with_reducible exact H2_) | (have H2_ := (Option.bind_some _ _).symm.trans H; with_reducible exact H2_) | with_reducible exact H | (rw [hy155]; exact H) | exact H
    have Ny155 := Aside0.mk hy155
    clear hy155
    obtain rfl := Option.some.inj H
    go_enter Try.func14, Try.ntmps14
    go_wp2_with (first | ((with_reducible refine gate_dst (N := 3) rfl ?_); refine Kd.R_lit (Kd.int .u8) _ 5 ?hg (N := 3) ?hd (xs := ([] : List Int)) (inner := []) (ok := fun _ => True) (okp := fun _ => True) ?hr ?hp (fun _ hk => hk) trivial (Below.refl _ _) (Nat.le_refl _) (by simp) ?_; (case hd => rfl); (case hg => rfl); (case hr => first | (go_simp; done) | (go_simp; rfl)); (case hp => exact (Reps.none _ _)); intro v153 w3 ho4 hb hg_ hnew_; clear hg_ hnew_; (first | rw [← Ny152.out] at ho4 | (simp only [Int.reduceToNat] at ho4; rw [← Ny152.out] at ho4)); have n0_ := Aside0.mk (Kd.R_lower ho4 (below_size (by repeat (first | (with_reducible first | exact HB.out | apply below_alloc | apply pw_below_drewN | apply below_drew1) | exact HB.out)))); have n1_ := Aside0.mk (below_step (by repeat (first | (with_reducible first | exact HB.out | apply below_alloc | apply pw_below_drewN | apply below_drew1) | exact HB.out)) hb); clear HB; have HO154 := n0_; have HB := n1_; clear n0_ n1_; clear hb ho4) | ((with_reducible refine gate_builtin (b := .append) (xs := #[.tmp 3, .tmp 4]) rfl ?_); at_builtin; refine Kd.R_append_rows (Kd.int .u8) (w0 := w) w.heap.size rfl (.tmp 3) (.tmp 4) 28 5 (.int .u8 0) 1 rfl Try.underlying28 info5 rfl (by decide) (by omega) v153 y152 l0 _ _ _ (fun _ => True) (fun _ => False) rfl rfl ?aO ?aR (fun _ _ h => h) (fun _ h => h.elim) ?aF ?aB ?aS ?aL ?_; (case aR => repeat (first | exact (Kd.C_below HR0.out HB.out) | (with_reducible refine Kd.C_alloc ?_ _) | (with_reducible refine Kd.C_drewN ?_ _) | (with_reducible refine Kd.C_drew ?_))); (case aB => exact (by repeat (first | (with_reducible first | exact HB.out | apply below_alloc | apply pw_below_drewN | apply below_drew1) | exact HB.out))); (case aF => exact (fun _ _ => trivial)); (case aO => exact (by (with_reducible repeat (first | apply Kd.R_alloc | apply Kd.R_drewN | apply Kd.R_drew)); exact HO154.out)); (case aS => exact (below_size (by repeat (first | (with_reducible first | exact HB.out | apply below_alloc | apply pw_below_drewN | apply below_drew1) | exact HB.out)))); (case aL => have := LMc2.out; omega); intro v156 w5 ho hb hg hat; rw [← Ny155.out] at ho; have n0_ := Aside0.mk (hb); have n1_ := Aside0.mk (ho); clear HB; clear HO154; have HB := n0_; have HO157 := n1_; clear n0_ n1_; clear ho hb hg hat))
    go_ret
    exact ⟨_, by first | rfl | (simp [errW_none, errW_some] <;> rfl) | (simp [*, errW_none, errW_some] <;> rfl), by (with_reducible repeat (first | apply Kd.R_alloc | apply Kd.R_drewN | apply Kd.R_drew)); exact HO157.out, by repeat (first | (with_reducible first | exact HB.out | apply below_alloc | apply pw_below_drewN | apply below_drew1) | exact HB.out)⟩
  · rw [if_neg c2] at H
    exact absurd H (by simp)

-- NOT PRINTED: function 33 (crosswayref09_Writer_Put)

end Go.Proofs.Ytmhmmmkpijbbiaa.M
