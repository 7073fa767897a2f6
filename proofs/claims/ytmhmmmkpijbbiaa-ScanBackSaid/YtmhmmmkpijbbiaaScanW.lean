/- The program's writer: each method with what it leaves apart. Written by wip/gen/scanw.py. -/
import Derived.Test.YtmhmmmkpijbbiaaMB
namespace Go.Proofs.Ytmhmmmkpijbbiaa.M
open Go.RowKit Go.Proofs.YtmhmmmkpijbbiaaW.PrintWords Go.Proofs.YtmhmmmkpijbbiaaW.PrintLast Go.Proofs.YtmhmmmkpijbbiaaW.PrintMore Go.Proofs.Ytmhmmmkpijbbiaa.X
attribute [local go_sem] max2_int min2_int max_two min_two max_three min_three max_four min_four
set_option linter.unusedVariables false
set_option linter.unusedSimpArgs false
/-- What Bytes of several parts leaves. -/
def wrParts (k : Nat) (e : Int) (l : List Int) (yss : List (List Int)) : Option (Int × List Int) := (octet_Join.f k yss).bind fun p => if l.length + p.length ≤ 140737488355328 then some (putS2 e 0 l p) else none
/-- What Vari of several numbers leaves. -/
def wrVars (k : Nat) (e : Int) (l ns : List Int) : Option (Int × List Int) := (vari_Row.f k ns).bind fun p => if l.length + p.1.length ≤ 140737488355328 then some (putS2 e p.2 l p.1) else none
set_option maxRecDepth 100000 in
set_option maxHeartbeats 2000000 in
theorem wnumG (k : Nat) (W : World) (g B : Nat) (e e2 : Int) (l l2 : List Int) (n size : Int) (hW : WrAt W g B e l) (h : wrNum k e l n size = some (e2, l2)) :
    Calls Try.prog 27 #[.pointer (some ⟨g, 0, none⟩), .int .u64 n, .int .i64 size] W fun en W' => en = .returned (.pointer (some ⟨g, 0, none⟩)) ∧ WrAt W' g B e2 l2 ∧ Below B W W' ∧ KeepW W W' g := by
  obtain ⟨⟨p1, ep⟩, hp, h⟩ := Option.bind_eq_some_iff.1 h
  (try dsimp only at h)
  by_cases hl : l.length + p1.length ≤ 140737488355328
  rotate_left
  · rw [if_neg hl] at h; cases h
  rw [if_pos hl] at h
  have HP := Aside0.mk hp
  have HS := Aside0.mk (Option.some.inj h)
  have HL := Aside0.mk hl
  obtain ⟨v, hb, _, hg⟩ := id hW
  have HBB := Aside0.mk (Nat.le_trans hg (Nat.le_of_lt (blk_lt hb)))
  have HLTg := Aside0.mk (blk_lt hb)
  have HW := Aside0.mk hW
  have hj := Aside0.mk (octet_Put.calls k n size p1 ep W hp)
  clear hp h hl hb hg hW
  go_enter Try.func27, Try.ntmps27
  go_wp2_with fail
  (with_reducible refine hj.out.mono ?_)
  rintro en w1 ⟨vp, rfl, hrp, hbp⟩
  obtain ⟨A1, c1, rfl, _, _⟩ := row_at hrp
  have HW1 := Aside0.mk (HW.out.below hbp)
  have HRP := Aside0.mk hrp
  have HB1 := Aside0.mk hbp
  clear hrp hbp
  go_wp2_with fail
  obtain ⟨v1, hb1, hR1, hg1⟩ := id HW1.out
  refine (putK_calls w1 g B e ep e2 l p1 l2 A1 c1 HW1.out (fun W2 hg2 => (Kd.R_reads' (Kd.R_grown2 HRP.out rfl hg2 (fun k e => by cases e; exact Kd.R_ne HRP.out hb1 (by decide)))).2.2) HL.out HS.out).mono ?_
  rintro en w2 ⟨rfl, hw2, hb2, hk2⟩
  clear hb1 hR1 hg1
  go_wp2_with fail
  go_ret
  exact ⟨rfl, hw2, (HB1.out.mono HBB.out).trans hb2, (KeepW.below HB1.out HLTg.out).trans hk2⟩
set_option maxRecDepth 100000 in
set_option maxHeartbeats 2000000 in
theorem wpartsG (k : Nat) (W : World) (g B : Nat) (e e2 : Int) (l l2 : List Int) (A : Option Addr) (c : Nat) (yss : List (List Int)) (hW : WrAt W g B e l) (hA : Kd.C (Kd.slice 5 (Kd.int .u8)) W A yss.length yss) (hc : yss.length ≤ c) (h : wrParts k e l yss = some (e2, l2)) :
    Calls Try.prog 31 #[.pointer (some ⟨g, 0, none⟩), .slice A yss.length c] W fun en W' => en = .returned (.pointer (some ⟨g, 0, none⟩)) ∧ WrAt W' g B e2 l2 ∧ Below B W W' ∧ KeepW W W' g := by
  obtain ⟨p1, hp, h⟩ := Option.bind_eq_some_iff.1 h
  (try dsimp only at h)
  by_cases hl : l.length + p1.length ≤ 140737488355328
  rotate_left
  · rw [if_neg hl] at h; cases h
  rw [if_pos hl] at h
  have HP := Aside0.mk hp
  have HS := Aside0.mk (Option.some.inj h)
  have HL := Aside0.mk hl
  obtain ⟨v, hb, _, hg⟩ := id hW
  have HBB := Aside0.mk (Nat.le_trans hg (Nat.le_of_lt (blk_lt hb)))
  have HLTg := Aside0.mk (blk_lt hb)
  have HW := Aside0.mk hW
  have hj := Aside0.mk (octet_Join.calls k A c yss p1 W hA hc hp)
  clear hp h hl hb hg hW
  go_enter Try.func31, Try.ntmps31
  go_wp2_with fail
  (with_reducible refine hj.out.mono ?_)
  rintro en w1 ⟨vp, rfl, hrp, hbp⟩
  obtain ⟨A1, c1, rfl, _, _⟩ := row_at hrp
  have HW1 := Aside0.mk (HW.out.below hbp)
  have HRP := Aside0.mk hrp
  have HB1 := Aside0.mk hbp
  clear hrp hbp
  go_wp2_with fail
  obtain ⟨v1, hb1, hR1, hg1⟩ := id HW1.out
  refine (putK_calls w1 g B e 0 e2 l p1 l2 A1 c1 HW1.out (fun W2 hg2 => (Kd.R_reads' (Kd.R_grown2 HRP.out rfl hg2 (fun k e => by cases e; exact Kd.R_ne HRP.out hb1 (by decide)))).2.2) HL.out HS.out).mono ?_
  rintro en w2 ⟨rfl, hw2, hb2, hk2⟩
  clear hb1 hR1 hg1
  go_wp2_with fail
  go_ret
  exact ⟨rfl, hw2, (HB1.out.mono HBB.out).trans hb2, (KeepW.below HB1.out HLTg.out).trans hk2⟩
set_option maxRecDepth 100000 in
set_option maxHeartbeats 2000000 in
theorem wvarsG (k : Nat) (W : World) (g B : Nat) (e e2 : Int) (l l2 : List Int) (A : Option Addr) (c : Nat) (ns : List Int) (hW : WrAt W g B e l) (hA : Kd.C (Kd.int .u64) W A ns.length ns) (hc : ns.length ≤ c) (h : wrVars k e l ns = some (e2, l2)) :
    Calls Try.prog 29 #[.pointer (some ⟨g, 0, none⟩), .slice A ns.length c] W fun en W' => en = .returned (.pointer (some ⟨g, 0, none⟩)) ∧ WrAt W' g B e2 l2 ∧ Below B W W' ∧ KeepW W W' g := by
  obtain ⟨⟨p1, ep⟩, hp, h⟩ := Option.bind_eq_some_iff.1 h
  (try dsimp only at h)
  by_cases hl : l.length + p1.length ≤ 140737488355328
  rotate_left
  · rw [if_neg hl] at h; cases h
  rw [if_pos hl] at h
  have HP := Aside0.mk hp
  have HS := Aside0.mk (Option.some.inj h)
  have HL := Aside0.mk hl
  obtain ⟨v, hb, _, hg⟩ := id hW
  have HBB := Aside0.mk (Nat.le_trans hg (Nat.le_of_lt (blk_lt hb)))
  have HLTg := Aside0.mk (blk_lt hb)
  have HW := Aside0.mk hW
  have hj := Aside0.mk (vari_Row.calls k A c ns p1 ep W hA hc hp)
  clear hp h hl hb hg hW
  go_enter Try.func29, Try.ntmps29
  go_wp2_with fail
  (with_reducible refine hj.out.mono ?_)
  rintro en w1 ⟨vp, rfl, hrp, hbp⟩
  obtain ⟨A1, c1, rfl, _, _⟩ := row_at hrp
  have HW1 := Aside0.mk (HW.out.below hbp)
  have HRP := Aside0.mk hrp
  have HB1 := Aside0.mk hbp
  clear hrp hbp
  go_wp2_with fail
  obtain ⟨v1, hb1, hR1, hg1⟩ := id HW1.out
  refine (putK_calls w1 g B e ep e2 l p1 l2 A1 c1 HW1.out (fun W2 hg2 => (Kd.R_reads' (Kd.R_grown2 HRP.out rfl hg2 (fun k e => by cases e; exact Kd.R_ne HRP.out hb1 (by decide)))).2.2) HL.out HS.out).mono ?_
  rintro en w2 ⟨rfl, hw2, hb2, hk2⟩
  clear hb1 hR1 hg1
  go_wp2_with fail
  go_ret
  exact ⟨rfl, hw2, (HB1.out.mono HBB.out).trans hb2, (KeepW.below HB1.out HLTg.out).trans hk2⟩
/-- What Short leaves. -/
def wrShortG (k : Nat) (e : Int) (l ys : List Int) : Option (Int × List Int) := if (ys.length : Int) > 255 then (if l.length ≤ 140737488355328 then some (putS2 e 15 l []) else none) else (wrNum k e l (ys.length : Int) 1).bind fun q => wrParts k q.1 q.2 [ys]
set_option maxRecDepth 100000 in
set_option maxHeartbeats 2000000 in
theorem wshortG (k : Nat) (W : World) (g B : Nat) (e e2 : Int) (l l2 ys : List Int) (A : Option Addr) (c : Nat) (hW : WrAt W g B e l) (hC : ∀ W2, KeepW W W2 g → Kd.C (Kd.int .u8) W2 A ys.length ys) (hc : ys.length ≤ c) (h : wrShortG k e l ys = some (e2, l2)) :
    Calls Try.prog 28 #[.pointer (some ⟨g, 0, none⟩), .slice A ys.length c] W fun en W' => en = .returned (.pointer (some ⟨g, 0, none⟩)) ∧ WrAt W' g B e2 l2 ∧ Below B W W' ∧ KeepW W W' g := by
  unfold wrShortG at h
  obtain ⟨v, hb, _, hg⟩ := id hW
  have HBB := Aside0.mk (Nat.le_trans hg (Nat.le_of_lt (blk_lt hb)))
  have HLTg := Aside0.mk (blk_lt hb)
  have HW := Aside0.mk hW
  have HC := Aside0.mk hC
  have HCC := Aside0.mk hc
  clear hb hg hW hC hc
  by_cases hq : (ys.length : Int) > 255
  · rw [if_pos hq] at h
    by_cases hl : l.length ≤ 140737488355328
    · rw [if_pos hl] at h
      have HP := Aside0.mk (putK_calls W g B e 15 e2 l [] l2 none 0 HW.out (fun W2 _ => Kd.C_nil _ _) (by simpa using hl) (Option.some.inj h))
      clear h hl
      go_enter Try.func28, Try.ntmps28
      go_wp2_with fail
      refine HP.out.mono ?_
      rintro en w2 ⟨rfl, hw2, hb2, hk2⟩
      go_wp2_with fail
      go_ret
      exact ⟨rfl, hw2, hb2, hk2⟩
    · rw [if_neg hl] at h
      cases h
  rw [if_neg hq] at h
  obtain ⟨⟨e1, l1⟩, hn, ho⟩ := Option.bind_eq_some_iff.1 h
  dsimp only at ho
  have HN := Aside0.mk (wnumG k W g B e e1 l l1 (ys.length : Int) 1 HW.out hn)
  have HO := Aside0.mk ho
  clear hn ho h
  go_enter Try.func28, Try.ntmps28
  go_wp2_with fail
  (with_reducible refine HN.out.mono ?_)
  rintro en w1 ⟨rfl, hw1, hb1, hk1⟩
  have HW1 := Aside0.mk hw1
  have HB1 := Aside0.mk hb1
  have HK1 := Aside0.mk hk1
  clear hw1 hb1 hk1
  go_wp2_with fail
  have hrow := Aside0.mk (one_row (t := 5) (u := 28) (HC.out w1 HK1.out) HCC.out)
  have hbel := Aside0.mk (below_alloc (Below.refl _ w1) (.cells #[.slice A ys.length c] 28))
  have hltw := Aside0.mk (Nat.lt_of_lt_of_le HLTg.out HK1.out.1)
  have hw2 := Aside0.mk (HW1.out.below hbel.out)
  refine (wpartsG k _ g B e1 e2 l1 l2 _ 1 [ys] hw2.out hrow.out (Nat.le_refl _) HO.out).mono ?_
  rintro en w2 ⟨rfl, hw2, hb2, hk2⟩
  go_wp2_with fail
  go_ret
  exact ⟨rfl, hw2, (HB1.out.trans (hbel.out.mono (Nat.le_trans HBB.out HB1.out.size))).trans hb2, (HK1.out.trans (KeepW.below hbel.out hltw.out)).trans hk2⟩
/-- What Long leaves. -/
def wrLongG (k : Nat) (e : Int) (l ys : List Int) : Option (Int × List Int) := if ys.length < 140737488355328 then (wrVars k e l [(ys.length : Int)]).bind fun q => wrParts k q.1 q.2 [ys] else none
set_option maxRecDepth 100000 in
set_option maxHeartbeats 2000000 in
theorem wlongG (k : Nat) (W : World) (g B : Nat) (e e2 : Int) (l l2 ys : List Int) (A : Option Addr) (c : Nat) (hW : WrAt W g B e l) (hC : ∀ W2, KeepW W W2 g → Kd.C (Kd.int .u8) W2 A ys.length ys) (hc : ys.length ≤ c) (h : wrLongG k e l ys = some (e2, l2)) :
    Calls Try.prog 30 #[.pointer (some ⟨g, 0, none⟩), .slice A ys.length c] W fun en W' => en = .returned (.pointer (some ⟨g, 0, none⟩)) ∧ WrAt W' g B e2 l2 ∧ Below B W W' ∧ KeepW W W' g := by
  unfold wrLongG at h
  obtain ⟨v, hb, _, hg⟩ := id hW
  have HBB := Aside0.mk (Nat.le_trans hg (Nat.le_of_lt (blk_lt hb)))
  have HLTg := Aside0.mk (blk_lt hb)
  have HW := Aside0.mk hW
  have HC := Aside0.mk hC
  have HCC := Aside0.mk hc
  clear hb hg hW hC hc
  by_cases hq : ys.length < 140737488355328
  rotate_left
  · rw [if_neg hq] at h; cases h
  rw [if_pos hq] at h
  obtain ⟨⟨e1, l1⟩, hn, ho⟩ := Option.bind_eq_some_iff.1 h
  dsimp only at ho
  obtain ⟨n, hnn⟩ : ∃ n : Nat, n = ys.length := ⟨_, rfl⟩
  have hu : IntKind.u64.wrap (n : Int) = (n : Int) := IntWalk.u64_in _ (by omega)
  have hlt : (n : Int) < 140737488355328 := by omega
  rw [← hnn] at hn ⊢
  have hbel0 := Aside0.mk (below_alloc (Below.refl _ W) (.cells #[.int .u64 (n : Int)] 33))
  have HN := Aside0.mk (wvarsG k (W.alloc (.cells #[.int .u64 (n : Int)] 33)) g B e e1 l l1 (some ⟨W.heap.size, 0, none⟩) 1 [(n : Int)] (HW.out.below hbel0.out) (one_int W (n : Int)) (Nat.le_refl _) hn)
  have HO := Aside0.mk ho
  have HNN := Aside0.mk hnn
  clear hn ho h hq hnn
  go_enter Try.func30, Try.ntmps30
  go_wp2_with fail
  refine HN.out.mono ?_
  rintro en w1 ⟨rfl, hw1, hb1, hk1⟩
  have HW1 := Aside0.mk hw1
  have HB1 := Aside0.mk ((hbel0.out.mono HBB.out).trans hb1)
  have HK1 := Aside0.mk ((KeepW.below hbel0.out HLTg.out).trans hk1)
  clear hw1 hb1 hk1
  go_wp2_with fail
  rw [HNN.out]
  have hrow := Aside0.mk (one_row (t := 5) (u := 28) (HC.out w1 HK1.out) HCC.out)
  have hbel := Aside0.mk (below_alloc (Below.refl _ w1) (.cells #[.slice A ys.length c] 28))
  have hltw := Aside0.mk (Nat.lt_of_lt_of_le HLTg.out HK1.out.1)
  have hw2 := Aside0.mk (HW1.out.below hbel.out)
  refine (wpartsG k _ g B e1 e2 l1 l2 _ 1 [ys] hw2.out hrow.out (Nat.le_refl _) HO.out).mono ?_
  rintro en w2 ⟨rfl, hw2, hb2, hk2⟩
  go_wp2_with fail
  go_ret
  exact ⟨rfl, hw2, (HB1.out.trans (hbel.out.mono (Nat.le_trans HBB.out HB1.out.size))).trans hb2, (HK1.out.trans (KeepW.below hbel.out hltw.out)).trans hk2⟩
end Go.Proofs.Ytmhmmmkpijbbiaa.M
