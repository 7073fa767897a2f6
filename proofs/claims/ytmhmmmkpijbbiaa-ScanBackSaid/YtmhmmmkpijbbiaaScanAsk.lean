/- ask of the law: one question to the program's reader and to the document's. Written by wip/gen/scanask.py. -/
import Derived.Test.YtmhmmmkpijbbiaaScanRf
import Derived.Test.YtmhmmmkpijbbiaaHeld
namespace Go.Proofs.Ytmhmmmkpijbbiaa.M
open Go.RowKit Go.Proofs.YtmhmmmkpijbbiaaW.PrintWords Go.Proofs.YtmhmmmkpijbbiaaW.PrintLast Go.Proofs.YtmhmmmkpijbbiaaW.PrintMore Go.Proofs.Ytmhmmmkpijbbiaa.X
attribute [local go_sem] max2_int min2_int max_two min_two max_three min_three max_four min_four
set_option linter.unusedVariables false
set_option linter.unusedSimpArgs false
set_option maxRecDepth 100000 in
set_option maxHeartbeats 4000000 in
theorem end_calls (W : World) (g : Nat) (P : Nat → Prop) (e : Int) (l : List Int) (hR : RdAt W g P e l) :
    Calls Try.prog 20 #[.pointer (some ⟨g, 0, none⟩)] W fun en W' => en = .returned (.int .i64 (rdEnd e l)) ∧ RdAt W' g P (rdEnd e l) l ∧ W.grownBy W' (some g) := by
  obtain ⟨A, c, hb, hc, hF, hg⟩ := hR.opens
  have hc0 := blk_cell hb 0
  have hc1 := blk_cell hb 1
  simp at hc0 hc1
  have HB := Aside0.mk hb
  have HC := Aside0.mk hc
  have HF := Aside0.mk hF
  have HG := Aside0.mk hg
  have HR := Aside0.mk hR
  clear hb hc hF hg hR
  by_cases hl : l = []
  · have hs : rdEnd e l = e := if_neg (fun x => x.2 hl)
    rw [hs]
    have hd : decide (0 < l.length) = false := by rw [hl]; rfl
    clear hs hl
    go_enter Try.func20, Try.ntmps20
    go_wp2_with fail
    go_ret
    exact ⟨rfl, HR.out, World.grownBy.refl _ _⟩
  · obtain ⟨e3, he3⟩ : ∃ e3, e3 = (if e = 0 then 10 else e) := ⟨_, rfl⟩
    have hs : rdEnd e l = e3 := by
      rw [rdEnd, he3]
      by_cases h0 : e = 0
      · rw [if_pos ⟨h0, hl⟩, if_pos h0]
      · rw [if_neg (fun x => h0 x.1), if_neg h0]
    rw [hs]
    have hd : decide (0 < l.length) = true := decide_eq_true (List.length_pos_iff.2 hl)
    have HE := Aside0.mk he3
    clear hs hl he3
    go_enter Try.func20, Try.ntmps20
    go_wp2_with (go_at_call 45; (with_reducible refine (fail_calls _ g e 10 e3 _ HB.out HE.out).mono ?_); rintro en w1 ⟨rfl, hb1, hg1⟩; have hk0 := blk_cell hb1 0; simp at hk0; have HB1 := Aside0.mk hb1; have HG1 := Aside0.mk hg1; clear hb1 hg1)
    go_ret
    exact ⟨rfl, ⟨A, c, HB1.out, HC.out, Kd.F_grown HF.out HG1.out (fun k hk e => HG.out (by cases e; exact hk)), HG.out⟩, HG1.out⟩
theorem RdAt.grown {W W' : World} {g : Nat} {P : Nat → Prop} {e : Int} {l : List Int} {row : Option Nat} (h : RdAt W g P e l) (hg : W.grownBy W' row) (h1 : row ≠ some g) (h2 : ∀ k, P k → row ≠ some k) : RdAt W' g P e l := by
  obtain ⟨A, c, hb, hc, hF, hn⟩ := h.opens
  exact ⟨A, c, blk_grown hb hg (fun e => h1 e.symm), hc, Kd.F_grown hF hg (fun k hk e => h2 k hk e.symm), hn⟩
/-- What a question to both readers tells, and the states that it leaves. -/
def askf (k : Nat) (e : Int) (l : List Int) (e' : Int) (l' : List Int) (w n : Int) : Option (Bool × (Int × List Int) × (Int × List Int)) :=
  if w = 0 then (rdNum k e l n).bind fun p => (rfNum k e' l' n).bind fun q => some (p.1 == q.1, p.2, q.2)
  else if w = 1 then (crosswayref00_SameBytes.f k (rdBytes e l n).1 (rdBytes e' l' n).1).bind fun b => some (b, (rdBytes e l n).2, (rdBytes e' l' n).2)
  else if w = 2 then (rdVari k e l).bind fun p => (rfVari k e' l').bind fun q => some (p.1 == q.1, p.2, q.2)
  else if w = 3 then (rdShort k e l).bind fun p => (rfShort k e' l').bind fun q => (crosswayref00_SameBytes.f k p.1 q.1).bind fun b => some (b, p.2, q.2)
  else if w = 4 then (rdLong k e l).bind fun p => (rfLong k e' l').bind fun q => (crosswayref00_SameBytes.f k p.1 q.1).bind fun b => some (b, p.2, q.2)
  else if w = 5 then (crosswayref00_SameBytes.f k (rdBytes e l (l.length : Int)).1 (rdBytes e' l' (l'.length : Int)).1).bind fun b => some (b, (rdBytes e l (l.length : Int)).2, (rdBytes e' l' (l'.length : Int)).2)
  else if w = 6 then some (rdEnd e l == rdEnd e' l', (rdEnd e l, l), (rdEnd e' l', l'))
  else some (true, (e, l), (e', l'))
set_option maxRecDepth 100000 in
set_option maxHeartbeats 4000000 in
theorem ask_calls (k : Nat) (W : World) (g s : Nat) (P P' : Nat → Prop) (e e' w n e2 f2 : Int) (l l' m m' : List Int) (b : Bool) (hR : RdAt W g P e l) (hS : RfAt W s P' e' l') (hgs : g ≠ s) (hPs : ¬ P s) (hPg : ¬ P' g) (hl : l.length < 140737488355328) (hl' : l'.length < 140737488355328) (h : askf k e l e' l' w n = some (b, (e2, m), (f2, m'))) :
    Calls Try.prog 16 #[.pointer (some ⟨g, 0, none⟩), .pointer (some ⟨s, 0, none⟩), .agg #[.int .i64 w, .int .i64 n]] W fun en W' => en = .returned (.bool b) ∧ RdAt W' g P e2 m ∧ RfAt W' s P' f2 m' ∧ ∃ W1, W.grownBy W1 (some g) ∧ W1.grownBy W' (some s) := by
  obtain ⟨cs, hcs⟩ : ∃ cs : Obj, cs = .cells #[.int .i64 w, .int .i64 n] 47 := ⟨_, rfl⟩
  have hbl := below_alloc (Below.refl W.heap.size W) cs
  have hnew : (W.alloc cs).heap[W.heap.size]? = some (.cells #[.int .i64 w, .int .i64 n] 47 (0, 0)) := by rw [hcs]; exact blk_new W _
  have hlt : g < W.heap.size := by obtain ⟨A, c, hb, _⟩ := hR.opens; exact blk_lt hb
  have HR := Aside0.mk (hR.below hbl)
  have HS := Aside0.mk (hS.below hbl)
  have HGA := Aside0.mk (below_grownBy hbl (some g))
  have HNEW := Aside0.mk hnew
  have HLT := Aside0.mk hlt
  have HGS := Aside0.mk hgs
  have HPS := Aside0.mk hPs
  have HPG := Aside0.mk hPg
  have HL := Aside0.mk hl
  have HL' := Aside0.mk hl'
  have HKS := Aside0.mk (show ∀ (W1 W2 : World) (e' : Int) (l' : List Int), RfAt W1 s P' e' l' → W1.grownBy W2 (some g) → RfAt W2 s P' e' l' from fun W1 W2 e' l' h1 h2 => h1.grown h2 (fun x => hgs (by cases x; rfl)) (fun k hk x => hPg (by cases x; exact hk)))
  have HKR := Aside0.mk (show ∀ (W1 W2 : World) (e : Int) (l : List Int), RdAt W1 g P e l → W1.grownBy W2 (some s) → RdAt W2 g P e l from fun W1 W2 e l h1 h2 => h1.grown h2 (fun x => hgs (by cases x; rfl)) (fun k hk x => hPs (by cases x; exact hk)))
  have hlts : s < W.heap.size := by obtain ⟨A, c, hb, _⟩ := hS.opens; exact blk_lt hb
  have HLTS := Aside0.mk hlts
  clear hR hS hgs hPs hPg hl hl' hnew hbl hlt hlts
  subst hcs
  unfold askf at h
  by_cases hw0 : w = 0
  · subst hw0
    rw [if_pos rfl] at h
    obtain ⟨⟨v, pe, pl⟩, hp, h2⟩ := Option.bind_eq_some_iff.1 h
    clear h
    obtain ⟨⟨u, qe, ql⟩, hq, h3⟩ := Option.bind_eq_some_iff.1 h2
    clear h2
    dsimp only at h3
    simp only [Option.some.injEq, Prod.mk.injEq] at h3
    obtain ⟨rfl, ⟨rfl, rfl⟩, ⟨rfl, rfl⟩⟩ := h3
    have HP := Aside0.mk hp
    have HQ := Aside0.mk hq
    clear hp hq
    go_enter Try.func16, Try.ntmps16
    go_upto_region 3 with (fail)
    have HR0 := Aside0.mk (HR.out.below (below_drew (Below.refl _ _)))
    have HS0 := Aside0.mk (HS.out.below (below_drew (Below.refl _ _)))
    have HGA0 := Aside0.mk (HGA.out.trans (drew_grownBy _ (some g)))
    clear HR HS HGA
    have HR := HR0
    have HS := HS0
    have HGA := HGA0
    clear HR0 HS0 HGA0
    have HSS := Aside0.mk (show (fun W1 => W1.heap[W.heap.size]? = some (.cells #[.int .i64 0, .int .i64 n] 47 (0, 0))) (W.alloc _).drew from blk_drew HNEW.out)
    refine Held.wp_region_G (S := (fun W1 => W1.heap[W.heap.size]? = some (.cells #[.int .i64 0, .int .i64 n] 47 (0, 0)))) (by kernel_rfl) ?_
    change Held.wpAnyG _ _ _ _ _ 10 _ _ _
    refine Held.wpAnyG_take (i := 0) (v := (.pointer (some ⟨g, 0, none⟩))) rfl (by kernel_rfl) (by kernel_rfl) (by kernel_rfl) (fun _ _ _ h => h) HSS.out (by first | (with_reducible rfl) | (simp [Region.wanted, yielded, Act.put]; done) | rfl) (fun W h => by go_simp) (some 11) rfl #[true, false, false, false, false, false, false, false, false, false] (by kernel_rfl) ?_
    simp only [Act.put, List.setIfInBounds_toArray, List.set_cons_zero, List.set_cons_succ]
    refine Held.wpAnyG_take (i := 1) (v := (.pointer (some ⟨W.heap.size, 1, none⟩))) rfl (by kernel_rfl) (by kernel_rfl) (by kernel_rfl) (fun _ _ _ h => h) HSS.out (by first | (with_reducible rfl) | (simp [Region.wanted, yielded, Act.put]; done) | rfl) (fun W h => by go_simp) (some 12) rfl #[true, true, false, false, false, false, false, false, false, false] (by kernel_rfl) ?_
    simp only [Act.put, List.setIfInBounds_toArray, List.set_cons_zero, List.set_cons_succ]
    refine Held.wpAnyG_take (i := 2) (v := (.int .i64 n)) rfl (by kernel_rfl) (by kernel_rfl) (by kernel_rfl) (fun _ _ _ h => h) HSS.out (by first | (with_reducible rfl) | (simp [Region.wanted, yielded, Act.put]; done) | rfl) (fun W h => by have hh_ := blk_cell h 1; simp at hh_; go_simp) (some 13) rfl #[true, true, true, false, false, false, false, false, false, false] (by kernel_rfl) ?_
    simp only [Act.put, List.setIfInBounds_toArray, List.set_cons_zero, List.set_cons_succ]
    refine Held.wpAnyG_take (i := 4) (v := (.pointer (some ⟨s, 0, none⟩))) rfl (by kernel_rfl) (by kernel_rfl) (by kernel_rfl) (fun _ _ _ h => h) HSS.out (by first | (with_reducible rfl) | (simp [Region.wanted, yielded, Act.put]; done) | rfl) (fun W h => by go_simp) (some 15) rfl #[true, true, true, false, true, false, false, false, false, false] (by kernel_rfl) ?_
    simp only [Act.put, List.setIfInBounds_toArray, List.set_cons_zero, List.set_cons_succ]
    refine Held.wpAnyG_take (i := 5) (v := (.pointer (some ⟨W.heap.size, 1, none⟩))) rfl (by kernel_rfl) (by kernel_rfl) (by kernel_rfl) (fun _ _ _ h => h) HSS.out (by first | (with_reducible rfl) | (simp [Region.wanted, yielded, Act.put]; done) | rfl) (fun W h => by go_simp) (some 16) rfl #[true, true, true, false, true, true, false, false, false, false] (by kernel_rfl) ?_
    simp only [Act.put, List.setIfInBounds_toArray, List.set_cons_zero, List.set_cons_succ]
    refine Held.wpAnyG_take (i := 6) (v := (.int .i64 n)) rfl (by kernel_rfl) (by kernel_rfl) (by kernel_rfl) (fun _ _ _ h => h) HSS.out (by first | (with_reducible rfl) | (simp [Region.wanted, yielded, Act.put]; done) | rfl) (fun W h => by have hh_ := blk_cell h 1; simp at hh_; go_simp) (some 17) rfl #[true, true, true, false, true, true, true, false, false, false] (by kernel_rfl) ?_
    simp only [Act.put, List.setIfInBounds_toArray, List.set_cons_zero, List.set_cons_succ]
    refine Held.wpAnyG_one 3 (by kernel_rfl) rfl #[true, true, true, true, true, true, true, false, false, false] (by kernel_rfl) (fun K hK => ?_)
    go_wp2_with fail
    (with_reducible refine (num_calls k _ g P e n v _ l _ HR.out HL.out HP.out).mono ?_)
    rintro en w2 ⟨rfl, hr2, hg2⟩
    skip
    have HS2 := Aside0.mk (HKS.out _ _ _ _ HS.out hg2)
    have HR2 := Aside0.mk hr2
    have HG2 := Aside0.mk (HGA.out.trans hg2)
    have n1_ := Aside0.mk (blk_grown HSS.out hg2 (fun x => by cases x; exact absurd HLT.out (Nat.lt_irrefl _)))
    clear HSS
    have HSS := n1_
    clear n1_
    go_wp2_with fail
    refine hK _ _ HSS.out ?_
    clear hK K
    clear hr2 hg2
    refine Held.wpAnyG_one 7 (by kernel_rfl) rfl #[true, true, true, true, true, true, true, true, false, false] (by kernel_rfl) (fun K hK => ?_)
    go_wp2_with fail
    (with_reducible refine (rfNum_calls k _ s P' e' n u _ l' _ HS2.out HL'.out HQ.out).mono ?_)
    rintro en w3 ⟨rfl, hr3, hg3⟩
    skip
    have HR3 := Aside0.mk (HKR.out _ _ _ _ HR2.out hg3)
    have HS3 := Aside0.mk hr3
    have HG3 := Aside0.mk hg3
    have n1_ := Aside0.mk (blk_grown HSS.out hg3 (fun x => by cases x; exact absurd HLTS.out (Nat.lt_irrefl _)))
    clear HSS
    have HSS := n1_
    clear n1_
    go_wp2_with fail
    refine hK _ _ HSS.out ?_
    clear hK K
    clear hr3 hg3
    refine Held.wpAnyG_take (i := 8) (v := (.bool (v == u))) rfl (by kernel_rfl) (by kernel_rfl) (by kernel_rfl) (fun _ _ _ h => h) HSS.out (by first | (with_reducible rfl) | (simp [Region.wanted, yielded, Act.put]; done) | rfl) (fun W h => by go_simp) (some 19) rfl #[true, true, true, true, true, true, true, true, true, false] (by kernel_rfl) ?_
    simp only [Act.put, List.setIfInBounds_toArray, List.set_cons_zero, List.set_cons_succ]
    refine Held.wpAnyG_last 9 (by kernel_rfl) rfl (by kernel_rfl) (by kernel_rfl) ?_
    go_wp2_with fail
    go_ret
    exact ⟨rfl, HR3.out, HS3.out, _, HG2.out, HG3.out⟩
  by_cases hw1 : w = 1
  · subst hw1
    rw [if_neg (show ¬ ((1 : Int) = 0) by decide)] at h
    rw [if_pos rfl] at h
    obtain ⟨⟨v, pe, pl⟩, hp⟩ : ∃ x, rdBytes e l n = x := ⟨_, rfl⟩
    obtain ⟨⟨u, qe, ql⟩, hq⟩ : ∃ x, rdBytes e' l' n = x := ⟨_, rfl⟩
    rw [hp, hq] at h
    dsimp only at h
    obtain ⟨b1, hsm, h4⟩ := Option.bind_eq_some_iff.1 h
    clear h
    simp only [Option.some.injEq, Prod.mk.injEq] at h4
    obtain ⟨rfl, ⟨rfl, rfl⟩, ⟨rfl, rfl⟩⟩ := h4
    have HP := Aside0.mk hp
    have HQ := Aside0.mk hq
    have HSM := Aside0.mk hsm
    clear hp hq hsm
    go_enter Try.func16, Try.ntmps16
    go_upto_region 5 with (fail)
    have HR0 := Aside0.mk (HR.out.below (below_drew (Below.refl _ _)))
    have HS0 := Aside0.mk (HS.out.below (below_drew (Below.refl _ _)))
    have HGA0 := Aside0.mk (HGA.out.trans (drew_grownBy _ (some g)))
    clear HR HS HGA
    have HR := HR0
    have HS := HS0
    have HGA := HGA0
    clear HR0 HS0 HGA0
    have HSS := Aside0.mk (show (fun W1 => W1.heap[W.heap.size]? = some (.cells #[.int .i64 1, .int .i64 n] 47 (0, 0))) (W.alloc _).drew from blk_drew HNEW.out)
    refine Held.wp_region_G (S := (fun W1 => W1.heap[W.heap.size]? = some (.cells #[.int .i64 1, .int .i64 n] 47 (0, 0)))) (by kernel_rfl) ?_
    change Held.wpAnyG _ _ _ _ _ 10 _ _ _
    refine Held.wpAnyG_take (i := 0) (v := (.pointer (some ⟨g, 0, none⟩))) rfl (by kernel_rfl) (by kernel_rfl) (by kernel_rfl) (fun _ _ _ h => h) HSS.out (by first | (with_reducible rfl) | (simp [Region.wanted, yielded, Act.put]; done) | rfl) (fun W h => by go_simp) (some 22) rfl #[true, false, false, false, false, false, false, false, false, false] (by kernel_rfl) ?_
    simp only [Act.put, List.setIfInBounds_toArray, List.set_cons_zero, List.set_cons_succ]
    refine Held.wpAnyG_take (i := 1) (v := (.pointer (some ⟨W.heap.size, 1, none⟩))) rfl (by kernel_rfl) (by kernel_rfl) (by kernel_rfl) (fun _ _ _ h => h) HSS.out (by first | (with_reducible rfl) | (simp [Region.wanted, yielded, Act.put]; done) | rfl) (fun W h => by go_simp) (some 23) rfl #[true, true, false, false, false, false, false, false, false, false] (by kernel_rfl) ?_
    simp only [Act.put, List.setIfInBounds_toArray, List.set_cons_zero, List.set_cons_succ]
    refine Held.wpAnyG_take (i := 2) (v := (.int .i64 n)) rfl (by kernel_rfl) (by kernel_rfl) (by kernel_rfl) (fun _ _ _ h => h) HSS.out (by first | (with_reducible rfl) | (simp [Region.wanted, yielded, Act.put]; done) | rfl) (fun W h => by have hh_ := blk_cell h 1; simp at hh_; go_simp) (some 24) rfl #[true, true, true, false, false, false, false, false, false, false] (by kernel_rfl) ?_
    simp only [Act.put, List.setIfInBounds_toArray, List.set_cons_zero, List.set_cons_succ]
    refine Held.wpAnyG_take (i := 4) (v := (.pointer (some ⟨s, 0, none⟩))) rfl (by kernel_rfl) (by kernel_rfl) (by kernel_rfl) (fun _ _ _ h => h) HSS.out (by first | (with_reducible rfl) | (simp [Region.wanted, yielded, Act.put]; done) | rfl) (fun W h => by go_simp) (some 26) rfl #[true, true, true, false, true, false, false, false, false, false] (by kernel_rfl) ?_
    simp only [Act.put, List.setIfInBounds_toArray, List.set_cons_zero, List.set_cons_succ]
    refine Held.wpAnyG_take (i := 5) (v := (.pointer (some ⟨W.heap.size, 1, none⟩))) rfl (by kernel_rfl) (by kernel_rfl) (by kernel_rfl) (fun _ _ _ h => h) HSS.out (by first | (with_reducible rfl) | (simp [Region.wanted, yielded, Act.put]; done) | rfl) (fun W h => by go_simp) (some 27) rfl #[true, true, true, false, true, true, false, false, false, false] (by kernel_rfl) ?_
    simp only [Act.put, List.setIfInBounds_toArray, List.set_cons_zero, List.set_cons_succ]
    refine Held.wpAnyG_take (i := 6) (v := (.int .i64 n)) rfl (by kernel_rfl) (by kernel_rfl) (by kernel_rfl) (fun _ _ _ h => h) HSS.out (by first | (with_reducible rfl) | (simp [Region.wanted, yielded, Act.put]; done) | rfl) (fun W h => by have hh_ := blk_cell h 1; simp at hh_; go_simp) (some 28) rfl #[true, true, true, false, true, true, true, false, false, false] (by kernel_rfl) ?_
    simp only [Act.put, List.setIfInBounds_toArray, List.set_cons_zero, List.set_cons_succ]
    refine Held.wpAnyG_one 3 (by kernel_rfl) rfl #[true, true, true, true, true, true, true, false, false, false] (by kernel_rfl) (fun K hK => ?_)
    go_wp2_with fail
    (with_reducible refine (bytes_calls _ g P e n _ l v _ HR.out HL.out HP.out).mono ?_)
    rintro en w2 ⟨v1, rfl, hv, hr2, hg2⟩
    have HV := Aside0.mk hv
    have HS2 := Aside0.mk (HKS.out _ _ _ _ HS.out hg2)
    have HR2 := Aside0.mk hr2
    have HG2 := Aside0.mk (HGA.out.trans hg2)
    have n1_ := Aside0.mk (blk_grown HSS.out hg2 (fun x => by cases x; exact absurd HLT.out (Nat.lt_irrefl _)))
    clear HSS
    have HSS := n1_
    clear n1_
    go_wp2_with fail
    refine hK _ _ HSS.out ?_
    clear hK K
    clear hr2 hg2 hv
    refine Held.wpAnyG_one 7 (by kernel_rfl) rfl #[true, true, true, true, true, true, true, true, false, false] (by kernel_rfl) (fun K hK => ?_)
    go_wp2_with fail
    (with_reducible refine (rfBytes_calls _ s P' e' n _ l' u _ HS2.out HL'.out HQ.out).mono ?_)
    rintro en w3 ⟨v2, rfl, hu, hr3, hg3⟩
    have HU := Aside0.mk hu
    have HR3 := Aside0.mk (HKR.out _ _ _ _ HR2.out hg3)
    have HS3 := Aside0.mk hr3
    have HG3 := Aside0.mk hg3
    obtain ⟨X2, x2, rfl, hxc, hxC⟩ := row_at HU.out
    obtain ⟨As_, cs_, hbs_, hbt_⟩ := HS2.out.opens
    obtain ⟨X1, x1, rfl, hyc, hyC⟩ := row_at (Kd.R_grown2 HV.out rfl hg3 (fun k x => by cases x; exact Kd.R_ne HV.out hbs_ (by decide)))
    have HX := Aside0.mk hxC
    have HXC := Aside0.mk hxc
    have HY := Aside0.mk hyC
    have HYC := Aside0.mk hyc
    clear hxc hxC hyc hyC hbs_ hbt_ As_ cs_
    have n1_ := Aside0.mk (blk_grown HSS.out hg3 (fun x => by cases x; exact absurd HLTS.out (Nat.lt_irrefl _)))
    clear HSS
    have HSS := n1_
    clear n1_
    go_wp2_with fail
    refine hK _ _ HSS.out ?_
    clear hK K
    clear hr3 hg3 hu
    refine Held.wpAnyG_one 8 (by kernel_rfl) rfl #[true, true, true, true, true, true, true, true, true, false] (by kernel_rfl) (fun K hK => ?_)
    go_wp2_with fail
    (with_reducible refine (crosswayref00_SameBytes.calls k _ _ _ _ _ _ _ _ HY.out HYC.out HX.out HXC.out HSM.out).mono ?_)
    rintro en w4 ⟨rfl, hd4⟩
    have HD := Aside0.mk hd4.below
    clear hd4
    have n1_ := Aside0.mk (blk_below HSS.out HD.out)
    clear HSS
    have HSS := n1_
    clear n1_
    go_wp2_with fail
    refine hK _ _ HSS.out ?_
    clear hK K
    refine Held.wpAnyG_last 9 (by kernel_rfl) rfl (by kernel_rfl) (by kernel_rfl) ?_
    go_wp2_with fail
    go_ret
    exact ⟨rfl, (HR3.out.below HD.out), (HS3.out.below HD.out), _, HG2.out, HG3.out.trans (below_grownBy HD.out _)⟩
  by_cases hw2 : w = 2
  · subst hw2
    rw [if_neg (show ¬ ((2 : Int) = 0) by decide)] at h
    rw [if_neg (show ¬ ((2 : Int) = 1) by decide)] at h
    rw [if_pos rfl] at h
    obtain ⟨⟨v, pe, pl⟩, hp, h2⟩ := Option.bind_eq_some_iff.1 h
    clear h
    obtain ⟨⟨u, qe, ql⟩, hq, h3⟩ := Option.bind_eq_some_iff.1 h2
    clear h2
    dsimp only at h3
    simp only [Option.some.injEq, Prod.mk.injEq] at h3
    obtain ⟨rfl, ⟨rfl, rfl⟩, ⟨rfl, rfl⟩⟩ := h3
    have HP := Aside0.mk hp
    have HQ := Aside0.mk hq
    clear hp hq
    go_enter Try.func16, Try.ntmps16
    skip
    go_wp2_with (first | (go_at_call 23; (with_reducible refine (vari_calls k _ g P e v _ l _ HR.out HL.out HP.out).mono ?_); rintro en w2 ⟨rfl, hr2, hg2⟩; skip; have HS2 := Aside0.mk (HKS.out _ _ _ _ HS.out hg2); have HR2 := Aside0.mk hr2; have HG2 := Aside0.mk (HGA.out.trans hg2); clear hr2 hg2) | (go_at_call 40; (with_reducible refine (rfVari_calls k _ s P' e' u _ l' _ HS2.out HL'.out HQ.out).mono ?_); rintro en w3 ⟨rfl, hr3, hg3⟩; skip; have HR3 := Aside0.mk (HKR.out _ _ _ _ HR2.out hg3); have HS3 := Aside0.mk hr3; have HG3 := Aside0.mk hg3; clear hr3 hg3))
    go_ret
    exact ⟨rfl, HR3.out, HS3.out, _, HG2.out, HG3.out⟩
  by_cases hw3 : w = 3
  · subst hw3
    rw [if_neg (show ¬ ((3 : Int) = 0) by decide)] at h
    rw [if_neg (show ¬ ((3 : Int) = 1) by decide)] at h
    rw [if_neg (show ¬ ((3 : Int) = 2) by decide)] at h
    rw [if_pos rfl] at h
    obtain ⟨⟨v, pe, pl⟩, hp, h2⟩ := Option.bind_eq_some_iff.1 h
    clear h
    obtain ⟨⟨u, qe, ql⟩, hq, h3⟩ := Option.bind_eq_some_iff.1 h2
    clear h2
    dsimp only at h3
    obtain ⟨b1, hsm, h4⟩ := Option.bind_eq_some_iff.1 h3
    clear h3
    simp only [Option.some.injEq, Prod.mk.injEq] at h4
    obtain ⟨rfl, ⟨rfl, rfl⟩, ⟨rfl, rfl⟩⟩ := h4
    have HP := Aside0.mk hp
    have HQ := Aside0.mk hq
    have HSM := Aside0.mk hsm
    clear hp hq hsm
    go_enter Try.func16, Try.ntmps16
    skip
    go_wp2_with (first | (go_at_call 24; (with_reducible refine (short_calls k _ g P e _ l v _ HR.out HL.out HP.out).mono ?_); rintro en w2 ⟨v1, rfl, hv, hr2, hg2⟩; have HV := Aside0.mk hv; have HS2 := Aside0.mk (HKS.out _ _ _ _ HS.out hg2); have HR2 := Aside0.mk hr2; have HG2 := Aside0.mk (HGA.out.trans hg2); clear hv; clear hr2 hg2) | (go_at_call 41; (with_reducible refine (rfShort_calls k _ s P' e' _ l' u _ HS2.out HL'.out HQ.out).mono ?_); rintro en w3 ⟨v2, rfl, hu, hr3, hg3⟩; have HU := Aside0.mk hu; have HR3 := Aside0.mk (HKR.out _ _ _ _ HR2.out hg3); have HS3 := Aside0.mk hr3; have HG3 := Aside0.mk hg3; obtain ⟨X2, x2, rfl, hxc, hxC⟩ := row_at HU.out; obtain ⟨As_, cs_, hbs_, hbt_⟩ := HS2.out.opens; obtain ⟨X1, x1, rfl, hyc, hyC⟩ := row_at (Kd.R_grown2 HV.out rfl hg3 (fun k x => by cases x; exact Kd.R_ne HV.out hbs_ (by decide))); have HX := Aside0.mk hxC; have HXC := Aside0.mk hxc; have HY := Aside0.mk hyC; have HYC := Aside0.mk hyc; clear hxc hxC hyc hyC hbs_ hbt_ As_ cs_; clear hu; clear hr3 hg3) | (go_at_call 13; (with_reducible refine (crosswayref00_SameBytes.calls k _ _ _ _ _ _ _ _ HY.out HYC.out HX.out HXC.out HSM.out).mono ?_); rintro en w4 ⟨rfl, hd4⟩; have HD := Aside0.mk hd4.below; clear hd4))
    go_ret
    exact ⟨rfl, (HR3.out.below HD.out), (HS3.out.below HD.out), _, HG2.out, HG3.out.trans (below_grownBy HD.out _)⟩
  by_cases hw4 : w = 4
  · subst hw4
    rw [if_neg (show ¬ ((4 : Int) = 0) by decide)] at h
    rw [if_neg (show ¬ ((4 : Int) = 1) by decide)] at h
    rw [if_neg (show ¬ ((4 : Int) = 2) by decide)] at h
    rw [if_neg (show ¬ ((4 : Int) = 3) by decide)] at h
    rw [if_pos rfl] at h
    obtain ⟨⟨v, pe, pl⟩, hp, h2⟩ := Option.bind_eq_some_iff.1 h
    clear h
    obtain ⟨⟨u, qe, ql⟩, hq, h3⟩ := Option.bind_eq_some_iff.1 h2
    clear h2
    dsimp only at h3
    obtain ⟨b1, hsm, h4⟩ := Option.bind_eq_some_iff.1 h3
    clear h3
    simp only [Option.some.injEq, Prod.mk.injEq] at h4
    obtain ⟨rfl, ⟨rfl, rfl⟩, ⟨rfl, rfl⟩⟩ := h4
    have HP := Aside0.mk hp
    have HQ := Aside0.mk hq
    have HSM := Aside0.mk hsm
    clear hp hq hsm
    go_enter Try.func16, Try.ntmps16
    skip
    go_wp2_with (first | (go_at_call 25; (with_reducible refine (long_calls k _ g P e _ l v _ HR.out HL.out HP.out).mono ?_); rintro en w2 ⟨v1, rfl, hv, hr2, hg2⟩; have HV := Aside0.mk hv; have HS2 := Aside0.mk (HKS.out _ _ _ _ HS.out hg2); have HR2 := Aside0.mk hr2; have HG2 := Aside0.mk (HGA.out.trans hg2); clear hv; clear hr2 hg2) | (go_at_call 42; (with_reducible refine (rfLong_calls k _ s P' e' _ l' u _ HS2.out HL'.out HQ.out).mono ?_); rintro en w3 ⟨v2, rfl, hu, hr3, hg3⟩; have HU := Aside0.mk hu; have HR3 := Aside0.mk (HKR.out _ _ _ _ HR2.out hg3); have HS3 := Aside0.mk hr3; have HG3 := Aside0.mk hg3; obtain ⟨X2, x2, rfl, hxc, hxC⟩ := row_at HU.out; obtain ⟨As_, cs_, hbs_, hbt_⟩ := HS2.out.opens; obtain ⟨X1, x1, rfl, hyc, hyC⟩ := row_at (Kd.R_grown2 HV.out rfl hg3 (fun k x => by cases x; exact Kd.R_ne HV.out hbs_ (by decide))); have HX := Aside0.mk hxC; have HXC := Aside0.mk hxc; have HY := Aside0.mk hyC; have HYC := Aside0.mk hyc; clear hxc hxC hyc hyC hbs_ hbt_ As_ cs_; clear hu; clear hr3 hg3) | (go_at_call 13; (with_reducible refine (crosswayref00_SameBytes.calls k _ _ _ _ _ _ _ _ HY.out HYC.out HX.out HXC.out HSM.out).mono ?_); rintro en w4 ⟨rfl, hd4⟩; have HD := Aside0.mk hd4.below; clear hd4))
    go_ret
    exact ⟨rfl, (HR3.out.below HD.out), (HS3.out.below HD.out), _, HG2.out, HG3.out.trans (below_grownBy HD.out _)⟩
  by_cases hw5 : w = 5
  · subst hw5
    rw [if_neg (show ¬ ((5 : Int) = 0) by decide)] at h
    rw [if_neg (show ¬ ((5 : Int) = 1) by decide)] at h
    rw [if_neg (show ¬ ((5 : Int) = 2) by decide)] at h
    rw [if_neg (show ¬ ((5 : Int) = 3) by decide)] at h
    rw [if_neg (show ¬ ((5 : Int) = 4) by decide)] at h
    rw [if_pos rfl] at h
    obtain ⟨⟨v, pe, pl⟩, hp⟩ : ∃ x, rdBytes e l (l.length : Int) = x := ⟨_, rfl⟩
    obtain ⟨⟨u, qe, ql⟩, hq⟩ : ∃ x, rdBytes e' l' (l'.length : Int) = x := ⟨_, rfl⟩
    rw [hp, hq] at h
    dsimp only at h
    obtain ⟨b1, hsm, h4⟩ := Option.bind_eq_some_iff.1 h
    clear h
    simp only [Option.some.injEq, Prod.mk.injEq] at h4
    obtain ⟨rfl, ⟨rfl, rfl⟩, ⟨rfl, rfl⟩⟩ := h4
    have HP := Aside0.mk hp
    have HQ := Aside0.mk hq
    have HSM := Aside0.mk hsm
    clear hp hq hsm
    go_enter Try.func16, Try.ntmps16
    skip
    go_wp2_with (first | (go_at_call 26; (with_reducible refine (rest_calls _ g P e _ l v _ HR.out HL.out HP.out).mono ?_); rintro en w2 ⟨v1, rfl, hv, hr2, hg2⟩; have HV := Aside0.mk hv; have HS2 := Aside0.mk (HKS.out _ _ _ _ HS.out hg2); have HR2 := Aside0.mk hr2; have HG2 := Aside0.mk (HGA.out.trans hg2); clear hv; clear hr2 hg2) | (go_at_call 43; (with_reducible refine (rfRest_calls _ s P' e' _ l' u _ HS2.out HL'.out HQ.out).mono ?_); rintro en w3 ⟨v2, rfl, hu, hr3, hg3⟩; have HU := Aside0.mk hu; have HR3 := Aside0.mk (HKR.out _ _ _ _ HR2.out hg3); have HS3 := Aside0.mk hr3; have HG3 := Aside0.mk hg3; obtain ⟨X2, x2, rfl, hxc, hxC⟩ := row_at HU.out; obtain ⟨As_, cs_, hbs_, hbt_⟩ := HS2.out.opens; obtain ⟨X1, x1, rfl, hyc, hyC⟩ := row_at (Kd.R_grown2 HV.out rfl hg3 (fun k x => by cases x; exact Kd.R_ne HV.out hbs_ (by decide))); have HX := Aside0.mk hxC; have HXC := Aside0.mk hxc; have HY := Aside0.mk hyC; have HYC := Aside0.mk hyc; clear hxc hxC hyc hyC hbs_ hbt_ As_ cs_; clear hu; clear hr3 hg3) | (go_at_call 13; (with_reducible refine (crosswayref00_SameBytes.calls k _ _ _ _ _ _ _ _ HY.out HYC.out HX.out HXC.out HSM.out).mono ?_); rintro en w4 ⟨rfl, hd4⟩; have HD := Aside0.mk hd4.below; clear hd4))
    go_ret
    exact ⟨rfl, (HR3.out.below HD.out), (HS3.out.below HD.out), _, HG2.out, HG3.out.trans (below_grownBy HD.out _)⟩
  by_cases hw6 : w = 6
  · subst hw6
    rw [if_neg (show ¬ ((6 : Int) = 0) by decide)] at h
    rw [if_neg (show ¬ ((6 : Int) = 1) by decide)] at h
    rw [if_neg (show ¬ ((6 : Int) = 2) by decide)] at h
    rw [if_neg (show ¬ ((6 : Int) = 3) by decide)] at h
    rw [if_neg (show ¬ ((6 : Int) = 4) by decide)] at h
    rw [if_neg (show ¬ ((6 : Int) = 5) by decide)] at h
    rw [if_pos rfl] at h
    simp only [Option.some.injEq, Prod.mk.injEq] at h
    obtain ⟨rfl, ⟨rfl, rfl⟩, ⟨rfl, rfl⟩⟩ := h
    go_enter Try.func16, Try.ntmps16
    skip
    go_wp2_with (first | (go_at_call 20; (with_reducible refine (end_calls _ g P e l HR.out).mono ?_); rintro en w2 ⟨rfl, hr2, hg2⟩; skip; have HS2 := Aside0.mk (HKS.out _ _ _ _ HS.out hg2); have HR2 := Aside0.mk hr2; have HG2 := Aside0.mk (HGA.out.trans hg2); clear hr2 hg2) | (go_at_call 44; (with_reducible refine (rfEnd_calls _ s P' e' l' HS2.out).mono ?_); rintro en w3 ⟨rfl, hr3, hg3⟩; skip; have HR3 := Aside0.mk (HKR.out _ _ _ _ HR2.out hg3); have HS3 := Aside0.mk hr3; have HG3 := Aside0.mk hg3; clear hr3 hg3))
    go_ret
    exact ⟨rfl, HR3.out, HS3.out, _, HG2.out, HG3.out⟩
  rw [if_neg hw0, if_neg hw1, if_neg hw2, if_neg hw3, if_neg hw4, if_neg hw5, if_neg hw6] at h
  simp only [Option.some.injEq, Prod.mk.injEq] at h
  obtain ⟨rfl, ⟨rfl, rfl⟩, ⟨rfl, rfl⟩⟩ := h
  have hb0 : (w == 0) = false := beq_eq_false_iff_ne.mpr hw0
  have hb1 : (w == 1) = false := beq_eq_false_iff_ne.mpr hw1
  have hb2 : (w == 2) = false := beq_eq_false_iff_ne.mpr hw2
  have hb3 : (w == 3) = false := beq_eq_false_iff_ne.mpr hw3
  have hb4 : (w == 4) = false := beq_eq_false_iff_ne.mpr hw4
  have hb5 : (w == 5) = false := beq_eq_false_iff_ne.mpr hw5
  have hb6 : (w == 6) = false := beq_eq_false_iff_ne.mpr hw6
  clear hw0 hw1 hw2 hw3 hw4 hw5 hw6
  go_enter Try.func16, Try.ntmps16
  go_wp2_with fail
  go_ret
  exact ⟨rfl, HR.out, HS.out, _, HGA.out, World.grownBy.refl _ _⟩
end Go.Proofs.Ytmhmmmkpijbbiaa.M
