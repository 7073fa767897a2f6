/- tells of the law: does a reader tell just these parts? Written by wip/gen/scantells.py. -/
import Derived.Test.YtmhmmmkpijbbiaaScanAlive
import Derived.WalkSpells
namespace Go.Proofs.Ytmhmmmkpijbbiaa.M
open Go.RowKit Go.Proofs.YtmhmmmkpijbbiaaW.PrintWords Go.Proofs.YtmhmmmkpijbbiaaW.PrintLast Go.Proofs.YtmhmmmkpijbbiaaW.PrintMore Go.Proofs.Ytmhmmmkpijbbiaa.X
attribute [local go_sem] max2_int min2_int max_two min_two max_three min_three max_four min_four
set_option linter.unusedVariables false
set_option linter.unusedSimpArgs false
/-- A part as it lies in memory: its cells alone. -/
abbrev Raw : Type := Int × Int × Int × (Option Addr × Nat × Nat)
def kRaw : Kd Raw := Kd.pair (Kd.int .i64) (Kd.pair (Kd.int .i64) (Kd.pair (Kd.int .u64) (Kd.scalar (fun x : Option Addr × Nat × Nat => Value.slice x.1 x.2.1 x.2.2) (fun _ => rfl))))
theorem kRaw_open {w : World} {x : Raw} {cs : List Value} (h : kRaw.K w x cs) : cs = [.int .i64 x.1, .int .i64 x.2.1, .int .u64 x.2.2.1, .slice x.2.2.2.1 x.2.2.2.2.1 x.2.2.2.2.2] := by
  obtain ⟨c1, r1, h1, k1, c2, r2, h2, k2, c3, r3, h3, k3, k4⟩ := h
  have e1 : c1 = [.int .i64 x.1] := k1
  have e2 : c2 = [.int .i64 x.2.1] := k2
  have e3 : c3 = [.int .u64 x.2.2.1] := k3
  have e4 : r3 = [.slice x.2.2.2.1 x.2.2.2.2.1 x.2.2.2.2.2] := k4
  rw [h1, h2, h3, e1, e2, e3, e4]
  rfl
theorem kRaw_mk (w : World) (x : Raw) : kRaw.K w x [.int .i64 x.1, .int .i64 x.2.1, .int .u64 x.2.2.1, .slice x.2.2.2.1 x.2.2.2.2.1 x.2.2.2.2.2] :=
  ⟨[.int .i64 x.1], [.int .i64 x.2.1, .int .u64 x.2.2.1, .slice x.2.2.2.1 x.2.2.2.2.1 x.2.2.2.2.2], rfl, rfl, [.int .i64 x.2.1], [.int .u64 x.2.2.1, .slice x.2.2.2.1 x.2.2.2.2.1 x.2.2.2.2.2], rfl, rfl, [.int .u64 x.2.2.1], [.slice x.2.2.2.1 x.2.2.2.2.1 x.2.2.2.2.2], rfl, rfl, rfl⟩
def zRaw : Raw := (0, 0, 0, (none, 0, 0))
theorem at_raw {w : World} {A : Option Addr} {n : Nat} {xs : List Raw} (h : Kd.C kRaw w A n xs) (i : Nat) (h1 : i < n) : ∃ ad : Addr, A = some ad ∧ w.cell? (ad.add (i * 4)) = some (.int .i64 (xs.getD i zRaw).1) ∧ w.cell? ⟨(ad.add (i * 4)).block, (ad.add (i * 4)).off + 1, none⟩ = some (.int .i64 (xs.getD i zRaw).2.1) ∧ w.cell? ⟨(ad.add (i * 4)).block, (ad.add (i * 4)).off + 2, none⟩ = some (.int .u64 (xs.getD i zRaw).2.2.1) ∧ w.cell? ⟨(ad.add (i * 4)).block, (ad.add (i * 4)).off + 3, none⟩ = some (.slice (xs.getD i zRaw).2.2.2.1 (xs.getD i zRaw).2.2.2.2.1 (xs.getD i zRaw).2.2.2.2.2) := by
  obtain ⟨ad, c, e, _, hK, hc0⟩ := Kd.C_get h zRaw (i : Int) (by omega) (by omega)
  rw [Int.toNat_natCast] at hK hc0
  have hc : ∀ j u, c[j]? = some u → w.cell? (ad.add (i * 4 + j)) = some u := hc0
  obtain rfl := kRaw_open hK
  exact ⟨ad, e, hc 0 _ rfl, by rw [← add_field _ _ 1 (by omega)]; exact hc 1 _ rfl, by rw [← add_field _ _ 2 (by omega)]; exact hc 2 _ rfl, by rw [← add_field _ _ 3 (by omega)]; exact hc 3 _ rfl⟩
/-- What a reader tells of one part. -/
def tell1 (k : Nat) (e : Int) (l : List Int) (p : S35) : Option (Bool × Int × List Int) :=
  if p.f0 = 0 then (rdNum k e l p.f1).bind fun t => some (t.1 == p.f2, t.2)
  else if p.f0 = 1 then (crosswayref00_SameBytes.f k (rdBytes e l (p.f3.length : Int)).1 p.f3).bind fun b => some (b, (rdBytes e l (p.f3.length : Int)).2)
  else if p.f0 = 2 then (rdVari k e l).bind fun t => if t.2.2.length ≤ l.length then (rdVari k t.2.1 t.2.2).bind fun u => some ((u.1 == 7) && (t.1 == p.f2), u.2) else none
  else if p.f0 = 3 then (rdShort k e l).bind fun t => (crosswayref00_SameBytes.f k t.1 p.f3).bind fun b => some (b, t.2)
  else if p.f0 = 4 then (rdLong k e l).bind fun t => (crosswayref00_SameBytes.f k t.1 p.f3).bind fun b => some (b, t.2)
  else some (true, e, l)
def tellf (k : Nat) : List S35 → Bool → Int → List Int → Option (Bool × Int × List Int)
  | [], ok, e, l => some (ok && (e == 0), e, l)
  | p :: rest, ok, e, l => (tell1 k e l p).bind fun t => if t.2.2.length ≤ l.length then tellf k rest (t.1 && ok) t.2.1 t.2.2 else none
theorem tellf_cons {k : Nat} {p : S35} {rest : List S35} {ok : Bool} {e : Int} {l : List Int} {r : Bool × Int × List Int} (h : tellf k (p :: rest) ok e l = some r) : ∃ b e1 l1, tell1 k e l p = some (b, e1, l1) ∧ l1.length ≤ l.length ∧ tellf k rest (b && ok) e1 l1 = some r := by
  unfold tellf at h
  obtain ⟨⟨b, e1, l1⟩, h1, h2⟩ := Option.bind_eq_some_iff.1 h
  dsimp only at h2
  by_cases hl : l1.length ≤ l.length
  · rw [if_pos hl] at h2
    exact ⟨b, e1, l1, h1, hl, h2⟩
  · rw [if_neg hl] at h2; cases h2
set_option maxRecDepth 100000 in
set_option maxHeartbeats 8000000 in
theorem tells_calls (k : Nat) (W : World) (g : Nat) (P : Nat → Prop) (e e2 : Int) (l m : List Int) (b : Bool) (ps : List S35) (raws : List Raw) (A : Option Addr) (c : Nat) (hR : RdAt W g P e l) (hl : l.length < 140737488355328)
    (hraw : ∀ W', W.grownBy W' (some g) → Kd.C kRaw W' A ps.length raws) (hmax : ps.length ≤ 1000000)
    (hrel : ∀ i, i < ps.length → ∃ A3 c3, raws.getD i zRaw = ((ps.getD i z35).f0, (ps.getD i z35).f1, (ps.getD i z35).f2, (A3, (ps.getD i z35).f3.length, c3)) ∧ (ps.getD i z35).f3.length ≤ c3 ∧ ∀ W', W.grownBy W' (some g) → Kd.C (Kd.int .u8) W' A3 (ps.getD i z35).f3.length (ps.getD i z35).f3)
    (h : tellf k ps true e l = some (b, e2, m)) :
    Calls Try.prog 19 #[.pointer (some ⟨g, 0, none⟩), .slice A ps.length c] W fun en W' => en = .returned (.bool b) ∧ RdAt W' g P e2 m ∧ W.grownBy W' (some g) := by
  have HR := Aside0.mk hR
  have HL := Aside0.mk hl
  have HRAW := Aside0.mk hraw
  have HREL := Aside0.mk hrel
  have HT := Aside0.mk h
  have HG := Aside0.mk (World.grownBy.refl W (some g))
  clear hR hl hraw hrel h
  go_enter Try.func19, Try.ntmps19
  go_wp2_with fail
  go_loopw [5, 6] (fun v5 v6 wr => ∃ (i : Nat) (ok : Bool) (e : Int) (q : List Int), i ≤ ps.length ∧ v5 = .bool ok ∧ v6 = .int .i64 i ∧ Aside0 (RdAt wr g P e q) ∧ Aside0 (W.grownBy wr (some g)) ∧ Aside0 (q.length ≤ l.length ∧ tellf k (ps.drop i) ok e q = some (b, e2, m)))
    (fun _ v6 _ => ps.length - (intOf v6).toNat)
  case atStart => exact ⟨0, true, e, l, Nat.zero_le _, rfl, rfl, HR, HG, ⟨⟨Nat.le_refl _, HT.out⟩⟩⟩
  case round =>
    clear HR HG HT e
    obtain ⟨i, ok, e, q, hi, rfl, rfl, HR, HG, HRUN⟩ := hrel
    by_cases hlt : i < ps.length
    · obtain ⟨a, ha⟩ : ∃ a, a = ps.getD i z35 := ⟨_, rfl⟩
      have hdrop : ps.drop i = a :: ps.drop (i + 1) := by
        rw [List.drop_eq_getElem_cons hlt, ha, List.getD_eq_getElem?_getD, List.getElem?_eq_getElem hlt]; rfl
      have hrun := HRUN.out.2
      rw [hdrop] at hrun
      obtain ⟨b1, e1, l1, ht, hl1, hrest⟩ := tellf_cons hrun
      obtain ⟨A3, c3, hra, hlc, hC3⟩ := HREL.out i hlt
      rw [← ha] at hra hlc hC3
      obtain ⟨ad, had, hx0, hx1, hx2, hx3⟩ := at_raw (HRAW.out wr HG.out) i hlt
      rw [hra] at hx0 hx1 hx2 hx3
      subst had
      have HC3 := Aside0.mk hC3
      have HLC := Aside0.mk hlc
      have HREST := Aside0.mk hrest
      have HL1 := Aside0.mk (show l1.length ≤ l.length from Nat.le_trans hl1 HRUN.out.1)
      have HLQ := Aside0.mk (show q.length < 140737488355328 by have := HRUN.out.1; have := HL.out; omega)
      have p1 : ((0 : Int) ≤ (i : Int)) = True := eq_true (by omega)
      have p2 : ((i : Int) < (ps.length : Int)) = True := eq_true (by omega)
      clear hC3 hlc hrest hl1 hrun hdrop ha hra HRUN
      go_upto_region 6 with (fail)
      obtain ⟨pb, hpb⟩ : ∃ pb, pb = wr.heap.size := ⟨_, rfl⟩
      obtain ⟨wa, hwa⟩ : ∃ wa, wa = wr.alloc (.cells #[.int .i64 a.f0, .int .i64 a.f1, .int .u64 a.f2, .slice A3 a.f3.length c3] 35) := ⟨_, rfl⟩
      rw [← hwa, ← hpb]
      have hbe : Below wr.heap.size wr wa := by rw [hwa]; exact below_alloc (Below.refl _ _) _
      have HBK := Aside0.mk (show wa.heap[pb]? = some (.cells #[.int .i64 a.f0, .int .i64 a.f1, .int .u64 a.f2, .slice A3 a.f3.length c3] 35 (0, 0)) by rw [hwa, hpb]; exact blk_new wr _)
      have HPG := Aside0.mk (show pb ≠ g by obtain ⟨_, _, hbg, _⟩ := HR.out.opens; have := blk_lt hbg; rw [hpb]; omega)
      have HRa := Aside0.mk (HR.out.below hbe)
      have HGa := Aside0.mk (HG.out.trans (below_grownBy hbe _))
      clear hbe hwa hpb HR HG hx0 hx1 hx2 hx3
      have hk0 := blk_cell HBK.out 0
      have hk1 := blk_cell HBK.out 1
      have hk2 := blk_cell HBK.out 2
      have hk3 := blk_cell HBK.out 3
      simp at hk0 hk1 hk2 hk3
      unfold tell1 at ht
      by_cases hw0 : a.f0 = 0
      · rw [if_pos hw0] at ht
        have hb0 : (a.f0 == 0) = true := by rw [hw0]; rfl
        obtain ⟨⟨tv, te, tl⟩, hp, h2⟩ := Option.bind_eq_some_iff.1 ht
        dsimp only at h2
        simp only [Option.some.injEq, Prod.mk.injEq] at h2
        obtain ⟨hb1, rfl, rfl⟩ := h2
        have HP := Aside0.mk hp
        clear hp ht
        cases hvv : (tv == a.f2) with
        | true =>
          have HB1 := Aside0.mk (hb1.symm.trans hvv)
          clear hb1
          go_upto_region 8 with (fail)
          have HRd := Aside0.mk (HRa.out.below (below_drew (Below.refl _ _)))
          have HGd := Aside0.mk (HGa.out.trans (drew_grownBy _ (some g)))
          have HSS := Aside0.mk (show (fun W1 : World => W1.heap[pb]? = some (.cells #[.int .i64 a.f0, .int .i64 a.f1, .int .u64 a.f2, .slice A3 a.f3.length c3] 35 (0, 0))) wa.drew from blk_drew HBK.out)
          clear HRa HGa HBK hk0 hk1 hk2 hk3
          refine Held.wp_region_G (S := (fun W1 => W1.heap[pb]? = some (.cells #[.int .i64 a.f0, .int .i64 a.f1, .int .u64 a.f2, .slice A3 a.f3.length c3] 35 (0, 0)))) (by kernel_rfl) ?_
          change Held.wpAnyG _ _ _ _ _ 11 _ _ _
          refine Held.wpAnyG_take (i := 0) (v := (.pointer (some ⟨g, 0, none⟩))) rfl (by kernel_rfl) (by kernel_rfl) (by kernel_rfl) (fun _ _ _ h => h) HSS.out (by first | (with_reducible rfl) | (simp [Region.wanted, yielded, Act.put]; done) | rfl) (fun W h => by go_simp) (some 22) rfl #[true, false, false, false, false, false, false, false, false, false, false] (by kernel_rfl) ?_
          simp only [Act.put, List.setIfInBounds_toArray, List.set_cons_zero, List.set_cons_succ]
          refine Held.wpAnyG_take (i := 1) (v := (.pointer (some ⟨pb, 1, none⟩))) rfl (by kernel_rfl) (by kernel_rfl) (by kernel_rfl) (fun _ _ _ h => h) HSS.out (by first | (with_reducible rfl) | (simp [Region.wanted, yielded, Act.put]; done) | rfl) (fun W h => by go_simp) (some 23) rfl #[true, true, false, false, false, false, false, false, false, false, false] (by kernel_rfl) ?_
          simp only [Act.put, List.setIfInBounds_toArray, List.set_cons_zero, List.set_cons_succ]
          refine Held.wpAnyG_take (i := 2) (v := (.int .i64 a.f1)) rfl (by kernel_rfl) (by kernel_rfl) (by kernel_rfl) (fun _ _ _ h => h) HSS.out (by first | (with_reducible rfl) | (simp [Region.wanted, yielded, Act.put]; done) | rfl) (fun W h => by have hh_ := blk_cell h 1; simp at hh_; go_simp) (some 24) rfl #[true, true, true, false, false, false, false, false, false, false, false] (by kernel_rfl) ?_
          simp only [Act.put, List.setIfInBounds_toArray, List.set_cons_zero, List.set_cons_succ]
          refine Held.wpAnyG_take (i := 4) (v := (.pointer (some ⟨pb, 2, none⟩))) rfl (by kernel_rfl) (by kernel_rfl) (by kernel_rfl) (fun _ _ _ h => h) HSS.out (by first | (with_reducible rfl) | (simp [Region.wanted, yielded, Act.put]; done) | rfl) (fun W h => by go_simp) (some 26) rfl #[true, true, true, false, true, false, false, false, false, false, false] (by kernel_rfl) ?_
          simp only [Act.put, List.setIfInBounds_toArray, List.set_cons_zero, List.set_cons_succ]
          refine Held.wpAnyG_take (i := 5) (v := (.int .u64 a.f2)) rfl (by kernel_rfl) (by kernel_rfl) (by kernel_rfl) (fun _ _ _ h => h) HSS.out (by first | (with_reducible rfl) | (simp [Region.wanted, yielded, Act.put]; done) | rfl) (fun W h => by have hh_ := blk_cell h 2; simp at hh_; go_simp) (some 27) rfl #[true, true, true, false, true, true, false, false, false, false, false] (by kernel_rfl) ?_
          simp only [Act.put, List.setIfInBounds_toArray, List.set_cons_zero, List.set_cons_succ]
          refine Held.wpAnyG_one 3 (by kernel_rfl) rfl #[true, true, true, true, true, true, false, false, false, false, false] (by kernel_rfl) (fun K hK => ?_)
          go_wp2_with fail
          (with_reducible refine (num_calls k _ g P e a.f1 _ _ q _ HRd.out HLQ.out HP.out).mono ?_)
          rintro en w2 ⟨rfl, hr2, hg2⟩
          have n1_ := Aside0.mk (blk_grown HSS.out hg2 (fun x => HPG.out (Option.some.inj x)))
          have HR2 := Aside0.mk hr2
          have HG2 := Aside0.mk (HGd.out.trans hg2)
          clear HSS hr2 hg2 HRd HGd
          have HSS := n1_
          clear n1_
          go_wp2_with fail
          refine hK _ _ HSS.out ?_
          clear hK K
          refine Held.wpAnyG_take (i := 6) (v := (.bool true)) rfl (by kernel_rfl) (by kernel_rfl) (by kernel_rfl) (fun _ _ _ h => h) HSS.out (by first | (with_reducible rfl) | (simp [Region.wanted, yielded, Act.put]; done) | rfl) (fun W h => by go_simp) (some 28) rfl #[true, true, true, true, true, true, true, false, false, false, false] (by kernel_rfl) ?_
          simp only [Act.put, List.setIfInBounds_toArray, List.set_cons_zero, List.set_cons_succ]
          refine Held.wpAnyG_take (i := 7) (v := (.bool true)) rfl (by kernel_rfl) (by kernel_rfl) (by kernel_rfl) (fun _ _ _ h => h) HSS.out (by first | (with_reducible rfl) | (simp [Region.wanted, yielded, Act.put]; done) | rfl) (fun W h => by go_simp) (some 29) rfl #[true, true, true, true, true, true, true, true, false, false, false] (by kernel_rfl) ?_
          simp only [Act.put, List.setIfInBounds_toArray, List.set_cons_zero, List.set_cons_succ]
          refine Held.wpAnyG_take (i := 8) (v := (.bool ok)) rfl (by kernel_rfl) (by kernel_rfl) (by kernel_rfl) (fun _ _ _ h => h) HSS.out (by first | (with_reducible rfl) | (simp [Region.wanted, yielded, Act.put]; done) | rfl) (fun W h => by go_simp) (some 30) rfl #[true, true, true, true, true, true, true, true, true, false, false] (by kernel_rfl) ?_
          simp only [Act.put, List.setIfInBounds_toArray, List.set_cons_zero, List.set_cons_succ]
          refine Held.wpAnyG_take (i := 9) (v := (.bool ok)) rfl (by kernel_rfl) (by kernel_rfl) (by kernel_rfl) (fun _ _ _ h => h) HSS.out (by first | (with_reducible rfl) | (simp [Region.wanted, yielded, Act.put]; done) | rfl) (fun W h => by go_simp) (some 31) rfl #[true, true, true, true, true, true, true, true, true, true, false] (by kernel_rfl) ?_
          simp only [Act.put, List.setIfInBounds_toArray, List.set_cons_zero, List.set_cons_succ]
          refine Held.wpAnyG_last 10 (by kernel_rfl) rfl (by kernel_rfl) (by kernel_rfl) ?_
          go_wp2_with fail
          clear HSS
          go_roundw
          case measure => simp [intOf]; omega
          case rel => exact ⟨i + 1, ok, _, _, by omega, rfl, by go_num, HR2, HG2, ⟨⟨HL1.out, by have h_ := HREST.out; (try rw [HB1.out] at h_); simpa using h_⟩⟩⟩
        | false =>
          have HB1 := Aside0.mk (hb1.symm.trans hvv)
          clear hb1
          go_upto_region 8 with (fail)
          have HRd := Aside0.mk (HRa.out.below (below_drew (Below.refl _ _)))
          have HGd := Aside0.mk (HGa.out.trans (drew_grownBy _ (some g)))
          have HSS := Aside0.mk (show (fun W1 : World => W1.heap[pb]? = some (.cells #[.int .i64 a.f0, .int .i64 a.f1, .int .u64 a.f2, .slice A3 a.f3.length c3] 35 (0, 0))) wa.drew from blk_drew HBK.out)
          clear HRa HGa HBK hk0 hk1 hk2 hk3
          refine Held.wp_region_G (S := (fun W1 => W1.heap[pb]? = some (.cells #[.int .i64 a.f0, .int .i64 a.f1, .int .u64 a.f2, .slice A3 a.f3.length c3] 35 (0, 0)))) (by kernel_rfl) ?_
          change Held.wpAnyG _ _ _ _ _ 11 _ _ _
          refine Held.wpAnyG_take (i := 0) (v := (.pointer (some ⟨g, 0, none⟩))) rfl (by kernel_rfl) (by kernel_rfl) (by kernel_rfl) (fun _ _ _ h => h) HSS.out (by first | (with_reducible rfl) | (simp [Region.wanted, yielded, Act.put]; done) | rfl) (fun W h => by go_simp) (some 22) rfl #[true, false, false, false, false, false, false, false, false, false, false] (by kernel_rfl) ?_
          simp only [Act.put, List.setIfInBounds_toArray, List.set_cons_zero, List.set_cons_succ]
          refine Held.wpAnyG_take (i := 1) (v := (.pointer (some ⟨pb, 1, none⟩))) rfl (by kernel_rfl) (by kernel_rfl) (by kernel_rfl) (fun _ _ _ h => h) HSS.out (by first | (with_reducible rfl) | (simp [Region.wanted, yielded, Act.put]; done) | rfl) (fun W h => by go_simp) (some 23) rfl #[true, true, false, false, false, false, false, false, false, false, false] (by kernel_rfl) ?_
          simp only [Act.put, List.setIfInBounds_toArray, List.set_cons_zero, List.set_cons_succ]
          refine Held.wpAnyG_take (i := 2) (v := (.int .i64 a.f1)) rfl (by kernel_rfl) (by kernel_rfl) (by kernel_rfl) (fun _ _ _ h => h) HSS.out (by first | (with_reducible rfl) | (simp [Region.wanted, yielded, Act.put]; done) | rfl) (fun W h => by have hh_ := blk_cell h 1; simp at hh_; go_simp) (some 24) rfl #[true, true, true, false, false, false, false, false, false, false, false] (by kernel_rfl) ?_
          simp only [Act.put, List.setIfInBounds_toArray, List.set_cons_zero, List.set_cons_succ]
          refine Held.wpAnyG_take (i := 4) (v := (.pointer (some ⟨pb, 2, none⟩))) rfl (by kernel_rfl) (by kernel_rfl) (by kernel_rfl) (fun _ _ _ h => h) HSS.out (by first | (with_reducible rfl) | (simp [Region.wanted, yielded, Act.put]; done) | rfl) (fun W h => by go_simp) (some 26) rfl #[true, true, true, false, true, false, false, false, false, false, false] (by kernel_rfl) ?_
          simp only [Act.put, List.setIfInBounds_toArray, List.set_cons_zero, List.set_cons_succ]
          refine Held.wpAnyG_take (i := 5) (v := (.int .u64 a.f2)) rfl (by kernel_rfl) (by kernel_rfl) (by kernel_rfl) (fun _ _ _ h => h) HSS.out (by first | (with_reducible rfl) | (simp [Region.wanted, yielded, Act.put]; done) | rfl) (fun W h => by have hh_ := blk_cell h 2; simp at hh_; go_simp) (some 27) rfl #[true, true, true, false, true, true, false, false, false, false, false] (by kernel_rfl) ?_
          simp only [Act.put, List.setIfInBounds_toArray, List.set_cons_zero, List.set_cons_succ]
          refine Held.wpAnyG_one 3 (by kernel_rfl) rfl #[true, true, true, true, true, true, false, false, false, false, false] (by kernel_rfl) (fun K hK => ?_)
          go_wp2_with fail
          (with_reducible refine (num_calls k _ g P e a.f1 _ _ q _ HRd.out HLQ.out HP.out).mono ?_)
          rintro en w2 ⟨rfl, hr2, hg2⟩
          have n1_ := Aside0.mk (blk_grown HSS.out hg2 (fun x => HPG.out (Option.some.inj x)))
          have HR2 := Aside0.mk hr2
          have HG2 := Aside0.mk (HGd.out.trans hg2)
          clear HSS hr2 hg2 HRd HGd
          have HSS := n1_
          clear n1_
          go_wp2_with fail
          refine hK _ _ HSS.out ?_
          clear hK K
          refine Held.wpAnyG_take (i := 6) (v := (.bool false)) rfl (by kernel_rfl) (by kernel_rfl) (by kernel_rfl) (fun _ _ _ h => h) HSS.out (by first | (with_reducible rfl) | (simp [Region.wanted, yielded, Act.put]; done) | rfl) (fun W h => by go_simp) (some 28) rfl #[true, true, true, true, true, true, true, false, false, false, false] (by kernel_rfl) ?_
          simp only [Act.put, List.setIfInBounds_toArray, List.set_cons_zero, List.set_cons_succ]
          refine Held.wpAnyG_take (i := 7) (v := (.bool false)) rfl (by kernel_rfl) (by kernel_rfl) (by kernel_rfl) (fun _ _ _ h => h) HSS.out (by first | (with_reducible rfl) | (simp [Region.wanted, yielded, Act.put]; done) | rfl) (fun W h => by go_simp) (some 29) rfl #[true, true, true, true, true, true, true, true, false, false, false] (by kernel_rfl) ?_
          simp only [Act.put, List.setIfInBounds_toArray, List.set_cons_zero, List.set_cons_succ]
          refine Held.wpAnyG_skip (i := 8) rfl (by kernel_rfl) (by kernel_rfl) (by kernel_rfl) (fun _ _ _ h => h) HSS.out (by first | (with_reducible rfl) | (simp [Region.wanted, yielded, Act.put]; done) | rfl) (some 30) rfl #[true, true, true, true, true, true, true, true, true, false, false] (by kernel_rfl) ?_
          simp only [Act.put, List.setIfInBounds_toArray, List.set_cons_zero, List.set_cons_succ]
          refine Held.wpAnyG_take (i := 9) (v := (.bool false)) rfl (by kernel_rfl) (by kernel_rfl) (by kernel_rfl) (fun _ _ _ h => h) HSS.out (by first | (with_reducible rfl) | (simp [Region.wanted, yielded, Act.put]; done) | rfl) (fun W h => by go_simp) (some 31) rfl #[true, true, true, true, true, true, true, true, true, true, false] (by kernel_rfl) ?_
          simp only [Act.put, List.setIfInBounds_toArray, List.set_cons_zero, List.set_cons_succ]
          refine Held.wpAnyG_last 10 (by kernel_rfl) rfl (by kernel_rfl) (by kernel_rfl) ?_
          go_wp2_with fail
          clear HSS
          go_roundw
          case measure => simp [intOf]; omega
          case rel => exact ⟨i + 1, false, _, _, by omega, rfl, by go_num, HR2, HG2, ⟨⟨HL1.out, by have h_ := HREST.out; (try rw [HB1.out] at h_); simpa using h_⟩⟩⟩
      by_cases hw1 : a.f0 = 1
      · rw [if_neg hw0, if_pos hw1] at ht
        have hb0 : (a.f0 == 0) = false := beq_eq_false_iff_ne.mpr hw0
        have hb1 : (a.f0 == 1) = true := by rw [hw1]; rfl
        obtain ⟨⟨tv, te, tl⟩, hp⟩ : ∃ x, rdBytes e q (a.f3.length : Int) = x := ⟨_, rfl⟩
        rw [hp] at ht
        dsimp only at ht
        obtain ⟨b2, hsm, h2⟩ := Option.bind_eq_some_iff.1 ht
        simp only [Option.some.injEq, Prod.mk.injEq] at h2
        obtain ⟨rfl, rfl, rfl⟩ := h2
        have HP := Aside0.mk hp
        have HSM := Aside0.mk hsm
        clear hp hsm ht
        cases b2 with
        | true =>
          go_upto_region 10 with (fail)
          have HRd := Aside0.mk (HRa.out.below (below_drew (Below.refl _ _)))
          have HGd := Aside0.mk (HGa.out.trans (drew_grownBy _ (some g)))
          have HSS := Aside0.mk (show (fun W1 : World => W1.heap[pb]? = some (.cells #[.int .i64 a.f0, .int .i64 a.f1, .int .u64 a.f2, .slice A3 a.f3.length c3] 35 (0, 0))) wa.drew from blk_drew HBK.out)
          clear HRa HGa HBK hk0 hk1 hk2 hk3
          refine Held.wp_region_G (S := (fun W1 => W1.heap[pb]? = some (.cells #[.int .i64 a.f0, .int .i64 a.f1, .int .u64 a.f2, .slice A3 a.f3.length c3] 35 (0, 0)))) (by kernel_rfl) ?_
          change Held.wpAnyG _ _ _ _ _ 12 _ _ _
          refine Held.wpAnyG_take (i := 0) (v := (.pointer (some ⟨g, 0, none⟩))) rfl (by kernel_rfl) (by kernel_rfl) (by kernel_rfl) (fun _ _ _ h => h) HSS.out (by first | (with_reducible rfl) | (simp [Region.wanted, yielded, Act.put]; done) | rfl) (fun W h => by go_simp) (some 34) rfl #[true, false, false, false, false, false, false, false, false, false, false, false] (by kernel_rfl) ?_
          simp only [Act.put, List.setIfInBounds_toArray, List.set_cons_zero, List.set_cons_succ]
          refine Held.wpAnyG_take (i := 1) (v := (.pointer (some ⟨pb, 3, none⟩))) rfl (by kernel_rfl) (by kernel_rfl) (by kernel_rfl) (fun _ _ _ h => h) HSS.out (by first | (with_reducible rfl) | (simp [Region.wanted, yielded, Act.put]; done) | rfl) (fun W h => by go_simp) (some 35) rfl #[true, true, false, false, false, false, false, false, false, false, false, false] (by kernel_rfl) ?_
          simp only [Act.put, List.setIfInBounds_toArray, List.set_cons_zero, List.set_cons_succ]
          refine Held.wpAnyG_take (i := 2) (v := (.slice A3 a.f3.length c3)) rfl (by kernel_rfl) (by kernel_rfl) (by kernel_rfl) (fun _ _ _ h => h) HSS.out (by first | (with_reducible rfl) | (simp [Region.wanted, yielded, Act.put]; done) | rfl) (fun W h => by have hh_ := blk_cell h 3; simp at hh_; go_simp) (some 36) rfl #[true, true, true, false, false, false, false, false, false, false, false, false] (by kernel_rfl) ?_
          simp only [Act.put, List.setIfInBounds_toArray, List.set_cons_zero, List.set_cons_succ]
          refine Held.wpAnyG_take (i := 3) (v := (.int .i64 (a.f3.length : Int))) rfl (by kernel_rfl) (by kernel_rfl) (by kernel_rfl) (fun _ _ _ h => h) HSS.out (by first | (with_reducible rfl) | (simp [Region.wanted, yielded, Act.put]; done) | rfl) (fun W h => by go_simp) (some 37) rfl #[true, true, true, true, false, false, false, false, false, false, false, false] (by kernel_rfl) ?_
          simp only [Act.put, List.setIfInBounds_toArray, List.set_cons_zero, List.set_cons_succ]
          refine Held.wpAnyG_take (i := 5) (v := (.pointer (some ⟨pb, 3, none⟩))) rfl (by kernel_rfl) (by kernel_rfl) (by kernel_rfl) (fun _ _ _ h => h) HSS.out (by first | (with_reducible rfl) | (simp [Region.wanted, yielded, Act.put]; done) | rfl) (fun W h => by go_simp) (some 39) rfl #[true, true, true, true, false, true, false, false, false, false, false, false] (by kernel_rfl) ?_
          simp only [Act.put, List.setIfInBounds_toArray, List.set_cons_zero, List.set_cons_succ]
          refine Held.wpAnyG_take (i := 6) (v := (.slice A3 a.f3.length c3)) rfl (by kernel_rfl) (by kernel_rfl) (by kernel_rfl) (fun _ _ _ h => h) HSS.out (by first | (with_reducible rfl) | (simp [Region.wanted, yielded, Act.put]; done) | rfl) (fun W h => by have hh_ := blk_cell h 3; simp at hh_; go_simp) (some 40) rfl #[true, true, true, true, false, true, true, false, false, false, false, false] (by kernel_rfl) ?_
          simp only [Act.put, List.setIfInBounds_toArray, List.set_cons_zero, List.set_cons_succ]
          refine Held.wpAnyG_one 4 (by kernel_rfl) rfl #[true, true, true, true, true, true, true, false, false, false, false, false] (by kernel_rfl) (fun K hK => ?_)
          go_wp2_with fail
          (with_reducible refine (bytes_calls _ g P e (a.f3.length : Int) _ q _ _ HRd.out HLQ.out HP.out).mono ?_)
          rintro en w2 ⟨vr, rfl, hv, hr2, hg2⟩
          obtain ⟨Av, cv, rfl, hvc, hvC⟩ := row_at hv
          have HV := Aside0.mk hvC
          have HVC := Aside0.mk hvc
          clear hvc hvC hv
          have n1_ := Aside0.mk (blk_grown HSS.out hg2 (fun x => HPG.out (Option.some.inj x)))
          have HR2 := Aside0.mk hr2
          have HG2 := Aside0.mk (HGd.out.trans hg2)
          clear HSS hr2 hg2 HRd HGd
          have HSS := n1_
          clear n1_
          go_wp2_with fail
          refine hK _ _ HSS.out ?_
          clear hK K
          refine Held.wpAnyG_one 7 (by kernel_rfl) rfl #[true, true, true, true, true, true, true, true, false, false, false, false] (by kernel_rfl) (fun K hK => ?_)
          go_wp2_with fail
          (with_reducible refine (crosswayref00_SameBytes.calls k _ _ _ _ _ _ _ _ HV.out HVC.out (HC3.out _ HG2.out) HLC.out HSM.out).mono ?_)
          rintro en w3 ⟨rfl, hd3⟩
          have n1_ := Aside0.mk (blk_below HSS.out hd3.below)
          have HR3 := Aside0.mk (HR2.out.below hd3.below)
          have HG3 := Aside0.mk (HG2.out.trans (below_grownBy hd3.below _))
          clear HSS HR2 HG2 hd3 HV HVC
          have HSS := n1_
          clear n1_
          go_wp2_with fail
          refine hK _ _ HSS.out ?_
          clear hK K
          have HR2 := HR3
          have HG2 := HG3
          clear HR3 HG3
          refine Held.wpAnyG_take (i := 8) (v := (.bool true)) rfl (by kernel_rfl) (by kernel_rfl) (by kernel_rfl) (fun _ _ _ h => h) HSS.out (by first | (with_reducible rfl) | (simp [Region.wanted, yielded, Act.put]; done) | rfl) (fun W h => by go_simp) (some 42) rfl #[true, true, true, true, true, true, true, true, true, false, false, false] (by kernel_rfl) ?_
          simp only [Act.put, List.setIfInBounds_toArray, List.set_cons_zero, List.set_cons_succ]
          refine Held.wpAnyG_take (i := 9) (v := (.bool ok)) rfl (by kernel_rfl) (by kernel_rfl) (by kernel_rfl) (fun _ _ _ h => h) HSS.out (by first | (with_reducible rfl) | (simp [Region.wanted, yielded, Act.put]; done) | rfl) (fun W h => by go_simp) (some 43) rfl #[true, true, true, true, true, true, true, true, true, true, false, false] (by kernel_rfl) ?_
          simp only [Act.put, List.setIfInBounds_toArray, List.set_cons_zero, List.set_cons_succ]
          refine Held.wpAnyG_take (i := 10) (v := (.bool ok)) rfl (by kernel_rfl) (by kernel_rfl) (by kernel_rfl) (fun _ _ _ h => h) HSS.out (by first | (with_reducible rfl) | (simp [Region.wanted, yielded, Act.put]; done) | rfl) (fun W h => by go_simp) (some 44) rfl #[true, true, true, true, true, true, true, true, true, true, true, false] (by kernel_rfl) ?_
          simp only [Act.put, List.setIfInBounds_toArray, List.set_cons_zero, List.set_cons_succ]
          refine Held.wpAnyG_last 11 (by kernel_rfl) rfl (by kernel_rfl) (by kernel_rfl) ?_
          go_wp2_with fail
          clear HSS
          go_roundw
          case measure => simp [intOf]; omega
          case rel => exact ⟨i + 1, ok, _, _, by omega, rfl, by go_num, HR2, HG2, ⟨⟨HL1.out, by have h_ := HREST.out; (try rw [HB1.out] at h_); simpa using h_⟩⟩⟩
        | false =>
          go_upto_region 10 with (fail)
          have HRd := Aside0.mk (HRa.out.below (below_drew (Below.refl _ _)))
          have HGd := Aside0.mk (HGa.out.trans (drew_grownBy _ (some g)))
          have HSS := Aside0.mk (show (fun W1 : World => W1.heap[pb]? = some (.cells #[.int .i64 a.f0, .int .i64 a.f1, .int .u64 a.f2, .slice A3 a.f3.length c3] 35 (0, 0))) wa.drew from blk_drew HBK.out)
          clear HRa HGa HBK hk0 hk1 hk2 hk3
          refine Held.wp_region_G (S := (fun W1 => W1.heap[pb]? = some (.cells #[.int .i64 a.f0, .int .i64 a.f1, .int .u64 a.f2, .slice A3 a.f3.length c3] 35 (0, 0)))) (by kernel_rfl) ?_
          change Held.wpAnyG _ _ _ _ _ 12 _ _ _
          refine Held.wpAnyG_take (i := 0) (v := (.pointer (some ⟨g, 0, none⟩))) rfl (by kernel_rfl) (by kernel_rfl) (by kernel_rfl) (fun _ _ _ h => h) HSS.out (by first | (with_reducible rfl) | (simp [Region.wanted, yielded, Act.put]; done) | rfl) (fun W h => by go_simp) (some 34) rfl #[true, false, false, false, false, false, false, false, false, false, false, false] (by kernel_rfl) ?_
          simp only [Act.put, List.setIfInBounds_toArray, List.set_cons_zero, List.set_cons_succ]
          refine Held.wpAnyG_take (i := 1) (v := (.pointer (some ⟨pb, 3, none⟩))) rfl (by kernel_rfl) (by kernel_rfl) (by kernel_rfl) (fun _ _ _ h => h) HSS.out (by first | (with_reducible rfl) | (simp [Region.wanted, yielded, Act.put]; done) | rfl) (fun W h => by go_simp) (some 35) rfl #[true, true, false, false, false, false, false, false, false, false, false, false] (by kernel_rfl) ?_
          simp only [Act.put, List.setIfInBounds_toArray, List.set_cons_zero, List.set_cons_succ]
          refine Held.wpAnyG_take (i := 2) (v := (.slice A3 a.f3.length c3)) rfl (by kernel_rfl) (by kernel_rfl) (by kernel_rfl) (fun _ _ _ h => h) HSS.out (by first | (with_reducible rfl) | (simp [Region.wanted, yielded, Act.put]; done) | rfl) (fun W h => by have hh_ := blk_cell h 3; simp at hh_; go_simp) (some 36) rfl #[true, true, true, false, false, false, false, false, false, false, false, false] (by kernel_rfl) ?_
          simp only [Act.put, List.setIfInBounds_toArray, List.set_cons_zero, List.set_cons_succ]
          refine Held.wpAnyG_take (i := 3) (v := (.int .i64 (a.f3.length : Int))) rfl (by kernel_rfl) (by kernel_rfl) (by kernel_rfl) (fun _ _ _ h => h) HSS.out (by first | (with_reducible rfl) | (simp [Region.wanted, yielded, Act.put]; done) | rfl) (fun W h => by go_simp) (some 37) rfl #[true, true, true, true, false, false, false, false, false, false, false, false] (by kernel_rfl) ?_
          simp only [Act.put, List.setIfInBounds_toArray, List.set_cons_zero, List.set_cons_succ]
          refine Held.wpAnyG_take (i := 5) (v := (.pointer (some ⟨pb, 3, none⟩))) rfl (by kernel_rfl) (by kernel_rfl) (by kernel_rfl) (fun _ _ _ h => h) HSS.out (by first | (with_reducible rfl) | (simp [Region.wanted, yielded, Act.put]; done) | rfl) (fun W h => by go_simp) (some 39) rfl #[true, true, true, true, false, true, false, false, false, false, false, false] (by kernel_rfl) ?_
          simp only [Act.put, List.setIfInBounds_toArray, List.set_cons_zero, List.set_cons_succ]
          refine Held.wpAnyG_take (i := 6) (v := (.slice A3 a.f3.length c3)) rfl (by kernel_rfl) (by kernel_rfl) (by kernel_rfl) (fun _ _ _ h => h) HSS.out (by first | (with_reducible rfl) | (simp [Region.wanted, yielded, Act.put]; done) | rfl) (fun W h => by have hh_ := blk_cell h 3; simp at hh_; go_simp) (some 40) rfl #[true, true, true, true, false, true, true, false, false, false, false, false] (by kernel_rfl) ?_
          simp only [Act.put, List.setIfInBounds_toArray, List.set_cons_zero, List.set_cons_succ]
          refine Held.wpAnyG_one 4 (by kernel_rfl) rfl #[true, true, true, true, true, true, true, false, false, false, false, false] (by kernel_rfl) (fun K hK => ?_)
          go_wp2_with fail
          (with_reducible refine (bytes_calls _ g P e (a.f3.length : Int) _ q _ _ HRd.out HLQ.out HP.out).mono ?_)
          rintro en w2 ⟨vr, rfl, hv, hr2, hg2⟩
          obtain ⟨Av, cv, rfl, hvc, hvC⟩ := row_at hv
          have HV := Aside0.mk hvC
          have HVC := Aside0.mk hvc
          clear hvc hvC hv
          have n1_ := Aside0.mk (blk_grown HSS.out hg2 (fun x => HPG.out (Option.some.inj x)))
          have HR2 := Aside0.mk hr2
          have HG2 := Aside0.mk (HGd.out.trans hg2)
          clear HSS hr2 hg2 HRd HGd
          have HSS := n1_
          clear n1_
          go_wp2_with fail
          refine hK _ _ HSS.out ?_
          clear hK K
          refine Held.wpAnyG_one 7 (by kernel_rfl) rfl #[true, true, true, true, true, true, true, true, false, false, false, false] (by kernel_rfl) (fun K hK => ?_)
          go_wp2_with fail
          (with_reducible refine (crosswayref00_SameBytes.calls k _ _ _ _ _ _ _ _ HV.out HVC.out (HC3.out _ HG2.out) HLC.out HSM.out).mono ?_)
          rintro en w3 ⟨rfl, hd3⟩
          have n1_ := Aside0.mk (blk_below HSS.out hd3.below)
          have HR3 := Aside0.mk (HR2.out.below hd3.below)
          have HG3 := Aside0.mk (HG2.out.trans (below_grownBy hd3.below _))
          clear HSS HR2 HG2 hd3 HV HVC
          have HSS := n1_
          clear n1_
          go_wp2_with fail
          refine hK _ _ HSS.out ?_
          clear hK K
          have HR2 := HR3
          have HG2 := HG3
          clear HR3 HG3
          refine Held.wpAnyG_take (i := 8) (v := (.bool false)) rfl (by kernel_rfl) (by kernel_rfl) (by kernel_rfl) (fun _ _ _ h => h) HSS.out (by first | (with_reducible rfl) | (simp [Region.wanted, yielded, Act.put]; done) | rfl) (fun W h => by go_simp) (some 42) rfl #[true, true, true, true, true, true, true, true, true, false, false, false] (by kernel_rfl) ?_
          simp only [Act.put, List.setIfInBounds_toArray, List.set_cons_zero, List.set_cons_succ]
          refine Held.wpAnyG_skip (i := 9) rfl (by kernel_rfl) (by kernel_rfl) (by kernel_rfl) (fun _ _ _ h => h) HSS.out (by first | (with_reducible rfl) | (simp [Region.wanted, yielded, Act.put]; done) | rfl) (some 43) rfl #[true, true, true, true, true, true, true, true, true, true, false, false] (by kernel_rfl) ?_
          simp only [Act.put, List.setIfInBounds_toArray, List.set_cons_zero, List.set_cons_succ]
          refine Held.wpAnyG_take (i := 10) (v := (.bool false)) rfl (by kernel_rfl) (by kernel_rfl) (by kernel_rfl) (fun _ _ _ h => h) HSS.out (by first | (with_reducible rfl) | (simp [Region.wanted, yielded, Act.put]; done) | rfl) (fun W h => by go_simp) (some 44) rfl #[true, true, true, true, true, true, true, true, true, true, true, false] (by kernel_rfl) ?_
          simp only [Act.put, List.setIfInBounds_toArray, List.set_cons_zero, List.set_cons_succ]
          refine Held.wpAnyG_last 11 (by kernel_rfl) rfl (by kernel_rfl) (by kernel_rfl) ?_
          go_wp2_with fail
          clear HSS
          go_roundw
          case measure => simp [intOf]; omega
          case rel => exact ⟨i + 1, false, _, _, by omega, rfl, by go_num, HR2, HG2, ⟨⟨HL1.out, by have h_ := HREST.out; (try rw [HB1.out] at h_); simpa using h_⟩⟩⟩
      by_cases hw2 : a.f0 = 2
      · rw [if_neg hw0, if_neg hw1, if_pos hw2] at ht
        have hb0 : (a.f0 == 0) = false := beq_eq_false_iff_ne.mpr hw0
        have hb1 : (a.f0 == 1) = false := beq_eq_false_iff_ne.mpr hw1
        have hb2 : (a.f0 == 2) = true := by rw [hw2]; rfl
        obtain ⟨⟨tv, te, tl⟩, hp, h2⟩ := Option.bind_eq_some_iff.1 ht
        dsimp only at h2
        by_cases htl : tl.length ≤ q.length
        rotate_left
        · rw [if_neg htl] at h2; cases h2
        rw [if_pos htl] at h2
        obtain ⟨⟨uv, ue, ul⟩, hu, h3⟩ := Option.bind_eq_some_iff.1 h2
        dsimp only at h3
        simp only [Option.some.injEq, Prod.mk.injEq] at h3
        obtain ⟨hb1, rfl, rfl⟩ := h3
        have HP := Aside0.mk hp
        have HU := Aside0.mk hu
        have HTL := Aside0.mk (show tl.length < 140737488355328 by have := HLQ.out; omega)
        clear hp hu ht h2 htl
        cases hvv : (tv == a.f2) with
        | true =>
          rw [hvv] at hb1
          go_upto_region 12 with (fail)
          have HRd := Aside0.mk (HRa.out.below (below_drew (Below.refl _ _)))
          have HGd := Aside0.mk (HGa.out.trans (drew_grownBy _ (some g)))
          have HSS := Aside0.mk (show (fun W1 : World => W1.heap[pb]? = some (.cells #[.int .i64 a.f0, .int .i64 a.f1, .int .u64 a.f2, .slice A3 a.f3.length c3] 35 (0, 0))) wa.drew from blk_drew HBK.out)
          clear HRa HGa HBK hk0 hk1 hk2 hk3
          refine Held.wp_region_G (S := (fun W1 => W1.heap[pb]? = some (.cells #[.int .i64 a.f0, .int .i64 a.f1, .int .u64 a.f2, .slice A3 a.f3.length c3] 35 (0, 0)))) (by kernel_rfl) ?_
          change Held.wpAnyG _ _ _ _ _ 9 _ _ _
          refine Held.wpAnyG_take (i := 0) (v := (.pointer (some ⟨g, 0, none⟩))) rfl (by kernel_rfl) (by kernel_rfl) (by kernel_rfl) (fun _ _ _ h => h) HSS.out (by first | (with_reducible rfl) | (simp [Region.wanted, yielded, Act.put]; done) | rfl) (fun W h => by go_simp) (some 47) rfl #[true, false, false, false, false, false, false, false, false] (by kernel_rfl) ?_
          simp only [Act.put, List.setIfInBounds_toArray, List.set_cons_zero, List.set_cons_succ]
          refine Held.wpAnyG_take (i := 2) (v := (.pointer (some ⟨pb, 2, none⟩))) rfl (by kernel_rfl) (by kernel_rfl) (by kernel_rfl) (fun _ _ _ h => h) HSS.out (by first | (with_reducible rfl) | (simp [Region.wanted, yielded, Act.put]; done) | rfl) (fun W h => by go_simp) (some 49) rfl #[true, false, true, false, false, false, false, false, false] (by kernel_rfl) ?_
          simp only [Act.put, List.setIfInBounds_toArray, List.set_cons_zero, List.set_cons_succ]
          refine Held.wpAnyG_take (i := 3) (v := (.int .u64 a.f2)) rfl (by kernel_rfl) (by kernel_rfl) (by kernel_rfl) (fun _ _ _ h => h) HSS.out (by first | (with_reducible rfl) | (simp [Region.wanted, yielded, Act.put]; done) | rfl) (fun W h => by have hh_ := blk_cell h 2; simp at hh_; go_simp) (some 50) rfl #[true, false, true, true, false, false, false, false, false] (by kernel_rfl) ?_
          simp only [Act.put, List.setIfInBounds_toArray, List.set_cons_zero, List.set_cons_succ]
          refine Held.wpAnyG_one 1 (by kernel_rfl) rfl #[true, true, true, true, false, false, false, false, false] (by kernel_rfl) (fun K hK => ?_)
          go_wp2_with fail
          (with_reducible refine (vari_calls k _ g P e _ _ q _ HRd.out HLQ.out HP.out).mono ?_)
          rintro en w2 ⟨rfl, hr2, hg2⟩
          have n1_ := Aside0.mk (blk_grown HSS.out hg2 (fun x => HPG.out (Option.some.inj x)))
          have HR2 := Aside0.mk hr2
          have HG2 := Aside0.mk (HGd.out.trans hg2)
          clear HSS hr2 hg2 HRd HGd
          have HSS := n1_
          clear n1_
          go_wp2_with fail
          refine hK _ _ HSS.out ?_
          clear hK K
          refine Held.wpAnyG_take (i := 4) (v := (.bool true)) rfl (by kernel_rfl) (by kernel_rfl) (by kernel_rfl) (fun _ _ _ h => h) HSS.out (by first | (with_reducible rfl) | (simp [Region.wanted, yielded, Act.put]; done) | rfl) (fun W h => by go_simp) (some 51) rfl #[true, true, true, true, true, false, false, false, false] (by kernel_rfl) ?_
          simp only [Act.put, List.setIfInBounds_toArray, List.set_cons_zero, List.set_cons_succ]
          refine Held.wpAnyG_take (i := 5) (v := (.bool true)) rfl (by kernel_rfl) (by kernel_rfl) (by kernel_rfl) (fun _ _ _ h => h) HSS.out (by first | (with_reducible rfl) | (simp [Region.wanted, yielded, Act.put]; done) | rfl) (fun W h => by go_simp) (some 52) rfl #[true, true, true, true, true, true, false, false, false] (by kernel_rfl) ?_
          simp only [Act.put, List.setIfInBounds_toArray, List.set_cons_zero, List.set_cons_succ]
          refine Held.wpAnyG_take (i := 6) (v := (.bool ok)) rfl (by kernel_rfl) (by kernel_rfl) (by kernel_rfl) (fun _ _ _ h => h) HSS.out (by first | (with_reducible rfl) | (simp [Region.wanted, yielded, Act.put]; done) | rfl) (fun W h => by go_simp) (some 53) rfl #[true, true, true, true, true, true, true, false, false] (by kernel_rfl) ?_
          simp only [Act.put, List.setIfInBounds_toArray, List.set_cons_zero, List.set_cons_succ]
          refine Held.wpAnyG_take (i := 7) (v := (.bool ok)) rfl (by kernel_rfl) (by kernel_rfl) (by kernel_rfl) (fun _ _ _ h => h) HSS.out (by first | (with_reducible rfl) | (simp [Region.wanted, yielded, Act.put]; done) | rfl) (fun W h => by go_simp) (some 54) rfl #[true, true, true, true, true, true, true, true, false] (by kernel_rfl) ?_
          simp only [Act.put, List.setIfInBounds_toArray, List.set_cons_zero, List.set_cons_succ]
          refine Held.wpAnyG_last 8 (by kernel_rfl) rfl (by kernel_rfl) (by kernel_rfl) ?_
          clear HSS
          cases huu : (uv == 7) with
          | true =>
            rw [huu] at hb1
            have HB1 := Aside0.mk hb1.symm
            clear hb1
            go_wp2_with fail
            (with_reducible refine (vari_calls k _ g P _ _ _ _ _ HR2.out HTL.out HU.out).mono ?_)
            rintro en w4 ⟨rfl, hr4, hg4⟩
            have HR4 := Aside0.mk hr4
            have HG4 := Aside0.mk (HG2.out.trans hg4)
            clear hr4 hg4 HR2 HG2
            have HR2 := HR4
            have HG2 := HG4
            clear HR4 HG4
            go_wp2_with fail
            go_roundw
            case measure => simp [intOf]; omega
            case rel => exact ⟨i + 1, ok, _, _, by omega, rfl, by go_num, HR2, HG2, ⟨⟨HL1.out, by have h_ := HREST.out; (try rw [HB1.out] at h_); simpa using h_⟩⟩⟩
          | false =>
            rw [huu] at hb1
            have HB1 := Aside0.mk hb1.symm
            clear hb1
            go_wp2_with fail
            (with_reducible refine (vari_calls k _ g P _ _ _ _ _ HR2.out HTL.out HU.out).mono ?_)
            rintro en w4 ⟨rfl, hr4, hg4⟩
            have HR4 := Aside0.mk hr4
            have HG4 := Aside0.mk (HG2.out.trans hg4)
            clear hr4 hg4 HR2 HG2
            have HR2 := HR4
            have HG2 := HG4
            clear HR4 HG4
            go_wp2_with fail
            go_roundw
            case measure => simp [intOf]; omega
            case rel => exact ⟨i + 1, false, _, _, by omega, rfl, by go_num, HR2, HG2, ⟨⟨HL1.out, by have h_ := HREST.out; (try rw [HB1.out] at h_); simpa using h_⟩⟩⟩
        | false =>
          rw [hvv] at hb1
          go_upto_region 12 with (fail)
          have HRd := Aside0.mk (HRa.out.below (below_drew (Below.refl _ _)))
          have HGd := Aside0.mk (HGa.out.trans (drew_grownBy _ (some g)))
          have HSS := Aside0.mk (show (fun W1 : World => W1.heap[pb]? = some (.cells #[.int .i64 a.f0, .int .i64 a.f1, .int .u64 a.f2, .slice A3 a.f3.length c3] 35 (0, 0))) wa.drew from blk_drew HBK.out)
          clear HRa HGa HBK hk0 hk1 hk2 hk3
          refine Held.wp_region_G (S := (fun W1 => W1.heap[pb]? = some (.cells #[.int .i64 a.f0, .int .i64 a.f1, .int .u64 a.f2, .slice A3 a.f3.length c3] 35 (0, 0)))) (by kernel_rfl) ?_
          change Held.wpAnyG _ _ _ _ _ 9 _ _ _
          refine Held.wpAnyG_take (i := 0) (v := (.pointer (some ⟨g, 0, none⟩))) rfl (by kernel_rfl) (by kernel_rfl) (by kernel_rfl) (fun _ _ _ h => h) HSS.out (by first | (with_reducible rfl) | (simp [Region.wanted, yielded, Act.put]; done) | rfl) (fun W h => by go_simp) (some 47) rfl #[true, false, false, false, false, false, false, false, false] (by kernel_rfl) ?_
          simp only [Act.put, List.setIfInBounds_toArray, List.set_cons_zero, List.set_cons_succ]
          refine Held.wpAnyG_take (i := 2) (v := (.pointer (some ⟨pb, 2, none⟩))) rfl (by kernel_rfl) (by kernel_rfl) (by kernel_rfl) (fun _ _ _ h => h) HSS.out (by first | (with_reducible rfl) | (simp [Region.wanted, yielded, Act.put]; done) | rfl) (fun W h => by go_simp) (some 49) rfl #[true, false, true, false, false, false, false, false, false] (by kernel_rfl) ?_
          simp only [Act.put, List.setIfInBounds_toArray, List.set_cons_zero, List.set_cons_succ]
          refine Held.wpAnyG_take (i := 3) (v := (.int .u64 a.f2)) rfl (by kernel_rfl) (by kernel_rfl) (by kernel_rfl) (fun _ _ _ h => h) HSS.out (by first | (with_reducible rfl) | (simp [Region.wanted, yielded, Act.put]; done) | rfl) (fun W h => by have hh_ := blk_cell h 2; simp at hh_; go_simp) (some 50) rfl #[true, false, true, true, false, false, false, false, false] (by kernel_rfl) ?_
          simp only [Act.put, List.setIfInBounds_toArray, List.set_cons_zero, List.set_cons_succ]
          refine Held.wpAnyG_one 1 (by kernel_rfl) rfl #[true, true, true, true, false, false, false, false, false] (by kernel_rfl) (fun K hK => ?_)
          go_wp2_with fail
          (with_reducible refine (vari_calls k _ g P e _ _ q _ HRd.out HLQ.out HP.out).mono ?_)
          rintro en w2 ⟨rfl, hr2, hg2⟩
          have n1_ := Aside0.mk (blk_grown HSS.out hg2 (fun x => HPG.out (Option.some.inj x)))
          have HR2 := Aside0.mk hr2
          have HG2 := Aside0.mk (HGd.out.trans hg2)
          clear HSS hr2 hg2 HRd HGd
          have HSS := n1_
          clear n1_
          go_wp2_with fail
          refine hK _ _ HSS.out ?_
          clear hK K
          refine Held.wpAnyG_take (i := 4) (v := (.bool false)) rfl (by kernel_rfl) (by kernel_rfl) (by kernel_rfl) (fun _ _ _ h => h) HSS.out (by first | (with_reducible rfl) | (simp [Region.wanted, yielded, Act.put]; done) | rfl) (fun W h => by go_simp) (some 51) rfl #[true, true, true, true, true, false, false, false, false] (by kernel_rfl) ?_
          simp only [Act.put, List.setIfInBounds_toArray, List.set_cons_zero, List.set_cons_succ]
          refine Held.wpAnyG_take (i := 5) (v := (.bool false)) rfl (by kernel_rfl) (by kernel_rfl) (by kernel_rfl) (fun _ _ _ h => h) HSS.out (by first | (with_reducible rfl) | (simp [Region.wanted, yielded, Act.put]; done) | rfl) (fun W h => by go_simp) (some 52) rfl #[true, true, true, true, true, true, false, false, false] (by kernel_rfl) ?_
          simp only [Act.put, List.setIfInBounds_toArray, List.set_cons_zero, List.set_cons_succ]
          refine Held.wpAnyG_skip (i := 6) rfl (by kernel_rfl) (by kernel_rfl) (by kernel_rfl) (fun _ _ _ h => h) HSS.out (by first | (with_reducible rfl) | (simp [Region.wanted, yielded, Act.put]; done) | rfl) (some 53) rfl #[true, true, true, true, true, true, true, false, false] (by kernel_rfl) ?_
          simp only [Act.put, List.setIfInBounds_toArray, List.set_cons_zero, List.set_cons_succ]
          refine Held.wpAnyG_take (i := 7) (v := (.bool false)) rfl (by kernel_rfl) (by kernel_rfl) (by kernel_rfl) (fun _ _ _ h => h) HSS.out (by first | (with_reducible rfl) | (simp [Region.wanted, yielded, Act.put]; done) | rfl) (fun W h => by go_simp) (some 54) rfl #[true, true, true, true, true, true, true, true, false] (by kernel_rfl) ?_
          simp only [Act.put, List.setIfInBounds_toArray, List.set_cons_zero, List.set_cons_succ]
          refine Held.wpAnyG_last 8 (by kernel_rfl) rfl (by kernel_rfl) (by kernel_rfl) ?_
          clear HSS
          cases huu : (uv == 7) with
          | true =>
            rw [huu] at hb1
            have HB1 := Aside0.mk hb1.symm
            clear hb1
            go_wp2_with fail
            (with_reducible refine (vari_calls k _ g P _ _ _ _ _ HR2.out HTL.out HU.out).mono ?_)
            rintro en w4 ⟨rfl, hr4, hg4⟩
            have HR4 := Aside0.mk hr4
            have HG4 := Aside0.mk (HG2.out.trans hg4)
            clear hr4 hg4 HR2 HG2
            have HR2 := HR4
            have HG2 := HG4
            clear HR4 HG4
            go_wp2_with fail
            go_roundw
            case measure => simp [intOf]; omega
            case rel => exact ⟨i + 1, false, _, _, by omega, rfl, by go_num, HR2, HG2, ⟨⟨HL1.out, by have h_ := HREST.out; (try rw [HB1.out] at h_); simpa using h_⟩⟩⟩
          | false =>
            rw [huu] at hb1
            have HB1 := Aside0.mk hb1.symm
            clear hb1
            go_wp2_with fail
            (with_reducible refine (vari_calls k _ g P _ _ _ _ _ HR2.out HTL.out HU.out).mono ?_)
            rintro en w4 ⟨rfl, hr4, hg4⟩
            have HR4 := Aside0.mk hr4
            have HG4 := Aside0.mk (HG2.out.trans hg4)
            clear hr4 hg4 HR2 HG2
            have HR2 := HR4
            have HG2 := HG4
            clear HR4 HG4
            go_wp2_with fail
            go_roundw
            case measure => simp [intOf]; omega
            case rel => exact ⟨i + 1, false, _, _, by omega, rfl, by go_num, HR2, HG2, ⟨⟨HL1.out, by have h_ := HREST.out; (try rw [HB1.out] at h_); simpa using h_⟩⟩⟩
      by_cases hw3 : a.f0 = 3
      · rw [if_neg hw0, if_neg hw1, if_neg hw2, if_pos hw3] at ht
        have hb0 : (a.f0 == 0) = false := beq_eq_false_iff_ne.mpr hw0
        have hb1 : (a.f0 == 1) = false := beq_eq_false_iff_ne.mpr hw1
        have hb2 : (a.f0 == 2) = false := beq_eq_false_iff_ne.mpr hw2
        have hb3 : (a.f0 == 3) = true := by rw [hw3]; rfl
        obtain ⟨⟨tv, te, tl⟩, hp, h2⟩ := Option.bind_eq_some_iff.1 ht
        dsimp only at h2
        obtain ⟨b2, hsm, h3⟩ := Option.bind_eq_some_iff.1 h2
        simp only [Option.some.injEq, Prod.mk.injEq] at h3
        obtain ⟨rfl, rfl, rfl⟩ := h3
        have HP := Aside0.mk hp
        have HSM := Aside0.mk hsm
        clear hp hsm ht h2
        cases b2 with
        | true =>
          go_upto_region 15 with (fail)
          have HRd := Aside0.mk (HRa.out.below (below_drew (Below.refl _ _)))
          have HGd := Aside0.mk (HGa.out.trans (drew_grownBy _ (some g)))
          have HSS := Aside0.mk (show (fun W1 : World => W1.heap[pb]? = some (.cells #[.int .i64 a.f0, .int .i64 a.f1, .int .u64 a.f2, .slice A3 a.f3.length c3] 35 (0, 0))) wa.drew from blk_drew HBK.out)
          clear HRa HGa HBK hk0 hk1 hk2 hk3
          refine Held.wp_region_G (S := (fun W1 => W1.heap[pb]? = some (.cells #[.int .i64 a.f0, .int .i64 a.f1, .int .u64 a.f2, .slice A3 a.f3.length c3] 35 (0, 0)))) (by kernel_rfl) ?_
          change Held.wpAnyG _ _ _ _ _ 9 _ _ _
          refine Held.wpAnyG_take (i := 0) (v := (.pointer (some ⟨g, 0, none⟩))) rfl (by kernel_rfl) (by kernel_rfl) (by kernel_rfl) (fun _ _ _ h => h) HSS.out (by first | (with_reducible rfl) | (simp [Region.wanted, yielded, Act.put]; done) | rfl) (fun W h => by go_simp) (some 63) rfl #[true, false, false, false, false, false, false, false, false] (by kernel_rfl) ?_
          simp only [Act.put, List.setIfInBounds_toArray, List.set_cons_zero, List.set_cons_succ]
          refine Held.wpAnyG_take (i := 2) (v := (.pointer (some ⟨pb, 3, none⟩))) rfl (by kernel_rfl) (by kernel_rfl) (by kernel_rfl) (fun _ _ _ h => h) HSS.out (by first | (with_reducible rfl) | (simp [Region.wanted, yielded, Act.put]; done) | rfl) (fun W h => by go_simp) (some 65) rfl #[true, false, true, false, false, false, false, false, false] (by kernel_rfl) ?_
          simp only [Act.put, List.setIfInBounds_toArray, List.set_cons_zero, List.set_cons_succ]
          refine Held.wpAnyG_take (i := 3) (v := (.slice A3 a.f3.length c3)) rfl (by kernel_rfl) (by kernel_rfl) (by kernel_rfl) (fun _ _ _ h => h) HSS.out (by first | (with_reducible rfl) | (simp [Region.wanted, yielded, Act.put]; done) | rfl) (fun W h => by have hh_ := blk_cell h 3; simp at hh_; go_simp) (some 66) rfl #[true, false, true, true, false, false, false, false, false] (by kernel_rfl) ?_
          simp only [Act.put, List.setIfInBounds_toArray, List.set_cons_zero, List.set_cons_succ]
          refine Held.wpAnyG_one 1 (by kernel_rfl) rfl #[true, true, true, true, false, false, false, false, false] (by kernel_rfl) (fun K hK => ?_)
          go_wp2_with fail
          (with_reducible refine (short_calls k _ g P e _ q _ _ HRd.out HLQ.out HP.out).mono ?_)
          rintro en w2 ⟨vr, rfl, hv, hr2, hg2⟩
          obtain ⟨Av, cv, rfl, hvc, hvC⟩ := row_at hv
          have HV := Aside0.mk hvC
          have HVC := Aside0.mk hvc
          clear hvc hvC hv
          have n1_ := Aside0.mk (blk_grown HSS.out hg2 (fun x => HPG.out (Option.some.inj x)))
          have HR2 := Aside0.mk hr2
          have HG2 := Aside0.mk (HGd.out.trans hg2)
          clear HSS hr2 hg2 HRd HGd
          have HSS := n1_
          clear n1_
          go_wp2_with fail
          refine hK _ _ HSS.out ?_
          clear hK K
          refine Held.wpAnyG_one 4 (by kernel_rfl) rfl #[true, true, true, true, true, false, false, false, false] (by kernel_rfl) (fun K hK => ?_)
          go_wp2_with fail
          (with_reducible refine (crosswayref00_SameBytes.calls k _ _ _ _ _ _ _ _ HV.out HVC.out (HC3.out _ HG2.out) HLC.out HSM.out).mono ?_)
          rintro en w3 ⟨rfl, hd3⟩
          have n1_ := Aside0.mk (blk_below HSS.out hd3.below)
          have HR3 := Aside0.mk (HR2.out.below hd3.below)
          have HG3 := Aside0.mk (HG2.out.trans (below_grownBy hd3.below _))
          clear HSS HR2 HG2 hd3 HV HVC
          have HSS := n1_
          clear n1_
          go_wp2_with fail
          refine hK _ _ HSS.out ?_
          clear hK K
          have HR2 := HR3
          have HG2 := HG3
          clear HR3 HG3
          refine Held.wpAnyG_take (i := 5) (v := (.bool true)) rfl (by kernel_rfl) (by kernel_rfl) (by kernel_rfl) (fun _ _ _ h => h) HSS.out (by first | (with_reducible rfl) | (simp [Region.wanted, yielded, Act.put]; done) | rfl) (fun W h => by go_simp) (some 68) rfl #[true, true, true, true, true, true, false, false, false] (by kernel_rfl) ?_
          simp only [Act.put, List.setIfInBounds_toArray, List.set_cons_zero, List.set_cons_succ]
          refine Held.wpAnyG_take (i := 6) (v := (.bool ok)) rfl (by kernel_rfl) (by kernel_rfl) (by kernel_rfl) (fun _ _ _ h => h) HSS.out (by first | (with_reducible rfl) | (simp [Region.wanted, yielded, Act.put]; done) | rfl) (fun W h => by go_simp) (some 69) rfl #[true, true, true, true, true, true, true, false, false] (by kernel_rfl) ?_
          simp only [Act.put, List.setIfInBounds_toArray, List.set_cons_zero, List.set_cons_succ]
          refine Held.wpAnyG_take (i := 7) (v := (.bool ok)) rfl (by kernel_rfl) (by kernel_rfl) (by kernel_rfl) (fun _ _ _ h => h) HSS.out (by first | (with_reducible rfl) | (simp [Region.wanted, yielded, Act.put]; done) | rfl) (fun W h => by go_simp) (some 70) rfl #[true, true, true, true, true, true, true, true, false] (by kernel_rfl) ?_
          simp only [Act.put, List.setIfInBounds_toArray, List.set_cons_zero, List.set_cons_succ]
          refine Held.wpAnyG_last 8 (by kernel_rfl) rfl (by kernel_rfl) (by kernel_rfl) ?_
          go_wp2_with fail
          clear HSS
          go_roundw
          case measure => simp [intOf]; omega
          case rel => exact ⟨i + 1, ok, _, _, by omega, rfl, by go_num, HR2, HG2, ⟨⟨HL1.out, by have h_ := HREST.out; (try rw [HB1.out] at h_); simpa using h_⟩⟩⟩
        | false =>
          go_upto_region 15 with (fail)
          have HRd := Aside0.mk (HRa.out.below (below_drew (Below.refl _ _)))
          have HGd := Aside0.mk (HGa.out.trans (drew_grownBy _ (some g)))
          have HSS := Aside0.mk (show (fun W1 : World => W1.heap[pb]? = some (.cells #[.int .i64 a.f0, .int .i64 a.f1, .int .u64 a.f2, .slice A3 a.f3.length c3] 35 (0, 0))) wa.drew from blk_drew HBK.out)
          clear HRa HGa HBK hk0 hk1 hk2 hk3
          refine Held.wp_region_G (S := (fun W1 => W1.heap[pb]? = some (.cells #[.int .i64 a.f0, .int .i64 a.f1, .int .u64 a.f2, .slice A3 a.f3.length c3] 35 (0, 0)))) (by kernel_rfl) ?_
          change Held.wpAnyG _ _ _ _ _ 9 _ _ _
          refine Held.wpAnyG_take (i := 0) (v := (.pointer (some ⟨g, 0, none⟩))) rfl (by kernel_rfl) (by kernel_rfl) (by kernel_rfl) (fun _ _ _ h => h) HSS.out (by first | (with_reducible rfl) | (simp [Region.wanted, yielded, Act.put]; done) | rfl) (fun W h => by go_simp) (some 63) rfl #[true, false, false, false, false, false, false, false, false] (by kernel_rfl) ?_
          simp only [Act.put, List.setIfInBounds_toArray, List.set_cons_zero, List.set_cons_succ]
          refine Held.wpAnyG_take (i := 2) (v := (.pointer (some ⟨pb, 3, none⟩))) rfl (by kernel_rfl) (by kernel_rfl) (by kernel_rfl) (fun _ _ _ h => h) HSS.out (by first | (with_reducible rfl) | (simp [Region.wanted, yielded, Act.put]; done) | rfl) (fun W h => by go_simp) (some 65) rfl #[true, false, true, false, false, false, false, false, false] (by kernel_rfl) ?_
          simp only [Act.put, List.setIfInBounds_toArray, List.set_cons_zero, List.set_cons_succ]
          refine Held.wpAnyG_take (i := 3) (v := (.slice A3 a.f3.length c3)) rfl (by kernel_rfl) (by kernel_rfl) (by kernel_rfl) (fun _ _ _ h => h) HSS.out (by first | (with_reducible rfl) | (simp [Region.wanted, yielded, Act.put]; done) | rfl) (fun W h => by have hh_ := blk_cell h 3; simp at hh_; go_simp) (some 66) rfl #[true, false, true, true, false, false, false, false, false] (by kernel_rfl) ?_
          simp only [Act.put, List.setIfInBounds_toArray, List.set_cons_zero, List.set_cons_succ]
          refine Held.wpAnyG_one 1 (by kernel_rfl) rfl #[true, true, true, true, false, false, false, false, false] (by kernel_rfl) (fun K hK => ?_)
          go_wp2_with fail
          (with_reducible refine (short_calls k _ g P e _ q _ _ HRd.out HLQ.out HP.out).mono ?_)
          rintro en w2 ⟨vr, rfl, hv, hr2, hg2⟩
          obtain ⟨Av, cv, rfl, hvc, hvC⟩ := row_at hv
          have HV := Aside0.mk hvC
          have HVC := Aside0.mk hvc
          clear hvc hvC hv
          have n1_ := Aside0.mk (blk_grown HSS.out hg2 (fun x => HPG.out (Option.some.inj x)))
          have HR2 := Aside0.mk hr2
          have HG2 := Aside0.mk (HGd.out.trans hg2)
          clear HSS hr2 hg2 HRd HGd
          have HSS := n1_
          clear n1_
          go_wp2_with fail
          refine hK _ _ HSS.out ?_
          clear hK K
          refine Held.wpAnyG_one 4 (by kernel_rfl) rfl #[true, true, true, true, true, false, false, false, false] (by kernel_rfl) (fun K hK => ?_)
          go_wp2_with fail
          (with_reducible refine (crosswayref00_SameBytes.calls k _ _ _ _ _ _ _ _ HV.out HVC.out (HC3.out _ HG2.out) HLC.out HSM.out).mono ?_)
          rintro en w3 ⟨rfl, hd3⟩
          have n1_ := Aside0.mk (blk_below HSS.out hd3.below)
          have HR3 := Aside0.mk (HR2.out.below hd3.below)
          have HG3 := Aside0.mk (HG2.out.trans (below_grownBy hd3.below _))
          clear HSS HR2 HG2 hd3 HV HVC
          have HSS := n1_
          clear n1_
          go_wp2_with fail
          refine hK _ _ HSS.out ?_
          clear hK K
          have HR2 := HR3
          have HG2 := HG3
          clear HR3 HG3
          refine Held.wpAnyG_take (i := 5) (v := (.bool false)) rfl (by kernel_rfl) (by kernel_rfl) (by kernel_rfl) (fun _ _ _ h => h) HSS.out (by first | (with_reducible rfl) | (simp [Region.wanted, yielded, Act.put]; done) | rfl) (fun W h => by go_simp) (some 68) rfl #[true, true, true, true, true, true, false, false, false] (by kernel_rfl) ?_
          simp only [Act.put, List.setIfInBounds_toArray, List.set_cons_zero, List.set_cons_succ]
          refine Held.wpAnyG_skip (i := 6) rfl (by kernel_rfl) (by kernel_rfl) (by kernel_rfl) (fun _ _ _ h => h) HSS.out (by first | (with_reducible rfl) | (simp [Region.wanted, yielded, Act.put]; done) | rfl) (some 69) rfl #[true, true, true, true, true, true, true, false, false] (by kernel_rfl) ?_
          simp only [Act.put, List.setIfInBounds_toArray, List.set_cons_zero, List.set_cons_succ]
          refine Held.wpAnyG_take (i := 7) (v := (.bool false)) rfl (by kernel_rfl) (by kernel_rfl) (by kernel_rfl) (fun _ _ _ h => h) HSS.out (by first | (with_reducible rfl) | (simp [Region.wanted, yielded, Act.put]; done) | rfl) (fun W h => by go_simp) (some 70) rfl #[true, true, true, true, true, true, true, true, false] (by kernel_rfl) ?_
          simp only [Act.put, List.setIfInBounds_toArray, List.set_cons_zero, List.set_cons_succ]
          refine Held.wpAnyG_last 8 (by kernel_rfl) rfl (by kernel_rfl) (by kernel_rfl) ?_
          go_wp2_with fail
          clear HSS
          go_roundw
          case measure => simp [intOf]; omega
          case rel => exact ⟨i + 1, false, _, _, by omega, rfl, by go_num, HR2, HG2, ⟨⟨HL1.out, by have h_ := HREST.out; (try rw [HB1.out] at h_); simpa using h_⟩⟩⟩
      by_cases hw4 : a.f0 = 4
      · rw [if_neg hw0, if_neg hw1, if_neg hw2, if_neg hw3, if_pos hw4] at ht
        have hb0 : (a.f0 == 0) = false := beq_eq_false_iff_ne.mpr hw0
        have hb1 : (a.f0 == 1) = false := beq_eq_false_iff_ne.mpr hw1
        have hb2 : (a.f0 == 2) = false := beq_eq_false_iff_ne.mpr hw2
        have hb3 : (a.f0 == 3) = false := beq_eq_false_iff_ne.mpr hw3
        have hb4 : (a.f0 == 4) = true := by rw [hw4]; rfl
        obtain ⟨⟨tv, te, tl⟩, hp, h2⟩ := Option.bind_eq_some_iff.1 ht
        dsimp only at h2
        obtain ⟨b2, hsm, h3⟩ := Option.bind_eq_some_iff.1 h2
        simp only [Option.some.injEq, Prod.mk.injEq] at h3
        obtain ⟨rfl, rfl, rfl⟩ := h3
        have HP := Aside0.mk hp
        have HSM := Aside0.mk hsm
        clear hp hsm ht h2
        cases b2 with
        | true =>
          go_upto_region 17 with (fail)
          have HRd := Aside0.mk (HRa.out.below (below_drew (Below.refl _ _)))
          have HGd := Aside0.mk (HGa.out.trans (drew_grownBy _ (some g)))
          have HSS := Aside0.mk (show (fun W1 : World => W1.heap[pb]? = some (.cells #[.int .i64 a.f0, .int .i64 a.f1, .int .u64 a.f2, .slice A3 a.f3.length c3] 35 (0, 0))) wa.drew from blk_drew HBK.out)
          clear HRa HGa HBK hk0 hk1 hk2 hk3
          refine Held.wp_region_G (S := (fun W1 => W1.heap[pb]? = some (.cells #[.int .i64 a.f0, .int .i64 a.f1, .int .u64 a.f2, .slice A3 a.f3.length c3] 35 (0, 0)))) (by kernel_rfl) ?_
          change Held.wpAnyG _ _ _ _ _ 9 _ _ _
          refine Held.wpAnyG_take (i := 0) (v := (.pointer (some ⟨g, 0, none⟩))) rfl (by kernel_rfl) (by kernel_rfl) (by kernel_rfl) (fun _ _ _ h => h) HSS.out (by first | (with_reducible rfl) | (simp [Region.wanted, yielded, Act.put]; done) | rfl) (fun W h => by go_simp) (some 73) rfl #[true, false, false, false, false, false, false, false, false] (by kernel_rfl) ?_
          simp only [Act.put, List.setIfInBounds_toArray, List.set_cons_zero, List.set_cons_succ]
          refine Held.wpAnyG_take (i := 2) (v := (.pointer (some ⟨pb, 3, none⟩))) rfl (by kernel_rfl) (by kernel_rfl) (by kernel_rfl) (fun _ _ _ h => h) HSS.out (by first | (with_reducible rfl) | (simp [Region.wanted, yielded, Act.put]; done) | rfl) (fun W h => by go_simp) (some 75) rfl #[true, false, true, false, false, false, false, false, false] (by kernel_rfl) ?_
          simp only [Act.put, List.setIfInBounds_toArray, List.set_cons_zero, List.set_cons_succ]
          refine Held.wpAnyG_take (i := 3) (v := (.slice A3 a.f3.length c3)) rfl (by kernel_rfl) (by kernel_rfl) (by kernel_rfl) (fun _ _ _ h => h) HSS.out (by first | (with_reducible rfl) | (simp [Region.wanted, yielded, Act.put]; done) | rfl) (fun W h => by have hh_ := blk_cell h 3; simp at hh_; go_simp) (some 76) rfl #[true, false, true, true, false, false, false, false, false] (by kernel_rfl) ?_
          simp only [Act.put, List.setIfInBounds_toArray, List.set_cons_zero, List.set_cons_succ]
          refine Held.wpAnyG_one 1 (by kernel_rfl) rfl #[true, true, true, true, false, false, false, false, false] (by kernel_rfl) (fun K hK => ?_)
          go_wp2_with fail
          (with_reducible refine (long_calls k _ g P e _ q _ _ HRd.out HLQ.out HP.out).mono ?_)
          rintro en w2 ⟨vr, rfl, hv, hr2, hg2⟩
          obtain ⟨Av, cv, rfl, hvc, hvC⟩ := row_at hv
          have HV := Aside0.mk hvC
          have HVC := Aside0.mk hvc
          clear hvc hvC hv
          have n1_ := Aside0.mk (blk_grown HSS.out hg2 (fun x => HPG.out (Option.some.inj x)))
          have HR2 := Aside0.mk hr2
          have HG2 := Aside0.mk (HGd.out.trans hg2)
          clear HSS hr2 hg2 HRd HGd
          have HSS := n1_
          clear n1_
          go_wp2_with fail
          refine hK _ _ HSS.out ?_
          clear hK K
          refine Held.wpAnyG_one 4 (by kernel_rfl) rfl #[true, true, true, true, true, false, false, false, false] (by kernel_rfl) (fun K hK => ?_)
          go_wp2_with fail
          (with_reducible refine (crosswayref00_SameBytes.calls k _ _ _ _ _ _ _ _ HV.out HVC.out (HC3.out _ HG2.out) HLC.out HSM.out).mono ?_)
          rintro en w3 ⟨rfl, hd3⟩
          have n1_ := Aside0.mk (blk_below HSS.out hd3.below)
          have HR3 := Aside0.mk (HR2.out.below hd3.below)
          have HG3 := Aside0.mk (HG2.out.trans (below_grownBy hd3.below _))
          clear HSS HR2 HG2 hd3 HV HVC
          have HSS := n1_
          clear n1_
          go_wp2_with fail
          refine hK _ _ HSS.out ?_
          clear hK K
          have HR2 := HR3
          have HG2 := HG3
          clear HR3 HG3
          refine Held.wpAnyG_take (i := 5) (v := (.bool true)) rfl (by kernel_rfl) (by kernel_rfl) (by kernel_rfl) (fun _ _ _ h => h) HSS.out (by first | (with_reducible rfl) | (simp [Region.wanted, yielded, Act.put]; done) | rfl) (fun W h => by go_simp) (some 78) rfl #[true, true, true, true, true, true, false, false, false] (by kernel_rfl) ?_
          simp only [Act.put, List.setIfInBounds_toArray, List.set_cons_zero, List.set_cons_succ]
          refine Held.wpAnyG_take (i := 6) (v := (.bool ok)) rfl (by kernel_rfl) (by kernel_rfl) (by kernel_rfl) (fun _ _ _ h => h) HSS.out (by first | (with_reducible rfl) | (simp [Region.wanted, yielded, Act.put]; done) | rfl) (fun W h => by go_simp) (some 79) rfl #[true, true, true, true, true, true, true, false, false] (by kernel_rfl) ?_
          simp only [Act.put, List.setIfInBounds_toArray, List.set_cons_zero, List.set_cons_succ]
          refine Held.wpAnyG_take (i := 7) (v := (.bool ok)) rfl (by kernel_rfl) (by kernel_rfl) (by kernel_rfl) (fun _ _ _ h => h) HSS.out (by first | (with_reducible rfl) | (simp [Region.wanted, yielded, Act.put]; done) | rfl) (fun W h => by go_simp) (some 80) rfl #[true, true, true, true, true, true, true, true, false] (by kernel_rfl) ?_
          simp only [Act.put, List.setIfInBounds_toArray, List.set_cons_zero, List.set_cons_succ]
          refine Held.wpAnyG_last 8 (by kernel_rfl) rfl (by kernel_rfl) (by kernel_rfl) ?_
          go_wp2_with fail
          clear HSS
          go_roundw
          case measure => simp [intOf]; omega
          case rel => exact ⟨i + 1, ok, _, _, by omega, rfl, by go_num, HR2, HG2, ⟨⟨HL1.out, by have h_ := HREST.out; (try rw [HB1.out] at h_); simpa using h_⟩⟩⟩
        | false =>
          go_upto_region 17 with (fail)
          have HRd := Aside0.mk (HRa.out.below (below_drew (Below.refl _ _)))
          have HGd := Aside0.mk (HGa.out.trans (drew_grownBy _ (some g)))
          have HSS := Aside0.mk (show (fun W1 : World => W1.heap[pb]? = some (.cells #[.int .i64 a.f0, .int .i64 a.f1, .int .u64 a.f2, .slice A3 a.f3.length c3] 35 (0, 0))) wa.drew from blk_drew HBK.out)
          clear HRa HGa HBK hk0 hk1 hk2 hk3
          refine Held.wp_region_G (S := (fun W1 => W1.heap[pb]? = some (.cells #[.int .i64 a.f0, .int .i64 a.f1, .int .u64 a.f2, .slice A3 a.f3.length c3] 35 (0, 0)))) (by kernel_rfl) ?_
          change Held.wpAnyG _ _ _ _ _ 9 _ _ _
          refine Held.wpAnyG_take (i := 0) (v := (.pointer (some ⟨g, 0, none⟩))) rfl (by kernel_rfl) (by kernel_rfl) (by kernel_rfl) (fun _ _ _ h => h) HSS.out (by first | (with_reducible rfl) | (simp [Region.wanted, yielded, Act.put]; done) | rfl) (fun W h => by go_simp) (some 73) rfl #[true, false, false, false, false, false, false, false, false] (by kernel_rfl) ?_
          simp only [Act.put, List.setIfInBounds_toArray, List.set_cons_zero, List.set_cons_succ]
          refine Held.wpAnyG_take (i := 2) (v := (.pointer (some ⟨pb, 3, none⟩))) rfl (by kernel_rfl) (by kernel_rfl) (by kernel_rfl) (fun _ _ _ h => h) HSS.out (by first | (with_reducible rfl) | (simp [Region.wanted, yielded, Act.put]; done) | rfl) (fun W h => by go_simp) (some 75) rfl #[true, false, true, false, false, false, false, false, false] (by kernel_rfl) ?_
          simp only [Act.put, List.setIfInBounds_toArray, List.set_cons_zero, List.set_cons_succ]
          refine Held.wpAnyG_take (i := 3) (v := (.slice A3 a.f3.length c3)) rfl (by kernel_rfl) (by kernel_rfl) (by kernel_rfl) (fun _ _ _ h => h) HSS.out (by first | (with_reducible rfl) | (simp [Region.wanted, yielded, Act.put]; done) | rfl) (fun W h => by have hh_ := blk_cell h 3; simp at hh_; go_simp) (some 76) rfl #[true, false, true, true, false, false, false, false, false] (by kernel_rfl) ?_
          simp only [Act.put, List.setIfInBounds_toArray, List.set_cons_zero, List.set_cons_succ]
          refine Held.wpAnyG_one 1 (by kernel_rfl) rfl #[true, true, true, true, false, false, false, false, false] (by kernel_rfl) (fun K hK => ?_)
          go_wp2_with fail
          (with_reducible refine (long_calls k _ g P e _ q _ _ HRd.out HLQ.out HP.out).mono ?_)
          rintro en w2 ⟨vr, rfl, hv, hr2, hg2⟩
          obtain ⟨Av, cv, rfl, hvc, hvC⟩ := row_at hv
          have HV := Aside0.mk hvC
          have HVC := Aside0.mk hvc
          clear hvc hvC hv
          have n1_ := Aside0.mk (blk_grown HSS.out hg2 (fun x => HPG.out (Option.some.inj x)))
          have HR2 := Aside0.mk hr2
          have HG2 := Aside0.mk (HGd.out.trans hg2)
          clear HSS hr2 hg2 HRd HGd
          have HSS := n1_
          clear n1_
          go_wp2_with fail
          refine hK _ _ HSS.out ?_
          clear hK K
          refine Held.wpAnyG_one 4 (by kernel_rfl) rfl #[true, true, true, true, true, false, false, false, false] (by kernel_rfl) (fun K hK => ?_)
          go_wp2_with fail
          (with_reducible refine (crosswayref00_SameBytes.calls k _ _ _ _ _ _ _ _ HV.out HVC.out (HC3.out _ HG2.out) HLC.out HSM.out).mono ?_)
          rintro en w3 ⟨rfl, hd3⟩
          have n1_ := Aside0.mk (blk_below HSS.out hd3.below)
          have HR3 := Aside0.mk (HR2.out.below hd3.below)
          have HG3 := Aside0.mk (HG2.out.trans (below_grownBy hd3.below _))
          clear HSS HR2 HG2 hd3 HV HVC
          have HSS := n1_
          clear n1_
          go_wp2_with fail
          refine hK _ _ HSS.out ?_
          clear hK K
          have HR2 := HR3
          have HG2 := HG3
          clear HR3 HG3
          refine Held.wpAnyG_take (i := 5) (v := (.bool false)) rfl (by kernel_rfl) (by kernel_rfl) (by kernel_rfl) (fun _ _ _ h => h) HSS.out (by first | (with_reducible rfl) | (simp [Region.wanted, yielded, Act.put]; done) | rfl) (fun W h => by go_simp) (some 78) rfl #[true, true, true, true, true, true, false, false, false] (by kernel_rfl) ?_
          simp only [Act.put, List.setIfInBounds_toArray, List.set_cons_zero, List.set_cons_succ]
          refine Held.wpAnyG_skip (i := 6) rfl (by kernel_rfl) (by kernel_rfl) (by kernel_rfl) (fun _ _ _ h => h) HSS.out (by first | (with_reducible rfl) | (simp [Region.wanted, yielded, Act.put]; done) | rfl) (some 79) rfl #[true, true, true, true, true, true, true, false, false] (by kernel_rfl) ?_
          simp only [Act.put, List.setIfInBounds_toArray, List.set_cons_zero, List.set_cons_succ]
          refine Held.wpAnyG_take (i := 7) (v := (.bool false)) rfl (by kernel_rfl) (by kernel_rfl) (by kernel_rfl) (fun _ _ _ h => h) HSS.out (by first | (with_reducible rfl) | (simp [Region.wanted, yielded, Act.put]; done) | rfl) (fun W h => by go_simp) (some 80) rfl #[true, true, true, true, true, true, true, true, false] (by kernel_rfl) ?_
          simp only [Act.put, List.setIfInBounds_toArray, List.set_cons_zero, List.set_cons_succ]
          refine Held.wpAnyG_last 8 (by kernel_rfl) rfl (by kernel_rfl) (by kernel_rfl) ?_
          go_wp2_with fail
          clear HSS
          go_roundw
          case measure => simp [intOf]; omega
          case rel => exact ⟨i + 1, false, _, _, by omega, rfl, by go_num, HR2, HG2, ⟨⟨HL1.out, by have h_ := HREST.out; (try rw [HB1.out] at h_); simpa using h_⟩⟩⟩
      rw [if_neg hw0, if_neg hw1, if_neg hw2, if_neg hw3, if_neg hw4] at ht
      simp only [Option.some.injEq, Prod.mk.injEq] at ht
      obtain ⟨rfl, rfl, rfl⟩ := ht
      have hb0 : (a.f0 == 0) = false := beq_eq_false_iff_ne.mpr hw0
      have hb1 : (a.f0 == 1) = false := beq_eq_false_iff_ne.mpr hw1
      have hb2 : (a.f0 == 2) = false := beq_eq_false_iff_ne.mpr hw2
      have hb3 : (a.f0 == 3) = false := beq_eq_false_iff_ne.mpr hw3
      have hb4 : (a.f0 == 4) = false := beq_eq_false_iff_ne.mpr hw4
      go_wp2_with fail
      have HR2 := HRa
      have HG2 := HGa
      go_roundw
      case measure => simp [intOf]; omega
      case rel => exact ⟨i + 1, ok, _, _, by omega, rfl, by go_num, HR2, HG2, ⟨⟨HL1.out, by have h_ := HREST.out; (try rw [HB1.out] at h_); simpa using h_⟩⟩⟩
    · obtain rfl : i = ps.length := by omega
      have hfin := HRUN.out.2
      rw [List.drop_length] at hfin
      have hfin2 : some (ok && (e == 0), e, q) = some (b, e2, m) := hfin
      simp only [Option.some.injEq, Prod.mk.injEq] at hfin2
      obtain ⟨hb, rfl, rfl⟩ := hfin2
      obtain ⟨Ag, cg, hbg, _⟩ := HR.out.opens
      have HBG := Aside0.mk hbg
      clear hlt hi hfin hbg HRUN
      cases ok with
      | false =>
        rw [Bool.false_and] at hb
        subst hb
        go_wp2_with fail
        go_ret
        exact ⟨rfl, HR.out, HG.out⟩
      | true =>
        rw [Bool.true_and] at hb
        subst hb
        go_wp2_with fail
        (with_reducible refine (err_calls _ g e _ HBG.out).mono ?_)
        rintro en wz ⟨rfl, rfl⟩
        go_wp2_with fail
        go_ret
        exact ⟨rfl, HR.out, HG.out⟩
end Go.Proofs.Ytmhmmmkpijbbiaa.M
