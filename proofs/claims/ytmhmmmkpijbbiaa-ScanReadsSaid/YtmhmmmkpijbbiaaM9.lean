/- Contracts of the Go functions that the laws reach, each as a plain Lean function: written by xprint.py, a program of this repo. -/
import Derived.Test.YtmhmmmkpijbbiaaScanAlive
import Derived.Test.YtmhmmmkpijbbiaaM0
import Derived.Test.YtmhmmmkpijbbiaaM1
import Derived.Test.YtmhmmmkpijbbiaaM2
import Derived.Test.YtmhmmmkpijbbiaaM6
namespace Go.Proofs.Ytmhmmmkpijbbiaa.M
open Go.RowKit Go.Proofs.YtmhmmmkpijbbiaaW.PrintWords Go.Proofs.YtmhmmmkpijbbiaaW.PrintLast Go.Proofs.YtmhmmmkpijbbiaaW.PrintMore Go.Proofs.Ytmhmmmkpijbbiaa.X
attribute [local go_sem] max2_int min2_int max_two min_two max_three min_three max_four min_four   -- for this text's walks alone
set_option linter.unusedVariables false
set_option linter.unusedSimpArgs false

/-! ### crosswaylaw09_ScanReads: function 4, typed by hand -/
-- IMPORT Derived.Test.YtmhmmmkpijbbiaaScanAlive
def crosswaylaw09_ScanReads.run (k : Nat) : List S47 → Int → List Int → Bool
  | [], _, _ => true
  | a :: rest, e, l => match askf k e l e l a.f0 a.f1 with
    | some (b, p, q) => b && decide (p = q) && decide (p.2.length ≤ l.length) && crosswaylaw09_ScanReads.run k rest p.1 p.2
    | none => false
theorem crosswaylaw09_ScanReads.run_cons {k : Nat} {a : S47} {rest : List S47} {e : Int} {l : List Int} (h : crosswaylaw09_ScanReads.run k (a :: rest) e l = true) : ∃ e2 m, askf k e l e l a.f0 a.f1 = some (true, (e2, m), (e2, m)) ∧ m.length ≤ l.length ∧ crosswaylaw09_ScanReads.run k rest e2 m = true := by
  unfold crosswaylaw09_ScanReads.run at h
  split at h
  · next b p q hq =>
    simp only [Bool.and_eq_true, decide_eq_true_eq] at h
    obtain ⟨⟨⟨rfl, rfl⟩, h3⟩, h4⟩ := h
    exact ⟨p.1, p.2, hq, h3, h4⟩
  · cases h
def crosswaylaw09_ScanReads.f (k : Nat) (l0 : List Int) (l1 : List S47) : Option Bool :=
  if 3000 < l0.length then some true
  else if 100 < l1.length then some true
  else if crosswayref00_CopyBytes.f l0 = some l0 ∧ crosswayref00_SameBytes.f k l0 l0 = some true ∧ crosswaylaw09_ScanReads.run k l1 0 l0 = true then some true else none
theorem crosswaylaw09_ScanReads.elem {w : World} {A : Option Addr} {n : Nat} {xs : List S47} (h : Kd.C k47 w A n xs) (i : Nat) (h1 : i < n) (z : S47) : ∃ ad : Addr, A = some ad ∧ (loadVar 47 (ad.add (i * 2))).run Try.prog w = .ok (.agg #[.int .i64 (xs.getD i z).f0, .int .i64 (xs.getD i z).f1]) w := by
  obtain ⟨ad, c, e, hl, hK, hc0⟩ := Kd.C_get h z (i : Int) (by omega) (by omega)
  rw [Int.toNat_natCast] at hK hc0
  obtain rfl := k47_open hK
  refine ⟨ad, e, ?_⟩
  have hcl : (loadCells (ad.add (i * 2)) 2).run Try.prog w = .ok #[.int .i64 (xs.getD i z).f0, .int .i64 (xs.getD i z).f1] w :=
    run_loadCells_list (P := Try.prog) w (ad.add (i * 2)) [.int .i64 (xs.getD i z).f0, .int .i64 (xs.getD i z).f1] (fun j v hv => by rw [Addr.add_add]; exact hc0 j v hv)
  obtain ⟨ti, hti⟩ := Option.isSome_iff_exists.1 (by kernel_rfl : (Try.prog.info? 47).isSome = true)
  have hsz : ti.size = 2 := by
    have h2 : (Try.prog.info? 47).map (·.size) = some 2 := by kernel_rfl
    rw [hti] at h2
    exact Option.some.inj h2
  have hagg : (isAgg 47).run Try.prog w = .ok true w := by
    unfold isAgg
    rw [Sem.run_bind, run_underlying Try.underlying47 w]
    rfl
  simp [loadVar, Sem.run_bind, hagg, sizeOf, typeInfo, hti, hsz, hcl]
set_option maxRecDepth 100000 in
set_option maxHeartbeats 4000000 in
theorem crosswaylaw09_ScanReads.calls (k : Nat) (A0 : Option Addr) (c0 : Nat) (l0 : List Int) (A1 : Option Addr) (c1 : Nat) (l1 : List S47) (r : Bool) (w : World) (hr0 : Kd.C (Kd.int .u8) w A0 l0.length l0) (hc0 : l0.length ≤ c0) (hr1 : Kd.C k47 w A1 l1.length l1) (hc1 : l1.length ≤ c1) (h : crosswaylaw09_ScanReads.f k l0 l1 = some r) :
    Calls Try.prog 4 #[.slice A0 l0.length c0, .slice A1 l1.length c1] w fun e w' => e = .returned (.bool r) ∧ Below w.heap.size w w' := by
  unfold crosswaylaw09_ScanReads.f at h
  have HR0 := Aside0.mk hr0
  have HR1 := Aside0.mk hr1
  have HC0 := Aside0.mk hc0
  have HC1 := Aside0.mk hc1
  clear hr0 hr1 hc0 hc1
  by_cases q0 : 3000 < l0.length
  · rw [if_pos q0] at h
    cases h
    go_enter Try.func4, Try.ntmps4
    go_wp2_with fail
    (with_reducible refine (alive_calls _).mono ?_)
    rintro e w1 ⟨rfl, hb1⟩
    go_wp2_with fail
    go_ret
    exact ⟨rfl, hb1⟩
  rw [if_neg q0] at h
  have q0' : l0.length ≤ 3000 := by omega
  clear q0
  by_cases q1 : 100 < l1.length
  · rw [if_pos q1] at h
    cases h
    go_enter Try.func4, Try.ntmps4
    go_wp2_with fail
    (with_reducible refine (alive_calls _).mono ?_)
    rintro e w1 ⟨rfl, hb1⟩
    go_wp2_with fail
    go_ret
    exact ⟨rfl, hb1⟩
  rw [if_neg q1] at h
  have q1' : l1.length ≤ 100 := by omega
  clear q1
  by_cases hcs : crosswayref00_CopyBytes.f l0 = some l0 ∧ crosswayref00_SameBytes.f k l0 l0 = some true ∧ crosswaylaw09_ScanReads.run k l1 0 l0 = true
  rotate_left
  · rw [if_neg hcs] at h; cases h
  rw [if_pos hcs] at h
  cases h
  have CPY := Aside0.mk hcs.1
  have SME := Aside0.mk hcs.2.1
  have RUN := Aside0.mk hcs.2.2
  have Q0 := Aside0.mk q0'
  clear hcs
  go_enter Try.func4, Try.ntmps4
  go_wp2_with fail
  (with_reducible refine (alive_calls _).mono ?_)
  rintro e w1 ⟨rfl, hb1⟩
  have HB1 := Aside0.mk hb1
  clear hb1
  go_wp2_with fail
  (with_reducible refine (crosswayref00_CopyBytes.calls _ _ _ _ _ (Kd.C_below HR0.out HB1.out) HC0.out CPY.out).mono ?_)
  rintro e w2 ⟨vo, rfl, hro, hb2⟩
  obtain ⟨Ao, co, rfl, hco, _⟩ := row_at hro
  obtain ⟨OW, hOW⟩ : ∃ OW : Nat → Prop, OW = (fun k => some k = (Value.slice Ao l0.length co).ownBlock) := ⟨_, rfl⟩
  have HFO := Aside0.mk (show Kd.F (Kd.int .u8) w2 OW Ao l0.length l0 by rw [hOW]; exact Kd.R_F (Kd.R_tight rfl hro))
  have HOW := Aside0.mk (show ∀ i, OW i → i < w2.heap.size by rw [hOW]; exact fun i hi => Kd.R_lt hro i hi.symm)
  have HCO := Aside0.mk hco
  have HB2 := Aside0.mk (HB1.out.trans (hb2.mono HB1.out.size))
  clear hb2 hro hco hOW HB1
  go_wp2_with fail
  (with_reducible refine (read_calls _ Ao _ co).mono ?_)
  rintro e w3 ⟨rfl, hw3⟩
  obtain ⟨g, hg⟩ : ∃ g, g = w2.heap.size := ⟨_, rfl⟩
  rw [← hg]
  have HR3 := Aside0.mk (show RdAt w3 g OW 0 l0 by rw [hw3, hg]; exact ⟨Ao, co, heap_alloc_new w2 _, HCO.out, Kd.F_alloc HFO.out _, fun h => by have := HOW.out _ h; omega⟩)
  have HB3 := Aside0.mk (show Below w.heap.size w w3 by rw [hw3]; exact HB2.out.alloc HB2.out.size _)
  have HFO3 := Aside0.mk (show Kd.F (Kd.int .u8) w3 OW Ao l0.length l0 by rw [hw3]; exact Kd.F_alloc HFO.out _)
  have HG3 := Aside0.mk (show w3.heap.size = g + 1 by rw [hw3, hg]; simp)
  have HGW := Aside0.mk (show w.heap.size ≤ g by rw [hg]; exact HB2.out.size)
  have HOG := Aside0.mk (show ∀ i, OW i → i < g by rw [hg]; exact HOW.out)
  clear hw3 hg HFO HB2 HOW
  go_wp2_with fail
  obtain ⟨s, hs⟩ : ∃ s, s = w3.heap.size := ⟨_, rfl⟩
  obtain ⟨w4, hw4⟩ : ∃ w4, w4 = w3.alloc (.cells #[.slice A0 l0.length c0, .int .i64 0] 44) := ⟨_, rfl⟩
  (try rw [← hw4])
  rw [← hs]
  have hbe : Below w3.heap.size w3 w4 := by rw [hw4]; exact below_alloc (Below.refl _ _) _
  have HR4 := Aside0.mk (HR3.out.below hbe)
  have HFO4 := Aside0.mk (Kd.F_below HFO3.out hbe)
  have HB4 := Aside0.mk (HB3.out.trans (hbe.mono HB3.out.size))
  have HS4 := Aside0.mk (show RfAt w4 s (fun k => k < w.heap.size) 0 l0 by rw [hs, hw4]; exact ⟨A0, c0, heap_alloc_new w3 _, HC0.out, Kd.F_alloc (Kd.F_below (Kd.C_F (Kd.heap_int .u8) HR0.out) HB3.out) _, fun h => by have := HB3.out.size; omega⟩)
  have HGS := Aside0.mk (show g ≠ s by rw [hs, HG3.out]; omega)
  have HSW := Aside0.mk (show w.heap.size ≤ s by rw [hs]; exact HB3.out.size)
  have HOS := Aside0.mk (show ¬ OW s from fun h => by have := HOG.out _ h; have := HG3.out; omega)
  have HPG := Aside0.mk (show ¬ (g < w.heap.size) by have := HGW.out; omega)
  clear hw4 hbe hs HR3 HFO3 HB3 HG3
  go_loopw [8] (fun v8 wr => ∃ (i : Nat) (e : Int) (l : List Int), i ≤ l1.length ∧ v8 = .int .i64 i ∧ Aside0 (RdAt wr g OW e l) ∧ Aside0 (RfAt wr s (fun k => k < w.heap.size) e l) ∧ Aside0 (Kd.F (Kd.int .u8) wr OW Ao l0.length l0) ∧ Aside0 (Below w.heap.size w wr) ∧ Aside0 (l.length ≤ l0.length ∧ crosswaylaw09_ScanReads.run k (l1.drop i) e l = true))
    (fun v8 _ => l1.length - (intOf v8).toNat)
  case atStart => exact ⟨0, 0, l0, Nat.zero_le _, rfl, HR4, HS4, HFO4, HB4, ⟨⟨Nat.le_refl _, RUN.out⟩⟩⟩
  case round =>
    clear HR4 HS4 HFO4 HB4
    obtain ⟨i, e, l, hi, rfl, HR, HS, HF, HB, HRUN⟩ := hrel
    by_cases hlt : i < l1.length
    · have hdrop : l1.drop i = l1.getD i ⟨0, 0⟩ :: l1.drop (i + 1) := by
        rw [List.drop_eq_getElem_cons hlt, List.getD_eq_getElem?_getD, List.getElem?_eq_getElem hlt]; rfl
      have hrun := HRUN.out.2
      rw [hdrop] at hrun
      obtain ⟨e2, m, hask, hml, hrest⟩ := crosswaylaw09_ScanReads.run_cons hrun
      obtain ⟨a, ha⟩ : ∃ a, a = l1.getD i ⟨0, 0⟩ := ⟨_, rfl⟩
      rw [← ha] at hask
      obtain ⟨ad, had, _⟩ := crosswaylaw09_ScanReads.elem HR1.out i hlt ⟨0, 0⟩
      subst had
      have HLD := Aside0.mk (show ∀ W1 : World, Below w.heap.size w W1 → (loadVar 47 (ad.add (i * 2))).run Try.prog W1 = .ok (.agg #[.int .i64 a.f0, .int .i64 a.f1]) W1 from fun W1 hb => by
        obtain ⟨ad', had', h⟩ := crosswaylaw09_ScanReads.elem (Kd.C_below HR1.out hb) i hlt ⟨0, 0⟩
        cases had'
        rw [ha]
        exact h)
      have HASK := Aside0.mk hask
      have HREST := Aside0.mk hrest
      have HML := Aside0.mk (show m.length ≤ l0.length from Nat.le_trans hml HRUN.out.1)
      have HLL := Aside0.mk (show l.length < 140737488355328 by have := HRUN.out.1; have := Q0.out; omega)
      have p1 : ((0 : Int) ≤ (i : Int)) = True := eq_true (by omega)
      have p2 : ((i : Int) < (l1.length : Int)) = True := eq_true (by omega)
      clear hask hrest hml hrun hdrop ha HRUN
      go_upto_region 13 with (fail)
      have HRd := Aside0.mk (HR.out.below (below_drew (Below.refl _ _)))
      have HSd := Aside0.mk (HS.out.below (below_drew (Below.refl _ _)))
      have HFd := Aside0.mk (Kd.F_drew HF.out)
      have HBd := Aside0.mk (below_drew HB.out)
      clear HR HS HF HB
      have HSS := HBd
      refine Held.wp_region_G (S := (fun W1 => Below w.heap.size w W1)) (by kernel_rfl) ?_
      change Held.wpAnyG _ _ _ _ _ 29 _ _ _
      refine Held.wpAnyG_take (i := 0) (v := (.pointer (some ⟨g, 0, none⟩))) rfl (by kernel_rfl) (by kernel_rfl) (by kernel_rfl) (fun _ _ _ h => h) HSS.out (by first | (with_reducible rfl) | (simp [Region.wanted, yielded, Act.put]; done) | rfl) (fun W h => by go_simp) (some 34) rfl #[true, false, false, false, false, false, false, false, false, false, false, false, false, false, false, false, false, false, false, false, false, false, false, false, false, false, false, false, false] (by kernel_rfl) ?_
      simp only [Act.put, List.setIfInBounds_toArray, List.set_cons_zero, List.set_cons_succ]
      refine Held.wpAnyG_take (i := 1) (v := (.pointer (some ⟨s, 0, none⟩))) rfl (by kernel_rfl) (by kernel_rfl) (by kernel_rfl) (fun _ _ _ h => h) HSS.out (by first | (with_reducible rfl) | (simp [Region.wanted, yielded, Act.put]; done) | rfl) (fun W h => by go_simp) (some 35) rfl #[true, true, false, false, false, false, false, false, false, false, false, false, false, false, false, false, false, false, false, false, false, false, false, false, false, false, false, false, false] (by kernel_rfl) ?_
      simp only [Act.put, List.setIfInBounds_toArray, List.set_cons_zero, List.set_cons_succ]
      refine Held.wpAnyG_take (i := 2) (v := (.slice (some ad) l1.length c1)) rfl (by kernel_rfl) (by kernel_rfl) (by kernel_rfl) (fun _ _ _ h => h) HSS.out (by first | (with_reducible rfl) | (simp [Region.wanted, yielded, Act.put]; done) | rfl) (fun W h => by go_simp) (some 36) rfl #[true, true, true, false, false, false, false, false, false, false, false, false, false, false, false, false, false, false, false, false, false, false, false, false, false, false, false, false, false] (by kernel_rfl) ?_
      simp only [Act.put, List.setIfInBounds_toArray, List.set_cons_zero, List.set_cons_succ]
      refine Held.wpAnyG_take (i := 3) (v := (.int .i64 (i : Int))) rfl (by kernel_rfl) (by kernel_rfl) (by kernel_rfl) (fun _ _ _ h => h) HSS.out (by first | (with_reducible rfl) | (simp [Region.wanted, yielded, Act.put]; done) | rfl) (fun W h => by go_simp) (some 37) rfl #[true, true, true, true, false, false, false, false, false, false, false, false, false, false, false, false, false, false, false, false, false, false, false, false, false, false, false, false, false] (by kernel_rfl) ?_
      simp only [Act.put, List.setIfInBounds_toArray, List.set_cons_zero, List.set_cons_succ]
      refine Held.wpAnyG_take (i := 4) (v := (.pointer (some (ad.add (i * 2))))) rfl (by kernel_rfl) (by kernel_rfl) (by kernel_rfl) (fun _ _ _ h => h) HSS.out (by first | (with_reducible rfl) | (simp [Region.wanted, yielded, Act.put]; done) | rfl) (fun W h => by go_simp) (some 38) rfl #[true, true, true, true, true, false, false, false, false, false, false, false, false, false, false, false, false, false, false, false, false, false, false, false, false, false, false, false, false] (by kernel_rfl) ?_
      simp only [Act.put, List.setIfInBounds_toArray, List.set_cons_zero, List.set_cons_succ]
      refine Held.wpAnyG_take (i := 5) (v := (.agg #[.int .i64 a.f0, .int .i64 a.f1])) rfl (by kernel_rfl) (by kernel_rfl) (by kernel_rfl) (fun _ _ _ h => h) HSS.out (by first | (with_reducible rfl) | (simp [Region.wanted, yielded, Act.put]; done) | rfl) (fun W h => Held.run_load_of 47 (.tmp 38) rfl (ad.add (i * 2)) rfl (HLD.out W h)) (some 39) rfl #[true, true, true, true, true, true, false, false, false, false, false, false, false, false, false, false, false, false, false, false, false, false, false, false, false, false, false, false, false] (by kernel_rfl) ?_
      simp only [Act.put, List.setIfInBounds_toArray, List.set_cons_zero, List.set_cons_succ]
      refine Held.wpAnyG_one 6 (by kernel_rfl) rfl #[true, true, true, true, true, true, true, false, false, false, false, false, false, false, false, false, false, false, false, false, false, false, false, false, false, false, false, false, false] (by kernel_rfl) (fun K hK => ?_)
      go_wp2_with fail
      (with_reducible refine (ask_calls k _ g s OW (fun k => k < w.heap.size) e e a.f0 a.f1 e2 e2 l l m m true HRd.out HSd.out HGS.out HOS.out HPG.out HLL.out HLL.out HASK.out).mono ?_)
      rintro en w5 ⟨rfl, hr5, hs5, W6, hg6, hg7⟩
      have HR5 := Aside0.mk hr5
      have HS5 := Aside0.mk hs5
      have HF5 := Aside0.mk (Kd.F_grown (Kd.F_grown HFd.out hg6 (fun k hk e => by cases e; exact absurd (HOG.out _ hk) (Nat.lt_irrefl _))) hg7 (fun k hk e => HOS.out (by cases e; exact hk)))
      have HB5 := Aside0.mk ((HBd.out.grown hg6 HBd.out.size (fun k e => by cases e; exact HGW.out)).grown hg7 (HBd.out.grown hg6 HBd.out.size (fun k e => by cases e; exact HGW.out)).size (fun k e => by cases e; exact HSW.out))
      clear hr5 hs5 hg6 hg7 W6 HRd HSd HFd HBd HSS
      go_wp2_with fail
      refine hK _ _ HB5.out ?_
      clear hK K
      refine Held.wpAnyG_to (S' := fun W1 => W1 = w5) (fun W1 h => by rw [h]; exact HB5.out) _ _ _ _ ?_
      have HSS := Aside0.mk (show (fun W1 => W1 = w5) w5 from rfl)
      obtain ⟨Ag, cg, hbg, hqg, _⟩ := HR5.out.opens
      obtain ⟨As, cs, hbs, hqs, _⟩ := HS5.out.opens
      have hs0 := blk_cell hbs 0
      have hs1 := blk_cell hbs 1
      simp at hs0 hs1
      have HBG := Aside0.mk hbg
      have hee : (e2 != e2) = false := bne_self_eq_false _
      have hmm : (m.length != m.length) = false := bne_self_eq_false _
      clear hbg hbs hqg hqs
      refine Held.wpAnyG_take (i := 7) (v := (.bool false)) rfl (by kernel_rfl) (by kernel_rfl) (by kernel_rfl) (fun _ _ _ h => h) HSS.out (by first | (with_reducible rfl) | (simp [Region.wanted, yielded, Act.put]; done) | rfl) (fun W h => by have h' : W = w5 := h; subst h'; clear h; go_simp) (some 41) rfl #[true, true, true, true, true, true, true, true, false, false, false, false, false, false, false, false, false, false, false, false, false, false, false, false, false, false, false, false, false] (by kernel_rfl) ?_
      simp only [Act.put, List.setIfInBounds_toArray, List.set_cons_zero, List.set_cons_succ]
      refine Held.wpAnyG_take (i := 8) (v := (.bool false)) rfl (by kernel_rfl) (by kernel_rfl) (by kernel_rfl) (fun _ _ _ h => h) HSS.out (by first | (with_reducible rfl) | (simp [Region.wanted, yielded, Act.put]; done) | rfl) (fun W h => by have h' : W = w5 := h; subst h'; clear h; go_simp) (some 42) rfl #[true, true, true, true, true, true, true, true, true, false, false, false, false, false, false, false, false, false, false, false, false, false, false, false, false, false, false, false, false] (by kernel_rfl) ?_
      simp only [Act.put, List.setIfInBounds_toArray, List.set_cons_zero, List.set_cons_succ]
      refine Held.wpAnyG_take (i := 9) (v := (.pointer (some ⟨g, 0, none⟩))) rfl (by kernel_rfl) (by kernel_rfl) (by kernel_rfl) (fun _ _ _ h => h) HSS.out (by first | (with_reducible rfl) | (simp [Region.wanted, yielded, Act.put]; done) | rfl) (fun W h => by have h' : W = w5 := h; subst h'; clear h; go_simp) (some 43) rfl #[true, true, true, true, true, true, true, true, true, true, false, false, false, false, false, false, false, false, false, false, false, false, false, false, false, false, false, false, false] (by kernel_rfl) ?_
      simp only [Act.put, List.setIfInBounds_toArray, List.set_cons_zero, List.set_cons_succ]
      refine Held.wpAnyG_take (i := 10) (v := (.pointer (some ⟨g, 0, none⟩))) rfl (by kernel_rfl) (by kernel_rfl) (by kernel_rfl) (fun _ _ _ h => h) HSS.out (by first | (with_reducible rfl) | (simp [Region.wanted, yielded, Act.put]; done) | rfl) (fun W h => by have h' : W = w5 := h; subst h'; clear h; go_simp) (some 44) rfl #[true, true, true, true, true, true, true, true, true, true, true, false, false, false, false, false, false, false, false, false, false, false, false, false, false, false, false, false, false] (by kernel_rfl) ?_
      simp only [Act.put, List.setIfInBounds_toArray, List.set_cons_zero, List.set_cons_succ]
      refine Held.wpAnyG_take (i := 11) (v := (.pointer (some ⟨g, 0, none⟩))) rfl (by kernel_rfl) (by kernel_rfl) (by kernel_rfl) (fun _ _ _ h => h) HSS.out (by first | (with_reducible rfl) | (simp [Region.wanted, yielded, Act.put]; done) | rfl) (fun W h => by have h' : W = w5 := h; subst h'; clear h; go_simp) (some 45) rfl #[true, true, true, true, true, true, true, true, true, true, true, true, false, false, false, false, false, false, false, false, false, false, false, false, false, false, false, false, false] (by kernel_rfl) ?_
      simp only [Act.put, List.setIfInBounds_toArray, List.set_cons_zero, List.set_cons_succ]
      refine Held.wpAnyG_take (i := 13) (v := (.pointer (some ⟨s, 0, none⟩))) rfl (by kernel_rfl) (by kernel_rfl) (by kernel_rfl) (fun _ _ _ h => h) HSS.out (by first | (with_reducible rfl) | (simp [Region.wanted, yielded, Act.put]; done) | rfl) (fun W h => by have h' : W = w5 := h; subst h'; clear h; go_simp) (some 47) rfl #[true, true, true, true, true, true, true, true, true, true, true, true, false, true, false, false, false, false, false, false, false, false, false, false, false, false, false, false, false] (by kernel_rfl) ?_
      simp only [Act.put, List.setIfInBounds_toArray, List.set_cons_zero, List.set_cons_succ]
      refine Held.wpAnyG_take (i := 14) (v := (.pointer (some ⟨s, 0, none⟩))) rfl (by kernel_rfl) (by kernel_rfl) (by kernel_rfl) (fun _ _ _ h => h) HSS.out (by first | (with_reducible rfl) | (simp [Region.wanted, yielded, Act.put]; done) | rfl) (fun W h => by have h' : W = w5 := h; subst h'; clear h; go_simp) (some 48) rfl #[true, true, true, true, true, true, true, true, true, true, true, true, false, true, true, false, false, false, false, false, false, false, false, false, false, false, false, false, false] (by kernel_rfl) ?_
      simp only [Act.put, List.setIfInBounds_toArray, List.set_cons_zero, List.set_cons_succ]
      refine Held.wpAnyG_take (i := 15) (v := (.pointer (some ⟨s, 1, none⟩))) rfl (by kernel_rfl) (by kernel_rfl) (by kernel_rfl) (fun _ _ _ h => h) HSS.out (by first | (with_reducible rfl) | (simp [Region.wanted, yielded, Act.put]; done) | rfl) (fun W h => by have h' : W = w5 := h; subst h'; clear h; go_simp) (some 49) rfl #[true, true, true, true, true, true, true, true, true, true, true, true, false, true, true, true, false, false, false, false, false, false, false, false, false, false, false, false, false] (by kernel_rfl) ?_
      simp only [Act.put, List.setIfInBounds_toArray, List.set_cons_zero, List.set_cons_succ]
      refine Held.wpAnyG_take (i := 16) (v := (.int .i64 e2)) rfl (by kernel_rfl) (by kernel_rfl) (by kernel_rfl) (fun _ _ _ h => h) HSS.out (by first | (with_reducible rfl) | (simp [Region.wanted, yielded, Act.put]; done) | rfl) (fun W h => by have h' : W = w5 := h; subst h'; clear h; go_simp) (some 50) rfl #[true, true, true, true, true, true, true, true, true, true, true, true, false, true, true, true, true, false, false, false, false, false, false, false, false, false, false, false, false] (by kernel_rfl) ?_
      simp only [Act.put, List.setIfInBounds_toArray, List.set_cons_zero, List.set_cons_succ]
      refine Held.wpAnyG_one 12 (by kernel_rfl) rfl #[true, true, true, true, true, true, true, true, true, true, true, true, true, true, true, true, true, false, false, false, false, false, false, false, false, false, false, false, false] (by kernel_rfl) (fun K hK => ?_)
      go_wp2_with fail
      (with_reducible refine (err_calls _ g e2 _ HBG.out).mono ?_)
      rintro en w7 ⟨rfl, rfl⟩
      go_wp2_with fail
      refine hK _ _ rfl ?_
      clear hK K HSS
      have HSS : Aside0 (w7 = w7) := Aside0.mk rfl
      refine Held.wpAnyG_take (i := 17) (v := (.bool false)) rfl (by kernel_rfl) (by kernel_rfl) (by kernel_rfl) (fun _ _ _ h => h) HSS.out (by first | (with_reducible rfl) | (simp [Region.wanted, yielded, Act.put]; done) | rfl) (fun W h => by have h' : W = w7 := h; subst h'; clear h; go_simp) (some 51) rfl #[true, true, true, true, true, true, true, true, true, true, true, true, true, true, true, true, true, true, false, false, false, false, false, false, false, false, false, false, false] (by kernel_rfl) ?_
      simp only [Act.put, List.setIfInBounds_toArray, List.set_cons_zero, List.set_cons_succ]
      refine Held.wpAnyG_take (i := 18) (v := (.bool false)) rfl (by kernel_rfl) (by kernel_rfl) (by kernel_rfl) (fun _ _ _ h => h) HSS.out (by first | (with_reducible rfl) | (simp [Region.wanted, yielded, Act.put]; done) | rfl) (fun W h => by have h' : W = w7 := h; subst h'; clear h; go_simp) (some 52) rfl #[true, true, true, true, true, true, true, true, true, true, true, true, true, true, true, true, true, true, true, false, false, false, false, false, false, false, false, false, false] (by kernel_rfl) ?_
      simp only [Act.put, List.setIfInBounds_toArray, List.set_cons_zero, List.set_cons_succ]
      refine Held.wpAnyG_take (i := 19) (v := (.bool false)) rfl (by kernel_rfl) (by kernel_rfl) (by kernel_rfl) (fun _ _ _ h => h) HSS.out (by first | (with_reducible rfl) | (simp [Region.wanted, yielded, Act.put]; done) | rfl) (fun W h => by have h' : W = w7 := h; subst h'; clear h; go_simp) (some 53) rfl #[true, true, true, true, true, true, true, true, true, true, true, true, true, true, true, true, true, true, true, true, false, false, false, false, false, false, false, false, false] (by kernel_rfl) ?_
      simp only [Act.put, List.setIfInBounds_toArray, List.set_cons_zero, List.set_cons_succ]
      refine Held.wpAnyG_take (i := 20) (v := (.pointer (some ⟨g, 0, none⟩))) rfl (by kernel_rfl) (by kernel_rfl) (by kernel_rfl) (fun _ _ _ h => h) HSS.out (by first | (with_reducible rfl) | (simp [Region.wanted, yielded, Act.put]; done) | rfl) (fun W h => by have h' : W = w7 := h; subst h'; clear h; go_simp) (some 54) rfl #[true, true, true, true, true, true, true, true, true, true, true, true, true, true, true, true, true, true, true, true, true, false, false, false, false, false, false, false, false] (by kernel_rfl) ?_
      simp only [Act.put, List.setIfInBounds_toArray, List.set_cons_zero, List.set_cons_succ]
      refine Held.wpAnyG_take (i := 22) (v := (.pointer (some ⟨s, 0, none⟩))) rfl (by kernel_rfl) (by kernel_rfl) (by kernel_rfl) (fun _ _ _ h => h) HSS.out (by first | (with_reducible rfl) | (simp [Region.wanted, yielded, Act.put]; done) | rfl) (fun W h => by have h' : W = w7 := h; subst h'; clear h; go_simp) (some 56) rfl #[true, true, true, true, true, true, true, true, true, true, true, true, true, true, true, true, true, true, true, true, true, false, true, false, false, false, false, false, false] (by kernel_rfl) ?_
      simp only [Act.put, List.setIfInBounds_toArray, List.set_cons_zero, List.set_cons_succ]
      refine Held.wpAnyG_take (i := 23) (v := (.pointer (some ⟨s, 0, none⟩))) rfl (by kernel_rfl) (by kernel_rfl) (by kernel_rfl) (fun _ _ _ h => h) HSS.out (by first | (with_reducible rfl) | (simp [Region.wanted, yielded, Act.put]; done) | rfl) (fun W h => by have h' : W = w7 := h; subst h'; clear h; go_simp) (some 57) rfl #[true, true, true, true, true, true, true, true, true, true, true, true, true, true, true, true, true, true, true, true, true, false, true, true, false, false, false, false, false] (by kernel_rfl) ?_
      simp only [Act.put, List.setIfInBounds_toArray, List.set_cons_zero, List.set_cons_succ]
      refine Held.wpAnyG_take (i := 24) (v := (.pointer (some ⟨s, 0, none⟩))) rfl (by kernel_rfl) (by kernel_rfl) (by kernel_rfl) (fun _ _ _ h => h) HSS.out (by first | (with_reducible rfl) | (simp [Region.wanted, yielded, Act.put]; done) | rfl) (fun W h => by have h' : W = w7 := h; subst h'; clear h; go_simp) (some 58) rfl #[true, true, true, true, true, true, true, true, true, true, true, true, true, true, true, true, true, true, true, true, true, false, true, true, true, false, false, false, false] (by kernel_rfl) ?_
      simp only [Act.put, List.setIfInBounds_toArray, List.set_cons_zero, List.set_cons_succ]
      refine Held.wpAnyG_take (i := 25) (v := (.slice As m.length cs)) rfl (by kernel_rfl) (by kernel_rfl) (by kernel_rfl) (fun _ _ _ h => h) HSS.out (by first | (with_reducible rfl) | (simp [Region.wanted, yielded, Act.put]; done) | rfl) (fun W h => by have h' : W = w7 := h; subst h'; clear h; go_simp) (some 59) rfl #[true, true, true, true, true, true, true, true, true, true, true, true, true, true, true, true, true, true, true, true, true, false, true, true, true, true, false, false, false] (by kernel_rfl) ?_
      simp only [Act.put, List.setIfInBounds_toArray, List.set_cons_zero, List.set_cons_succ]
      refine Held.wpAnyG_take (i := 26) (v := (.int .i64 (m.length : Int))) rfl (by kernel_rfl) (by kernel_rfl) (by kernel_rfl) (fun _ _ _ h => h) HSS.out (by first | (with_reducible rfl) | (simp [Region.wanted, yielded, Act.put]; done) | rfl) (fun W h => by have h' : W = w7 := h; subst h'; clear h; go_simp) (some 60) rfl #[true, true, true, true, true, true, true, true, true, true, true, true, true, true, true, true, true, true, true, true, true, false, true, true, true, true, true, false, false] (by kernel_rfl) ?_
      simp only [Act.put, List.setIfInBounds_toArray, List.set_cons_zero, List.set_cons_succ]
      refine Held.wpAnyG_one 21 (by kernel_rfl) rfl #[true, true, true, true, true, true, true, true, true, true, true, true, true, true, true, true, true, true, true, true, true, true, true, true, true, true, true, false, false] (by kernel_rfl) (fun K hK => ?_)
      go_wp2_with fail
      (with_reducible refine (left_calls _ g OW e2 m HR5.out).mono ?_)
      rintro en w8 ⟨rfl, rfl⟩
      go_wp2_with fail
      refine hK _ _ rfl ?_
      clear hK K HSS
      have HSS : Aside0 (w8 = w8) := Aside0.mk rfl
      refine Held.wpAnyG_take (i := 27) (v := (.bool false)) rfl (by kernel_rfl) (by kernel_rfl) (by kernel_rfl) (fun _ _ _ h => h) HSS.out (by first | (with_reducible rfl) | (simp [Region.wanted, yielded, Act.put]; done) | rfl) (fun W h => by have h' : W = w8 := h; subst h'; clear h; go_simp) (some 61) rfl #[true, true, true, true, true, true, true, true, true, true, true, true, true, true, true, true, true, true, true, true, true, true, true, true, true, true, true, true, false] (by kernel_rfl) ?_
      simp only [Act.put, List.setIfInBounds_toArray, List.set_cons_zero, List.set_cons_succ]
      refine Held.wpAnyG_take (i := 28) (v := (.bool false)) rfl (by kernel_rfl) (by kernel_rfl) (by kernel_rfl) (fun _ _ _ h => h) HSS.out (by first | (with_reducible rfl) | (simp [Region.wanted, yielded, Act.put]; done) | rfl) (fun W h => by have h' : W = w8 := h; subst h'; clear h; go_simp) (some 62) rfl #[true, true, true, true, true, true, true, true, true, true, true, true, true, true, true, true, true, true, true, true, true, true, true, true, true, true, true, true, true] (by kernel_rfl) ?_
      simp only [Act.put, List.setIfInBounds_toArray, List.set_cons_zero, List.set_cons_succ]
      refine Held.wpAnyG_done (by kernel_rfl) ?_ _
      go_wp2_with fail
      go_roundw
      case measure => simp [intOf]; omega
      case rel => exact ⟨i + 1, e2, m, by omega, by go_num, HR5, HS5, HF5, HB5, ⟨⟨HML.out, HREST.out⟩⟩⟩
    · obtain rfl : i = l1.length := by omega
      clear hlt hi
      go_wp2_with fail
      (with_reducible refine (crosswayref00_SameBytes.calls k _ _ _ _ _ _ true _ (Kd.F_now HF.out) HCO.out (Kd.C_below HR0.out HB.out) HC0.out SME.out).mono ?_)
      rintro e w8 ⟨rfl, hd⟩
      have HE := Aside0.mk (HB.out.trans (hd.below.mono HB.out.size))
      clear hd
      go_wp2_with fail
      go_ret
      exact ⟨rfl, HE.out⟩


/-- The one pure statement of crosswaylaw09_ScanReads. -/
def crosswaylaw09_ScanReads.Pure : Prop := ∀ (l0 : List Int) (l1 : List (S47)), l0.length ≤ maxLen → (∀ x ∈ l0, (Lit.int .u8 x).wf = true) → l1.length ≤ maxLen → (∀ x ∈ l1, ((Lit.int .i64 x.f0).wf = true) ∧ ((Lit.int .i64 x.f1).wf = true) ∧ True) → ∃ k, crosswaylaw09_ScanReads.f k l0 l1 = some true

end Go.Proofs.Ytmhmmmkpijbbiaa.M
