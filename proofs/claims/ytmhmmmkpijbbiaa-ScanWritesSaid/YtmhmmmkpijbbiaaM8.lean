/- Contracts of the Go functions that the laws reach, each as a plain Lean function: written by xprint.py, a program of this repo. -/
import Derived.Test.YtmhmmmkpijbbiaaScanPut
import Derived.WalkSpells
import Derived.Test.YtmhmmmkpijbbiaaM0
import Derived.Test.YtmhmmmkpijbbiaaM1
import Derived.Test.YtmhmmmkpijbbiaaM2
namespace Go.Proofs.Ytmhmmmkpijbbiaa.M
open Go.RowKit Go.Proofs.YtmhmmmkpijbbiaaW.PrintWords Go.Proofs.YtmhmmmkpijbbiaaW.PrintLast Go.Proofs.YtmhmmmkpijbbiaaW.PrintMore Go.Proofs.Ytmhmmmkpijbbiaa.X
attribute [local go_sem] max2_int min2_int max_two min_two max_three min_three max_four min_four   -- for this text's walks alone
set_option linter.unusedVariables false
set_option linter.unusedSimpArgs false

/-! ### crosswaylaw09_ScanWrites: function 3, typed by hand -/
-- IMPORT Derived.Test.YtmhmmmkpijbbiaaScanPut
-- IMPORT Derived.WalkSpells
def crosswaylaw09_ScanWrites.run (k : Nat) : List S35 → Int → List Int → Bool
  | [], _, _ => true
  | p :: rest, e, l => match putf k e l e l p.f0 p.f1 p.f2 p.f3 with
    | some (x, y) => decide (x = y) && decide (p.f3.length < 140737488355328) && decide (x.2.length < 140737488355328) && decide (crosswayref00_SameBytes.f k (if x.1 = 0 then x.2 else []) (if x.1 = 0 then x.2 else []) = some true) && crosswaylaw09_ScanWrites.run k rest x.1 x.2
    | none => false
theorem crosswaylaw09_ScanWrites.run_cons {k : Nat} {a : S35} {rest : List S35} {e : Int} {l : List Int} (h : crosswaylaw09_ScanWrites.run k (a :: rest) e l = true) : ∃ e2 m, putf k e l e l a.f0 a.f1 a.f2 a.f3 = some ((e2, m), (e2, m)) ∧ a.f3.length < 140737488355328 ∧ m.length < 140737488355328 ∧ crosswayref00_SameBytes.f k (if e2 = 0 then m else []) (if e2 = 0 then m else []) = some true ∧ crosswaylaw09_ScanWrites.run k rest e2 m = true := by
  unfold crosswaylaw09_ScanWrites.run at h
  split at h
  · next x y hq =>
    simp only [Bool.and_eq_true, decide_eq_true_eq] at h
    obtain ⟨⟨⟨⟨rfl, h2⟩, h3⟩, h4⟩, h5⟩ := h
    exact ⟨x.1, x.2, hq, h2, h3, h4, h5⟩
  · cases h
def crosswaylaw09_ScanWrites.f (k : Nat) (l0 : List S35) : Option Bool :=
  (crosswaylaw09_great.f k l0).bind fun b => if b = true then some true else if crosswaylaw09_ScanWrites.run k l0 0 [] = true then some true else none
set_option maxRecDepth 100000 in
set_option maxHeartbeats 4000000 in
theorem crosswaylaw09_ScanWrites.calls (k : Nat) (A0 : Option Addr) (c0 : Nat) (l0 : List S35) (r : Bool) (w : World) (hr0 : Kd.C k35 w A0 l0.length l0) (hc0 : l0.length ≤ c0) (h : crosswaylaw09_ScanWrites.f k l0 = some r) :
    Calls Try.prog 3 #[.slice A0 l0.length c0] w fun e w' => e = .returned (.bool r) ∧ Below w.heap.size w w' := by
  unfold crosswaylaw09_ScanWrites.f at h
  have HR0 := Aside0.mk hr0
  have HC0 := Aside0.mk hc0
  clear hr0 hc0
  obtain ⟨bg, hgr, h2⟩ := Option.bind_eq_some_iff.1 h
  clear h
  have HGR := Aside0.mk hgr
  clear hgr
  by_cases hg : bg = true
  · rw [if_pos hg] at h2
    cases h2
    subst hg
    go_enter Try.func3, Try.ntmps3
    go_wp2_with fail
    (with_reducible refine (alive_calls _).mono ?_)
    rintro e w1 ⟨rfl, hb1⟩
    go_wp2_with fail
    (with_reducible refine (crosswaylaw09_great.calls k _ _ _ _ _ (Kd.C_below HR0.out hb1) HC0.out HGR.out).mono ?_)
    rintro e w2 ⟨rfl, hd2⟩
    have hb2 := hb1.trans (hd2.below.mono hb1.size)
    clear hb1 hd2
    go_wp2_with fail
    go_ret
    exact ⟨rfl, hb2⟩
  rw [if_neg hg] at h2
  by_cases hrun : crosswaylaw09_ScanWrites.run k l0 0 [] = true
  rotate_left
  · rw [if_neg hrun] at h2; cases h2
  rw [if_pos hrun] at h2
  cases h2
  have RUN := Aside0.mk hrun
  clear hrun
  have hgf : bg = false := by cases bg <;> simp_all
  subst hgf
  clear hg
  go_enter Try.func3, Try.ntmps3
  go_wp2_with fail
  (with_reducible refine (alive_calls _).mono ?_)
  rintro e w1 ⟨rfl, hb1⟩
  go_wp2_with fail
  (with_reducible refine (crosswaylaw09_great.calls k _ _ _ _ _ (Kd.C_below HR0.out hb1) HC0.out HGR.out).mono ?_)
  rintro e w2 ⟨rfl, hd2⟩
  have HB2 := Aside0.mk (hb1.trans (hd2.below.mono hb1.size))
  clear hb1 hd2
  go_wp2_with fail
  (with_reducible refine (write_calls _).mono ?_)
  rintro e w3 ⟨rfl, hw3⟩
  obtain ⟨g, hg⟩ : ∃ g, g = w2.heap.size := ⟨_, rfl⟩
  rw [← hg]
  have HW3 := Aside0.mk (show WrAt w3 g w.heap.size 0 [] by rw [hw3, hg]; exact write_at w2 w.heap.size HB2.out.size)
  have HB3 := Aside0.mk (show Below w.heap.size w w3 by rw [hw3]; exact HB2.out.alloc HB2.out.size _)
  clear hw3 hg HB2
  go_upto_region 7 with (fail)
  obtain ⟨s, hs⟩ : ∃ s, s = w3.heap.size := ⟨_, rfl⟩
  obtain ⟨w4, hw4⟩ : ∃ w4, w4 = w3.alloc (.cells #[.slice none 0 0, .int .i64 0] 31) := ⟨_, rfl⟩
  rw [← hw4, ← hs]
  have hbe : Below w3.heap.size w3 w4 := by rw [hw4]; exact below_alloc (Below.refl _ _) _
  have hbk : w4.heap[s]? = some (.cells #[.slice none 0 0, .int .i64 0] 31 (0, 0)) := by rw [hw4, hs]; exact blk_new w3 _
  have HP4 := Aside0.mk (Pair.new HW3.out hbe ⟨_, hbk, Kd.R_nil _ _ _ _ _, by rw [hs]; exact HB3.out.size⟩ (by rw [hs]; exact Nat.le_refl _) (Nat.le_refl _) rfl ⟨_, hbk⟩ : Pair w4 g s w.heap.size 0 [] 0 [])
  have HB4 := Aside0.mk (HB3.out.trans (hbe.mono HB3.out.size))
  clear hw4 hbe hbk hs HW3 HB3
  have hlm := Kd.C_max HR0.out
  go_wp2_with fail
  go_loopw [5] (fun v5 wr => ∃ (i : Nat) (e : Int) (l : List Int), i ≤ l0.length ∧ v5 = .int .i64 i ∧ Aside0 (Pair wr g s w.heap.size e l e l) ∧ Aside0 (Below w.heap.size w wr) ∧ Aside0 (crosswaylaw09_ScanWrites.run k (l0.drop i) e l = true))
    (fun v5 _ => l0.length - (intOf v5).toNat)
  case atStart => exact ⟨0, 0, [], Nat.zero_le _, rfl, HP4, HB4, RUN⟩
  case round =>
    clear HP4 HB4
    obtain ⟨i, e, l, hi, rfl, HP, HB, HRUN⟩ := hrel
    by_cases hlt : i < l0.length
    · obtain ⟨a, ha⟩ : ∃ a, a = rd_T35 l0 (i : Int) := ⟨_, rfl⟩
      have hdrop : l0.drop i = a :: l0.drop (i + 1) := by
        rw [List.drop_eq_getElem_cons hlt, ha]
        unfold rd_T35
        rw [Int.toNat_natCast, List.getD_eq_getElem?_getD, List.getElem?_eq_getElem hlt]; rfl
      have hrun := HRUN.out
      rw [hdrop] at hrun
      obtain ⟨e2, m, hput, hbl, hml, hsame, hrest⟩ := crosswaylaw09_ScanWrites.run_cons hrun
      obtain ⟨ad, A3, c3, had, hc0, hc1, hc2, hc3, hlc, hC3⟩ := at_T35 HR0.out (i : Int) (by omega) (by omega)
      rw [Int.toNat_natCast, ← ha] at hc0 hc1 hc2 hc3
      rw [← ha] at hlc hC3
      subst had
      have HCW := Aside0.mk (Kd.F_below (Kd.C_F (Kd.heap_int .u8) hC3) HB.out)
      replace hc0 := cell_later HB.out hc0
      replace hc1 := cell_later HB.out hc1
      replace hc2 := cell_later HB.out hc2
      replace hc3 := cell_later HB.out hc3
      have HPUT := Aside0.mk hput
      have HLC := Aside0.mk hlc
      have HBL := Aside0.mk hbl
      have HML := Aside0.mk hml
      obtain ⟨xs, hxs⟩ : ∃ xs, xs = (if e2 = 0 then m else []) := ⟨_, rfl⟩
      rw [← hxs] at hsame
      have HXS := Aside0.mk hxs
      have HSAME := Aside0.mk hsame
      have HREST := Aside0.mk hrest
      have p1 : ((0 : Int) ≤ (i : Int)) = True := eq_true (by omega)
      have p2 : ((i : Int) < (l0.length : Int)) = True := eq_true (by omega)
      clear hput hlc hbl hml hxs hsame hrest hrun hdrop ha hC3 HRUN
      go_wp2_with fail
      (with_reducible refine (lput_calls k wr g s w.heap.size e e l l a.f0 a.f1 a.f2 a.f3 A3 c3 (fun i => i < w.heap.size) e2 e2 m m HP.out HCW.out (fun _ h => h) HLC.out HBL.out HPUT.out).mono ?_)
      rintro en w5 ⟨rfl, hp5, hb5, _⟩
      have HP5 := Aside0.mk hp5
      have HB5 := Aside0.mk (HB.out.trans hb5)
      clear hp5 hb5 HP HB HCW hc0 hc1 hc2 hc3
      go_wp2_with fail
      (with_reducible refine (done_calls w5 g w.heap.size e2 m HP5.out.w HML.out).mono ?_)
      rintro en w6 ⟨va, rfl, hra, hb6⟩
      rw [← HXS.out] at hra
      obtain ⟨Aa, ca, rfl, hca, _⟩ := row_at hra
      have HCA := Aside0.mk hca
      have HRA := Aside0.mk hra
      have HP6 := Aside0.mk (HP5.out.below hb6).1
      have HB6 := Aside0.mk (HB5.out.trans (hb6.mono HB5.out.size))
      clear hra hb6 hca HP5 HB5
      go_wp2_with fail
      (with_reducible refine (wfDone_calls w6 s w.heap.size e2 m HP6.out.f HML.out).mono ?_)
      rintro en w7 ⟨vb, rfl, hrb, hb7⟩
      rw [← HXS.out] at hrb
      obtain ⟨Ab, cb, rfl, hcb, hCb⟩ := row_at hrb
      have HCB := Aside0.mk hcb
      have HRB := Aside0.mk hCb
      have HRA7 := Aside0.mk (Kd.R_reads' (Kd.R_below HRA.out hb7)).2.2
      have HP7 := Aside0.mk (HP6.out.below hb7).1
      have HB7 := Aside0.mk (HB6.out.trans (hb7.mono HB6.out.size))
      have hee : (e2 != e2) = false := bne_self_eq_false _
      clear hrb hb7 hcb hCb HP6 HB6 HRA
      go_wp2_with fail
      (with_reducible refine (crosswayref00_SameBytes.calls k _ _ _ _ _ _ true _ HRA7.out HCA.out HRB.out HCB.out HSAME.out).mono ?_)
      rintro en w8 ⟨rfl, hd⟩
      have HP8 := Aside0.mk (HP7.out.below hd.below).1
      have HB8 := Aside0.mk (HB7.out.trans (hd.below.mono HB7.out.size))
      clear hd HP7 HB7 HRA7 HRB
      go_wp2_with fail
      go_roundw
      case measure => simp [intOf]; omega
      case rel => exact ⟨i + 1, e2, m, by omega, by go_num, HP8, HB8, HREST⟩
    · obtain rfl : i = l0.length := by omega
      clear hlt hi
      have HE := Aside0.mk HB.out
      go_wp2_with fail
      go_ret
      exact ⟨rfl, HE.out⟩


/-- The one pure statement of crosswaylaw09_ScanWrites. -/
def crosswaylaw09_ScanWrites.Pure : Prop := ∀ (l0 : List (S35)), l0.length ≤ maxLen → (∀ x ∈ l0, ((Lit.int .i64 x.f0).wf = true) ∧ ((Lit.int .i64 x.f1).wf = true) ∧ ((Lit.int .u64 x.f2).wf = true) ∧ (x.f3.length ≤ maxLen ∧ ∀ xx_f3 ∈ x.f3, (Lit.int .u8 xx_f3).wf = true) ∧ True) → ∃ k, crosswaylaw09_ScanWrites.f k l0 = some true

end Go.Proofs.Ytmhmmmkpijbbiaa.M
