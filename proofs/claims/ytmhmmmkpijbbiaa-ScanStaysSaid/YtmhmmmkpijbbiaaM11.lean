/- Contracts of the Go functions that the laws reach, each as a plain Lean function: written by xprint.py, a program of this repo. -/
import Derived.Test.YtmhmmmkpijbbiaaScanPut
import Derived.WalkSpells
import Derived.Test.YtmhmmmkpijbbiaaM0
import Derived.Test.YtmhmmmkpijbbiaaM1
import Derived.Test.YtmhmmmkpijbbiaaM2
import Derived.Test.YtmhmmmkpijbbiaaM3
namespace Go.Proofs.Ytmhmmmkpijbbiaa.M
open Go.RowKit Go.Proofs.YtmhmmmkpijbbiaaW.PrintWords Go.Proofs.YtmhmmmkpijbbiaaW.PrintLast Go.Proofs.YtmhmmmkpijbbiaaW.PrintMore Go.Proofs.Ytmhmmmkpijbbiaa.X
attribute [local go_sem] max2_int min2_int max_two min_two max_three min_three max_four min_four   -- for this text's walks alone
set_option linter.unusedVariables false
set_option linter.unusedSimpArgs false

/-! ### crosswaylaw09_ScanStays: function 6, typed by hand -/
-- IMPORT Derived.Test.YtmhmmmkpijbbiaaScanPut
-- IMPORT Derived.WalkSpells
/-- The questions, one behind the other: what the reader is behind them. -/
def crosswaylaw09_ScanStays.asks (k : Nat) (l0 : List Int) : List S47 → Int → List Int → Option (Int × List Int)
  | [], e, l => some (e, l)
  | a :: rest, e, l => match askf k e l 0 l0 a.f0 a.f1 with
    | some (b, p, q) => if (e ≠ 0 → p = (e, l)) ∧ p.2.length ≤ l.length then crosswaylaw09_ScanStays.asks k l0 rest p.1 p.2 else none
    | none => none
theorem crosswaylaw09_ScanStays.asks_cons {k : Nat} {l0 : List Int} {a : S47} {rest : List S47} {e : Int} {l : List Int} {r : Int × List Int} (h : crosswaylaw09_ScanStays.asks k l0 (a :: rest) e l = some r) : ∃ b e2 m q1 q2, askf k e l 0 l0 a.f0 a.f1 = some (b, (e2, m), (q1, q2)) ∧ (e ≠ 0 → e2 = e ∧ m = l) ∧ m.length ≤ l.length ∧ crosswaylaw09_ScanStays.asks k l0 rest e2 m = some r := by
  unfold crosswaylaw09_ScanStays.asks at h
  split at h
  · next b p q hq =>
    by_cases hc : (e ≠ 0 → p = (e, l)) ∧ p.2.length ≤ l.length
    · rw [if_pos hc] at h
      exact ⟨b, p.1, p.2, q.1, q.2, hq, fun he => by rw [hc.1 he]; exact ⟨rfl, rfl⟩, hc.2, h⟩
    · rw [if_neg hc] at h; cases h
  · cases h
/-- All that a reader with an error is asked is nought. -/
def crosswaylaw09_ScanStays.nought (k : Nat) (e : Int) (l : List Int) : Bool := decide (rdNum k e l 1 = some (0, e, l)) && decide (rdBytes e l 1 = ([], e, l)) && decide (rdVari k e l = some (0, e, l)) && decide (rdShort k e l = some ([], e, l)) && decide (rdLong k e l = some ([], e, l)) && decide (rdBytes e l (l.length : Int) = ([], e, l))
theorem crosswaylaw09_ScanStays.nought_out {k : Nat} {e : Int} {l : List Int} (h : crosswaylaw09_ScanStays.nought k e l = true) : rdNum k e l 1 = some (0, e, l) ∧ rdBytes e l 1 = ([], e, l) ∧ rdVari k e l = some (0, e, l) ∧ rdShort k e l = some ([], e, l) ∧ rdLong k e l = some ([], e, l) ∧ rdBytes e l (l.length : Int) = ([], e, l) := by
  unfold crosswaylaw09_ScanStays.nought at h
  simp only [Bool.and_eq_true, decide_eq_true_eq] at h
  exact ⟨h.1.1.1.1.1, h.1.1.1.1.2, h.1.1.1.2, h.1.1.2, h.1.2, h.2⟩
/-- The parts, one behind the other: a writer with an error stays. -/
def crosswaylaw09_ScanStays.puts (k : Nat) : List S35 → Int → List Int → Bool
  | [], _, _ => true
  | p :: rest, e, l => match putf k e l 0 [] p.f0 p.f1 p.f2 p.f3 with
    | some (x, y) => decide (e ≠ 0 → x = (e, l)) && decide (p.f3.length < 140737488355328) && decide (l.length < 140737488355328) && decide (x.2.length < 140737488355328) && crosswaylaw09_ScanStays.puts k rest x.1 x.2
    | none => false
theorem crosswaylaw09_ScanStays.puts_cons {k : Nat} {p : S35} {rest : List S35} {e : Int} {l : List Int} (h : crosswaylaw09_ScanStays.puts k (p :: rest) e l = true) : ∃ e2 m q1 q2, putf k e l 0 [] p.f0 p.f1 p.f2 p.f3 = some ((e2, m), (q1, q2)) ∧ (e ≠ 0 → e2 = e ∧ m = l) ∧ p.f3.length < 140737488355328 ∧ l.length < 140737488355328 ∧ m.length < 140737488355328 ∧ crosswaylaw09_ScanStays.puts k rest e2 m = true := by
  unfold crosswaylaw09_ScanStays.puts at h
  split at h
  · next x y hq =>
    simp only [Bool.and_eq_true, decide_eq_true_eq] at h
    exact ⟨x.1, x.2, y.1, y.2, hq, fun he => by rw [h.1.1.1.1 he]; exact ⟨rfl, rfl⟩, h.1.1.1.2, h.1.1.2, h.1.2, h.2⟩
  · cases h
def crosswaylaw09_ScanStays.f (k : Nat) (l0 : List Int) (l1 : List S47) (l2 : List S35) : Option Bool :=
  if 3000 < l0.length then some true
  else if 100 < l1.length then some true
  else (crosswaylaw09_great.f k l2).bind fun b => if b = true then some true else
    if crosswayref00_CopyBytes.f l0 = some l0 ∧ crosswaylaw09_ScanStays.puts k l2 0 [] = true then (crosswaylaw09_ScanStays.asks k l0 l1 0 l0).bind fun r => if r.1 ≠ 0 → crosswaylaw09_ScanStays.nought k r.1 r.2 = true then some true else none else none
theorem WrAt.grown {W W' : World} {g B o t : Nat} {e : Int} {l : List Int} {cs : Array Value} (h : WrAt W g B e l) (hg : W.grownBy W' (some o)) (h1 : o ≠ g) (hb : W.heap[o]? = some (.cells cs t (0, 0))) (ht : 5 ≠ t) : WrAt W' g B e l := by
  obtain ⟨v, hv, hR, hB⟩ := h
  exact ⟨v, (hg.block g (blk_lt hv) (fun x => h1 (Option.some.inj x).symm)).trans hv, Kd.R_grown2 hR rfl hg (fun k x => by cases x; exact Kd.R_ne hR hb ht), hB⟩
set_option maxRecDepth 100000 in
set_option maxHeartbeats 8000000 in
theorem crosswaylaw09_ScanStays.calls (k : Nat) (A0 : Option Addr) (c0 : Nat) (l0 : List Int) (A1 : Option Addr) (c1 : Nat) (l1 : List S47) (A2 : Option Addr) (c2 : Nat) (l2 : List S35) (r : Bool) (w : World) (hr0 : Kd.C (Kd.int .u8) w A0 l0.length l0) (hc0 : l0.length ≤ c0) (hr1 : Kd.C k47 w A1 l1.length l1) (hc1 : l1.length ≤ c1) (hr2 : Kd.C k35 w A2 l2.length l2) (hc2 : l2.length ≤ c2) (h : crosswaylaw09_ScanStays.f k l0 l1 l2 = some r) :
    Calls Try.prog 6 #[.slice A0 l0.length c0, .slice A1 l1.length c1, .slice A2 l2.length c2] w fun e w' => e = .returned (.bool r) ∧ Below w.heap.size w w' := by
  unfold crosswaylaw09_ScanStays.f at h
  have HR0 := Aside0.mk hr0
  have HR1 := Aside0.mk hr1
  have HR2 := Aside0.mk hr2
  have HC0 := Aside0.mk hc0
  have HC2 := Aside0.mk hc2
  clear hr0 hr1 hr2 hc0 hc1 hc2
  by_cases q0 : 3000 < l0.length
  · rw [if_pos q0] at h
    cases h
    go_enter Try.func6, Try.ntmps6
    go_wp2_with fail
    (with_reducible refine (alive_calls _).mono ?_)
    rintro e w1 ⟨rfl, hb1⟩
    go_wp2_with fail
    go_ret
    exact ⟨rfl, hb1⟩
  rw [if_neg q0] at h
  have q0' : l0.length ≤ 3000 := by omega
  clear q0
  by_cases q1 : 100 < l1.length
  · rw [if_pos q1] at h
    cases h
    go_enter Try.func6, Try.ntmps6
    go_wp2_with fail
    (with_reducible refine (alive_calls _).mono ?_)
    rintro e w1 ⟨rfl, hb1⟩
    go_wp2_with fail
    go_ret
    exact ⟨rfl, hb1⟩
  rw [if_neg q1] at h
  have q1' : l1.length ≤ 100 := by omega
  clear q1
  have Q0 := Aside0.mk q0'
  obtain ⟨bg, hgr, h2⟩ := Option.bind_eq_some_iff.1 h
  clear h
  have HGR := Aside0.mk hgr
  clear hgr
  by_cases hg : bg = true
  · rw [if_pos hg] at h2
    cases h2
    subst hg
    go_enter Try.func6, Try.ntmps6
    go_wp2_with fail
    (with_reducible refine (alive_calls _).mono ?_)
    rintro e w1 ⟨rfl, hb1⟩
    go_wp2_with fail
    (with_reducible refine (crosswaylaw09_great.calls k _ _ _ _ _ (Kd.C_below HR2.out hb1) HC2.out HGR.out).mono ?_)
    rintro e w2 ⟨rfl, hd2⟩
    have hb2 := hb1.trans (hd2.below.mono hb1.size)
    clear hb1 hd2
    go_wp2_with fail
    go_ret
    exact ⟨rfl, hb2⟩
  rw [if_neg hg] at h2
  by_cases hcp : crosswayref00_CopyBytes.f l0 = some l0 ∧ crosswaylaw09_ScanStays.puts k l2 0 [] = true
  rotate_left
  · rw [if_neg hcp] at h2; cases h2
  rw [if_pos hcp] at h2
  obtain ⟨⟨ef, lf⟩, hak, h3⟩ := Option.bind_eq_some_iff.1 h2
  clear h2
  by_cases hno : ef ≠ 0 → crosswaylaw09_ScanStays.nought k ef lf = true
  rotate_left
  · rw [if_neg hno] at h3; cases h3
  rw [if_pos hno] at h3
  cases h3
  have CPY := Aside0.mk hcp.1
  have PUTS := Aside0.mk hcp.2
  have ASKS := Aside0.mk hak
  have NOU := Aside0.mk hno
  clear hcp hak hno
  have hgf : bg = false := by cases bg <;> simp_all
  subst hgf
  clear hg
  go_enter Try.func6, Try.ntmps6
  go_wp2_with fail
  (with_reducible refine (alive_calls _).mono ?_)
  rintro e w1 ⟨rfl, hb1⟩
  go_wp2_with fail
  (with_reducible refine (crosswaylaw09_great.calls k _ _ _ _ _ (Kd.C_below HR2.out hb1) HC2.out HGR.out).mono ?_)
  rintro e w2 ⟨rfl, hd2⟩
  have HB2 := Aside0.mk (hb1.trans (hd2.below.mono hb1.size))
  clear hb1 hd2
  go_wp2_with fail
  (with_reducible refine (crosswayref00_CopyBytes.calls _ _ _ _ _ (Kd.C_below HR0.out HB2.out) HC0.out CPY.out).mono ?_)
  rintro e w3 ⟨vo, rfl, hro, hb3⟩
  obtain ⟨Ao, co, rfl, hco, _⟩ := row_at hro
  obtain ⟨OW, hOW⟩ : ∃ OW : Nat → Prop, OW = (fun k => some k = (Value.slice Ao l0.length co).ownBlock) := ⟨_, rfl⟩
  have HFO := Aside0.mk (show Kd.F (Kd.int .u8) w3 OW Ao l0.length l0 by rw [hOW]; exact Kd.R_F (Kd.R_tight rfl hro))
  have HOW := Aside0.mk (show ∀ i, OW i → i < w3.heap.size by rw [hOW]; exact fun i hi => Kd.R_lt hro i hi.symm)
  have HCO := Aside0.mk hco
  have HB3 := Aside0.mk (HB2.out.trans (hb3.mono HB2.out.size))
  clear hb3 hro hco hOW HB2
  go_wp2_with fail
  (with_reducible refine (read_calls _ Ao _ co).mono ?_)
  rintro e w4 ⟨rfl, hw4⟩
  obtain ⟨g, hg⟩ : ∃ g, g = w3.heap.size := ⟨_, rfl⟩
  rw [← hg]
  have HR4 := Aside0.mk (show RdAt w4 g OW 0 l0 by rw [hw4, hg]; exact ⟨Ao, co, heap_alloc_new w3 _, HCO.out, Kd.F_alloc HFO.out _, fun h => by have := HOW.out _ h; omega⟩)
  have HB4 := Aside0.mk (show Below w.heap.size w w4 by rw [hw4]; exact HB3.out.alloc HB3.out.size _)
  have HG4 := Aside0.mk (show w4.heap.size = g + 1 by rw [hw4, hg]; simp)
  have HGW := Aside0.mk (show w.heap.size ≤ g by rw [hg]; exact HB3.out.size)
  have HOG := Aside0.mk (show ∀ i, OW i → i < g by rw [hg]; exact HOW.out)
  clear hw4 hg HFO HB3 HOW
  go_wp2_with fail
  (with_reducible refine (write_calls _).mono ?_)
  rintro e w5 ⟨rfl, hw5⟩
  obtain ⟨v, hv⟩ : ∃ v, v = w4.heap.size := ⟨_, rfl⟩
  rw [← hv]
  have hbe : Below w4.heap.size w4 w5 := by rw [hw5]; exact below_alloc (Below.refl _ _) _
  have HW5 := Aside0.mk (show WrAt w5 v w.heap.size 0 [] by rw [hw5, hv]; exact write_at w4 w.heap.size HB4.out.size)
  have HR5 := Aside0.mk (HR4.out.below hbe)
  have HB5 := Aside0.mk (HB4.out.trans (hbe.mono HB4.out.size))
  have HGV := Aside0.mk (show g ≠ v by rw [hv, HG4.out]; omega)
  have HVG := Aside0.mk (show v = g + 1 by rw [hv, HG4.out])
  have HPG := Aside0.mk (show ¬ (g < w.heap.size) by have := HGW.out; omega)
  clear hw5 hv hbe HR4 HB4 HG4
  go_wp2_with fail
  go_loopw [9] (fun v9 wr => ∃ (i : Nat) (e : Int) (l : List Int), i ≤ l1.length ∧ v9 = .int .i64 i ∧ Aside0 (RdAt wr g OW e l) ∧ Aside0 (WrAt wr v w.heap.size 0 []) ∧ Aside0 (Below w.heap.size w wr) ∧ Aside0 (l.length ≤ l0.length ∧ crosswaylaw09_ScanStays.asks k l0 (l1.drop i) e l = some (ef, lf)))
    (fun v9 _ => l1.length - (intOf v9).toNat)
  case atStart => exact ⟨0, 0, l0, Nat.zero_le _, rfl, HR5, HW5, HB5, ⟨⟨Nat.le_refl _, ASKS.out⟩⟩⟩
  case round =>
    clear HR5 HW5 HB5 ASKS
    obtain ⟨i, e, l, hi, rfl, HR, HW, HB, HRUN⟩ := hrel
    by_cases hlt : i < l1.length
    · obtain ⟨a, ha⟩ : ∃ a, a = rd_T47 l1 (i : Int) := ⟨_, rfl⟩
      have hdrop : l1.drop i = a :: l1.drop (i + 1) := by
        rw [List.drop_eq_getElem_cons hlt, ha]
        unfold rd_T47
        rw [Int.toNat_natCast, List.getD_eq_getElem?_getD, List.getElem?_eq_getElem hlt]; rfl
      have hrun := HRUN.out.2
      rw [hdrop] at hrun
      obtain ⟨b, e2, m, q1, q2, hask, hstay, hml, hrest⟩ := crosswaylaw09_ScanStays.asks_cons hrun
      obtain ⟨ad, had, hx0, hx1⟩ := at_T47 HR1.out (i : Int) (by omega) (by omega)
      rw [Int.toNat_natCast, ← ha] at hx0 hx1
      subst had
      have HX0 := Aside0.mk hx0
      have HX1 := Aside0.mk hx1
      have HASK := Aside0.mk hask
      have HSTAY := Aside0.mk hstay
      have HREST := Aside0.mk hrest
      have HML := Aside0.mk hml
      have HML0 := Aside0.mk (show m.length ≤ l0.length from Nat.le_trans hml HRUN.out.1)
      have HLL := Aside0.mk (show l.length < 140737488355328 by have := HRUN.out.1; have := Q0.out; omega)
      have HL0 := Aside0.mk (show l0.length < 140737488355328 by have := Q0.out; omega)
      have p1 : ((0 : Int) ≤ (i : Int)) = True := eq_true (by omega)
      have p2 : ((i : Int) < (l1.length : Int)) = True := eq_true (by omega)
      obtain ⟨Ag, cg, hbg, _⟩ := HR.out.opens
      have HBG := Aside0.mk hbg
      clear hask hrest hml hrun hdrop ha hstay HRUN hx0 hx1 hbg
      go_wp2_with fail
      (with_reducible refine (err_calls _ g e _ HBG.out).mono ?_)
      rintro en wa ⟨rfl, rfl⟩
      go_wp2_with fail
      (with_reducible refine (left_calls _ g OW e l HR.out).mono ?_)
      rintro en wb ⟨rfl, rfl⟩
      go_upto_region 15 with (fail)
      obtain ⟨s, hs⟩ : ∃ s, s = wb.heap.size := ⟨_, rfl⟩
      obtain ⟨wc, hwc⟩ : ∃ wc, wc = wb.alloc (.cells #[.slice A0 l0.length c0, .int .i64 0] 44) := ⟨_, rfl⟩
      rw [← hwc, ← hs]
      have hbe : Below wb.heap.size wb wc := by rw [hwc]; exact below_alloc (Below.refl _ _) _
      have HRc := Aside0.mk (HR.out.below hbe)
      have HWc := Aside0.mk (HW.out.below hbe)
      have HBc := Aside0.mk (HB.out.trans (hbe.mono HB.out.size))
      have HSc := Aside0.mk (show RfAt wc s (fun k => k < w.heap.size) 0 l0 by rw [hs, hwc]; exact ⟨A0, c0, heap_alloc_new wb _, HC0.out, Kd.F_alloc (Kd.F_below (Kd.C_F (Kd.heap_int .u8) HR0.out) HB.out) _, fun h => by have := HB.out.size; omega⟩)
      have hgl : g < wb.heap.size := blk_lt HBG.out
      have hvl : v < wb.heap.size := HW.out.row_lt
      have HGS := Aside0.mk (show g ≠ s by rw [hs]; omega)
      have HSV := Aside0.mk (show s ≠ v by rw [hs]; omega)
      have HSW := Aside0.mk (show w.heap.size ≤ s by rw [hs]; exact HB.out.size)
      have HOS := Aside0.mk (show ¬ OW s from fun h => by have := HOG.out _ h; omega)
      have hx0 := cell_later HBc.out HX0.out
      have hx1 := cell_later HBc.out HX1.out
      clear hwc hbe hs HR HW HB HBG hgl hvl
      go_wp2_with fail
      (with_reducible refine (ask_calls k wc g s OW (fun k => k < w.heap.size) e 0 a.f0 a.f1 e2 q1 l l0 m q2 b HRc.out HSc.out HGS.out HOS.out HPG.out HLL.out HL0.out HASK.out).mono ?_)
      rintro en wd ⟨rfl, hrd, hsd, W6, hg6, hg7⟩
      have HRd := Aside0.mk hrd
      obtain ⟨_, _, hbgc, _⟩ := HRc.out.opens
      obtain ⟨_, _, hbsc, _⟩ := HSc.out.opens
      have hbs6 := blk_grown hbsc hg6 (fun x => HGS.out (Option.some.inj x).symm)
      have HWd := Aside0.mk ((HWc.out.grown hg6 HGV.out hbgc (by decide)).grown hg7 HSV.out hbs6 (by decide))
      have hb6 := HBc.out.grown hg6 HBc.out.size (fun k e => by cases e; exact HGW.out)
      have HBd := Aside0.mk (hb6.grown hg7 hb6.size (fun k e => by cases e; exact HSW.out))
      obtain ⟨Ad, cd, hbd, _⟩ := HRd.out.opens
      have HBDG := Aside0.mk hbd
      clear hrd hsd hg6 hg7 hbgc hbsc hbs6 hb6 hbd HRc HWc HBc HSc hx0 hx1
      have hgt : decide (l.length < m.length) = false := decide_eq_false (by have := HML.out; omega)
      by_cases he : e = 0
      · subst he
        go_wp2_with fail
        (with_reducible refine (left_calls _ g OW e2 m HRd.out).mono ?_)
        rintro en we ⟨rfl, rfl⟩
        go_wp2_with fail
        go_roundw
        case measure => simp [intOf]; omega
        case rel => exact ⟨i + 1, e2, m, by omega, by go_num, HRd, HWd, HBd, ⟨⟨HML0.out, HREST.out⟩⟩⟩
      · obtain ⟨rfl, rfl⟩ := HSTAY.out he
        have he1 : (e2 != 0) = true := bne_iff_ne.mpr he
        have hee : (e2 != e2) = false := bne_self_eq_false _
        have hmm : (m.length != m.length) = false := bne_self_eq_false _
        clear he HSTAY
        go_wp2_with fail
        (with_reducible refine (err_calls _ g e2 _ HBDG.out).mono ?_)
        rintro en we ⟨rfl, rfl⟩
        go_wp2_with fail
        (with_reducible refine (left_calls _ g OW e2 m HRd.out).mono ?_)
        rintro en wf ⟨rfl, rfl⟩
        go_wp2_with fail
        (with_reducible refine (left_calls _ g OW e2 m HRd.out).mono ?_)
        rintro en wg ⟨rfl, rfl⟩
        go_wp2_with fail
        go_roundw
        case measure => simp [intOf]; omega
        case rel => exact ⟨i + 1, e2, m, by omega, by go_num, HRd, HWd, HBd, ⟨⟨HML0.out, HREST.out⟩⟩⟩
    · obtain rfl : i = l1.length := by omega
      have hfin := HRUN.out.2
      rw [List.drop_length] at hfin
      have hfin2 : some (e, l) = some (ef, lf) := hfin
      simp only [Option.some.injEq, Prod.mk.injEq] at hfin2
      obtain ⟨rfl, rfl⟩ := hfin2
      obtain ⟨Ag, cg, hbg, _⟩ := HR.out.opens
      have HBG := Aside0.mk hbg
      have HLL := Aside0.mk (show l.length < 140737488355328 by have := HRUN.out.1; have := Q0.out; omega)
      clear hlt hi hfin hbg HRUN
      go_wp2_with fail
      (with_reducible refine (err_calls _ g e _ HBG.out).mono ?_)
      rintro en wa ⟨rfl, rfl⟩
      by_cases he : e = 0
      · subst he
        clear HBG NOU HR
        have HWZ := HW
        have HBZ := HB
        clear HW HB
        have hlm := Kd.C_max HR2.out
        go_wp2_with fail
        go_loopw [13] (fun v13 wr => ∃ (i : Nat) (e : Int) (l : List Int), i ≤ l2.length ∧ v13 = .int .i64 i ∧ Aside0 (WrAt wr v w.heap.size e l) ∧ Aside0 (Below w.heap.size w wr) ∧ Aside0 (crosswaylaw09_ScanStays.puts k (l2.drop i) e l = true))
          (fun v13 _ => l2.length - (intOf v13).toNat)
        case atStart => exact ⟨0, 0, [], Nat.zero_le _, rfl, HWZ, HBZ, PUTS⟩
        case round =>
          clear HWZ HBZ PUTS
          obtain ⟨i, e, l, hi, rfl, HW, HB, HRUN⟩ := hrel
          by_cases hlt : i < l2.length
          · obtain ⟨a, ha⟩ : ∃ a, a = rd_T35 l2 (i : Int) := ⟨_, rfl⟩
            have hdrop : l2.drop i = a :: l2.drop (i + 1) := by
              rw [List.drop_eq_getElem_cons hlt, ha]
              unfold rd_T35
              rw [Int.toNat_natCast, List.getD_eq_getElem?_getD, List.getElem?_eq_getElem hlt]; rfl
            have hrun := HRUN.out
            rw [hdrop] at hrun
            obtain ⟨e2, m, q1, q2, hput, hstay, hbl, hll, hml, hrest⟩ := crosswaylaw09_ScanStays.puts_cons hrun
            obtain ⟨ad, A3, c3, had, hx0, hx1, hx2, hx3, hlc, hC3⟩ := at_T35 HR2.out (i : Int) (by omega) (by omega)
            rw [Int.toNat_natCast, ← ha] at hx0 hx1 hx2 hx3
            rw [← ha] at hlc hC3
            subst had
            have HX0 := Aside0.mk hx0
            have HX1 := Aside0.mk hx1
            have HX2 := Aside0.mk hx2
            have HX3 := Aside0.mk hx3
            have HC3 := Aside0.mk hC3
            have HPUT := Aside0.mk hput
            have HSTAY := Aside0.mk hstay
            have HBL := Aside0.mk hbl
            have HLL2 := Aside0.mk hll
            have HML := Aside0.mk hml
            have HREST := Aside0.mk hrest
            have HLC := Aside0.mk hlc
            have p1 : ((0 : Int) ≤ (i : Int)) = True := eq_true (by omega)
            have p2 : ((i : Int) < (l2.length : Int)) = True := eq_true (by omega)
            clear hput hstay hbl hll hml hrest hdrop ha HRUN hx0 hx1 hx2 hx3 hC3 hlc
            go_wp2_with fail
            (with_reducible refine (done_calls _ v w.heap.size e l HW.out HLL2.out).mono ?_)
            rintro en wa ⟨va, rfl, hra, hba⟩
            obtain ⟨xs, hxs⟩ : ∃ xs, xs = (if e = 0 then l else []) := ⟨_, rfl⟩
            rw [← hxs] at hra
            clear hxs
            obtain ⟨Aa, ca, rfl, _, _⟩ := row_at hra
            have HWa := Aside0.mk (HW.out.below hba)
            have HBa := Aside0.mk (HB.out.trans (hba.mono HB.out.size))
            clear hra hba HW HB
            obtain ⟨s, hs⟩ : ∃ s, s = wa.heap.size := ⟨_, rfl⟩
            obtain ⟨wc, hwc⟩ : ∃ wc, wc = wa.alloc (.cells #[.slice none 0 0, .int .i64 0] 31) := ⟨_, rfl⟩
            have hbe : Below wa.heap.size wa wc := by rw [hwc]; exact below_alloc (Below.refl _ _) _
            have hbk : wc.heap[s]? = some (.cells #[.slice none 0 0, .int .i64 0] 31 (0, 0)) := by rw [hwc, hs]; exact blk_new wa _
            have HP := Aside0.mk (Pair.new HWa.out hbe ⟨_, hbk, Kd.R_nil _ _ _ _ _, by rw [hs]; exact HBa.out.size⟩ (by rw [hs]; exact Nat.le_refl _) (Nat.le_refl _) rfl ⟨_, hbk⟩ : Pair wc v s w.heap.size e l 0 [])
            have HBc := Aside0.mk (HBa.out.trans (hbe.mono HBa.out.size))
            have HF := Aside0.mk (Kd.F_below (Kd.C_F (Kd.heap_int .u8) HC3.out) HBc.out)
            have hx0 := cell_later HBc.out HX0.out
            have hx1 := cell_later HBc.out HX1.out
            have hx2 := cell_later HBc.out HX2.out
            have hx3 := cell_later HBc.out HX3.out
            rw [hwc] at hx0 hx1 hx2 hx3
            have HWC := Aside0.mk hwc
            have HSS := Aside0.mk hs
            clear hbe hbk hwc hs HWa HBa HC3
            go_wp2_with fail
            rw [← HWC.out, ← HSS.out]
            (with_reducible refine (lput_calls k wc v s w.heap.size e 0 l [] a.f0 a.f1 a.f2 a.f3 A3 c3 (fun i => i < w.heap.size) e2 q1 m q2 HP.out HF.out (fun _ h => h) HLC.out HBL.out HPUT.out).mono ?_)
            rintro en wd ⟨rfl, hpd, hbd, _⟩
            have HWd := Aside0.mk hpd.w
            have HBd := Aside0.mk (HBc.out.trans hbd)
            clear hpd hbd HP HBc HF hx0 hx1 hx2 hx3 HWC HSS
            go_wp2_with fail
            (with_reducible refine (done_calls _ v w.heap.size e2 m HWd.out HML.out).mono ?_)
            rintro en we ⟨vb, rfl, hrb, hbe⟩
            have HWe := Aside0.mk (HWd.out.below hbe)
            have HBe := Aside0.mk (HBd.out.trans (hbe.mono HBd.out.size))
            clear hbe HWd HBd
            by_cases he : e = 0
            · subst he
              obtain ⟨ys, hys⟩ : ∃ ys, ys = (if e2 = 0 then m else []) := ⟨_, rfl⟩
              rw [← hys] at hrb
              clear hys
              obtain ⟨Ab, cb, rfl, _, _⟩ := row_at hrb
              clear hrb
              go_wp2_with fail
              go_roundw
              case measure => simp [intOf]; omega
              case rel => exact ⟨i + 1, e2, m, by omega, by go_num, HWe, HBe, HREST⟩
            · obtain ⟨rfl, rfl⟩ := HSTAY.out he
              rw [if_neg he] at hrb
              obtain ⟨Ab, cb, rfl, _, _⟩ := row_at hrb
              have he1 : (e2 != 0) = true := bne_iff_ne.mpr he
              have hee : (e2 != e2) = false := bne_self_eq_false _
              clear he HSTAY hrb
              go_wp2_with fail
              go_roundw
              case measure => simp [intOf]; omega
              case rel => exact ⟨i + 1, e2, m, by omega, by go_num, HWe, HBe, HREST⟩
          · obtain rfl : i = l2.length := by omega
            clear hlt hi HRUN
            have HE := Aside0.mk HB.out
            go_wp2_with fail
            go_ret
            exact ⟨rfl, HE.out⟩
      · have hn := crosswaylaw09_ScanStays.nought_out (NOU.out he)
        obtain ⟨n1, n2, n3, n4, n5, n6⟩ := hn
        have N1 := Aside0.mk n1
        have N2 := Aside0.mk n2
        have N3 := Aside0.mk n3
        have N4 := Aside0.mk n4
        have N5 := Aside0.mk n5
        have N6 := Aside0.mk n6
        have he1 : (e != 0) = true := bne_iff_ne.mpr he
        clear n1 n2 n3 n4 n5 n6 he NOU HBG
        go_wp2_with fail
        (with_reducible refine (num_calls k _ g OW e 1 0 e l l HR.out HLL.out N1.out).mono ?_)
        rintro en wq0 ⟨rfl, hrq, hgq⟩
        obtain ⟨_, _, hbq, _⟩ := HR.out.opens
        have HWq := Aside0.mk (HW.out.grown hgq HGV.out hbq (by decide))
        have HBq := Aside0.mk (HB.out.grown hgq HB.out.size (fun k e => by cases e; exact HGW.out))
        have HRq := Aside0.mk hrq
        clear hrq hgq hbq HW HB HR 
        have HW := HWq
        have HB := HBq
        have HR := HRq
        clear HWq HBq HRq
        go_wp2_with fail
        (with_reducible refine (bytes_calls _ g OW e 1 e l [] l HR.out HLL.out N2.out).mono ?_)
        rintro en wq1 ⟨vq, rfl, hvq, hrq, hgq⟩
        obtain ⟨Aq, cq, rfl, _, _⟩ := row_at hvq
        obtain ⟨_, _, hbq, _⟩ := HR.out.opens
        have HWq := Aside0.mk (HW.out.grown hgq HGV.out hbq (by decide))
        have HBq := Aside0.mk (HB.out.grown hgq HB.out.size (fun k e => by cases e; exact HGW.out))
        have HRq := Aside0.mk hrq
        clear hrq hgq hbq HW HB HR hvq
        have HW := HWq
        have HB := HBq
        have HR := HRq
        clear HWq HBq HRq
        go_wp2_with fail
        (with_reducible refine (vari_calls k _ g OW e 0 e l l HR.out HLL.out N3.out).mono ?_)
        rintro en wq2 ⟨rfl, hrq, hgq⟩
        obtain ⟨_, _, hbq, _⟩ := HR.out.opens
        have HWq := Aside0.mk (HW.out.grown hgq HGV.out hbq (by decide))
        have HBq := Aside0.mk (HB.out.grown hgq HB.out.size (fun k e => by cases e; exact HGW.out))
        have HRq := Aside0.mk hrq
        clear hrq hgq hbq HW HB HR 
        have HW := HWq
        have HB := HBq
        have HR := HRq
        clear HWq HBq HRq
        go_wp2_with fail
        (with_reducible refine (short_calls k _ g OW e e l [] l HR.out HLL.out N4.out).mono ?_)
        rintro en wq3 ⟨vq, rfl, hvq, hrq, hgq⟩
        obtain ⟨Aq, cq, rfl, _, _⟩ := row_at hvq
        obtain ⟨_, _, hbq, _⟩ := HR.out.opens
        have HWq := Aside0.mk (HW.out.grown hgq HGV.out hbq (by decide))
        have HBq := Aside0.mk (HB.out.grown hgq HB.out.size (fun k e => by cases e; exact HGW.out))
        have HRq := Aside0.mk hrq
        clear hrq hgq hbq HW HB HR hvq
        have HW := HWq
        have HB := HBq
        have HR := HRq
        clear HWq HBq HRq
        go_wp2_with fail
        (with_reducible refine (long_calls k _ g OW e e l [] l HR.out HLL.out N5.out).mono ?_)
        rintro en wq4 ⟨vq, rfl, hvq, hrq, hgq⟩
        obtain ⟨Aq, cq, rfl, _, _⟩ := row_at hvq
        obtain ⟨_, _, hbq, _⟩ := HR.out.opens
        have HWq := Aside0.mk (HW.out.grown hgq HGV.out hbq (by decide))
        have HBq := Aside0.mk (HB.out.grown hgq HB.out.size (fun k e => by cases e; exact HGW.out))
        have HRq := Aside0.mk hrq
        clear hrq hgq hbq HW HB HR hvq
        have HW := HWq
        have HB := HBq
        have HR := HRq
        clear HWq HBq HRq
        go_wp2_with fail
        (with_reducible refine (rest_calls _ g OW e e l [] l HR.out HLL.out N6.out).mono ?_)
        rintro en wq5 ⟨vq, rfl, hvq, hrq, hgq⟩
        obtain ⟨Aq, cq, rfl, _, _⟩ := row_at hvq
        obtain ⟨_, _, hbq, _⟩ := HR.out.opens
        have HWq := Aside0.mk (HW.out.grown hgq HGV.out hbq (by decide))
        have HBq := Aside0.mk (HB.out.grown hgq HB.out.size (fun k e => by cases e; exact HGW.out))
        have HRq := Aside0.mk hrq
        clear hrq hgq hbq HW HB HR hvq
        have HW := HWq
        have HB := HBq
        have HR := HRq
        clear HWq HBq HRq
        have HWZ := HW
        have HBZ := HB
        clear HW HB HR
        have hlm := Kd.C_max HR2.out
        go_wp2_with fail
        go_loopw [13] (fun v13 wr => ∃ (i : Nat) (e : Int) (l : List Int), i ≤ l2.length ∧ v13 = .int .i64 i ∧ Aside0 (WrAt wr v w.heap.size e l) ∧ Aside0 (Below w.heap.size w wr) ∧ Aside0 (crosswaylaw09_ScanStays.puts k (l2.drop i) e l = true))
          (fun v13 _ => l2.length - (intOf v13).toNat)
        case atStart => exact ⟨0, 0, [], Nat.zero_le _, rfl, HWZ, HBZ, PUTS⟩
        case round =>
          clear HWZ HBZ PUTS
          obtain ⟨i, e, l, hi, rfl, HW, HB, HRUN⟩ := hrel
          by_cases hlt : i < l2.length
          · obtain ⟨a, ha⟩ : ∃ a, a = rd_T35 l2 (i : Int) := ⟨_, rfl⟩
            have hdrop : l2.drop i = a :: l2.drop (i + 1) := by
              rw [List.drop_eq_getElem_cons hlt, ha]
              unfold rd_T35
              rw [Int.toNat_natCast, List.getD_eq_getElem?_getD, List.getElem?_eq_getElem hlt]; rfl
            have hrun := HRUN.out
            rw [hdrop] at hrun
            obtain ⟨e2, m, q1, q2, hput, hstay, hbl, hll, hml, hrest⟩ := crosswaylaw09_ScanStays.puts_cons hrun
            obtain ⟨ad, A3, c3, had, hx0, hx1, hx2, hx3, hlc, hC3⟩ := at_T35 HR2.out (i : Int) (by omega) (by omega)
            rw [Int.toNat_natCast, ← ha] at hx0 hx1 hx2 hx3
            rw [← ha] at hlc hC3
            subst had
            have HX0 := Aside0.mk hx0
            have HX1 := Aside0.mk hx1
            have HX2 := Aside0.mk hx2
            have HX3 := Aside0.mk hx3
            have HC3 := Aside0.mk hC3
            have HPUT := Aside0.mk hput
            have HSTAY := Aside0.mk hstay
            have HBL := Aside0.mk hbl
            have HLL2 := Aside0.mk hll
            have HML := Aside0.mk hml
            have HREST := Aside0.mk hrest
            have HLC := Aside0.mk hlc
            have p1 : ((0 : Int) ≤ (i : Int)) = True := eq_true (by omega)
            have p2 : ((i : Int) < (l2.length : Int)) = True := eq_true (by omega)
            clear hput hstay hbl hll hml hrest hdrop ha HRUN hx0 hx1 hx2 hx3 hC3 hlc
            go_wp2_with fail
            (with_reducible refine (done_calls _ v w.heap.size e l HW.out HLL2.out).mono ?_)
            rintro en wa ⟨va, rfl, hra, hba⟩
            obtain ⟨xs, hxs⟩ : ∃ xs, xs = (if e = 0 then l else []) := ⟨_, rfl⟩
            rw [← hxs] at hra
            clear hxs
            obtain ⟨Aa, ca, rfl, _, _⟩ := row_at hra
            have HWa := Aside0.mk (HW.out.below hba)
            have HBa := Aside0.mk (HB.out.trans (hba.mono HB.out.size))
            clear hra hba HW HB
            obtain ⟨s, hs⟩ : ∃ s, s = wa.heap.size := ⟨_, rfl⟩
            obtain ⟨wc, hwc⟩ : ∃ wc, wc = wa.alloc (.cells #[.slice none 0 0, .int .i64 0] 31) := ⟨_, rfl⟩
            have hbe : Below wa.heap.size wa wc := by rw [hwc]; exact below_alloc (Below.refl _ _) _
            have hbk : wc.heap[s]? = some (.cells #[.slice none 0 0, .int .i64 0] 31 (0, 0)) := by rw [hwc, hs]; exact blk_new wa _
            have HP := Aside0.mk (Pair.new HWa.out hbe ⟨_, hbk, Kd.R_nil _ _ _ _ _, by rw [hs]; exact HBa.out.size⟩ (by rw [hs]; exact Nat.le_refl _) (Nat.le_refl _) rfl ⟨_, hbk⟩ : Pair wc v s w.heap.size e l 0 [])
            have HBc := Aside0.mk (HBa.out.trans (hbe.mono HBa.out.size))
            have HF := Aside0.mk (Kd.F_below (Kd.C_F (Kd.heap_int .u8) HC3.out) HBc.out)
            have hx0 := cell_later HBc.out HX0.out
            have hx1 := cell_later HBc.out HX1.out
            have hx2 := cell_later HBc.out HX2.out
            have hx3 := cell_later HBc.out HX3.out
            rw [hwc] at hx0 hx1 hx2 hx3
            have HWC := Aside0.mk hwc
            have HSS := Aside0.mk hs
            clear hbe hbk hwc hs HWa HBa HC3
            go_wp2_with fail
            rw [← HWC.out, ← HSS.out]
            (with_reducible refine (lput_calls k wc v s w.heap.size e 0 l [] a.f0 a.f1 a.f2 a.f3 A3 c3 (fun i => i < w.heap.size) e2 q1 m q2 HP.out HF.out (fun _ h => h) HLC.out HBL.out HPUT.out).mono ?_)
            rintro en wd ⟨rfl, hpd, hbd, _⟩
            have HWd := Aside0.mk hpd.w
            have HBd := Aside0.mk (HBc.out.trans hbd)
            clear hpd hbd HP HBc HF hx0 hx1 hx2 hx3 HWC HSS
            go_wp2_with fail
            (with_reducible refine (done_calls _ v w.heap.size e2 m HWd.out HML.out).mono ?_)
            rintro en we ⟨vb, rfl, hrb, hbe⟩
            have HWe := Aside0.mk (HWd.out.below hbe)
            have HBe := Aside0.mk (HBd.out.trans (hbe.mono HBd.out.size))
            clear hbe HWd HBd
            by_cases he : e = 0
            · subst he
              obtain ⟨ys, hys⟩ : ∃ ys, ys = (if e2 = 0 then m else []) := ⟨_, rfl⟩
              rw [← hys] at hrb
              clear hys
              obtain ⟨Ab, cb, rfl, _, _⟩ := row_at hrb
              clear hrb
              go_wp2_with fail
              go_roundw
              case measure => simp [intOf]; omega
              case rel => exact ⟨i + 1, e2, m, by omega, by go_num, HWe, HBe, HREST⟩
            · obtain ⟨rfl, rfl⟩ := HSTAY.out he
              rw [if_neg he] at hrb
              obtain ⟨Ab, cb, rfl, _, _⟩ := row_at hrb
              have he1 : (e2 != 0) = true := bne_iff_ne.mpr he
              have hee : (e2 != e2) = false := bne_self_eq_false _
              clear he HSTAY hrb
              go_wp2_with fail
              go_roundw
              case measure => simp [intOf]; omega
              case rel => exact ⟨i + 1, e2, m, by omega, by go_num, HWe, HBe, HREST⟩
          · obtain rfl : i = l2.length := by omega
            clear hlt hi HRUN
            have HE := Aside0.mk HB.out
            go_wp2_with fail
            go_ret
            exact ⟨rfl, HE.out⟩


/-- The one pure statement of crosswaylaw09_ScanStays. -/
def crosswaylaw09_ScanStays.Pure : Prop := ∀ (l0 : List Int) (l1 : List (S47)) (l2 : List (S35)), l0.length ≤ maxLen → (∀ x ∈ l0, (Lit.int .u8 x).wf = true) → l1.length ≤ maxLen → (∀ x ∈ l1, ((Lit.int .i64 x.f0).wf = true) ∧ ((Lit.int .i64 x.f1).wf = true) ∧ True) → l2.length ≤ maxLen → (∀ x ∈ l2, ((Lit.int .i64 x.f0).wf = true) ∧ ((Lit.int .i64 x.f1).wf = true) ∧ ((Lit.int .u64 x.f2).wf = true) ∧ (x.f3.length ≤ maxLen ∧ ∀ xx_f3 ∈ x.f3, (Lit.int .u8 xx_f3).wf = true) ∧ True) → ∃ k, crosswaylaw09_ScanStays.f k l0 l1 l2 = some true

end Go.Proofs.Ytmhmmmkpijbbiaa.M
