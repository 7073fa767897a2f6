/- Contracts of the Go functions that the laws reach, each as a plain Lean function: written by xprint.py, a program of this repo. -/
import Derived.Test.YtmhmmmkpijbbiaaScanPut
import Derived.Test.YtmhmmmkpijbbiaaScanTells
import Derived.WalkSpells
import Derived.Test.YtmhmmmkpijbbiaaM0
import Derived.Test.YtmhmmmkpijbbiaaM1
import Derived.Test.YtmhmmmkpijbbiaaM2
import Derived.Test.YtmhmmmkpijbbiaaM3
import Derived.Test.YtmhmmmkpijbbiaaM6
namespace Go.Proofs.Ytmhmmmkpijbbiaa.M
open Go.RowKit Go.Proofs.YtmhmmmkpijbbiaaW.PrintWords Go.Proofs.YtmhmmmkpijbbiaaW.PrintLast Go.Proofs.YtmhmmmkpijbbiaaW.PrintMore Go.Proofs.Ytmhmmmkpijbbiaa.X
attribute [local go_sem] max2_int min2_int max_two min_two max_three min_three max_four min_four   -- for this text's walks alone
set_option linter.unusedVariables false
set_option linter.unusedSimpArgs false

/-! ### crosswaylaw09_ScanBack: function 5, typed by hand -/
-- IMPORT Derived.Test.YtmhmmmkpijbbiaaScanPut
-- IMPORT Derived.Test.YtmhmmmkpijbbiaaScanTells
-- IMPORT Derived.WalkSpells
/-- How many parts are put ahead of the first error. -/
def crosswaylaw09_ScanBack.first (k : Nat) : List S35 → List Int → Option Nat
  | [], _ => some 0
  | p :: rest, l => (putf k 0 l 0 [] p.f0 p.f1 p.f2 p.f3).bind fun x => if p.f3.length < 140737488355328 ∧ x.1.2.length < 140737488355328 then (if x.1.1 = 0 then (crosswaylaw09_ScanBack.first k rest x.1.2).map (· + 1) else some 0) else none
theorem crosswaylaw09_ScanBack.first_cons {k : Nat} {p : S35} {rest : List S35} {l : List Int} {d : Nat} (h : crosswaylaw09_ScanBack.first k (p :: rest) l = some d) : ∃ e2 m q1 q2, putf k 0 l 0 [] p.f0 p.f1 p.f2 p.f3 = some ((e2, m), (q1, q2)) ∧ p.f3.length < 140737488355328 ∧ m.length < 140737488355328 ∧ ((e2 = 0 ∧ ∃ d2, d = d2 + 1 ∧ crosswaylaw09_ScanBack.first k rest m = some d2) ∨ (e2 ≠ 0 ∧ d = 0)) := by
  unfold crosswaylaw09_ScanBack.first at h
  obtain ⟨⟨⟨e2, m⟩, ⟨q1, q2⟩⟩, h1, h2⟩ := Option.bind_eq_some_iff.1 h
  dsimp only at h2
  by_cases hc : p.f3.length < 140737488355328 ∧ m.length < 140737488355328
  · rw [if_pos hc] at h2
    refine ⟨e2, m, q1, q2, h1, hc.1, hc.2, ?_⟩
    by_cases he : e2 = 0
    · rw [if_pos he] at h2
      obtain ⟨d2, hd, rfl⟩ := Option.map_eq_some_iff.1 h2
      exact .inl ⟨he, d2, rfl, hd⟩
    · rw [if_neg he] at h2
      exact .inr ⟨he, (Option.some.inj h2).symm⟩
  · rw [if_neg hc] at h2; cases h2
/-- What is put again. -/
def crosswaylaw09_ScanBack.again (k : Nat) : List S35 → List Int → Option (List Int)
  | [], l => some l
  | p :: rest, l => (putf k 0 l 0 [] p.f0 p.f1 p.f2 p.f3).bind fun x => if x.1.1 = 0 ∧ p.f3.length < 140737488355328 ∧ x.1.2.length < 140737488355328 then crosswaylaw09_ScanBack.again k rest x.1.2 else none
theorem crosswaylaw09_ScanBack.again_cons {k : Nat} {p : S35} {rest : List S35} {l m : List Int} (h : crosswaylaw09_ScanBack.again k (p :: rest) l = some m) : ∃ l1 q1 q2, putf k 0 l 0 [] p.f0 p.f1 p.f2 p.f3 = some ((0, l1), (q1, q2)) ∧ p.f3.length < 140737488355328 ∧ l1.length < 140737488355328 ∧ crosswaylaw09_ScanBack.again k rest l1 = some m := by
  unfold crosswaylaw09_ScanBack.again at h
  obtain ⟨⟨⟨e2, l1⟩, ⟨q1, q2⟩⟩, h1, h2⟩ := Option.bind_eq_some_iff.1 h
  dsimp only at h2
  by_cases hc : e2 = 0 ∧ p.f3.length < 140737488355328 ∧ l1.length < 140737488355328
  · rw [if_pos hc] at h2
    obtain ⟨rfl, h3, h4⟩ := hc
    exact ⟨l1, q1, q2, h1, h3, h4, h2⟩
  · rw [if_neg hc] at h2; cases h2
def crosswaylaw09_ScanBack.f (k : Nat) (l0 : List S35) (a1 : Int) : Option Bool :=
  (crosswaylaw09_great.f k l0).bind fun b => if b = true then some true else
    if l0.length ≤ 60 then (crosswaylaw09_ScanBack.first k l0 []).bind fun d => (crosswaylaw09_ScanBack.again k (l0.take d) []).bind fun m =>
      if m.length < 140737488355328 ∧ tellf k (l0.take d) true 0 m = some (true, 0, []) then
        (if a1 < 0 ∨ a1 ≥ (m.length : Int) then some true else (tellf k (l0.take d) true 0 (m.take a1.toNat)).bind fun u => if u.1 = false ∧ u.2.1 = 12 then some true else none)
      else none
    else none
theorem choose_list {α : Type} (z : α) (P : Nat → α → Prop) : ∀ n : Nat, (∀ i, i < n → ∃ x, P i x) → ∃ xs : List α, xs.length = n ∧ ∀ i, i < n → P i (xs.getD i z)
  | 0, _ => ⟨[], rfl, fun i h => absurd h (Nat.not_lt_zero i)⟩
  | n + 1, h => by
    obtain ⟨xs, hl, hx⟩ := choose_list z P n (fun i hi => h i (by omega))
    obtain ⟨x, hP⟩ := h n (by omega)
    refine ⟨xs ++ [x], by simp [hl], fun i hi => ?_⟩
    by_cases hn : i < n
    · have := hx i hn
      rw [List.getD_eq_getElem?_getD, List.getElem?_append_left (by omega), ← List.getD_eq_getElem?_getD]
      exact this
    · obtain rfl : i = n := by omega
      rw [List.getD_eq_getElem?_getD, List.getElem?_append_right (by omega), hl, Nat.sub_self]
      exact hP
theorem raw_one {u : Nat} (w : World) (x : Raw) : Kd.C kRaw (w.alloc (.cells #[.int .i64 x.1, .int .i64 x.2.1, .int .u64 x.2.2.1, .slice x.2.2.2.1 x.2.2.2.2.1 x.2.2.2.2.2] u)) (some ⟨w.heap.size, 0, none⟩) 1 [x] := by
  refine ⟨rfl, by decide, fun _ => ⟨_, rfl, fun j p hj => ?_⟩⟩
  obtain ⟨hjl, hp⟩ := List.getElem?_eq_some_iff.1 hj
  obtain rfl : j = 0 := by simp at hjl; omega
  simp only [List.getElem_cons_zero] at hp
  subst hp
  refine ⟨_, rfl, kRaw_mk _ x, fun i v hv => ?_⟩
  have hb : (w.alloc (.cells #[.int .i64 x.1, .int .i64 x.2.1, .int .u64 x.2.2.1, .slice x.2.2.2.1 x.2.2.2.2.1 x.2.2.2.2.2] u)).heap[w.heap.size]? = some (.cells #[.int .i64 x.1, .int .i64 x.2.1, .int .u64 x.2.2.1, .slice x.2.2.2.1 x.2.2.2.2.1 x.2.2.2.2.2] u (0, 0)) := heap_alloc_new w _
  have h := blk_cell hb i
  rw [Addr.add_mid]
  have he : 0 + (0 * kRaw.sz + i) = i := by omega
  rw [he, h]
  rw [← hv]
  simp
theorem raw_at {e base : Nat} {ok : Nat → Prop} {w : World} {v : Value} {xs : List Raw} (h : Kd.R kRaw e w base ok v xs) : ∃ A c, v = .slice A xs.length c ∧ xs.length ≤ c ∧ Kd.C kRaw w A xs.length xs := Kd.Q_reads (Kd.Q_of_R h)
theorem apart_typed {W : World} {g B i t : Nat} {e : Int} {l : List Int} {cs : Array Value} (hW : WrAt W g B e l) (hi : W.heap[i]? = some (.cells cs t (0, 0))) (h1 : t ≠ 66) (h2 : 5 ≠ t) : ApartW W g i := by
  obtain ⟨v, hv, hR, _⟩ := hW
  refine ⟨blk_ne hi hv h1, fun e' v' h' => ?_⟩
  have h9 := hv.symm.trans h'
  simp only [Option.some.injEq, Obj.cells.injEq] at h9
  have h8 := h9.1
  simp at h8
  rw [← h8.2]
  exact Kd.R_ne hR hi h2
theorem apartF_typed {W : World} {s B i t : Nat} {e : Int} {l : List Int} {cs : Array Value} (hW : WfAt W s B e l) (hi : W.heap[i]? = some (.cells cs t (0, 0))) (h1 : t ≠ 31) (h2 : 5 ≠ t) : ApartF W s i := by
  obtain ⟨v, hv, hR, _⟩ := hW
  refine ⟨blk_ne hi hv h1, fun e' v' h' => ?_⟩
  have h9 := hv.symm.trans h'
  simp only [Option.some.injEq, Obj.cells.injEq] at h9
  have h8 := h9.1
  simp at h8
  rw [← h8.1]
  exact Kd.R_ne hR hi h2
/-- A list of parts of one's own stays over a put. -/
theorem raw_keep {W W1 : World} {g s B base : Nat} {e e' : Int} {l l' : List Int} {v : Value} {xs : List Raw} (hP : Pair W g s B e l e' l') (hk : KeepP W W1 g s) (h : Kd.R kRaw 35 W base (fun _ => True) v xs) : Kd.R kRaw 35 W1 base (fun _ => True) v xs := by
  obtain ⟨inner, ho⟩ := Kd.R_own h
  refine Kd.R_mono (Kd.R_step (Kd.R_tight rfl h) (fun i hi hlt => ?_)) (fun _ _ => trivial)
  obtain ⟨cells, hc⟩ := own_typed ho i hi.symm
  exact (hk.2 i hlt (apart_typed hP.w hc (by decide) (by decide)) (apartF_typed hP.f hc (by decide) (by decide))).1
set_option maxRecDepth 100000 in
set_option maxHeartbeats 8000000 in
theorem crosswaylaw09_ScanBack.calls (k : Nat) (A0 : Option Addr) (c0 : Nat) (l0 : List S35) (a1 : Int) (r : Bool) (w : World) (hr0 : Kd.C k35 w A0 l0.length l0) (hc0 : l0.length ≤ c0) (h : crosswaylaw09_ScanBack.f k l0 a1 = some r) :
    Calls Try.prog 5 #[.slice A0 l0.length c0, .int .i64 a1] w fun e w' => e = .returned (.bool r) ∧ Below w.heap.size w w' := by
  unfold crosswaylaw09_ScanBack.f at h
  have HR0 := Aside0.mk hr0
  have HC0 := Aside0.mk hc0
  clear hr0 hc0
  obtain ⟨bg, hgr, h2⟩ := Option.bind_eq_some_iff.1 h
  clear h
  have HGR := Aside0.mk hgr
  clear hgr
  by_cases hg : bg = true
  · rw [if_pos hg] at h2
    cases h2
    subst hg
    go_enter Try.func5, Try.ntmps5
    go_wp2_with fail
    (with_reducible refine (alive_calls _).mono ?_)
    rintro e w1 ⟨rfl, hb1⟩
    go_wp2_with fail
    (with_reducible refine (crosswaylaw09_great.calls k _ _ _ _ _ (Kd.C_below HR0.out hb1) HC0.out HGR.out).mono ?_)
    rintro e w2 ⟨rfl, hd2⟩
    have hb2 := hb1.trans (hd2.below.mono hb1.size)
    clear hb1 hd2
    go_wp2_with fail
    go_ret
    exact ⟨rfl, hb2⟩
  rw [if_neg hg] at h2
  have hgf : bg = false := by cases bg <;> simp_all
  subst hgf
  clear hg
  by_cases hlm : l0.length ≤ 60
  rotate_left
  · rw [if_neg hlm] at h2; cases h2
  rw [if_pos hlm] at h2
  obtain ⟨d, hfi, h3⟩ := Option.bind_eq_some_iff.1 h2
  obtain ⟨m, hag, h4⟩ := Option.bind_eq_some_iff.1 h3
  clear h2 h3
  by_cases htl : m.length < 140737488355328 ∧ tellf k (l0.take d) true 0 m = some (true, 0, [])
  rotate_left
  · rw [if_neg htl] at h4; cases h4
  rw [if_pos htl] at h4
  have FIRST := Aside0.mk hfi
  have AGAIN := Aside0.mk hag
  have HML := Aside0.mk htl.1
  have TELLS := Aside0.mk htl.2
  have HRES := Aside0.mk h4
  have HLM := Aside0.mk hlm
  obtain ⟨raws, hrl, hraws⟩ := choose_list zRaw (fun i x => ∃ ad A3 c3, A0 = some ad ∧ x = ((l0.getD i z35).f0, (l0.getD i z35).f1, (l0.getD i z35).f2, (A3, (l0.getD i z35).f3.length, c3)) ∧ w.cell? (ad.add (i * 4)) = some (.int .i64 (l0.getD i z35).f0) ∧ w.cell? ⟨(ad.add (i * 4)).block, (ad.add (i * 4)).off + 1, none⟩ = some (.int .i64 (l0.getD i z35).f1) ∧ w.cell? ⟨(ad.add (i * 4)).block, (ad.add (i * 4)).off + 2, none⟩ = some (.int .u64 (l0.getD i z35).f2) ∧ w.cell? ⟨(ad.add (i * 4)).block, (ad.add (i * 4)).off + 3, none⟩ = some (.slice A3 (l0.getD i z35).f3.length c3) ∧ (l0.getD i z35).f3.length ≤ c3 ∧ Kd.C (Kd.int .u8) w A3 (l0.getD i z35).f3.length (l0.getD i z35).f3) l0.length (fun i hi => by
    obtain ⟨ad, A3, c3, had, hx0, hx1, hx2, hx3, hlc, hC3⟩ := at_T35 HR0.out (i : Int) (by omega) (by omega)
    unfold rd_T35 at hx0 hx1 hx2 hx3 hlc hC3
    rw [Int.toNat_natCast] at hx0 hx1 hx2 hx3 hlc hC3
    exact ⟨_, ad, A3, c3, had, rfl, hx0, hx1, hx2, hx3, hlc, hC3⟩)
  have RAWS := Aside0.mk hraws
  have HRL := Aside0.mk hrl
  clear hfi hag htl h4 hraws hrl
  go_enter Try.func5, Try.ntmps5
  go_wp2_with fail
  (with_reducible refine (alive_calls _).mono ?_)
  rintro e w1 ⟨rfl, hb1⟩
  go_wp2_with fail
  (with_reducible refine (crosswaylaw09_great.calls k _ _ _ _ _ (Kd.C_below HR0.out hb1) HC0.out HGR.out).mono ?_)
  rintro e w2 ⟨rfl, hd2⟩
  have HB2 := Aside0.mk (hb1.trans (hd2.below.mono hb1.size))
  clear hb1 hd2
  go_wp2_with fail
  (with_reducible refine (write_calls _).mono ?_)
  rintro e w3 ⟨rfl, hw3⟩
  obtain ⟨v, hv⟩ : ∃ v, v = w2.heap.size := ⟨_, rfl⟩
  rw [← hv]
  have HW3 := Aside0.mk (show WrAt w3 v w.heap.size 0 [] by rw [hw3, hv]; exact write_at w2 w.heap.size HB2.out.size)
  have HB3 := Aside0.mk (show Below w.heap.size w w3 by rw [hw3]; exact HB2.out.alloc HB2.out.size _)
  clear hw3 hv HB2
  go_wp2_with ((with_reducible refine gate_dst (N := 21) rfl ?_); refine Kd.R_lit kRaw (w0 := w) w.heap.size 35 ?hg (N := 21) ?hd (xs := ([] : List Raw)) (inner := []) (ok := fun _ => True) (okp := fun _ => True) ?hr ?hp (fun _ hk => hk) trivial HB3.out HB3.out.size (by simp) ?_; (case hd => rfl); (case hg => rfl); (case hr => first | (go_simp; done) | (go_simp; rfl)); (case hp => exact (Reps.none _ _)); intro vd w4 ho4 hb4 hg4 hnew_; clear hnew_; have HD4 := Aside0.mk ho4; have HB4 := Aside0.mk hb4; have HW4 := Aside0.mk (show WrAt w4 v w.heap.size 0 [] from by
      obtain ⟨vv, hvv, hRv, hBv⟩ := HW3.out
      exact ⟨vv, blk_grown hvv hg4 (by simp), Kd.R_grown2 hRv rfl hg4 (fun k x => by cases x), hBv⟩); clear ho4 hb4 hg4 HW3 HB3)
  go_loopw [6, 7] (fun v6 v7 wr => ∃ (i dd : Nat) (l : List Int) (xs : List Raw), i ≤ l0.length ∧ v7 = .int .i64 i ∧ Aside0 (WrAt wr v w.heap.size 0 l ∧ l.length < 140737488355328) ∧ Aside0 (Kd.R kRaw 35 wr w.heap.size (fun _ => True) v6 xs ∧ xs = raws.take i) ∧ Aside0 (Below w.heap.size w wr) ∧ Aside0 (crosswaylaw09_ScanBack.first k (l0.drop i) l = some dd ∧ i + dd = d))
    (fun _ v7 _ => l0.length - (intOf v7).toNat)
  case atStart => exact ⟨0, d, [], [], Nat.zero_le _, rfl, ⟨⟨HW4.out, by decide⟩⟩, ⟨⟨HD4.out, rfl⟩⟩, HB4, ⟨⟨FIRST.out, by omega⟩⟩⟩
  case round =>
    clear HW4 HD4 HB4 FIRST
    obtain ⟨i, dd, l, xs, hi, rfl, HW, HD, HB, HRUN⟩ := hrel
    obtain ⟨Ad, cd, hvd, hdc, hdC⟩ := raw_at HD.out.1
    subst hvd
    have HDC := Aside0.mk hdc
    clear hdc hdC
    by_cases hlt : i < l0.length
    · obtain ⟨a, ha⟩ : ∃ a, a = l0.getD i z35 := ⟨_, rfl⟩
      have hdrop : l0.drop i = a :: l0.drop (i + 1) := by
        rw [List.drop_eq_getElem_cons hlt, ha, List.getD_eq_getElem?_getD, List.getElem?_eq_getElem hlt]; rfl
      have hrun := HRUN.out.1
      rw [hdrop] at hrun
      obtain ⟨e2, m2, q1, q2, hput, hbl, hml2, hcase⟩ := crosswaylaw09_ScanBack.first_cons hrun
      obtain ⟨ad, A3, c3, had, hra, hx0, hx1, hx2, hx3, hlc, hC3⟩ := RAWS.out i hlt
      rw [← ha] at hra hx0 hx1 hx2 hx3 hlc hC3
      subst had
      have HX0 := Aside0.mk hx0
      have HX1 := Aside0.mk hx1
      have HX2 := Aside0.mk hx2
      have HX3 := Aside0.mk hx3
      have HC3 := Aside0.mk hC3
      have HRA := Aside0.mk hra
      have HLC := Aside0.mk hlc
      have HPUT := Aside0.mk hput
      have HBL := Aside0.mk hbl
      have HML2 := Aside0.mk hml2
      have HCASE := Aside0.mk hcase
      have HID := Aside0.mk HRUN.out.2
      have HXS := Aside0.mk HD.out.2
      have HD1 := Aside0.mk HD.out.1
      have HW1 := Aside0.mk HW.out.1
      have p1 : ((0 : Int) ≤ (i : Int)) = True := eq_true (by omega)
      have p2 : ((i : Int) < (l0.length : Int)) = True := eq_true (by omega)
      clear hput hbl hml2 hcase hrun hdrop ha hra HRUN hx0 hx1 hx2 hx3 hlc hC3 HD HW
      obtain ⟨s, hs⟩ : ∃ s, s = wr.heap.size := ⟨_, rfl⟩
      obtain ⟨wc, hwc⟩ : ∃ wc, wc = wr.alloc (.cells #[.slice none 0 0, .int .i64 0] 31) := ⟨_, rfl⟩
      have hbe : Below wr.heap.size wr wc := by rw [hwc]; exact below_alloc (Below.refl _ _) _
      have hbk : wc.heap[s]? = some (.cells #[.slice none 0 0, .int .i64 0] 31 (0, 0)) := by rw [hwc, hs]; exact blk_new wr _
      have HP := Aside0.mk (Pair.new HW1.out hbe ⟨_, hbk, Kd.R_nil _ _ _ _ _, by rw [hs]; exact HB.out.size⟩ (by rw [hs]; exact Nat.le_refl _) (Nat.le_refl _) rfl ⟨_, hbk⟩ : Pair wc v s w.heap.size 0 l 0 [])
      have HBc := Aside0.mk (HB.out.trans (hbe.mono HB.out.size))
      have HDc := Aside0.mk (Kd.R_below HD1.out hbe)
      have HF := Aside0.mk (Kd.F_below (Kd.C_F (Kd.heap_int .u8) HC3.out) HBc.out)
      have hx0 := cell_later HBc.out HX0.out
      have hx1 := cell_later HBc.out HX1.out
      have hx2 := cell_later HBc.out HX2.out
      have hx3 := cell_later HBc.out HX3.out
      rw [hwc] at hx0 hx1 hx2 hx3
      have HWC := Aside0.mk hwc
      have HSS := Aside0.mk hs
      clear hbe hbk hwc hs HW1 HB HD1
      go_wp2_with fail
      rw [← HWC.out, ← HSS.out]
      (with_reducible refine (lput_calls k wc v s w.heap.size 0 0 l [] a.f0 a.f1 a.f2 a.f3 A3 c3 (fun i => i < w.heap.size) e2 q1 m2 q2 HP.out HF.out (fun _ h => h) HLC.out HBL.out HPUT.out).mono ?_)
      rintro en wd ⟨rfl, hpd, hbd, hkd⟩
      have HW1 := Aside0.mk hpd.w
      have HB := Aside0.mk (HBc.out.trans hbd)
      have HD1 := Aside0.mk (raw_keep HP.out hkd HDc.out)
      clear hpd hbd hkd HP HBc HF HDc hx0 hx1 hx2 hx3 HWC HSS
      go_wp2_with fail
      (with_reducible refine (done_calls _ v w.heap.size e2 m2 HW1.out HML2.out).mono ?_)
      rintro en we ⟨vb, rfl, hrb, hbe⟩
      have HWe := Aside0.mk (HW1.out.below hbe)
      have HBe := Aside0.mk (HB.out.trans (hbe.mono HB.out.size))
      have HDe := Aside0.mk (Kd.R_below HD1.out hbe)
      obtain ⟨ys, hys⟩ : ∃ ys, ys = (if e2 = 0 then m2 else []) := ⟨_, rfl⟩
      rw [← hys] at hrb
      obtain ⟨Ab, cb, rfl, _, _⟩ := row_at hrb
      clear hbe HW1 HB HD1 hrb hys
      by_cases he : e2 = 0
      · obtain ⟨d2, hd2, hf2⟩ : ∃ d2, dd = d2 + 1 ∧ crosswaylaw09_ScanBack.first k (l0.drop (i + 1)) m2 = some d2 := by
          rcases HCASE.out with ⟨_, h⟩ | ⟨h, _⟩
          · exact h
          · exact absurd he h
        subst he
        have HF2 := Aside0.mk hf2
        have HD2 := Aside0.mk hd2
        have hx0 := cell_later HBe.out HX0.out
        have hx1 := cell_later HBe.out HX1.out
        have hx2 := cell_later HBe.out HX2.out
        have hx3 := cell_later HBe.out HX3.out
        clear hd2 hf2 HCASE
        go_wp2_with (at_builtin; refine Kd.R_append_rows kRaw (w0 := w) w.heap.size rfl (.tmp 43) (.tmp 48) 22 35 (.agg #[.int .i64 0, .int .i64 0, .int .u64 0, .slice none 0 0]) 48 rfl Try.underlying22 (by kernel_rfl) rfl (by decide) (by omega) (.slice Ad xs.length cd) xs [(a.f0, a.f1, a.f2, (A3, a.f3.length, c3))] (some ⟨we.heap.size, 0, none⟩) 1 1 (fun _ => True) (fun _ => False) rfl rfl (Kd.R_alloc HDe.out _) (raw_one we (a.f0, a.f1, a.f2, (A3, a.f3.length, c3))) (fun _ _ h => h) (fun _ h => h.elim) (fun _ _ => trivial) (HBe.out.alloc HBe.out.size _) ?aS ?aL ?_; (case aS => have := HBe.out.size; simp; omega); (case aL => have h1 := HXS.out; have h2 := HRL.out; have h3 := HLM.out; rw [h1, List.length_take]; omega); intro vd2 w6 ho6 hb6 hg6 hat6; have HD6 := Aside0.mk ho6; have HB6 := Aside0.mk hb6; have HG6 := Aside0.mk hg6; clear ho6 hb6 hg6 hat6)
        go_roundw
        case measure => simp [intOf]; omega
        case rel =>
          have hwa := HWe.out.below (below_alloc (Below.refl we.heap.size we) (.cells #[.int .i64 a.f0, .int .i64 a.f1, .int .u64 a.f2, .slice A3 a.f3.length c3] 35))
          have hda := Kd.R_alloc HDe.out (.cells #[.int .i64 a.f0, .int .i64 a.f1, .int .u64 a.f2, .slice A3 a.f3.length c3] 35)
          obtain ⟨vv, hvv, hRv, hBv⟩ := hwa
          have hne : ∀ q, (Value.slice Ad xs.length cd).ownBlock = some q → ∃ cells, (we.alloc (.cells #[.int .i64 a.f0, .int .i64 a.f1, .int .u64 a.f2, .slice A3 a.f3.length c3] 35)).heap[q]? = some (.cells cells 35 (0, 0)) := fun q hq => by
            obtain ⟨inner, ho⟩ := Kd.R_own hda
            exact own_typed ho q hq
          refine ⟨i + 1, d2, m2, xs ++ [(a.f0, a.f1, a.f2, (A3, a.f3.length, c3))], by omega, by go_num, ⟨⟨⟨vv, ?_, ?_, hBv⟩, HML2.out⟩⟩, ⟨⟨HD6.out, ?_⟩⟩, HB6, ⟨⟨HF2.out, by have h1 := HID.out; have h2 := HD2.out; omega⟩⟩⟩
          · exact (HG6.out.block v (blk_lt hvv) (fun x => Kd.R_ne hda hvv (by decide) x)).trans hvv
          · exact Kd.R_grown2 hRv rfl HG6.out (fun q hq hx => by
              obtain ⟨cells, hc⟩ := hne q hq
              exact Kd.R_ne hRv hc (by decide) hx)
          · rw [HXS.out]
            have h2 := HRL.out
            rw [List.take_succ_eq_append_getElem (show i < raws.length by omega)]
            congr 1
            have h3 := HRA.out
            rw [List.getD_eq_getElem?_getD, List.getElem?_eq_getElem (show i < raws.length by omega)] at h3
            rw [← h3]
            rfl
      · obtain rfl : dd = 0 := by
          rcases HCASE.out with ⟨h, _⟩ | ⟨_, h⟩
          · exact absurd h he
          · exact h
        have he1 : (e2 != 0) = true := bne_iff_ne.mpr he
        obtain rfl : i = d := by have := HID.out; omega
        have HW := HWe
        have HB := HBe
        have HD := HDe
        clear he HCASE HID HX0 HX1 HX2 HX3 HC3 HRA HLC HPUT HBL HML2 HWe HBe HDe
        obtain ⟨ps, hps⟩ : ∃ ps, ps = l0.take i := ⟨_, rfl⟩
        have AGN := Aside0.mk (show crosswaylaw09_ScanBack.again k ps [] = some m by rw [hps]; exact AGAIN.out)
        have TLS := Aside0.mk (show tellf k ps true 0 m = some (true, 0, []) by rw [hps]; exact TELLS.out)
        have HPS := Aside0.mk hps
        clear AGAIN TELLS hps
        go_wp2_with fail
        (with_reducible refine (write_calls _).mono ?_)
        rintro e w5 ⟨rfl, hw5⟩
        obtain ⟨u, hu⟩ : ∃ u, u = we.heap.size := ⟨_, rfl⟩
        rw [← hu]
        have hbe : Below we.heap.size we w5 := by rw [hw5]; exact below_alloc (Below.refl _ _) _
        have HW5 := Aside0.mk (show WrAt w5 u w.heap.size 0 [] by rw [hw5, hu]; exact write_at we w.heap.size HB.out.size)
        have HB5 := Aside0.mk (HB.out.trans (hbe.mono HB.out.size))
        have HD5 := Aside0.mk (Kd.R_below HD.out hbe)
        clear hw5 hu hbe HB HD
        have hxl : xs.length = ps.length := by have h2 := HRL.out; rw [HXS.out, HPS.out, List.length_take, List.length_take, h2]
        have hxl60 : xs.length ≤ 60 := by rw [hxl, HPS.out, List.length_take]; have := HLM.out; omega
        have HXL := Aside0.mk hxl
        clear hxl
        go_wp2_with fail
        go_loopw [10] (fun v10 wr => ∃ (j : Nat) (l : List Int), j ≤ xs.length ∧ v10 = .int .i64 j ∧ Aside0 (WrAt wr u w.heap.size 0 l) ∧ Aside0 (Kd.R kRaw 35 wr w.heap.size (fun _ => True) (.slice Ad xs.length cd) xs) ∧ Aside0 (Below w.heap.size w wr) ∧ Aside0 (crosswaylaw09_ScanBack.again k (ps.drop j) l = some m))
          (fun v10 _ => xs.length - (intOf v10).toNat)
        case atStart => exact ⟨0, [], Nat.zero_le _, rfl, HW5, HD5, HB5, AGN⟩
        case round =>
          clear HW5 HD5 HB5 AGN
          obtain ⟨j, l, hj, rfl, HW, HD, HB, HRUN⟩ := hrel
          have hjl : ps.length ≤ l0.length := by rw [HPS.out, List.length_take]; omega
          by_cases hlt : j < xs.length
          · have hjt : j < ps.length := by rw [← HXL.out]; exact hlt
            obtain ⟨a, ha⟩ : ∃ a, a = l0.getD j z35 := ⟨_, rfl⟩
            have hdrop : ps.drop j = a :: ps.drop (j + 1) := by
              rw [List.drop_eq_getElem_cons hjt, ha]
              congr 1
              have h8 : ps[j]? = l0[j]? := by rw [HPS.out]; exact List.getElem?_take_of_lt (by have h9 := HPS.out; have h7 := hjt; rw [h9, List.length_take] at h7; omega)
              rw [List.getElem?_eq_getElem hjt] at h8
              rw [List.getD_eq_getElem?_getD, ← h8]
              rfl
            have hrun := HRUN.out
            rw [hdrop] at hrun
            obtain ⟨m2, q1, q2, hput, hbl, hml2, hrest⟩ := crosswaylaw09_ScanBack.again_cons hrun
            obtain ⟨ad0, A3, c3, hA_, hra, ha0, ha1, ha2, ha3, hlc, hC3⟩ := RAWS.out j (by omega)
            clear hA_ ha0 ha1 ha2 ha3
            rw [← ha] at hra hlc hC3
            have hxj : xs.getD j zRaw = (a.f0, a.f1, a.f2, (A3, a.f3.length, c3)) := by
              rw [← hra, HXS.out, List.getD_eq_getElem?_getD, List.getD_eq_getElem?_getD, List.getElem?_take_of_lt (by have h9 := HXL.out; rw [HPS.out, List.length_take] at h9; omega)]
            obtain ⟨_, _, hvd, _, hdC⟩ := raw_at HD.out
            cases hvd
            obtain ⟨ad, had, hx0, hx1, hx2, hx3⟩ := at_raw hdC j hlt
            rw [hxj] at hx0 hx1 hx2 hx3
            subst had
            have HX0 := Aside0.mk hx0
            have HX1 := Aside0.mk hx1
            have HX2 := Aside0.mk hx2
            have HX3 := Aside0.mk hx3
            have HC3 := Aside0.mk hC3
            have HLC := Aside0.mk hlc
            have HPUT := Aside0.mk hput
            have HBL := Aside0.mk hbl
            have HREST := Aside0.mk hrest
            have p1 : ((0 : Int) ≤ (j : Int)) = True := eq_true (by omega)
            have p2 : ((j : Int) < (xs.length : Int)) = True := eq_true (by omega)
            clear hput hbl hml2 hrest hrun hdrop ha hra HRUN hx0 hx1 hx2 hx3 hlc hC3 hdC hxj hjt hjl
            obtain ⟨s, hs⟩ : ∃ s, s = wr.heap.size := ⟨_, rfl⟩
            obtain ⟨wc, hwc⟩ : ∃ wc, wc = wr.alloc (.cells #[.slice none 0 0, .int .i64 0] 31) := ⟨_, rfl⟩
            have hbe : Below wr.heap.size wr wc := by rw [hwc]; exact below_alloc (Below.refl _ _) _
            have hbk : wc.heap[s]? = some (.cells #[.slice none 0 0, .int .i64 0] 31 (0, 0)) := by rw [hwc, hs]; exact blk_new wr _
            have HP := Aside0.mk (Pair.new HW.out hbe ⟨_, hbk, Kd.R_nil _ _ _ _ _, by rw [hs]; exact HB.out.size⟩ (by rw [hs]; exact Nat.le_refl _) (Nat.le_refl _) rfl ⟨_, hbk⟩ : Pair wc u s w.heap.size 0 l 0 [])
            have HBc := Aside0.mk (HB.out.trans (hbe.mono HB.out.size))
            have HDc := Aside0.mk (Kd.R_below HD.out hbe)
            have HF := Aside0.mk (Kd.F_below (Kd.C_F (Kd.heap_int .u8) HC3.out) HBc.out)
            have hbl_ := Below.refl wr.heap.size wr
            have hx0 := cell_later (by rw [hwc]; exact below_alloc (Below.refl wr.heap.size wr) _ : Below wr.heap.size wr wc) HX0.out
            have hx1 := cell_later (by rw [hwc]; exact below_alloc (Below.refl wr.heap.size wr) _ : Below wr.heap.size wr wc) HX1.out
            have hx2 := cell_later (by rw [hwc]; exact below_alloc (Below.refl wr.heap.size wr) _ : Below wr.heap.size wr wc) HX2.out
            have hx3 := cell_later (by rw [hwc]; exact below_alloc (Below.refl wr.heap.size wr) _ : Below wr.heap.size wr wc) HX3.out
            clear hbl_
            rw [hwc] at hx0 hx1 hx2 hx3
            have HWC := Aside0.mk hwc
            have HSS := Aside0.mk hs
            clear hbe hbk hwc hs HW HB HD
            go_wp2_with fail
            rw [← HWC.out, ← HSS.out]
            (with_reducible refine (lput_calls k wc u s w.heap.size 0 0 l [] a.f0 a.f1 a.f2 a.f3 A3 c3 (fun i => i < w.heap.size) 0 q1 m2 q2 HP.out HF.out (fun _ h => h) HLC.out HBL.out HPUT.out).mono ?_)
            rintro en wd ⟨rfl, hpd, hbd, hkd⟩
            have HW := Aside0.mk hpd.w
            have HB := Aside0.mk (HBc.out.trans hbd)
            have HD := Aside0.mk (raw_keep HP.out hkd HDc.out)
            clear hpd hbd hkd HP HBc HF HDc hx0 hx1 hx2 hx3 HWC HSS
            go_wp2_with fail
            go_roundw
            case measure => simp [intOf]; omega
            case rel => exact ⟨j + 1, m2, by omega, by go_num, HW, HD, HB, HREST⟩
          · obtain rfl : j = xs.length := by omega
            have hfin := HRUN.out
            rw [List.drop_of_length_le (by rw [← HXL.out]; exact Nat.le_refl _)] at hfin
            have hfin2 : some l = some m := hfin
            have hfin3 : l = m := Option.some.inj hfin2
            clear hfin2
            subst hfin3
            clear hlt hj hfin HRUN hjl
            go_wp2_with fail
            (with_reducible refine (done_calls _ u w.heap.size 0 l HW.out HML.out).mono ?_)
            rintro en w6 ⟨vb, rfl, hrb, hb6⟩
            rw [if_pos rfl] at hrb
            obtain ⟨Ab, cb, rfl, hcb, _⟩ := row_at hrb
            obtain ⟨OB, hOB⟩ : ∃ OB : Nat → Prop, OB = (fun k => some k = (Value.slice Ab l.length cb).ownBlock) := ⟨_, rfl⟩
            have HFB := Aside0.mk (show Kd.F (Kd.int .u8) w6 OB Ab l.length l by rw [hOB]; exact Kd.R_F (Kd.R_tight rfl hrb))
            have HOB := Aside0.mk (show ∀ i, OB i → i < w6.heap.size by rw [hOB]; exact fun i hi => Kd.R_lt hrb i hi.symm)
            have HCB := Aside0.mk hcb
            have HD6 := Aside0.mk (Kd.R_below HD.out hb6)
            have HB6 := Aside0.mk (HB.out.trans (hb6.mono HB.out.size))
            clear hrb hb6 hcb hOB HW HD HB
            go_wp2_with fail
            (with_reducible refine (read_calls _ Ab _ cb).mono ?_)
            rintro e w7 ⟨rfl, hw7⟩
            obtain ⟨g, hg⟩ : ∃ g, g = w6.heap.size := ⟨_, rfl⟩
            rw [← hg]
            have hbe : Below w6.heap.size w6 w7 := by rw [hw7]; exact below_alloc (Below.refl _ _) _
            have HR7 := Aside0.mk (show RdAt w7 g OB 0 l by rw [hw7, hg]; exact ⟨Ab, cb, heap_alloc_new w6 _, HCB.out, Kd.F_alloc HFB.out _, fun h => by have := HOB.out _ h; omega⟩)
            have HB7 := Aside0.mk (HB6.out.trans (hbe.mono HB6.out.size))
            have HD7 := Aside0.mk (Kd.R_below HD6.out hbe)
            have HFB7 := Aside0.mk (Kd.F_below HFB.out hbe)
            have HGW := Aside0.mk (show w.heap.size ≤ g by rw [hg]; exact HB6.out.size)
            have HOG := Aside0.mk (show ∀ i, OB i → i ≠ g from fun i hi e => by have := HOB.out i hi; omega)
            have HO7 := Aside0.mk (show ∀ i, OB i → i < w7.heap.size from fun i hi => Nat.lt_of_lt_of_le (HOB.out i hi) hbe.size)
            clear hw7 hg hbe HFB HD6 HB6 HOB
            obtain ⟨_, _, hbgT, _⟩ := HR7.out.opens
            have HRW7 := Aside0.mk (show ∀ W', w7.grownBy W' (some g) → Kd.C kRaw W' Ad ps.length xs from fun W' hgT => by
              have h := Kd.R_grown2 HD7.out rfl hgT (fun k x => by cases x; exact Kd.R_ne HD7.out hbgT (by decide))
              obtain ⟨_, _, hvd, _, hdC⟩ := raw_at h
              cases hvd
              rw [HXL.out] at hdC
              exact hdC)
            have HRLT := Aside0.mk (show ∀ ii, ii < ps.length → ∃ A3 c3, xs.getD ii zRaw = ((ps.getD ii z35).f0, (ps.getD ii z35).f1, (ps.getD ii z35).f2, (A3, (ps.getD ii z35).f3.length, c3)) ∧ (ps.getD ii z35).f3.length ≤ c3 ∧ ∀ W', w7.grownBy W' (some g) → Kd.C (Kd.int .u8) W' A3 (ps.getD ii z35).f3.length (ps.getD ii z35).f3 from fun ii hi => by
              have hi2 : ii < i ∧ ii < l0.length := by rw [HPS.out, List.length_take] at hi; omega
              obtain ⟨_, A3, c3, _, hra, _, _, _, _, hlc, hC3⟩ := RAWS.out ii hi2.2
              have hg1 : ps.getD ii z35 = l0.getD ii z35 := by rw [HPS.out, List.getD_eq_getElem?_getD, List.getD_eq_getElem?_getD, List.getElem?_take_of_lt hi2.1]
              have hg2 : xs.getD ii zRaw = raws.getD ii zRaw := by rw [HXS.out, List.getD_eq_getElem?_getD, List.getD_eq_getElem?_getD, List.getElem?_take_of_lt hi2.1]
              rw [hg1, hg2]
              exact ⟨A3, c3, hra, hlc, fun W' hgT => Kd.F_now (Kd.F_grown (Kd.F_below (Kd.C_F (Kd.heap_int .u8) hC3) HB7.out) hgT (fun k hk x => by have h1 := HGW.out; have h2 := Option.some.inj x; omega))⟩)
            clear hbgT
            go_wp2_with fail
            (try rw [HXL.out])
            (with_reducible refine (tells_calls k w7 g OB 0 0 l [] true ps xs Ad cd HR7.out HML.out HRW7.out (by have := HLM.out; rw [HPS.out, List.length_take]; omega) HRLT.out TLS.out).mono ?_)
            rintro en w8 ⟨rfl, hr8, hg8⟩
            have HR8 := Aside0.mk hr8
            have HB8 := Aside0.mk (HB7.out.grown hg8 HB7.out.size (fun k e => by cases e; exact HGW.out))
            obtain ⟨_, _, hbg7, _⟩ := HR7.out.opens
            have HD8 := Aside0.mk (Kd.R_grown2 HD7.out rfl hg8 (fun k x => by cases x; exact Kd.R_ne HD7.out hbg7 (by decide)))
            have HFB8 := Aside0.mk (Kd.F_grown HFB7.out hg8 (fun k hk x => HOG.out k hk (Option.some.inj x)))
            have HS8 := Aside0.mk hg8.size
            clear hr8 hg8 hbg7 HR7 HB7 HD7 HFB7 HRW7 HRLT
            go_wp2_with fail
            (with_reducible refine (end_calls _ g OB 0 [] HR8.out).mono ?_)
            rintro en w9 ⟨rfl, hr9, hg9⟩
            rw [show rdEnd 0 [] = 0 from rfl] at hr9 ⊢
            have HR9 := Aside0.mk hr9
            have HB9 := Aside0.mk (HB8.out.grown hg9 HB8.out.size (fun k e => by cases e; exact HGW.out))
            obtain ⟨_, _, hbg8, _⟩ := HR8.out.opens
            have HD9 := Aside0.mk (Kd.R_grown2 HD8.out rfl hg9 (fun k x => by cases x; exact Kd.R_ne HD8.out hbg8 (by decide)))
            have HFB9 := Aside0.mk (Kd.F_grown HFB8.out hg9 (fun k hk x => HOG.out k hk (Option.some.inj x)))
            have HS9 := Aside0.mk (Nat.le_trans HS8.out hg9.size)
            clear hr9 hg9 hbg8 HR8 HB8 HD8 HFB8 HS8
            go_wp2_with fail
            (with_reducible refine (left_calls _ g OB 0 [] HR9.out).mono ?_)
            rintro en wx ⟨rfl, rfl⟩
            by_cases hc1 : a1 < 0
            · have hr := HRES.out
              rw [if_pos (.inl hc1)] at hr
              cases hr
              have HE := Aside0.mk HB9.out
              go_wp2_with fail
              go_ret
              exact ⟨rfl, HE.out⟩
            by_cases hc2 : a1 ≥ (l.length : Int)
            · have hr := HRES.out
              rw [if_pos (.inr hc2)] at hr
              cases hr
              have HE := Aside0.mk HB9.out
              go_wp2_with fail
              go_ret
              exact ⟨rfl, HE.out⟩
            have hr := HRES.out
            rw [if_neg (by omega)] at hr
            obtain ⟨⟨ub, ue, um⟩, htell, h9⟩ := Option.bind_eq_some_iff.1 hr
            dsimp only at h9
            by_cases hue : ub = false ∧ ue = 12
            rotate_left
            · rw [if_neg hue] at h9; cases h9
            rw [if_pos hue] at h9
            cases h9
            obtain ⟨rfl, rfl⟩ := hue
            obtain ⟨n, rfl⟩ := Int.eq_ofNat_of_zero_le (show 0 ≤ a1 by omega)
            rw [Int.toNat_natCast, ← HPS.out] at htell
            obtain ⟨i0, hi0, _, hsz, _⟩ := info_parts info5
            have hcut := cut_to (P := Try.prog) 28 5 .i64 Try.underlying28 hi0 Ab l.length cb (n : Int) (by omega) (by omega) HCB.out
            rw [Int.toNat_natCast] at hcut
            obtain ⟨y, hy⟩ : ∃ y, y = l.take n := ⟨_, rfl⟩
            rw [← hy] at htell
            have hyl : y.length = n := by rw [hy, List.length_take]; omega
            have hcut1 : ∀ W' : World, (Instr.slice 28 (.slice Ab l.length cb) none (some (.int .i64 (n : Int))) none).run Try.prog W' = .ok (.slice Ab y.length cb) W' := fun W' => by rw [hyl]; exact hcut W'
            have HFY := Aside0.mk (show Kd.F (Kd.int .u8) wx OB Ab y.length y by rw [hy]; exact Kd.F_take HFB9.out (by omega))
            have HCY := Aside0.mk (show y.length ≤ cb by have := HCB.out; omega)
            have HYL := Aside0.mk (show y.length < 140737488355328 by have := HML.out; omega)
            have hc3 : decide ((n : Int) < 0) = false := decide_eq_false hc1
            have hc4 : (decide ((n : Int) ≥ (l.length : Int))) = false := decide_eq_false hc2
            have hc5 : decide (l.length ≤ n) = false := decide_eq_false (by omega)
            have HTELL := Aside0.mk htell
            clear hcut hy hyl hi0 hsz htell hr HFB9 HR9 hc1 hc2
            go_wp2_with fail
            (with_reducible refine (read_calls _ Ab _ cb).mono ?_)
            rintro e wy ⟨rfl, hwy⟩
            obtain ⟨g2, hg2⟩ : ∃ g2, g2 = wx.heap.size := ⟨_, rfl⟩
            rw [← hg2]
            have hbe : Below wx.heap.size wx wy := by rw [hwy]; exact below_alloc (Below.refl _ _) _
            have HR7 := Aside0.mk (show RdAt wy g2 OB 0 y by rw [hwy, hg2]; exact ⟨Ab, cb, heap_alloc_new wx _, HCY.out, Kd.F_alloc HFY.out _, fun h => by have h1 := HO7.out _ h; have h2 := HS9.out; omega⟩)
            have HB7 := Aside0.mk (HB9.out.trans (hbe.mono HB9.out.size))
            have HD7 := Aside0.mk (Kd.R_below HD9.out hbe)
            have HGW2 := Aside0.mk (show w.heap.size ≤ g2 by rw [hg2]; exact HB9.out.size)
            clear hwy hg2 hbe HFY HD9 HB9 hcut1
            obtain ⟨_, _, hbgT, _⟩ := HR7.out.opens
            have HRW7 := Aside0.mk (show ∀ W', wy.grownBy W' (some g2) → Kd.C kRaw W' Ad ps.length xs from fun W' hgT => by
              have h := Kd.R_grown2 HD7.out rfl hgT (fun k x => by cases x; exact Kd.R_ne HD7.out hbgT (by decide))
              obtain ⟨_, _, hvd, _, hdC⟩ := raw_at h
              cases hvd
              rw [HXL.out] at hdC
              exact hdC)
            have HRLT := Aside0.mk (show ∀ ii, ii < ps.length → ∃ A3 c3, xs.getD ii zRaw = ((ps.getD ii z35).f0, (ps.getD ii z35).f1, (ps.getD ii z35).f2, (A3, (ps.getD ii z35).f3.length, c3)) ∧ (ps.getD ii z35).f3.length ≤ c3 ∧ ∀ W', wy.grownBy W' (some g2) → Kd.C (Kd.int .u8) W' A3 (ps.getD ii z35).f3.length (ps.getD ii z35).f3 from fun ii hi => by
              have hi2 : ii < i ∧ ii < l0.length := by rw [HPS.out, List.length_take] at hi; omega
              obtain ⟨_, A3, c3, _, hra, _, _, _, _, hlc, hC3⟩ := RAWS.out ii hi2.2
              have hg1 : ps.getD ii z35 = l0.getD ii z35 := by rw [HPS.out, List.getD_eq_getElem?_getD, List.getD_eq_getElem?_getD, List.getElem?_take_of_lt hi2.1]
              have hg2 : xs.getD ii zRaw = raws.getD ii zRaw := by rw [HXS.out, List.getD_eq_getElem?_getD, List.getD_eq_getElem?_getD, List.getElem?_take_of_lt hi2.1]
              rw [hg1, hg2]
              exact ⟨A3, c3, hra, hlc, fun W' hgT => Kd.F_now (Kd.F_grown (Kd.F_below (Kd.C_F (Kd.heap_int .u8) hC3) HB7.out) hgT (fun k hk x => by have h1 := HGW2.out; have h2 := Option.some.inj x; omega))⟩)
            clear hbgT
            go_wp2_with fail
            (try rw [HXL.out])
            (with_reducible refine (tells_calls k wy g2 OB 0 12 y um false ps xs Ad cd HR7.out HYL.out HRW7.out (by have := HLM.out; rw [HPS.out, List.length_take]; omega) HRLT.out HTELL.out).mono ?_)
            rintro en wz ⟨rfl, hrz, hgz⟩
            have HBz := Aside0.mk (HB7.out.grown hgz HB7.out.size (fun k e => by cases e; exact HGW2.out))
            obtain ⟨_, _, hbz, _⟩ := hrz.opens
            have HBZ := Aside0.mk hbz
            clear hrz hgz hbz HR7 HB7 HD7 HRW7 HRLT
            go_wp2_with fail
            (with_reducible refine (err_calls _ g2 12 _ HBZ.out).mono ?_)
            rintro en wt ⟨rfl, rfl⟩
            go_wp2_with fail
            go_ret
            exact ⟨rfl, HBz.out⟩
    · obtain rfl : i = l0.length := by omega
      have hdd : dd = 0 := by
        have h1 := HRUN.out.1
        rw [List.drop_length] at h1
        have h2 : some 0 = some dd := h1
        exact (Option.some.inj h2).symm
      have hid := HRUN.out.2
      obtain rfl : d = l0.length := by omega
      have HXS := Aside0.mk HD.out.2
      have HD1 := Aside0.mk HD.out.1
      clear HD
      have HD := HD1
      clear hlt hi HRUN HD1 HW hdd hid
      obtain ⟨ps, hps⟩ : ∃ ps, ps = l0.take l0.length := ⟨_, rfl⟩
      have AGN := Aside0.mk (show crosswaylaw09_ScanBack.again k ps [] = some m by rw [hps]; exact AGAIN.out)
      have TLS := Aside0.mk (show tellf k ps true 0 m = some (true, 0, []) by rw [hps]; exact TELLS.out)
      have HPS := Aside0.mk hps
      clear AGAIN TELLS hps
      go_wp2_with fail
      (with_reducible refine (write_calls _).mono ?_)
      rintro e w5 ⟨rfl, hw5⟩
      obtain ⟨u, hu⟩ : ∃ u, u = wr.heap.size := ⟨_, rfl⟩
      rw [← hu]
      have hbe : Below wr.heap.size wr w5 := by rw [hw5]; exact below_alloc (Below.refl _ _) _
      have HW5 := Aside0.mk (show WrAt w5 u w.heap.size 0 [] by rw [hw5, hu]; exact write_at wr w.heap.size HB.out.size)
      have HB5 := Aside0.mk (HB.out.trans (hbe.mono HB.out.size))
      have HD5 := Aside0.mk (Kd.R_below HD.out hbe)
      clear hw5 hu hbe HB HD
      have hxl : xs.length = ps.length := by have h2 := HRL.out; rw [HXS.out, HPS.out, List.length_take, List.length_take, h2]
      have hxl60 : xs.length ≤ 60 := by rw [hxl, HPS.out, List.length_take]; have := HLM.out; omega
      have HXL := Aside0.mk hxl
      clear hxl
      go_wp2_with fail
      go_loopw [10] (fun v10 wr => ∃ (j : Nat) (l : List Int), j ≤ xs.length ∧ v10 = .int .i64 j ∧ Aside0 (WrAt wr u w.heap.size 0 l) ∧ Aside0 (Kd.R kRaw 35 wr w.heap.size (fun _ => True) (.slice Ad xs.length cd) xs) ∧ Aside0 (Below w.heap.size w wr) ∧ Aside0 (crosswaylaw09_ScanBack.again k (ps.drop j) l = some m))
        (fun v10 _ => xs.length - (intOf v10).toNat)
      case atStart => exact ⟨0, [], Nat.zero_le _, rfl, HW5, HD5, HB5, AGN⟩
      case round =>
        clear HW5 HD5 HB5 AGN
        obtain ⟨j, l, hj, rfl, HW, HD, HB, HRUN⟩ := hrel
        have hjl : ps.length ≤ l0.length := by rw [HPS.out, List.length_take]; omega
        by_cases hlt : j < xs.length
        · have hjt : j < ps.length := by rw [← HXL.out]; exact hlt
          obtain ⟨a, ha⟩ : ∃ a, a = l0.getD j z35 := ⟨_, rfl⟩
          have hdrop : ps.drop j = a :: ps.drop (j + 1) := by
            rw [List.drop_eq_getElem_cons hjt, ha]
            congr 1
            have h8 : ps[j]? = l0[j]? := by rw [HPS.out]; exact List.getElem?_take_of_lt (by have h9 := HPS.out; have h7 := hjt; rw [h9, List.length_take] at h7; omega)
            rw [List.getElem?_eq_getElem hjt] at h8
            rw [List.getD_eq_getElem?_getD, ← h8]
            rfl
          have hrun := HRUN.out
          rw [hdrop] at hrun
          obtain ⟨m2, q1, q2, hput, hbl, hml2, hrest⟩ := crosswaylaw09_ScanBack.again_cons hrun
          obtain ⟨ad0, A3, c3, hA_, hra, ha0, ha1, ha2, ha3, hlc, hC3⟩ := RAWS.out j (by omega)
          clear hA_ ha0 ha1 ha2 ha3
          rw [← ha] at hra hlc hC3
          have hxj : xs.getD j zRaw = (a.f0, a.f1, a.f2, (A3, a.f3.length, c3)) := by
            rw [← hra, HXS.out, List.getD_eq_getElem?_getD, List.getD_eq_getElem?_getD, List.getElem?_take_of_lt (by have h9 := HXL.out; rw [HPS.out, List.length_take] at h9; omega)]
          obtain ⟨_, _, hvd, _, hdC⟩ := raw_at HD.out
          cases hvd
          obtain ⟨ad, had, hx0, hx1, hx2, hx3⟩ := at_raw hdC j hlt
          rw [hxj] at hx0 hx1 hx2 hx3
          subst had
          have HX0 := Aside0.mk hx0
          have HX1 := Aside0.mk hx1
          have HX2 := Aside0.mk hx2
          have HX3 := Aside0.mk hx3
          have HC3 := Aside0.mk hC3
          have HLC := Aside0.mk hlc
          have HPUT := Aside0.mk hput
          have HBL := Aside0.mk hbl
          have HREST := Aside0.mk hrest
          have p1 : ((0 : Int) ≤ (j : Int)) = True := eq_true (by omega)
          have p2 : ((j : Int) < (xs.length : Int)) = True := eq_true (by omega)
          clear hput hbl hml2 hrest hrun hdrop ha hra HRUN hx0 hx1 hx2 hx3 hlc hC3 hdC hxj hjt hjl
          obtain ⟨s, hs⟩ : ∃ s, s = wr.heap.size := ⟨_, rfl⟩
          obtain ⟨wc, hwc⟩ : ∃ wc, wc = wr.alloc (.cells #[.slice none 0 0, .int .i64 0] 31) := ⟨_, rfl⟩
          have hbe : Below wr.heap.size wr wc := by rw [hwc]; exact below_alloc (Below.refl _ _) _
          have hbk : wc.heap[s]? = some (.cells #[.slice none 0 0, .int .i64 0] 31 (0, 0)) := by rw [hwc, hs]; exact blk_new wr _
          have HP := Aside0.mk (Pair.new HW.out hbe ⟨_, hbk, Kd.R_nil _ _ _ _ _, by rw [hs]; exact HB.out.size⟩ (by rw [hs]; exact Nat.le_refl _) (Nat.le_refl _) rfl ⟨_, hbk⟩ : Pair wc u s w.heap.size 0 l 0 [])
          have HBc := Aside0.mk (HB.out.trans (hbe.mono HB.out.size))
          have HDc := Aside0.mk (Kd.R_below HD.out hbe)
          have HF := Aside0.mk (Kd.F_below (Kd.C_F (Kd.heap_int .u8) HC3.out) HBc.out)
          have hbl_ := Below.refl wr.heap.size wr
          have hx0 := cell_later (by rw [hwc]; exact below_alloc (Below.refl wr.heap.size wr) _ : Below wr.heap.size wr wc) HX0.out
          have hx1 := cell_later (by rw [hwc]; exact below_alloc (Below.refl wr.heap.size wr) _ : Below wr.heap.size wr wc) HX1.out
          have hx2 := cell_later (by rw [hwc]; exact below_alloc (Below.refl wr.heap.size wr) _ : Below wr.heap.size wr wc) HX2.out
          have hx3 := cell_later (by rw [hwc]; exact below_alloc (Below.refl wr.heap.size wr) _ : Below wr.heap.size wr wc) HX3.out
          clear hbl_
          rw [hwc] at hx0 hx1 hx2 hx3
          have HWC := Aside0.mk hwc
          have HSS := Aside0.mk hs
          clear hbe hbk hwc hs HW HB HD
          go_wp2_with fail
          rw [← HWC.out, ← HSS.out]
          (with_reducible refine (lput_calls k wc u s w.heap.size 0 0 l [] a.f0 a.f1 a.f2 a.f3 A3 c3 (fun i => i < w.heap.size) 0 q1 m2 q2 HP.out HF.out (fun _ h => h) HLC.out HBL.out HPUT.out).mono ?_)
          rintro en wd ⟨rfl, hpd, hbd, hkd⟩
          have HW := Aside0.mk hpd.w
          have HB := Aside0.mk (HBc.out.trans hbd)
          have HD := Aside0.mk (raw_keep HP.out hkd HDc.out)
          clear hpd hbd hkd HP HBc HF HDc hx0 hx1 hx2 hx3 HWC HSS
          go_wp2_with fail
          go_roundw
          case measure => simp [intOf]; omega
          case rel => exact ⟨j + 1, m2, by omega, by go_num, HW, HD, HB, HREST⟩
        · obtain rfl : j = xs.length := by omega
          have hfin := HRUN.out
          rw [List.drop_of_length_le (by rw [← HXL.out]; exact Nat.le_refl _)] at hfin
          have hfin2 : some l = some m := hfin
          have hfin3 : l = m := Option.some.inj hfin2
          clear hfin2
          subst hfin3
          clear hlt hj hfin HRUN hjl
          go_wp2_with fail
          (with_reducible refine (done_calls _ u w.heap.size 0 l HW.out HML.out).mono ?_)
          rintro en w6 ⟨vb, rfl, hrb, hb6⟩
          rw [if_pos rfl] at hrb
          obtain ⟨Ab, cb, rfl, hcb, _⟩ := row_at hrb
          obtain ⟨OB, hOB⟩ : ∃ OB : Nat → Prop, OB = (fun k => some k = (Value.slice Ab l.length cb).ownBlock) := ⟨_, rfl⟩
          have HFB := Aside0.mk (show Kd.F (Kd.int .u8) w6 OB Ab l.length l by rw [hOB]; exact Kd.R_F (Kd.R_tight rfl hrb))
          have HOB := Aside0.mk (show ∀ i, OB i → i < w6.heap.size by rw [hOB]; exact fun i hi => Kd.R_lt hrb i hi.symm)
          have HCB := Aside0.mk hcb
          have HD6 := Aside0.mk (Kd.R_below HD.out hb6)
          have HB6 := Aside0.mk (HB.out.trans (hb6.mono HB.out.size))
          clear hrb hb6 hcb hOB HW HD HB
          go_wp2_with fail
          (with_reducible refine (read_calls _ Ab _ cb).mono ?_)
          rintro e w7 ⟨rfl, hw7⟩
          obtain ⟨g, hg⟩ : ∃ g, g = w6.heap.size := ⟨_, rfl⟩
          rw [← hg]
          have hbe : Below w6.heap.size w6 w7 := by rw [hw7]; exact below_alloc (Below.refl _ _) _
          have HR7 := Aside0.mk (show RdAt w7 g OB 0 l by rw [hw7, hg]; exact ⟨Ab, cb, heap_alloc_new w6 _, HCB.out, Kd.F_alloc HFB.out _, fun h => by have := HOB.out _ h; omega⟩)
          have HB7 := Aside0.mk (HB6.out.trans (hbe.mono HB6.out.size))
          have HD7 := Aside0.mk (Kd.R_below HD6.out hbe)
          have HFB7 := Aside0.mk (Kd.F_below HFB.out hbe)
          have HGW := Aside0.mk (show w.heap.size ≤ g by rw [hg]; exact HB6.out.size)
          have HOG := Aside0.mk (show ∀ i, OB i → i ≠ g from fun i hi e => by have := HOB.out i hi; omega)
          have HO7 := Aside0.mk (show ∀ i, OB i → i < w7.heap.size from fun i hi => Nat.lt_of_lt_of_le (HOB.out i hi) hbe.size)
          clear hw7 hg hbe HFB HD6 HB6 HOB
          obtain ⟨_, _, hbgT, _⟩ := HR7.out.opens
          have HRW7 := Aside0.mk (show ∀ W', w7.grownBy W' (some g) → Kd.C kRaw W' Ad ps.length xs from fun W' hgT => by
            have h := Kd.R_grown2 HD7.out rfl hgT (fun k x => by cases x; exact Kd.R_ne HD7.out hbgT (by decide))
            obtain ⟨_, _, hvd, _, hdC⟩ := raw_at h
            cases hvd
            rw [HXL.out] at hdC
            exact hdC)
          have HRLT := Aside0.mk (show ∀ ii, ii < ps.length → ∃ A3 c3, xs.getD ii zRaw = ((ps.getD ii z35).f0, (ps.getD ii z35).f1, (ps.getD ii z35).f2, (A3, (ps.getD ii z35).f3.length, c3)) ∧ (ps.getD ii z35).f3.length ≤ c3 ∧ ∀ W', w7.grownBy W' (some g) → Kd.C (Kd.int .u8) W' A3 (ps.getD ii z35).f3.length (ps.getD ii z35).f3 from fun ii hi => by
            have hi2 : ii < l0.length ∧ ii < l0.length := by rw [HPS.out, List.length_take] at hi; omega
            obtain ⟨_, A3, c3, _, hra, _, _, _, _, hlc, hC3⟩ := RAWS.out ii hi2.2
            have hg1 : ps.getD ii z35 = l0.getD ii z35 := by rw [HPS.out, List.getD_eq_getElem?_getD, List.getD_eq_getElem?_getD, List.getElem?_take_of_lt hi2.1]
            have hg2 : xs.getD ii zRaw = raws.getD ii zRaw := by rw [HXS.out, List.getD_eq_getElem?_getD, List.getD_eq_getElem?_getD, List.getElem?_take_of_lt hi2.1]
            rw [hg1, hg2]
            exact ⟨A3, c3, hra, hlc, fun W' hgT => Kd.F_now (Kd.F_grown (Kd.F_below (Kd.C_F (Kd.heap_int .u8) hC3) HB7.out) hgT (fun k hk x => by have h1 := HGW.out; have h2 := Option.some.inj x; omega))⟩)
          clear hbgT
          go_wp2_with fail
          (try rw [HXL.out])
          (with_reducible refine (tells_calls k w7 g OB 0 0 l [] true ps xs Ad cd HR7.out HML.out HRW7.out (by have := HLM.out; rw [HPS.out, List.length_take]; omega) HRLT.out TLS.out).mono ?_)
          rintro en w8 ⟨rfl, hr8, hg8⟩
          have HR8 := Aside0.mk hr8
          have HB8 := Aside0.mk (HB7.out.grown hg8 HB7.out.size (fun k e => by cases e; exact HGW.out))
          obtain ⟨_, _, hbg7, _⟩ := HR7.out.opens
          have HD8 := Aside0.mk (Kd.R_grown2 HD7.out rfl hg8 (fun k x => by cases x; exact Kd.R_ne HD7.out hbg7 (by decide)))
          have HFB8 := Aside0.mk (Kd.F_grown HFB7.out hg8 (fun k hk x => HOG.out k hk (Option.some.inj x)))
          have HS8 := Aside0.mk hg8.size
          clear hr8 hg8 hbg7 HR7 HB7 HD7 HFB7 HRW7 HRLT
          go_wp2_with fail
          (with_reducible refine (end_calls _ g OB 0 [] HR8.out).mono ?_)
          rintro en w9 ⟨rfl, hr9, hg9⟩
          rw [show rdEnd 0 [] = 0 from rfl] at hr9 ⊢
          have HR9 := Aside0.mk hr9
          have HB9 := Aside0.mk (HB8.out.grown hg9 HB8.out.size (fun k e => by cases e; exact HGW.out))
          obtain ⟨_, _, hbg8, _⟩ := HR8.out.opens
          have HD9 := Aside0.mk (Kd.R_grown2 HD8.out rfl hg9 (fun k x => by cases x; exact Kd.R_ne HD8.out hbg8 (by decide)))
          have HFB9 := Aside0.mk (Kd.F_grown HFB8.out hg9 (fun k hk x => HOG.out k hk (Option.some.inj x)))
          have HS9 := Aside0.mk (Nat.le_trans HS8.out hg9.size)
          clear hr9 hg9 hbg8 HR8 HB8 HD8 HFB8 HS8
          go_wp2_with fail
          (with_reducible refine (left_calls _ g OB 0 [] HR9.out).mono ?_)
          rintro en wx ⟨rfl, rfl⟩
          by_cases hc1 : a1 < 0
          · have hr := HRES.out
            rw [if_pos (.inl hc1)] at hr
            cases hr
            have HE := Aside0.mk HB9.out
            go_wp2_with fail
            go_ret
            exact ⟨rfl, HE.out⟩
          by_cases hc2 : a1 ≥ (l.length : Int)
          · have hr := HRES.out
            rw [if_pos (.inr hc2)] at hr
            cases hr
            have HE := Aside0.mk HB9.out
            go_wp2_with fail
            go_ret
            exact ⟨rfl, HE.out⟩
          have hr := HRES.out
          rw [if_neg (by omega)] at hr
          obtain ⟨⟨ub, ue, um⟩, htell, h9⟩ := Option.bind_eq_some_iff.1 hr
          dsimp only at h9
          by_cases hue : ub = false ∧ ue = 12
          rotate_left
          · rw [if_neg hue] at h9; cases h9
          rw [if_pos hue] at h9
          cases h9
          obtain ⟨rfl, rfl⟩ := hue
          obtain ⟨n, rfl⟩ := Int.eq_ofNat_of_zero_le (show 0 ≤ a1 by omega)
          rw [Int.toNat_natCast, ← HPS.out] at htell
          obtain ⟨i0, hi0, _, hsz, _⟩ := info_parts info5
          have hcut := cut_to (P := Try.prog) 28 5 .i64 Try.underlying28 hi0 Ab l.length cb (n : Int) (by omega) (by omega) HCB.out
          rw [Int.toNat_natCast] at hcut
          obtain ⟨y, hy⟩ : ∃ y, y = l.take n := ⟨_, rfl⟩
          rw [← hy] at htell
          have hyl : y.length = n := by rw [hy, List.length_take]; omega
          have hcut1 : ∀ W' : World, (Instr.slice 28 (.slice Ab l.length cb) none (some (.int .i64 (n : Int))) none).run Try.prog W' = .ok (.slice Ab y.length cb) W' := fun W' => by rw [hyl]; exact hcut W'
          have HFY := Aside0.mk (show Kd.F (Kd.int .u8) wx OB Ab y.length y by rw [hy]; exact Kd.F_take HFB9.out (by omega))
          have HCY := Aside0.mk (show y.length ≤ cb by have := HCB.out; omega)
          have HYL := Aside0.mk (show y.length < 140737488355328 by have := HML.out; omega)
          have hc3 : decide ((n : Int) < 0) = false := decide_eq_false hc1
          have hc4 : (decide ((n : Int) ≥ (l.length : Int))) = false := decide_eq_false hc2
          have hc5 : decide (l.length ≤ n) = false := decide_eq_false (by omega)
          have HTELL := Aside0.mk htell
          clear hcut hy hyl hi0 hsz htell hr HFB9 HR9 hc1 hc2
          go_wp2_with fail
          (with_reducible refine (read_calls _ Ab _ cb).mono ?_)
          rintro e wy ⟨rfl, hwy⟩
          obtain ⟨g2, hg2⟩ : ∃ g2, g2 = wx.heap.size := ⟨_, rfl⟩
          rw [← hg2]
          have hbe : Below wx.heap.size wx wy := by rw [hwy]; exact below_alloc (Below.refl _ _) _
          have HR7 := Aside0.mk (show RdAt wy g2 OB 0 y by rw [hwy, hg2]; exact ⟨Ab, cb, heap_alloc_new wx _, HCY.out, Kd.F_alloc HFY.out _, fun h => by have h1 := HO7.out _ h; have h2 := HS9.out; omega⟩)
          have HB7 := Aside0.mk (HB9.out.trans (hbe.mono HB9.out.size))
          have HD7 := Aside0.mk (Kd.R_below HD9.out hbe)
          have HGW2 := Aside0.mk (show w.heap.size ≤ g2 by rw [hg2]; exact HB9.out.size)
          clear hwy hg2 hbe HFY HD9 HB9 hcut1
          obtain ⟨_, _, hbgT, _⟩ := HR7.out.opens
          have HRW7 := Aside0.mk (show ∀ W', wy.grownBy W' (some g2) → Kd.C kRaw W' Ad ps.length xs from fun W' hgT => by
            have h := Kd.R_grown2 HD7.out rfl hgT (fun k x => by cases x; exact Kd.R_ne HD7.out hbgT (by decide))
            obtain ⟨_, _, hvd, _, hdC⟩ := raw_at h
            cases hvd
            rw [HXL.out] at hdC
            exact hdC)
          have HRLT := Aside0.mk (show ∀ ii, ii < ps.length → ∃ A3 c3, xs.getD ii zRaw = ((ps.getD ii z35).f0, (ps.getD ii z35).f1, (ps.getD ii z35).f2, (A3, (ps.getD ii z35).f3.length, c3)) ∧ (ps.getD ii z35).f3.length ≤ c3 ∧ ∀ W', wy.grownBy W' (some g2) → Kd.C (Kd.int .u8) W' A3 (ps.getD ii z35).f3.length (ps.getD ii z35).f3 from fun ii hi => by
            have hi2 : ii < l0.length ∧ ii < l0.length := by rw [HPS.out, List.length_take] at hi; omega
            obtain ⟨_, A3, c3, _, hra, _, _, _, _, hlc, hC3⟩ := RAWS.out ii hi2.2
            have hg1 : ps.getD ii z35 = l0.getD ii z35 := by rw [HPS.out, List.getD_eq_getElem?_getD, List.getD_eq_getElem?_getD, List.getElem?_take_of_lt hi2.1]
            have hg2 : xs.getD ii zRaw = raws.getD ii zRaw := by rw [HXS.out, List.getD_eq_getElem?_getD, List.getD_eq_getElem?_getD, List.getElem?_take_of_lt hi2.1]
            rw [hg1, hg2]
            exact ⟨A3, c3, hra, hlc, fun W' hgT => Kd.F_now (Kd.F_grown (Kd.F_below (Kd.C_F (Kd.heap_int .u8) hC3) HB7.out) hgT (fun k hk x => by have h1 := HGW2.out; have h2 := Option.some.inj x; omega))⟩)
          clear hbgT
          go_wp2_with fail
          (try rw [HXL.out])
          (with_reducible refine (tells_calls k wy g2 OB 0 12 y um false ps xs Ad cd HR7.out HYL.out HRW7.out (by have := HLM.out; rw [HPS.out, List.length_take]; omega) HRLT.out HTELL.out).mono ?_)
          rintro en wz ⟨rfl, hrz, hgz⟩
          have HBz := Aside0.mk (HB7.out.grown hgz HB7.out.size (fun k e => by cases e; exact HGW2.out))
          obtain ⟨_, _, hbz, _⟩ := hrz.opens
          have HBZ := Aside0.mk hbz
          clear hrz hgz hbz HR7 HB7 HD7 HRW7 HRLT
          go_wp2_with fail
          (with_reducible refine (err_calls _ g2 12 _ HBZ.out).mono ?_)
          rintro en wt ⟨rfl, rfl⟩
          go_wp2_with fail
          go_ret
          exact ⟨rfl, HBz.out⟩


/-- The one pure statement of crosswaylaw09_ScanBack. -/
def crosswaylaw09_ScanBack.Pure : Prop := ∀ (l0 : List (S35)) (a1 : Int), l0.length ≤ maxLen → (∀ x ∈ l0, ((Lit.int .i64 x.f0).wf = true) ∧ ((Lit.int .i64 x.f1).wf = true) ∧ ((Lit.int .u64 x.f2).wf = true) ∧ (x.f3.length ≤ maxLen ∧ ∀ xx_f3 ∈ x.f3, (Lit.int .u8 xx_f3).wf = true) ∧ True) → (Lit.int .i64 a1).wf = true → ∃ k, crosswaylaw09_ScanBack.f k l0 a1 = some true

end Go.Proofs.Ytmhmmmkpijbbiaa.M
