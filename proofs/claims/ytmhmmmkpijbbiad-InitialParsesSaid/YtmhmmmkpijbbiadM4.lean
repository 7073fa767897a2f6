/- Contracts of the Go functions that the laws reach, each as a plain Lean function: written by xprint.py, a program of this repo. -/
import Derived.Test.YtmhmmmkpijbbiadM0
import Derived.Test.YtmhmmmkpijbbiadM1
import Derived.Test.YtmhmmmkpijbbiadM2
import Derived.Test.YtmhmmmkpijbbiadM3
namespace Go.Proofs.Ytmhmmmkpijbbiad.M
open Go.RowKit Go.Proofs.YtmhmmmkpijbbiadW.PrintWords Go.Proofs.YtmhmmmkpijbbiadW.PrintLast Go.Proofs.YtmhmmmkpijbbiadW.PrintMore Go.Proofs.Ytmhmmmkpijbbiad.X
attribute [local go_sem] max2_int min2_int max_two min_two max_three min_three max_four min_four   -- for this text's walks alone
set_option linter.unusedVariables false
set_option linter.unusedSimpArgs false

/-! ### initial_Parse: function 8, typed by hand -/
theorem iR_far {kd : IntKind} {t : TypeId} {W : World} {B : Nat} {ok : Nat → Prop} {v : Value} {l : List Int} (h : Kd.R (Kd.int kd) t W B ok v l) {p : Addr} (hp : p.block < B) (u : Value) : Kd.R (Kd.int kd) t (W.setCell p u) B ok v l :=
  Kd.R_mono (Kd.R_grown (Kd.R_bound h) (row := some p.block) (by
    refine ⟨rfl, rfl, rfl, by simp, fun k _ hk => Below.heap_setCell W p u k (fun e => hk (by rw [e]))⟩) (fun k hk e => by cases e; have := hk.2.1; omega)) (fun k hk => hk.1)
/-- Six cells of a block, put one by one. -/
def puts6 (W : World) (g : Nat) (x0 x1 x2 x3 x4 x5 : Value) : World := (((((W.setCell ⟨g, 0, none⟩ x0).setCell ⟨g, 1, none⟩ x1).setCell ⟨g, 2, none⟩ x2).setCell ⟨g, 3, none⟩ x3).setCell ⟨g, 4, none⟩ x4).setCell ⟨g, 5, none⟩ x5
theorem puts6_blk {W : World} {g t : Nat} {y0 y1 y2 y3 y4 y5 : Value} (h : W.heap[g]? = some (.cells #[y0, y1, y2, y3, y4, y5] t (0, 0))) (x0 x1 x2 x3 x4 x5 : Value) : (puts6 W g x0 x1 x2 x3 x4 x5).heap[g]? = some (.cells #[x0, x1, x2, x3, x4, x5] t (0, 0)) :=
  blk_put (cs := #[x0, x1, x2, x3, x4, y5]) (blk_put (cs := #[x0, x1, x2, x3, y4, y5]) (blk_put (cs := #[x0, x1, x2, y3, y4, y5]) (blk_put (cs := #[x0, x1, y2, y3, y4, y5]) (blk_put (cs := #[x0, y1, y2, y3, y4, y5]) (blk_put (cs := #[y0, y1, y2, y3, y4, y5]) h 0 _ rfl) 1 _ rfl) 2 _ rfl) 3 _ rfl) 4 _ rfl) 5 _ rfl
theorem puts6_below {B : Nat} {w W : World} {g : Nat} (hB : Below B w W) (hg : B ≤ g) (x0 x1 x2 x3 x4 x5 : Value) : Below B w (puts6 W g x0 x1 x2 x3 x4 x5) :=
  (((((hB.setCell (p := ⟨g, 0, none⟩) hg _).setCell (p := ⟨g, 1, none⟩) hg _).setCell (p := ⟨g, 2, none⟩) hg _).setCell (p := ⟨g, 3, none⟩) hg _).setCell (p := ⟨g, 4, none⟩) hg _).setCell (p := ⟨g, 5, none⟩) hg _
theorem puts6_far {W : World} {g B : Nat} {ok : Nat → Prop} {v : Value} {l : List Int} (h : Kd.R (Kd.int .u8) 5 W B ok v l) (hg : g < B) (x0 x1 x2 x3 x4 x5 : Value) : Kd.R (Kd.int .u8) 5 (puts6 W g x0 x1 x2 x3 x4 x5) B ok v l :=
  iR_far (iR_far (iR_far (iR_far (iR_far (iR_far h (p := ⟨g, 0, none⟩) hg _) (p := ⟨g, 1, none⟩) hg _) (p := ⟨g, 2, none⟩) hg _) (p := ⟨g, 3, none⟩) hg _) (p := ⟨g, 4, none⟩) hg _) (p := ⟨g, 5, none⟩) hg _
theorem six_at {W : World} {b t : Nat} {x0 x1 x2 x3 x4 x5 : Value} (h : W.heap[b]? = some (.cells #[x0, x1, x2, x3, x4, x5] t (0, 0))) : W.cell? ⟨b, 0, none⟩ = some x0 ∧ W.cell? ⟨b, 1, none⟩ = some x1 ∧ W.cell? ⟨b, 2, none⟩ = some x2 ∧ W.cell? ⟨b, 3, none⟩ = some x3 ∧ W.cell? ⟨b, 4, none⟩ = some x4 ∧ W.cell? ⟨b, 5, none⟩ = some x5 := ⟨blk_cell h 0, blk_cell h 1, blk_cell h 2, blk_cell h 3, blk_cell h 4, blk_cell h 5⟩
theorem puts6_keep {W : World} {g gh t : Nat} {cs : Array Value} (h : W.heap[gh]? = some (.cells cs t (0, 0))) (hne : gh ≠ g) (x0 x1 x2 x3 x4 x5 : Value) : (puts6 W g x0 x1 x2 x3 x4 x5).heap[gh]? = some (.cells cs t (0, 0)) :=
  blk_far (blk_far (blk_far (blk_far (blk_far (blk_far h (p := ⟨g, 0, none⟩) hne _) (p := ⟨g, 1, none⟩) hne _) (p := ⟨g, 2, none⟩) hne _) (p := ⟨g, 3, none⟩) hne _) (p := ⟨g, 4, none⟩) hne _) (p := ⟨g, 5, none⟩) hne _
theorem puts6_rd {W : World} {g p : Nat} {P : Nat → Prop} {e : Int} {l : List Int} (h : RdAt W g P e l) (hg : g ≠ p) (hP : ∀ k, P k → k ≠ p) (x0 x1 x2 x3 x4 x5 : Value) : RdAt (puts6 W p x0 x1 x2 x3 x4 x5) g P e l :=
  (((((h.far (p := ⟨p, 0, none⟩) hg hP _).far (p := ⟨p, 1, none⟩) hg hP _).far (p := ⟨p, 2, none⟩) hg hP _).far (p := ⟨p, 3, none⟩) hg hP _).far (p := ⟨p, 4, none⟩) hg hP _).far (p := ⟨p, 5, none⟩) hg hP _
theorem rowIn_off {W : World} {B B' : Nat} {v : Value} {l : List Int} (h : RowIn W B B' v l) {p : Addr} (hp : ∀ k, B ≤ k → k < B' → k ≠ p.block) (u : Value) : RowIn (W.setCell p u) B B' v l := Kd.R_grown h (row := some p.block) (by
  refine ⟨rfl, rfl, rfl, by simp, fun k _ hk => Below.heap_setCell W p u k (fun e => hk (by rw [e]))⟩) (fun k hk e => by cases e; exact hp _ hk.1 hk.2 rfl)
theorem puts6_row {W : World} {g B B' : Nat} {v : Value} {l : List Int} (h : RowIn W B B' v l) (hp : ∀ k, B ≤ k → k < B' → k ≠ g) (x0 x1 x2 x3 x4 x5 : Value) : RowIn (puts6 W g x0 x1 x2 x3 x4 x5) B B' v l :=
  rowIn_off (rowIn_off (rowIn_off (rowIn_off (rowIn_off (rowIn_off h (p := ⟨g, 0, none⟩) hp _) (p := ⟨g, 1, none⟩) hp _) (p := ⟨g, 2, none⟩) hp _) (p := ⟨g, 3, none⟩) hp _) (p := ⟨g, 4, none⟩) hp _) (p := ⟨g, 5, none⟩) hp _
theorem four_at6 {W : World} {b t : Nat} {x0 x1 x2 x3 : Value} (h : W.heap[b]? = some (.cells #[x0, x1, x2, x3] t (0, 0))) : W.cell? ⟨b, 0, none⟩ = some x0 ∧ W.cell? ⟨b, 1, none⟩ = some x1 ∧ W.cell? ⟨b, 2, none⟩ = some x2 ∧ W.cell? ⟨b, 3, none⟩ = some x3 := ⟨blk_cell h 0, blk_cell h 1, blk_cell h 2, blk_cell h 3⟩
set_option maxRecDepth 100000 in
set_option maxHeartbeats 8000000 in
theorem iparse_straight (k : Nat) (A0 : Option Addr) (c0 : Nat) (l0 x y l tok m r : List Int) (a b e1 e2 : Int) (m2 : List Int) (w : World) (hr0 : Kd.C (Kd.int .u8) w A0 l0.length l0) (hc0 : l0.length ≤ c0) (qp : head_Parse.f k l0 = some (a, b, x, y, l, 0)) (qc : initial_check.f k a b x y = some 0) (hl : l.length < 140737488355328) (q1 : rdLong k 0 l = some (tok, e1, m)) (q2 : rdBytes e1 m (m.length : Int) = (r, e2, m2))
    (R1 R2 R7 : Int) (R3 R4 R5 R6 : List Int) (hres : (if e2 = 0 then (a, b, x, y, tok, r, (0 : Int)) else (0, 0, [], [], [], [], e2)) = (R1, R2, R3, R4, R5, R6, R7)) :
    Calls Try.prog 8 #[.slice A0 l0.length c0] w fun e w' => ∃ v2_ v3_ v4_ v5_ : Value, e = .returned (.tuple #[.agg #[.int .u8 R1, .int .u32 R2, v2_, v3_, v4_, v5_], .int .i64 R7]) ∧ Kd.R (Kd.int .u8) 5 w' w.heap.size (fun k_ => some k_ ≠ (v3_ : Value).ownBlock ∧ some k_ ≠ (v4_ : Value).ownBlock ∧ some k_ ≠ (v5_ : Value).ownBlock) v2_ R3 ∧ Kd.R (Kd.int .u8) 5 w' w.heap.size (fun k_ => some k_ ≠ (v2_ : Value).ownBlock ∧ some k_ ≠ (v4_ : Value).ownBlock ∧ some k_ ≠ (v5_ : Value).ownBlock) v3_ R4 ∧ Kd.R (Kd.int .u8) 5 w' w.heap.size (fun k_ => some k_ ≠ (v2_ : Value).ownBlock ∧ some k_ ≠ (v3_ : Value).ownBlock ∧ some k_ ≠ (v5_ : Value).ownBlock) v4_ R5 ∧ Kd.R (Kd.int .u8) 5 w' w.heap.size (fun k_ => some k_ ≠ (v2_ : Value).ownBlock ∧ some k_ ≠ (v3_ : Value).ownBlock ∧ some k_ ≠ (v4_ : Value).ownBlock) v5_ R6 ∧ Below w.heap.size w w' := by
  have HR0 := Aside0.mk hr0
  have HC0 := Aside0.mk hc0
  have QP := Aside0.mk qp
  have QC := Aside0.mk qc
  have Q1 := Aside0.mk q1
  have Q2 := Aside0.mk q2
  have HL := Aside0.mk hl
  have HRES := Aside0.mk hres
  have HML := Aside0.mk (show m.length < 140737488355328 by have := rdLong_len q1; omega)
  clear hr0 hc0 qp qc q1 q2 hl hres
  go_enter Try.func8, Try.ntmps8
  go_wp2_with fail
  (with_reducible refine (head_Parse.calls k _ _ _ _ _ _ _ _ _ _ (Kd.C_alloc HR0.out _) HC0.out QP.out).mono ?_)
  rintro en w1 ⟨v1, v2, v3, rfl, hv1, hv2, hv3, hb1⟩
  obtain ⟨B1, d1, rfl, hd1, hC1⟩ := row_at hv1
  obtain ⟨B2, d2, rfl, hd2, hC2⟩ := row_at hv2
  obtain ⟨B3, d3, rfl, hd3, hC3⟩ := row_at hv3
  have hs0 : (w.alloc (.cells #[.int .u8 0, .int .u32 0, .slice none 0 0, .slice none 0 0, .slice none 0 0, .slice none 0 0] 29)).heap.size = w.heap.size + 1 := by simp
  have hS := hb1.size
  have hT1 := blk_below (heap_alloc_new w (.cells #[.int .u8 0, .int .u32 0, .slice none 0 0, .slice none 0 0, .slice none 0 0, .slice none 0 0] 29)) hb1
  have hV1 : Kd.R (Kd.int .u8) 5 w1 (w.heap.size + 1) (fun k => some k ≠ (Value.slice B2 y.length d2).ownBlock ∧ k < w1.heap.size) (.slice B1 x.length d1) x := by rw [hs0] at hv1; exact Kd.R_mono (Kd.R_bound hv1) (fun _ hk => ⟨hk.1.1, hk.2.2.1⟩)
  have hV2 : Kd.R (Kd.int .u8) 5 w1 (w.heap.size + 1) (fun k => some k ≠ (Value.slice B1 x.length d1).ownBlock ∧ k < w1.heap.size) (.slice B2 y.length d2) y := by rw [hs0] at hv2; exact Kd.R_mono (Kd.R_bound hv2) (fun _ hk => ⟨hk.1.1, hk.2.2.1⟩)
  have HB1 := Aside0.mk ((below_alloc (Below.refl _ w) (.cells #[.int .u8 0, .int .u32 0, .slice none 0 0, .slice none 0 0, .slice none 0 0, .slice none 0 0] 29)).trans (hb1.mono (by simp)))
  have HS1 := Aside0.mk (show w.heap.size + 1 ≤ w1.heap.size by rw [hs0] at hS; exact hS)
  have HT1 := Aside0.mk hT1
  have HV1 := Aside0.mk hV1
  have HV2 := Aside0.mk hV2
  have HC1 := Aside0.mk hC1
  have HC2 := Aside0.mk hC2
  have HC3 := Aside0.mk hC3
  have HD1 := Aside0.mk (show x.length ≤ d1 from hd1)
  have HD2 := Aside0.mk (show y.length ≤ d2 from hd2)
  have HD3 := Aside0.mk (show l.length ≤ d3 from hd3)
  clear hv1 hv2 hv3 hd1 hd2 hd3 hC1 hC2 hC3 hb1 hs0 hS hT1 hV1 hV2
  go_wp2_with fail
  (with_reducible refine (initial_check.calls k _ _ _ _ _ _ _ _ _ _ (Kd.C_alloc HC1.out _) HD1.out (Kd.C_alloc HC2.out _) HD2.out QC.out).mono ?_)
  rintro en w3 ⟨rfl, hb3⟩
  have HH3 := Aside0.mk (blk_below (heap_alloc_new w1 (.cells #[.int .u8 a, .int .u32 b, .slice B1 x.length d1, .slice B2 y.length d2] 27)) hb3)
  have HB3 := Aside0.mk ((below_alloc (Below.refl w1.heap.size w1) (.cells #[.int .u8 a, .int .u32 b, .slice B1 x.length d1, .slice B2 y.length d2] 27)).trans (hb3.mono (by simp)))
  have HS3 := Aside0.mk (show w1.heap.size < w3.heap.size by have := hb3.size; simp at this; omega)
  clear hb3
  go_wp2_with fail
  (with_reducible refine (read_calls _ _ _ _).mono ?_)
  rintro en w4 ⟨rfl, hw4⟩
  obtain ⟨g, hg⟩ : ∃ g, g = w3.heap.size := ⟨_, rfl⟩
  have hR4 : RdAt w4 g (fun k => k < g) 0 l := by rw [hw4, hg]; exact read_at (Kd.C_below HC3.out HB3.out) HD3.out
  have hB4 : Below w1.heap.size w1 w4 := by rw [hw4]; exact below_alloc HB3.out _
  have hH4 := (by rw [hw4]; exact blk_alloc HH3.out _ : w4.heap[w1.heap.size]? = some (.cells #[.int .u8 a, .int .u32 b, .slice B1 x.length d1, .slice B2 y.length d2] 27 (0, 0)))
  have hs4 : w4.heap.size = g + 1 := by rw [hw4, hg]; simp
  obtain ⟨gh, hgh⟩ : ∃ gh, gh = w1.heap.size := ⟨_, rfl⟩
  rw [← hg]
  rw [← hgh] at hH4 ⊢
  have HR4 := Aside0.mk hR4
  have HB4 := Aside0.mk hB4
  have HS4 := Aside0.mk hs4
  have HGH := Aside0.mk (show gh = w1.heap.size ∧ gh < g from ⟨hgh, by have := HS3.out; omega⟩)
  have hk0 := blk_cell hH4 0
  have hk1 := blk_cell hH4 1
  have hk2 := blk_cell hH4 2
  have hk3 := blk_cell hH4 3
  simp at hk0 hk1 hk2 hk3
  have HH4 := Aside0.mk hH4
  clear hw4 hR4 hB4 hH4 hs4 hgh hg HH3 HB3 HS3
  go_wp2_with fail
  go_region_held3 (fun w' => w'.cell? ⟨gh, 0, none⟩ = some (.int .u8 a) ∧ w'.cell? ⟨gh, 1, none⟩ = some (.int .u32 b) ∧ w'.cell? ⟨gh, 2, none⟩ = some (.slice B1 x.length d1) ∧ w'.cell? ⟨gh, 3, none⟩ = some (.slice B2 y.length d2))
    (first
      | with_reducible exact HSk6.out
      | with_reducible exact HSk5.out
      | with_reducible exact four_at6 (blk_alloc HH6.out _)
      | with_reducible exact four_at6 (blk_alloc HH5.out _)
      | with_reducible exact four_at6 (blk_drew (blk_alloc HH4.out _))
      | exact four_at6 (puts6_keep HH6.out (by have h1 := HSL.out; have h2 := HS4.out; have h3 := HGH.out; (try simp at h1); (try simp); omega) _ _ _ _ _ _)
      | go_keep)
    (first
      | (go_at_call 21; (with_reducible refine (long_calls k _ _ _ _ _ _ _ _ HR4.out.drew HL.out Q1.out).mono ?_); rintro en w5 ⟨v4, rfl, hv4, hr5, hg5⟩; obtain ⟨B4, d4, rfl, _, _⟩ := row_at hv4; have HV4 := Aside0.mk (RowIn.of hv4); have HR5 := Aside0.mk hr5; have HSL := Aside0.mk hg5.size; have HH5 := Aside0.mk (blk_gb (blk_drew HH4.out) hg5 (by have := HGH.out; omega)); have HSk5 := Aside0.mk (four_at6 HH5.out); have HB5 := Aside0.mk ((below_drew HB4.out).grown hg5 (by have := HGH.out; have := HS4.out; simp; omega) (fun k e => by cases e; have := HGH.out; omega)); clear hv4 hr5 hg5)
      | (go_at_call 21; (with_reducible refine (long_calls k _ _ _ _ _ _ _ _ (HR4.out.alloc _).drew HL.out Q1.out).mono ?_); rintro en w5 ⟨v4, rfl, hv4, hr5, hg5⟩; obtain ⟨B4, d4, rfl, _, _⟩ := row_at hv4; have HV4 := Aside0.mk (RowIn.of hv4); have HR5 := Aside0.mk hr5; have HSL := Aside0.mk hg5.size; have HH5 := Aside0.mk (blk_gb (blk_drew (blk_alloc HH4.out _)) hg5 (by have := HGH.out; omega)); have HSk5 := Aside0.mk (four_at6 HH5.out); have HP5 := Aside0.mk (blk_gb (blk_drew (heap_alloc_new w4 (.cells #[.int .u8 0, .int .u32 0, .slice none 0 0, .slice none 0 0, .slice none 0 0, .slice none 0 0] 29))) hg5 (by have := HS4.out; omega)); have HB5 := Aside0.mk ((below_drew (below_alloc HB4.out _)).grown hg5 (by have := HGH.out; have := HS4.out; simp; omega) (fun k e => by cases e; have := HGH.out; omega)); clear hv4 hr5 hg5)
      | (go_at_call 22; (with_reducible refine (rest_calls _ _ _ _ _ _ _ _ HR5.out HML.out Q2.out).mono ?_); rintro en w6 ⟨v5, rfl, hv5, hr6, hg6⟩; obtain ⟨B5, d5, rfl, _, _⟩ := row_at hv5; have HV5 := Aside0.mk (RowIn.of hv5); have HR6 := Aside0.mk hr6; have HSR := Aside0.mk hg6.size; have HH6 := Aside0.mk (blk_gb HH5.out hg6 (by have := HGH.out; omega)); have HSk6 := Aside0.mk (four_at6 HH6.out); have HV46 := Aside0.mk (HV4.out.grown hg6 (by have := HS4.out; simp; omega)); have HB6 := Aside0.mk (HB5.out.grown hg6 HB5.out.size (fun k e => by cases e; have := HGH.out; omega)); have hp6 := blk_gb HP5.out hg6 (by have := HS4.out; simp; omega); have ht0 := blk_cell hp6 0; have ht1 := blk_cell hp6 1; have ht2 := blk_cell hp6 2; have ht3 := blk_cell hp6 3; have ht4 := blk_cell hp6 4; have ht5 := blk_cell hp6 5; have hu0 := blk_frozen hp6 0; have hu1 := blk_frozen hp6 1; have hu2 := blk_frozen hp6 2; have hu3 := blk_frozen hp6 3; have hu4 := blk_frozen hp6 4; have hu5 := blk_frozen hp6 5; simp at ht0 ht1 ht2 ht3 ht4 ht5; have HP6 := Aside0.mk hp6; clear hp6; clear hv5 hr6 hg6)
      | (go_at_call 22; (with_reducible refine (rest_calls _ _ _ _ _ _ _ _ HR5.out HML.out Q2.out).mono ?_); rintro en w6 ⟨v5, rfl, hv5, hr6, hg6⟩; obtain ⟨B5, d5, rfl, _, _⟩ := row_at hv5; have HV5 := Aside0.mk (RowIn.of hv5); have HR6 := Aside0.mk hr6; have HSR := Aside0.mk hg6.size; have HH6 := Aside0.mk (blk_gb HH5.out hg6 (by have := HGH.out; omega)); have HSk6 := Aside0.mk (four_at6 HH6.out); have HV46 := Aside0.mk (HV4.out.grown hg6 (by have := HS4.out; simp; omega)); have HB6 := Aside0.mk (HB5.out.grown hg6 HB5.out.size (fun k e => by cases e; have := HGH.out; omega)); clear hv5 hr6 hg6)
      | (go_at_call 22; (with_reducible refine (rest_calls _ _ _ _ _ _ _ _ (HR5.out.alloc _) HML.out Q2.out).mono ?_); rintro en w6 ⟨v5, rfl, hv5, hr6, hg6⟩; obtain ⟨B5, d5, rfl, _, _⟩ := row_at hv5; have HV5 := Aside0.mk (RowIn.of hv5); have HR6 := Aside0.mk hr6; have HSR := Aside0.mk hg6.size; have HH6 := Aside0.mk (blk_gb (blk_alloc HH5.out _) hg6 (by have := HGH.out; omega)); have HSk6 := Aside0.mk (four_at6 HH6.out); have HV46 := Aside0.mk ((HV4.out.alloc _).grown hg6 (by have := HS4.out; simp; omega)); have HB6 := Aside0.mk ((below_alloc HB5.out _).grown hg6 (by have := HB5.out.size; simp; omega) (fun k e => by cases e; have := HGH.out; omega)); have hp6 := blk_gb (heap_alloc_new w5 (.cells #[.int .u8 0, .int .u32 0, .slice none 0 0, .slice none 0 0, .slice none 0 0, .slice none 0 0] 29)) hg6 (by have h1 := HSL.out; have h2 := HS4.out; have h3 := HGH.out; (try simp at h1); (try simp); omega); have ht0 := blk_cell hp6 0; have ht1 := blk_cell hp6 1; have ht2 := blk_cell hp6 2; have ht3 := blk_cell hp6 3; have ht4 := blk_cell hp6 4; have ht5 := blk_cell hp6 5; have hu0 := blk_frozen hp6 0; have hu1 := blk_frozen hp6 1; have hu2 := blk_frozen hp6 2; have hu3 := blk_frozen hp6 3; have hu4 := blk_frozen hp6 4; have hu5 := blk_frozen hp6 5; simp at ht0 ht1 ht2 ht3 ht4 ht5; have HP6 := Aside0.mk hp6; clear hp6; clear hv5 hr6 hg6))
  · have h9 := heap_alloc_new w6 (.cells #[.int .u8 a, .int .u32 b, .slice B1 x.length d1, .slice B2 y.length d2, .slice B4 tok.length d4, .slice B5 r.length d5] 29)
    have r9 := HR6.out.alloc (.cells #[.int .u8 a, .int .u32 b, .slice B1 x.length d1, .slice B2 y.length d2, .slice B4 tok.length d4, .slice B5 r.length d5] 29)
    have v49 := HV46.out.alloc (.cells #[.int .u8 a, .int .u32 b, .slice B1 x.length d1, .slice B2 y.length d2, .slice B4 tok.length d4, .slice B5 r.length d5] 29)
    have v59 := HV5.out.alloc (.cells #[.int .u8 a, .int .u32 b, .slice B1 x.length d1, .slice B2 y.length d2, .slice B4 tok.length d4, .slice B5 r.length d5] 29)
    have b9 := below_alloc HB6.out (.cells #[.int .u8 a, .int .u32 b, .slice B1 x.length d1, .slice B2 y.length d2, .slice B4 tok.length d4, .slice B5 r.length d5] 29)
    obtain ⟨gp, hgp⟩ : ∃ gp, gp = w6.heap.size := ⟨_, rfl⟩
    rw [← hgp] at h9 ⊢
    generalize w6.alloc (.cells #[.int .u8 a, .int .u32 b, .slice B1 x.length d1, .slice B2 y.length d2, .slice B4 tok.length d4, .slice B5 r.length d5] 29) = w9 at h9 r9 v49 v59 b9 ⊢
    have HOO := Aside0.mk (show g + 1 ≤ w4.drew.heap.size by have := HS4.out; simp; omega)
    have HGP := Aside0.mk hgp
    have HG5 := Aside0.mk (show g + 1 ≤ w5.heap.size by have o1 := HSL.out; have := HS4.out; (try simp at o1); omega)
    have HW1 := Aside0.mk (show w1.heap.size < g by have := HGH.out; omega)
    have H9 := Aside0.mk h9
    have R9 := Aside0.mk r9
    have V49 := Aside0.mk v49
    have V59 := Aside0.mk v59
    have B9 := Aside0.mk b9
    have HX45 := Aside0.mk (show w5.heap.size ≤ w5.heap.size by simp)
    clear h9 r9 v49 v59 b9 hgp hk0 hk1 hk2 hk3
    obtain ⟨A9, c9, hb9, _, _, _⟩ := R9.out.opens
    have HE := Aside0.mk (err_calls w9 g e2 _ hb9)
    have hT := blk_below HT1.out B9.out
    have hP := H9.out
    have ht0 := blk_cell hT 0
    have hu0 := blk_frozen hT 0
    have hq0 := blk_cell hP 0
    have ht1 := blk_cell hT 1
    have hu1 := blk_frozen hT 1
    have hq1 := blk_cell hP 1
    have ht2 := blk_cell hT 2
    have hu2 := blk_frozen hT 2
    have hq2 := blk_cell hP 2
    have ht3 := blk_cell hT 3
    have hu3 := blk_frozen hT 3
    have hq3 := blk_cell hP 3
    have ht4 := blk_cell hT 4
    have hu4 := blk_frozen hT 4
    have hq4 := blk_cell hP 4
    have ht5 := blk_cell hT 5
    have hu5 := blk_frozen hT 5
    have hq5 := blk_cell hP 5
    simp at ht0 ht1 ht2 ht3 ht4 ht5 hq0 hq1 hq2 hq3 hq4 hq5
    have HT9 := Aside0.mk hT
    clear hb9 hT hP
    by_cases h5 : e2 = 0
    · subst h5
      go_wp2_with (go_at_call 23; (with_reducible refine HE.out.mono ?_); rintro en w10 ⟨rfl, rfl⟩)
      have hres := HRES.out
      rw [if_pos trivial] at hres
      simp only [Prod.mk.injEq] at hres
      obtain ⟨rfl, rfl, rfl, rfl, rfl, rfl, rfl⟩ := hres
      have f1 := HS1.out
      have f2 := HOO.out
      have f3 := HX45.out
      have f4 := HW1.out
      have f5 := HG5.out
      have f6 := HGP.out
      refine bodyPost_ret (results_ct rfl _ _ w.heap.size 29 #[.int .u8 a, .int .u32 b, .slice B1 x.length d1, .slice B2 y.length d2, .slice B4 tok.length d4, .slice B5 r.length d5] (0, 0) _ rfl (puts6_blk HT9.out (.int .u8 a) (.int .u32 b) (.slice B1 x.length d1) (.slice B2 y.length d2) (.slice B4 tok.length d4) (.slice B5 r.length d5)) Try.underlying29 rfl (by kernel_rfl)) rfl ?_
      have s1 := puts6_far (g := w.heap.size) (Kd.R_below HV1.out B9.out) (Nat.lt_succ_self _) (.int .u8 a) (.int .u32 b) (.slice B1 x.length d1) (.slice B2 y.length d2) (.slice B4 tok.length d4) (.slice B5 r.length d5)
      have s2 := puts6_far (g := w.heap.size) (Kd.R_below HV2.out B9.out) (Nat.lt_succ_self _) (.int .u8 a) (.int .u32 b) (.slice B1 x.length d1) (.slice B2 y.length d2) (.slice B4 tok.length d4) (.slice B5 r.length d5)
      have s4 := puts6_row V49.out (g := w.heap.size) (fun k h1 h2 => by omega) (.int .u8 a) (.int .u32 b) (.slice B1 x.length d1) (.slice B2 y.length d2) (.slice B4 tok.length d4) (.slice B5 r.length d5)
      have s5 := puts6_row V59.out (g := w.heap.size) (fun k h1 h2 => by omega) (.int .u8 a) (.int .u32 b) (.slice B1 x.length d1) (.slice B2 y.length d2) (.slice B4 tok.length d4) (.slice B5 r.length d5)
      refine ⟨.slice B1 x.length d1, .slice B2 y.length d2, .slice B4 tok.length d4, .slice B5 r.length d5, rfl, Kd.R_lower (Kd.R_mono s1 (fun k hk => ⟨hk.1, fun e => ?_, fun e => ?_⟩)) (Nat.le_succ _), Kd.R_lower (Kd.R_mono s2 (fun k hk => ⟨hk.1, fun e => ?_, fun e => ?_⟩)) (Nat.le_succ _), Kd.R_lower (Kd.R_mono s4 (fun k hk => ⟨fun e => ?_, fun e => ?_, fun e => ?_⟩)) (by omega), Kd.R_lower (Kd.R_mono s5 (fun k hk => ⟨fun e => ?_, fun e => ?_, fun e => ?_⟩)) (by omega), puts6_below (HB1.out.trans (B9.out.mono HB1.out.size)) (Nat.le_refl _) (.int .u8 a) (.int .u32 b) (.slice B1 x.length d1) (.slice B2 y.length d2) (.slice B4 tok.length d4) (.slice B5 r.length d5)⟩
      · have := s4.base k e.symm; have := hk.2; omega
      · have := s5.base k e.symm; have := hk.2; omega
      · have := s4.base k e.symm; have := hk.2; omega
      · have := s5.base k e.symm; have := hk.2; omega
      · have := (s1.1 k e.symm).2; have := hk.1; omega
      · have := (s2.1 k e.symm).2; have := hk.1; omega
      · have := s5.base k e.symm; have := hk.2; omega
      · have := (s1.1 k e.symm).2; have := hk.1; omega
      · have := (s2.1 k e.symm).2; have := hk.1; omega
      · have := s4.base k e.symm; have := hk.1; omega
    · have h5b : (e2 != 0) = true := bne_iff_ne.mpr h5
      go_wp2_with (go_at_call 23; (with_reducible refine HE.out.mono ?_); rintro en w10 ⟨rfl, rfl⟩)
      have hres := HRES.out
      rw [if_neg h5] at hres
      simp only [Prod.mk.injEq] at hres
      obtain ⟨rfl, rfl, rfl, rfl, rfl, rfl, rfl⟩ := hres
      refine bodyPost_ret (results_ct rfl _ _ w.heap.size 29 #[.int .u8 0, .int .u32 0, .slice none 0 0, .slice none 0 0, .slice none 0 0, .slice none 0 0] (0, 0) _ rfl (puts6_blk HT9.out (.int .u8 0) (.int .u32 0) (.slice none 0 0) (.slice none 0 0) (.slice none 0 0) (.slice none 0 0)) Try.underlying29 rfl (by kernel_rfl)) rfl ?_
      exact ⟨.slice none 0 0, .slice none 0 0, .slice none 0 0, .slice none 0 0, rfl, Kd.R_nil _ _ _ _ _, Kd.R_nil _ _ _ _ _, Kd.R_nil _ _ _ _ _, Kd.R_nil _ _ _ _ _, puts6_below (HB1.out.trans (B9.out.mono HB1.out.size)) (Nat.le_refl _) (.int .u8 0) (.int .u32 0) (.slice none 0 0) (.slice none 0 0) (.slice none 0 0) (.slice none 0 0)⟩
  · have o1 := HSL.out
    have o2 := HS4.out
    have o3 := HGH.out
    (try simp at o1)
    change Exit.then _ _ _ _ (puts6 w6 w5.heap.size (.int .u8 a) (.int .u32 b) (.slice B1 x.length d1) (.slice B2 y.length d2) (.slice B4 tok.length d4) (.slice B5 r.length d5))
    have h9 := puts6_blk HP6.out (.int .u8 a) (.int .u32 b) (.slice B1 x.length d1) (.slice B2 y.length d2) (.slice B4 tok.length d4) (.slice B5 r.length d5)
    have r9 := puts6_rd HR6.out (p := w5.heap.size) (by omega) (fun k hk => by omega) (.int .u8 a) (.int .u32 b) (.slice B1 x.length d1) (.slice B2 y.length d2) (.slice B4 tok.length d4) (.slice B5 r.length d5)
    have v49 := puts6_row HV46.out (g := w5.heap.size) (fun k h1 h2 => by (try simp at h1 h2); omega) (.int .u8 a) (.int .u32 b) (.slice B1 x.length d1) (.slice B2 y.length d2) (.slice B4 tok.length d4) (.slice B5 r.length d5)
    have v59 := puts6_row HV5.out (g := w5.heap.size) (fun k h1 h2 => by (try simp at h1 h2); omega) (.int .u8 a) (.int .u32 b) (.slice B1 x.length d1) (.slice B2 y.length d2) (.slice B4 tok.length d4) (.slice B5 r.length d5)
    have b9 := puts6_below HB6.out (g := w5.heap.size) (by omega) (.int .u8 a) (.int .u32 b) (.slice B1 x.length d1) (.slice B2 y.length d2) (.slice B4 tok.length d4) (.slice B5 r.length d5)
    obtain ⟨gp, hgp⟩ : ∃ gp, gp = w5.heap.size := ⟨_, rfl⟩
    rw [← hgp] at h9 r9 v49 v59 b9 ⊢
    generalize puts6 w6 gp (.int .u8 a) (.int .u32 b) (.slice B1 x.length d1) (.slice B2 y.length d2) (.slice B4 tok.length d4) (.slice B5 r.length d5) = w9 at h9 r9 v49 v59 b9 ⊢
    clear o1 o2 o3
    have HOO := Aside0.mk (show g + 1 ≤ w4.drew.heap.size by have := HS4.out; simp; omega)
    have HGP := Aside0.mk hgp
    have HG5 := Aside0.mk (show g + 1 ≤ w5.heap.size by have o1 := HSL.out; have := HS4.out; (try simp at o1); omega)
    have HW1 := Aside0.mk (show w1.heap.size < g by have := HGH.out; omega)
    have H9 := Aside0.mk h9
    have R9 := Aside0.mk r9
    have V49 := Aside0.mk v49
    have V59 := Aside0.mk v59
    have B9 := Aside0.mk b9
    have HX45 := Aside0.mk (show w5.heap.size ≤ (w5.alloc (.cells #[.int .u8 0, .int .u32 0, .slice none 0 0, .slice none 0 0, .slice none 0 0, .slice none 0 0] 29)).heap.size by simp)
    clear ht0 ht1 ht2 ht3 ht4 ht5 hu0 hu1 hu2 hu3 hu4 hu5
    clear h9 r9 v49 v59 b9 hgp hk0 hk1 hk2 hk3
    obtain ⟨A9, c9, hb9, _, _, _⟩ := R9.out.opens
    have HE := Aside0.mk (err_calls w9 g e2 _ hb9)
    have hT := blk_below HT1.out B9.out
    have hP := H9.out
    have ht0 := blk_cell hT 0
    have hu0 := blk_frozen hT 0
    have hq0 := blk_cell hP 0
    have ht1 := blk_cell hT 1
    have hu1 := blk_frozen hT 1
    have hq1 := blk_cell hP 1
    have ht2 := blk_cell hT 2
    have hu2 := blk_frozen hT 2
    have hq2 := blk_cell hP 2
    have ht3 := blk_cell hT 3
    have hu3 := blk_frozen hT 3
    have hq3 := blk_cell hP 3
    have ht4 := blk_cell hT 4
    have hu4 := blk_frozen hT 4
    have hq4 := blk_cell hP 4
    have ht5 := blk_cell hT 5
    have hu5 := blk_frozen hT 5
    have hq5 := blk_cell hP 5
    simp at ht0 ht1 ht2 ht3 ht4 ht5 hq0 hq1 hq2 hq3 hq4 hq5
    have HT9 := Aside0.mk hT
    clear hb9 hT hP
    by_cases h5 : e2 = 0
    · subst h5
      go_wp2_with (go_at_call 23; (with_reducible refine HE.out.mono ?_); rintro en w10 ⟨rfl, rfl⟩)
      have hres := HRES.out
      rw [if_pos trivial] at hres
      simp only [Prod.mk.injEq] at hres
      obtain ⟨rfl, rfl, rfl, rfl, rfl, rfl, rfl⟩ := hres
      have f1 := HS1.out
      have f2 := HOO.out
      have f3 := HX45.out
      have f4 := HW1.out
      have f5 := HG5.out
      have f6 := HGP.out
      refine bodyPost_ret (results_ct rfl _ _ w.heap.size 29 #[.int .u8 a, .int .u32 b, .slice B1 x.length d1, .slice B2 y.length d2, .slice B4 tok.length d4, .slice B5 r.length d5] (0, 0) _ rfl (puts6_blk HT9.out (.int .u8 a) (.int .u32 b) (.slice B1 x.length d1) (.slice B2 y.length d2) (.slice B4 tok.length d4) (.slice B5 r.length d5)) Try.underlying29 rfl (by kernel_rfl)) rfl ?_
      have s1 := puts6_far (g := w.heap.size) (Kd.R_below HV1.out B9.out) (Nat.lt_succ_self _) (.int .u8 a) (.int .u32 b) (.slice B1 x.length d1) (.slice B2 y.length d2) (.slice B4 tok.length d4) (.slice B5 r.length d5)
      have s2 := puts6_far (g := w.heap.size) (Kd.R_below HV2.out B9.out) (Nat.lt_succ_self _) (.int .u8 a) (.int .u32 b) (.slice B1 x.length d1) (.slice B2 y.length d2) (.slice B4 tok.length d4) (.slice B5 r.length d5)
      have s4 := puts6_row V49.out (g := w.heap.size) (fun k h1 h2 => by omega) (.int .u8 a) (.int .u32 b) (.slice B1 x.length d1) (.slice B2 y.length d2) (.slice B4 tok.length d4) (.slice B5 r.length d5)
      have s5 := puts6_row V59.out (g := w.heap.size) (fun k h1 h2 => by omega) (.int .u8 a) (.int .u32 b) (.slice B1 x.length d1) (.slice B2 y.length d2) (.slice B4 tok.length d4) (.slice B5 r.length d5)
      refine ⟨.slice B1 x.length d1, .slice B2 y.length d2, .slice B4 tok.length d4, .slice B5 r.length d5, rfl, Kd.R_lower (Kd.R_mono s1 (fun k hk => ⟨hk.1, fun e => ?_, fun e => ?_⟩)) (Nat.le_succ _), Kd.R_lower (Kd.R_mono s2 (fun k hk => ⟨hk.1, fun e => ?_, fun e => ?_⟩)) (Nat.le_succ _), Kd.R_lower (Kd.R_mono s4 (fun k hk => ⟨fun e => ?_, fun e => ?_, fun e => ?_⟩)) (by omega), Kd.R_lower (Kd.R_mono s5 (fun k hk => ⟨fun e => ?_, fun e => ?_, fun e => ?_⟩)) (by omega), puts6_below (HB1.out.trans (B9.out.mono HB1.out.size)) (Nat.le_refl _) (.int .u8 a) (.int .u32 b) (.slice B1 x.length d1) (.slice B2 y.length d2) (.slice B4 tok.length d4) (.slice B5 r.length d5)⟩
      · have := s4.base k e.symm; have := hk.2; omega
      · have := s5.base k e.symm; have := hk.2; omega
      · have := s4.base k e.symm; have := hk.2; omega
      · have := s5.base k e.symm; have := hk.2; omega
      · have := (s1.1 k e.symm).2; have := hk.1; omega
      · have := (s2.1 k e.symm).2; have := hk.1; omega
      · have z9 := s5.base k e.symm; (try simp at z9); have z8 := hk.2; omega
      · have := (s1.1 k e.symm).2; have := hk.1; omega
      · have := (s2.1 k e.symm).2; have := hk.1; omega
      · have z9 := s4.base k e.symm; have z8 := hk.1; (try simp at z8); omega
    · have h5b : (e2 != 0) = true := bne_iff_ne.mpr h5
      go_wp2_with (go_at_call 23; (with_reducible refine HE.out.mono ?_); rintro en w10 ⟨rfl, rfl⟩)
      have hres := HRES.out
      rw [if_neg h5] at hres
      simp only [Prod.mk.injEq] at hres
      obtain ⟨rfl, rfl, rfl, rfl, rfl, rfl, rfl⟩ := hres
      refine bodyPost_ret (results_ct rfl _ _ w.heap.size 29 #[.int .u8 0, .int .u32 0, .slice none 0 0, .slice none 0 0, .slice none 0 0, .slice none 0 0] (0, 0) _ rfl (puts6_blk HT9.out (.int .u8 0) (.int .u32 0) (.slice none 0 0) (.slice none 0 0) (.slice none 0 0) (.slice none 0 0)) Try.underlying29 rfl (by kernel_rfl)) rfl ?_
      exact ⟨.slice none 0 0, .slice none 0 0, .slice none 0 0, .slice none 0 0, rfl, Kd.R_nil _ _ _ _ _, Kd.R_nil _ _ _ _ _, Kd.R_nil _ _ _ _ _, Kd.R_nil _ _ _ _ _, puts6_below (HB1.out.trans (B9.out.mono HB1.out.size)) (Nat.le_refl _) (.int .u8 0) (.int .u32 0) (.slice none 0 0) (.slice none 0 0) (.slice none 0 0) (.slice none 0 0)⟩
  · have o1 := HSL.out
    have o2 := HS4.out
    have o3 := HGH.out
    (try simp at o1)
    change Exit.then _ _ _ _ (puts6 w6 w4.heap.size (.int .u8 a) (.int .u32 b) (.slice B1 x.length d1) (.slice B2 y.length d2) (.slice B4 tok.length d4) (.slice B5 r.length d5))
    have h9 := puts6_blk HP6.out (.int .u8 a) (.int .u32 b) (.slice B1 x.length d1) (.slice B2 y.length d2) (.slice B4 tok.length d4) (.slice B5 r.length d5)
    have r9 := puts6_rd HR6.out (p := w4.heap.size) (by omega) (fun k hk => by omega) (.int .u8 a) (.int .u32 b) (.slice B1 x.length d1) (.slice B2 y.length d2) (.slice B4 tok.length d4) (.slice B5 r.length d5)
    have v49 := puts6_row HV46.out (g := w4.heap.size) (fun k h1 h2 => by (try simp at h1 h2); omega) (.int .u8 a) (.int .u32 b) (.slice B1 x.length d1) (.slice B2 y.length d2) (.slice B4 tok.length d4) (.slice B5 r.length d5)
    have v59 := puts6_row HV5.out (g := w4.heap.size) (fun k h1 h2 => by (try simp at h1 h2); omega) (.int .u8 a) (.int .u32 b) (.slice B1 x.length d1) (.slice B2 y.length d2) (.slice B4 tok.length d4) (.slice B5 r.length d5)
    have b9 := puts6_below HB6.out (g := w4.heap.size) (by omega) (.int .u8 a) (.int .u32 b) (.slice B1 x.length d1) (.slice B2 y.length d2) (.slice B4 tok.length d4) (.slice B5 r.length d5)
    obtain ⟨gp, hgp⟩ : ∃ gp, gp = w4.heap.size := ⟨_, rfl⟩
    rw [← hgp] at h9 r9 v49 v59 b9 ⊢
    generalize puts6 w6 gp (.int .u8 a) (.int .u32 b) (.slice B1 x.length d1) (.slice B2 y.length d2) (.slice B4 tok.length d4) (.slice B5 r.length d5) = w9 at h9 r9 v49 v59 b9 ⊢
    clear o1 o2 o3
    have HOO := Aside0.mk (show g + 1 ≤ (w4.alloc (.cells #[.int .u8 0, .int .u32 0, .slice none 0 0, .slice none 0 0, .slice none 0 0, .slice none 0 0] 29)).drew.heap.size by have := HS4.out; simp; omega)
    have HGP := Aside0.mk hgp
    have HG5 := Aside0.mk (show g + 1 ≤ w5.heap.size by have o1 := HSL.out; have := HS4.out; (try simp at o1); omega)
    have HW1 := Aside0.mk (show w1.heap.size < g by have := HGH.out; omega)
    have H9 := Aside0.mk h9
    have R9 := Aside0.mk r9
    have V49 := Aside0.mk v49
    have V59 := Aside0.mk v59
    have B9 := Aside0.mk b9
    have HX45 := Aside0.mk (show w5.heap.size ≤ w5.heap.size by simp)
    clear ht0 ht1 ht2 ht3 ht4 ht5 hu0 hu1 hu2 hu3 hu4 hu5
    clear h9 r9 v49 v59 b9 hgp hk0 hk1 hk2 hk3
    obtain ⟨A9, c9, hb9, _, _, _⟩ := R9.out.opens
    have HE := Aside0.mk (err_calls w9 g e2 _ hb9)
    have hT := blk_below HT1.out B9.out
    have hP := H9.out
    have ht0 := blk_cell hT 0
    have hu0 := blk_frozen hT 0
    have hq0 := blk_cell hP 0
    have ht1 := blk_cell hT 1
    have hu1 := blk_frozen hT 1
    have hq1 := blk_cell hP 1
    have ht2 := blk_cell hT 2
    have hu2 := blk_frozen hT 2
    have hq2 := blk_cell hP 2
    have ht3 := blk_cell hT 3
    have hu3 := blk_frozen hT 3
    have hq3 := blk_cell hP 3
    have ht4 := blk_cell hT 4
    have hu4 := blk_frozen hT 4
    have hq4 := blk_cell hP 4
    have ht5 := blk_cell hT 5
    have hu5 := blk_frozen hT 5
    have hq5 := blk_cell hP 5
    simp at ht0 ht1 ht2 ht3 ht4 ht5 hq0 hq1 hq2 hq3 hq4 hq5
    have HT9 := Aside0.mk hT
    clear hb9 hT hP
    by_cases h5 : e2 = 0
    · subst h5
      go_wp2_with (go_at_call 23; (with_reducible refine HE.out.mono ?_); rintro en w10 ⟨rfl, rfl⟩)
      have hres := HRES.out
      rw [if_pos trivial] at hres
      simp only [Prod.mk.injEq] at hres
      obtain ⟨rfl, rfl, rfl, rfl, rfl, rfl, rfl⟩ := hres
      have f1 := HS1.out
      have f2 := HOO.out
      have f3 := HX45.out
      have f4 := HW1.out
      have f5 := HG5.out
      have f6 := HGP.out
      refine bodyPost_ret (results_ct rfl _ _ w.heap.size 29 #[.int .u8 a, .int .u32 b, .slice B1 x.length d1, .slice B2 y.length d2, .slice B4 tok.length d4, .slice B5 r.length d5] (0, 0) _ rfl (puts6_blk HT9.out (.int .u8 a) (.int .u32 b) (.slice B1 x.length d1) (.slice B2 y.length d2) (.slice B4 tok.length d4) (.slice B5 r.length d5)) Try.underlying29 rfl (by kernel_rfl)) rfl ?_
      have s1 := puts6_far (g := w.heap.size) (Kd.R_below HV1.out B9.out) (Nat.lt_succ_self _) (.int .u8 a) (.int .u32 b) (.slice B1 x.length d1) (.slice B2 y.length d2) (.slice B4 tok.length d4) (.slice B5 r.length d5)
      have s2 := puts6_far (g := w.heap.size) (Kd.R_below HV2.out B9.out) (Nat.lt_succ_self _) (.int .u8 a) (.int .u32 b) (.slice B1 x.length d1) (.slice B2 y.length d2) (.slice B4 tok.length d4) (.slice B5 r.length d5)
      have s4 := puts6_row V49.out (g := w.heap.size) (fun k h1 h2 => by omega) (.int .u8 a) (.int .u32 b) (.slice B1 x.length d1) (.slice B2 y.length d2) (.slice B4 tok.length d4) (.slice B5 r.length d5)
      have s5 := puts6_row V59.out (g := w.heap.size) (fun k h1 h2 => by omega) (.int .u8 a) (.int .u32 b) (.slice B1 x.length d1) (.slice B2 y.length d2) (.slice B4 tok.length d4) (.slice B5 r.length d5)
      refine ⟨.slice B1 x.length d1, .slice B2 y.length d2, .slice B4 tok.length d4, .slice B5 r.length d5, rfl, Kd.R_lower (Kd.R_mono s1 (fun k hk => ⟨hk.1, fun e => ?_, fun e => ?_⟩)) (Nat.le_succ _), Kd.R_lower (Kd.R_mono s2 (fun k hk => ⟨hk.1, fun e => ?_, fun e => ?_⟩)) (Nat.le_succ _), Kd.R_lower (Kd.R_mono s4 (fun k hk => ⟨fun e => ?_, fun e => ?_, fun e => ?_⟩)) (by omega), Kd.R_lower (Kd.R_mono s5 (fun k hk => ⟨fun e => ?_, fun e => ?_, fun e => ?_⟩)) (by omega), puts6_below (HB1.out.trans (B9.out.mono HB1.out.size)) (Nat.le_refl _) (.int .u8 a) (.int .u32 b) (.slice B1 x.length d1) (.slice B2 y.length d2) (.slice B4 tok.length d4) (.slice B5 r.length d5)⟩
      · have := s4.base k e.symm; have := hk.2; omega
      · have := s5.base k e.symm; have := hk.2; omega
      · have := s4.base k e.symm; have := hk.2; omega
      · have := s5.base k e.symm; have := hk.2; omega
      · have := (s1.1 k e.symm).2; have := hk.1; omega
      · have := (s2.1 k e.symm).2; have := hk.1; omega
      · have := s5.base k e.symm; have := hk.2; omega
      · have := (s1.1 k e.symm).2; have := hk.1; omega
      · have := (s2.1 k e.symm).2; have := hk.1; omega
      · have := s4.base k e.symm; have := hk.1; omega
    · have h5b : (e2 != 0) = true := bne_iff_ne.mpr h5
      go_wp2_with (go_at_call 23; (with_reducible refine HE.out.mono ?_); rintro en w10 ⟨rfl, rfl⟩)
      have hres := HRES.out
      rw [if_neg h5] at hres
      simp only [Prod.mk.injEq] at hres
      obtain ⟨rfl, rfl, rfl, rfl, rfl, rfl, rfl⟩ := hres
      refine bodyPost_ret (results_ct rfl _ _ w.heap.size 29 #[.int .u8 0, .int .u32 0, .slice none 0 0, .slice none 0 0, .slice none 0 0, .slice none 0 0] (0, 0) _ rfl (puts6_blk HT9.out (.int .u8 0) (.int .u32 0) (.slice none 0 0) (.slice none 0 0) (.slice none 0 0) (.slice none 0 0)) Try.underlying29 rfl (by kernel_rfl)) rfl ?_
      exact ⟨.slice none 0 0, .slice none 0 0, .slice none 0 0, .slice none 0 0, rfl, Kd.R_nil _ _ _ _ _, Kd.R_nil _ _ _ _ _, Kd.R_nil _ _ _ _ _, Kd.R_nil _ _ _ _ _, puts6_below (HB1.out.trans (B9.out.mono HB1.out.size)) (Nat.le_refl _) (.int .u8 0) (.int .u32 0) (.slice none 0 0) (.slice none 0 0) (.slice none 0 0) (.slice none 0 0)⟩
set_option maxRecDepth 100000 in
set_option maxHeartbeats 4000000 in
theorem iparse_err (k : Nat) (A0 : Option Addr) (c0 : Nat) (l0 x y l : List Int) (a b eh c r : Int) (w : World) (hr0 : Kd.C (Kd.int .u8) w A0 l0.length l0) (hc0 : l0.length ≤ c0) (qp : head_Parse.f k l0 = some (a, b, x, y, l, eh)) (h : (eh ≠ 0 ∧ r = eh) ∨ (eh = 0 ∧ initial_check.f k a b x y = some c ∧ c ≠ 0 ∧ r = c)) :
    Calls Try.prog 8 #[.slice A0 l0.length c0] w fun e w' => e = .returned (.tuple #[.agg #[.int .u8 0, .int .u32 0, .slice none 0 0, .slice none 0 0, .slice none 0 0, .slice none 0 0], .int .i64 r]) ∧ Below w.heap.size w w' := by
  have HR0 := Aside0.mk hr0
  have HC0 := Aside0.mk hc0
  have QP := Aside0.mk qp
  have HH := Aside0.mk h
  clear hr0 hc0 qp h
  go_enter Try.func8, Try.ntmps8
  go_wp2_with fail
  (with_reducible refine (head_Parse.calls k _ _ _ _ _ _ _ _ _ _ (Kd.C_alloc HR0.out _) HC0.out QP.out).mono ?_)
  rintro en w1 ⟨v1, v2, v3, rfl, hv1, hv2, hv3, hb1⟩
  obtain ⟨B1, d1, rfl, hd1, hC1⟩ := row_at hv1
  obtain ⟨B2, d2, rfl, hd2, hC2⟩ := row_at hv2
  obtain ⟨B3, d3, rfl, _, _⟩ := row_at hv3
  have HT1 := Aside0.mk (blk_below (heap_alloc_new w (.cells #[.int .u8 0, .int .u32 0, .slice none 0 0, .slice none 0 0, .slice none 0 0, .slice none 0 0] 29)) hb1)
  have HB1 := Aside0.mk ((below_alloc (Below.refl _ w) (.cells #[.int .u8 0, .int .u32 0, .slice none 0 0, .slice none 0 0, .slice none 0 0, .slice none 0 0] 29)).trans (hb1.mono (by simp)))
  have HC1 := Aside0.mk hC1
  have HC2 := Aside0.mk hC2
  have HD1 := Aside0.mk (show x.length ≤ d1 from hd1)
  have HD2 := Aside0.mk (show y.length ≤ d2 from hd2)
  clear hv1 hv2 hv3 hd1 hd2 hC1 hC2 hb1
  rcases HH.out with ⟨h1, h2⟩ | ⟨h1, h2, h3, h4⟩
  · subst h2
    have g0 : (r != 0) = true := bne_iff_ne.mpr h1
    have hT := blk_alloc HT1.out (.cells #[.int .u8 a, .int .u32 b, .slice B1 x.length d1, .slice B2 y.length d2] 27)
    have hB := below_alloc HB1.out (.cells #[.int .u8 a, .int .u32 b, .slice B1 x.length d1, .slice B2 y.length d2] 27)
    have ht0 := (blk_cell hT 0).trans rfl
    have hu0 := blk_frozen hT 0
    have ht1 := (blk_cell hT 1).trans rfl
    have hu1 := blk_frozen hT 1
    have ht2 := (blk_cell hT 2).trans rfl
    have hu2 := blk_frozen hT 2
    have ht3 := (blk_cell hT 3).trans rfl
    have hu3 := blk_frozen hT 3
    have ht4 := (blk_cell hT 4).trans rfl
    have hu4 := blk_frozen hT 4
    have ht5 := (blk_cell hT 5).trans rfl
    have hu5 := blk_frozen hT 5
    have HT2 := Aside0.mk hT
    have HB2 := Aside0.mk hB
    clear hT hB h1
    go_wp2_with fail
    have hT := HT2.out
    have hB := HB2.out
    clear HT2 HB2 ht0 ht1 ht2 ht3 ht4 ht5 hu0 hu1 hu2 hu3 hu4 hu5
    generalize w1.alloc (.cells #[.int .u8 a, .int .u32 b, .slice B1 x.length d1, .slice B2 y.length d2] 27) = w2 at hT hB ⊢
    refine bodyPost_ret (results_ct rfl _ _ w.heap.size 29 #[.int .u8 0, .int .u32 0, .slice none 0 0, .slice none 0 0, .slice none 0 0, .slice none 0 0] (0, 0) _ rfl (puts6_blk hT (.int .u8 0) (.int .u32 0) (.slice none 0 0) (.slice none 0 0) (.slice none 0 0) (.slice none 0 0)) Try.underlying29 rfl (by kernel_rfl)) rfl ?_
    exact ⟨rfl, puts6_below hB (Nat.le_refl _) (.int .u8 0) (.int .u32 0) (.slice none 0 0) (.slice none 0 0) (.slice none 0 0) (.slice none 0 0)⟩
  · subst h1
    subst h4
    have QC := Aside0.mk h2
    have g0 : (r != 0) = true := bne_iff_ne.mpr h3
    clear h2 h3
    go_wp2_with fail
    (with_reducible refine (initial_check.calls k _ _ _ _ _ _ _ _ _ _ (Kd.C_alloc HC1.out _) HD1.out (Kd.C_alloc HC2.out _) HD2.out QC.out).mono ?_)
    rintro en w3 ⟨rfl, hb3⟩
    have hT := blk_below (blk_alloc HT1.out (.cells #[.int .u8 a, .int .u32 b, .slice B1 x.length d1, .slice B2 y.length d2] 27)) hb3
    have hB := (below_alloc HB1.out (.cells #[.int .u8 a, .int .u32 b, .slice B1 x.length d1, .slice B2 y.length d2] 27)).trans (hb3.mono (below_alloc HB1.out _).size)
    have ht0 := (blk_cell hT 0).trans rfl
    have hu0 := blk_frozen hT 0
    have ht1 := (blk_cell hT 1).trans rfl
    have hu1 := blk_frozen hT 1
    have ht2 := (blk_cell hT 2).trans rfl
    have hu2 := blk_frozen hT 2
    have ht3 := (blk_cell hT 3).trans rfl
    have hu3 := blk_frozen hT 3
    have ht4 := (blk_cell hT 4).trans rfl
    have hu4 := blk_frozen hT 4
    have ht5 := (blk_cell hT 5).trans rfl
    have hu5 := blk_frozen hT 5
    have HT2 := Aside0.mk hT
    have HB2 := Aside0.mk hB
    clear hT hB hb3
    go_wp2_with fail
    refine bodyPost_ret (results_ct rfl _ _ w.heap.size 29 #[.int .u8 0, .int .u32 0, .slice none 0 0, .slice none 0 0, .slice none 0 0, .slice none 0 0] (0, 0) _ rfl (puts6_blk HT2.out (.int .u8 0) (.int .u32 0) (.slice none 0 0) (.slice none 0 0) (.slice none 0 0) (.slice none 0 0)) Try.underlying29 rfl (by kernel_rfl)) rfl ?_
    exact ⟨rfl, puts6_below HB2.out (Nat.le_refl _) (.int .u8 0) (.int .u32 0) (.slice none 0 0) (.slice none 0 0) (.slice none 0 0) (.slice none 0 0)⟩
def initial_Parse.f (k : Nat) (l0 : List Int) : Option (Int × Int × List Int × List Int × List Int × List Int × Int) :=
  (head_Parse.f k l0).bind fun p => if p.2.2.2.2.2 = 0 then (initial_check.f k p.1 p.2.1 p.2.2.1 p.2.2.2.1).bind fun c => if c = 0 then (if p.2.2.2.2.1.length < 140737488355328 then (rdLong k 0 p.2.2.2.2.1).bind fun q => some (if (rdBytes q.2.1 q.2.2 (q.2.2.length : Int)).2.1 = 0 then (p.1, p.2.1, p.2.2.1, p.2.2.2.1, q.1, (rdBytes q.2.1 q.2.2 (q.2.2.length : Int)).1, (0 : Int)) else (0, 0, [], [], [], [], (rdBytes q.2.1 q.2.2 (q.2.2.length : Int)).2.1)) else none) else some (0, 0, [], [], [], [], c) else some (0, 0, [], [], [], [], p.2.2.2.2.2)
theorem rdVari_mono (k : Nat) (e : Int) (l : List Int) : LeO (rdVari k e l) (rdVari (k + 1) e l) := by
  unfold rdVari
  exact LeO.bind (vari_Take.mono _ k) (fun _ => LeO.refl _)
theorem rdLong_mono (k : Nat) (e : Int) (l : List Int) : LeO (rdLong k e l) (rdLong (k + 1) e l) := by
  unfold rdLong
  exact LeO.bind (rdVari_mono k e l) (fun _ => LeO.refl _)
theorem initial_Parse.mono : ∀ (l0 : List Int) (k : Nat), LeO (initial_Parse.f k l0) (initial_Parse.f (k + 1) l0) := by
  intro l0 k
  unfold initial_Parse.f
  exact LeO.bind (head_Parse.mono _ k) (fun p => LeO.ite (LeO.bind (initial_check.mono _ _ _ _ k) (fun c => LeO.ite (LeO.ite (LeO.bind (rdLong_mono k _ _) (fun _ => LeO.refl _)) (LeO.refl _)) (LeO.refl _))) (LeO.refl _))
theorem initial_Parse.calls (k : Nat) (A0 : Option Addr) (c0 : Nat) (l0 : List Int) (r1 : Int) (r2 : Int) (r3 : List Int) (r4 : List Int) (r5 : List Int) (r6 : List Int) (r7 : Int) (w : World) (hr0 : Kd.C (Kd.int .u8) w A0 l0.length l0) (hc0 : l0.length ≤ c0) (h : initial_Parse.f k l0 = some (r1, r2, r3, r4, r5, r6, r7)) :
    Calls Try.prog 8 #[.slice A0 l0.length c0] w fun e w' => ∃ v2_ v3_ v4_ v5_ : Value, e = .returned (.tuple #[.agg #[.int .u8 r1, .int .u32 r2, v2_, v3_, v4_, v5_], .int .i64 r7]) ∧ Kd.R (Kd.int .u8) 5 w' w.heap.size (fun k_ => some k_ ≠ (v3_ : Value).ownBlock ∧ some k_ ≠ (v4_ : Value).ownBlock ∧ some k_ ≠ (v5_ : Value).ownBlock) v2_ r3 ∧ Kd.R (Kd.int .u8) 5 w' w.heap.size (fun k_ => some k_ ≠ (v2_ : Value).ownBlock ∧ some k_ ≠ (v4_ : Value).ownBlock ∧ some k_ ≠ (v5_ : Value).ownBlock) v3_ r4 ∧ Kd.R (Kd.int .u8) 5 w' w.heap.size (fun k_ => some k_ ≠ (v2_ : Value).ownBlock ∧ some k_ ≠ (v3_ : Value).ownBlock ∧ some k_ ≠ (v5_ : Value).ownBlock) v4_ r5 ∧ Kd.R (Kd.int .u8) 5 w' w.heap.size (fun k_ => some k_ ≠ (v2_ : Value).ownBlock ∧ some k_ ≠ (v3_ : Value).ownBlock ∧ some k_ ≠ (v4_ : Value).ownBlock) v5_ r6 ∧ Below w.heap.size w w' := by
  unfold initial_Parse.f at h
  obtain ⟨⟨a, b, x, y, l, eh⟩, qp, h⟩ := Option.bind_eq_some_iff.1 h
  dsimp only at h
  have fin : ∀ e c : Int, (0, 0, [], [], [], [], e) = (r1, r2, r3, r4, r5, r6, r7) → ((eh ≠ 0 ∧ e = eh) ∨ (eh = 0 ∧ initial_check.f k a b x y = some c ∧ c ≠ 0 ∧ e = c)) →
      Calls Try.prog 8 #[.slice A0 l0.length c0] w fun e w' => ∃ v2_ v3_ v4_ v5_ : Value, e = .returned (.tuple #[.agg #[.int .u8 r1, .int .u32 r2, v2_, v3_, v4_, v5_], .int .i64 r7]) ∧ Kd.R (Kd.int .u8) 5 w' w.heap.size (fun k_ => some k_ ≠ (v3_ : Value).ownBlock ∧ some k_ ≠ (v4_ : Value).ownBlock ∧ some k_ ≠ (v5_ : Value).ownBlock) v2_ r3 ∧ Kd.R (Kd.int .u8) 5 w' w.heap.size (fun k_ => some k_ ≠ (v2_ : Value).ownBlock ∧ some k_ ≠ (v4_ : Value).ownBlock ∧ some k_ ≠ (v5_ : Value).ownBlock) v3_ r4 ∧ Kd.R (Kd.int .u8) 5 w' w.heap.size (fun k_ => some k_ ≠ (v2_ : Value).ownBlock ∧ some k_ ≠ (v3_ : Value).ownBlock ∧ some k_ ≠ (v5_ : Value).ownBlock) v4_ r5 ∧ Kd.R (Kd.int .u8) 5 w' w.heap.size (fun k_ => some k_ ≠ (v2_ : Value).ownBlock ∧ some k_ ≠ (v3_ : Value).ownBlock ∧ some k_ ≠ (v4_ : Value).ownBlock) v5_ r6 ∧ Below w.heap.size w w' := by
    intro e c he hk
    simp only [Prod.mk.injEq] at he
    obtain ⟨rfl, rfl, rfl, rfl, rfl, rfl, rfl⟩ := he
    exact (iparse_err k A0 c0 l0 x y l a b eh c e w hr0 hc0 qp hk).mono fun en w' ⟨he, hB⟩ => ⟨_, _, _, _, he, Kd.R_nil _ _ _ _ _, Kd.R_nil _ _ _ _ _, Kd.R_nil _ _ _ _ _, Kd.R_nil _ _ _ _ _, hB⟩
  by_cases h0 : eh = 0
  · rw [if_pos h0] at h
    obtain ⟨c, qc, h⟩ := Option.bind_eq_some_iff.1 h
    by_cases h1 : c = 0
    · rw [if_pos h1] at h
      split at h
      · rename_i hl
        obtain ⟨⟨tok, e1, m⟩, q1, h9⟩ := Option.bind_eq_some_iff.1 h
        obtain ⟨⟨r, e2, m2⟩, q2⟩ : ∃ x, rdBytes e1 m (m.length : Int) = x := ⟨_, rfl⟩
        dsimp only at h9
        rw [q2] at h9
        subst h0
        subst h1
        exact iparse_straight k A0 c0 l0 x y l tok m r a b e1 e2 m2 w hr0 hc0 qp qc hl q1 q2 r1 r2 r7 r3 r4 r5 r6 (Option.some.inj h9)
      · cases h
    · rw [if_neg h1] at h
      exact fin c c (Option.some.inj h) (.inr ⟨h0, qc, h1, rfl⟩)
  · rw [if_neg h0] at h
    exact fin eh 0 (Option.some.inj h) (.inl ⟨h0, rfl⟩)


end Go.Proofs.Ytmhmmmkpijbbiad.M
