/- Contracts of the Go functions that the laws reach, each as a plain Lean function: written by xprint.py, a program of this repo. -/
import Derived.Test.YtblllcmdnmjghaaM0
import Derived.Test.YtblllcmdnmjghaaM2
import Derived.Test.YtblllcmdnmjghaaM5
namespace Go.Proofs.Ytblllcmdnmjghaa.M
open Go.RowKit Go.Proofs.YtblllcmdnmjghaaW.PrintWords Go.Proofs.YtblllcmdnmjghaaW.PrintLast Go.Proofs.YtblllcmdnmjghaaW.PrintMore Go.Proofs.Ytblllcmdnmjghaa.X
attribute [local go_sem] max2_int min2_int max_two min_two max_three min_three max_four min_four   -- for this text's walks alone
set_option linter.unusedVariables false
set_option linter.unusedSimpArgs false

/-! ### crosswaylaw04_PolyAnswers: function 3, typed by hand -/
section
open Go.Proofs.Ytblllcmdnmjghaa.Gf Go.Proofs.Ytblllcmdnmjghaa.Arr Go.Proofs.Ytblllcmdnmjghaa.ArrW Go.Proofs.Ytblllcmdnmjghaa.ArrX
/-- The elements of a list, as whole numbers. -/
def crosswaylaw04_PolyAnswers.ns (l : List S24) : List Nat := l.map fun s => nOf s.f0 s.f1
def crosswaylaw04_PolyAnswers.xor (l : List Nat) : Nat := l.foldl (· ^^^ ·) 0
theorem crosswaylaw04_PolyAnswers.gen_fb : FbEq (fun j => if j = 1 then true else false) gen := by
  intro i hi
  rw [fb, show gen = 2 ^ 126 by decide, Nat.testBit_two_pow]
  by_cases h : i = 1
  · subst h; rfl
  · exact (if_neg h).trans (decide_eq_false (by omega)).symm
theorem crosswaylaw04_PolyAnswers.zero_fb : FbEq (fun _ => false) 0 := by
  intro i hi
  simp [fb]
theorem crosswaylaw04_PolyAnswers.xor_succ (l : List S24) (i : Nat) (h : i < l.length) : crosswaylaw04_PolyAnswers.xor (crosswaylaw04_PolyAnswers.ns (l.take (i + 1))) = crosswaylaw04_PolyAnswers.xor (crosswaylaw04_PolyAnswers.ns (l.take i)) ^^^ nOf l[i].f0 l[i].f1 := by
  unfold crosswaylaw04_PolyAnswers.xor crosswaylaw04_PolyAnswers.ns
  rw [List.take_succ_eq_append_getElem h, List.map_append, List.foldl_append]
  rfl
/-- A pair of words that is an element. -/
def crosswaylaw04_PolyAnswers.fine (a b : Int) : Bool := decide (0 ≤ a) && decide (a < 18446744073709551616) && decide (0 ≤ b) && decide (b < 18446744073709551616)
def crosswaylaw04_PolyAnswers.f (k : Nat) (a0_0 a0_1 a1_0 a1_1 : Int) (l2 : List S24) : Option Bool :=
  if crosswaylaw04_alive.f k = some true then
    if 60 < l2.length then some true
    else if crosswaylaw04_PolyAnswers.fine a0_0 a0_1 = true ∧ crosswaylaw04_PolyAnswers.fine a1_0 a1_1 = true ∧ (∀ s ∈ l2, crosswaylaw04_PolyAnswers.fine s.f0 s.f1 = true) ∧ poly_Elem_Times.f a0_0 a0_1 a1_0 a1_1 = some (hiN (mul (nOf a0_0 a0_1) (nOf a1_0 a1_1)), loN (mul (nOf a0_0 a0_1) (nOf a1_0 a1_1))) ∧ poly_Elem_Next.f a0_0 a0_1 = some (hiN (nx (nOf a0_0 a0_1)), loN (nx (nOf a0_0 a0_1))) ∧ poly_Sum.f k l2 = some (hiN (crosswaylaw04_PolyAnswers.xor (crosswaylaw04_PolyAnswers.ns l2)), loN (crosswaylaw04_PolyAnswers.xor (crosswaylaw04_PolyAnswers.ns l2))) then some true else none
  else none
theorem crosswaylaw04_PolyAnswers.xor_lt (l : List S24) (h : ∀ s ∈ l, crosswaylaw04_PolyAnswers.fine s.f0 s.f1 = true) : crosswaylaw04_PolyAnswers.xor (crosswaylaw04_PolyAnswers.ns l) < top := by
  have : ∀ (l : List S24) (acc : Nat), acc < top → (∀ s ∈ l, crosswaylaw04_PolyAnswers.fine s.f0 s.f1 = true) → (crosswaylaw04_PolyAnswers.ns l).foldl (· ^^^ ·) acc < top := by
    intro l
    induction l with
    | nil => intro acc h _; exact h
    | cons s l ih =>
      intro acc ha h
      have hs := h s (List.mem_cons_self ..)
      unfold crosswaylaw04_PolyAnswers.fine at hs
      simp at hs
      exact ih _ (Gf.xor_lt ha (nOf_lt (a := s.f0) (b := s.f1) (by omega) (by omega)).1) (fun s hs => h s (List.mem_cons_of_mem _ hs))
  exact this l 0 (by decide) h
set_option maxRecDepth 100000 in
set_option maxHeartbeats 1000000 in
theorem crosswaylaw04_PolyAnswers.calls (k : Nat) (a0_0 a0_1 a1_0 a1_1 : Int) (A2 : Option Addr) (c2 : Nat) (l2 : List S24) (r : Bool) (w : World) (hr2 : Kd.C k24 w A2 l2.length l2) (hc2 : l2.length ≤ c2) (h : crosswaylaw04_PolyAnswers.f k a0_0 a0_1 a1_0 a1_1 l2 = some r) :
    Calls Try.prog 3 #[.agg #[.int .u64 a0_0, .int .u64 a0_1], .agg #[.int .u64 a1_0, .int .u64 a1_1], .slice A2 l2.length c2] w fun e w' => e = .returned (.bool r) ∧ Below w.heap.size w w' := by
  unfold crosswaylaw04_PolyAnswers.f at h
  have hal : crosswaylaw04_alive.f k = some true := by
    by_cases ha : crosswaylaw04_alive.f k = some true
    · exact ha
    · rw [if_neg ha] at h; cases h
  rw [if_pos hal] at h
  have HAL := Aside0.mk hal
  have HR2 := Aside0.mk hr2
  clear hal hr2
  by_cases hl : 60 < l2.length
  · rw [if_pos hl] at h
    cases h
    go_enter Try.func3, Try.ntmps3
    go_wp2_with fail
    (with_reducible refine (crosswaylaw04_alive.calls k true _ HAL.out).mono ?_)
    rintro e w1 ⟨rfl, hb1⟩
    go_wp2_with fail
    go_ret
    exact ⟨rfl, (below_alloc (below_alloc (Below.refl _ _) _) _).trans (hb1.mono (by simp; omega))⟩
  · rw [if_neg hl] at h
    by_cases hall : crosswaylaw04_PolyAnswers.fine a0_0 a0_1 = true ∧ crosswaylaw04_PolyAnswers.fine a1_0 a1_1 = true ∧ (∀ s ∈ l2, crosswaylaw04_PolyAnswers.fine s.f0 s.f1 = true) ∧ poly_Elem_Times.f a0_0 a0_1 a1_0 a1_1 = some (hiN (mul (nOf a0_0 a0_1) (nOf a1_0 a1_1)), loN (mul (nOf a0_0 a0_1) (nOf a1_0 a1_1))) ∧ poly_Elem_Next.f a0_0 a0_1 = some (hiN (nx (nOf a0_0 a0_1)), loN (nx (nOf a0_0 a0_1))) ∧ poly_Sum.f k l2 = some (hiN (crosswaylaw04_PolyAnswers.xor (crosswaylaw04_PolyAnswers.ns l2)), loN (crosswaylaw04_PolyAnswers.xor (crosswaylaw04_PolyAnswers.ns l2)))
    · rw [if_pos hall] at h
      cases h
      have HALL := Aside0.mk hall
      clear hall
      have hl60 : l2.length ≤ 60 := by omega
      clear hl
      have hz := zeroP
      have hz3 := buildP
      have hc3 := blk_cell (blk_alloc (blk_new w (.cells #[.int .u64 a0_0, .int .u64 a0_1] 24)) (.cells #[.int .u64 a1_0, .int .u64 a1_1] 24))
      go_enter Try.func3, Try.ntmps3
      have HB0 := Aside0.mk (below_alloc (below_alloc (Below.refl w.heap.size w) (.cells #[.int .u64 a0_0, .int .u64 a0_1] 24)) (.cells #[.int .u64 a1_0, .int .u64 a1_1] 24))
      have HA0 := Aside0.mk (blk_alloc (blk_new w (.cells #[.int .u64 a0_0, .int .u64 a0_1] 24)) (.cells #[.int .u64 a1_0, .int .u64 a1_1] 24))
      have HA1 := Aside0.mk (blk_newN (W := w.alloc (.cells #[.int .u64 a0_0, .int .u64 a0_1] 24)) (N := w.heap.size + 1) (by simp) (.cells #[.int .u64 a1_0, .int .u64 a1_1] 24))
      clear hc3
      go_wp2_with fail
      (with_reducible refine (crosswaylaw04_alive.calls k true _ HAL.out).mono ?_)
      rintro e w1 ⟨rfl, hb1⟩
      have HB1 := Aside0.mk (HB0.out.trans (hb1.mono (by simp; omega)))
      have H0 := Aside0.mk (blk_below HA0.out hb1)
      have H1 := Aside0.mk (blk_below HA1.out hb1)
      have hs1 := Aside0.mk (show w.heap.size + 1 < w1.heap.size from blk_lt (blk_below HA1.out hb1))
      clear hb1 HA0 HA1 HB0
      have hst := store_same (P := Try.prog) (W := w1) rfl (arr 128 fun _ => false) 28 (arr_one _ _)
      have hc7 := arr_cell (i := 1) (blk_new w1 (.cells (arr 128 fun _ => false) 28)) (by decide)
      have hf7 := blk_frozen (blk_new w1 (.cells (arr 128 fun _ => false) 28)) 1
      have hst2 := store_same (P := Try.prog) (W := w1.alloc (.cells ((arr 128 fun _ => false).setIfInBounds 1 (.bool true)) 28)) (N := w1.heap.size + 1) (by simp) (arr 128 fun _ => false) 28 (arr_one _ _)
      go_wp2_with fail
      clear hz hz3 hst hc7 hf7 hst2
      have e1 : (arr 128 fun _ => false).setIfInBounds 1 (.bool true) = arr 128 (fb gen) := (arr_set 128 _ 1 true).trans (arr_fb crosswaylaw04_PolyAnswers.gen_fb)
      have e2 : (arr 128 fun _ => false) = arr 128 (fb 0) := arr_fb crosswaylaw04_PolyAnswers.zero_fb
      rw [e1, e2]
      clear e1 e2
      go_loopw [9] (fun v9 wr => ∃ i : Nat, i ≤ l2.length ∧ v9 = .int .i64 i ∧ Aside0 (wr.heap[w.heap.size]? = some (.cells #[.int .u64 a0_0, .int .u64 a0_1] 24 (0, 0)) ∧ wr.heap[w.heap.size + 1]? = some (.cells #[.int .u64 a1_0, .int .u64 a1_1] 24 (0, 0)) ∧ wr.heap[w1.heap.size]? = some (.cells (arr 128 (fb gen)) 28 (0, 0)) ∧ wr.heap[w1.heap.size + 1]? = some (.cells (arr 128 (fb (crosswaylaw04_PolyAnswers.xor (crosswaylaw04_PolyAnswers.ns (l2.take i))))) 28 (0, 0)) ∧ Below w.heap.size w wr))
        (fun v9 _ => l2.length - (intOf v9).toNat)
      case atStart => exact ⟨0, by omega, rfl, ⟨blk_alloc (blk_alloc H0.out _) _, blk_alloc (blk_alloc H1.out _) _, blk_alloc (blk_new _ _) _, blk_newN (by simp) _, (HB1.out.alloc HB1.out.size _).alloc (by have := HB1.out.size; simp; omega) _⟩⟩
      case round =>
        clear H0 H1 HB1
        obtain ⟨i, hi, rfl, ⟨hb0, hb1, hb7, hb8, hB⟩⟩ := hrel
        by_cases hlt : i < l2.length
        · have hfi := HALL.out.2.2.1 l2[i] (List.getElem_mem _)
          have hxs : crosswaylaw04_PolyAnswers.xor (crosswaylaw04_PolyAnswers.ns (l2.take (i + 1))) = crosswaylaw04_PolyAnswers.xor (crosswaylaw04_PolyAnswers.ns (l2.take i)) ^^^ nOf l2[i].f0 l2[i].f1 := crosswaylaw04_PolyAnswers.xor_succ l2 i hlt
          generalize crosswaylaw04_PolyAnswers.xor (crosswaylaw04_PolyAnswers.ns (l2.take i)) = s at hb8 hxs
          obtain ⟨ad, e109, hx0, hx1⟩ := at_T24 HR2.out (i : Int) (by omega) (by omega)
          subst e109
          have erd : rd_T24 l2 (i : Int) = l2[i] := by unfold rd_T24; rw [Int.toNat_natCast, List.getD_eq_getElem?_getD, List.getElem?_eq_getElem hlt, Option.getD_some]
          rw [erd] at hx0 hx1
          obtain ⟨hel, hea, heb⟩ := nOf_lt (a := l2[i].f0) (b := l2[i].f1) (by unfold crosswaylaw04_PolyAnswers.fine at hfi; simp at hfi; omega) (by unfold crosswaylaw04_PolyAnswers.fine at hfi; simp at hfi; omega)
          generalize nOf l2[i].f0 l2[i].f1 = y at hxs hel hea heb
          rw [hea] at hx0
          rw [heb] at hx1
          clear hea heb erd hfi
          have HXS := Aside0.mk hxs
          have HEL := Aside0.mk hel
          clear hxs hel
          replace hx0 := (hB.cell (World.block_lt_of_cell? w _ hx0)).trans hx0
          replace hx1 := (hB.cell (World.block_lt_of_cell? w _ hx1)).trans hx1
          rw [Int.toNat_natCast] at hx0 hx1
          have H0 := Aside0.mk hb0
          have H1 := Aside0.mk hb1
          have H7 := Aside0.mk hb7
          have H8 := Aside0.mk hb8
          have HB := Aside0.mk hB
          clear hb0 hb1 hb7 hb8 hB
          have h0 : decide ((i : Int) < (l2.length : Int)) = true := decide_eq_true (by omega)
          go_wp2_with fail
          clear h0
          have p1 : ((0 : Int) ≤ (i : Int)) = True := eq_true (by omega)
          have p2 : ((i : Int) < (l2.length : Int)) = True := eq_true (by omega)
          have HX0 := Aside0.mk hx0
          have HX1 := Aside0.mk hx1
          clear hx0 hx1
          refine Held.wp_region_G (S := fun W => W.heap[w1.heap.size + 1]? = some (.cells (arr 128 (fb s)) 28 (0, 0)) ∧ W.cell? (ad.add (i * 2)) = some (.int .u64 (hiN y)) ∧ W.cell? ⟨(ad.add (i * 2)).block, (ad.add (i * 2)).off + 1, none⟩ = some (.int .u64 (loN y))) (by kernel_rfl) ?_
          change Held.wpAnyG _ _ _ _ _ 8 _ _ _
          have HS := Aside0.mk (show wr.drew.heap[w1.heap.size + 1]? = some (.cells (arr 128 (fb s)) 28 (0, 0)) ∧ wr.drew.cell? (ad.add (i * 2)) = some (.int .u64 (hiN y)) ∧ wr.drew.cell? ⟨(ad.add (i * 2)).block, (ad.add (i * 2)).off + 1, none⟩ = some (.int .u64 (loN y)) from ⟨H8.out, HX0.out, HX1.out⟩)
          refine Held.wpAnyG_take (i := 0) (v := .agg (arr 128 (fb s))) rfl (by kernel_rfl) (by kernel_rfl) (by kernel_rfl) (fun _ _ _ h => h) HS.out (by rfl) (fun W h => Held.run_load_arr 28 (.tmp 8) rfl (w1.heap.size + 1) rfl 28 _ _ _ h.1 Try.underlying28 rfl (infoP_.trans (by rw [arr_size]))) (some 24) rfl #[true, false, false, false, false, false, false, false] (by kernel_rfl) ?_
          refine Held.wpAnyG_take (i := 1) (v := .slice (some ad) l2.length c2) rfl (by kernel_rfl) (by kernel_rfl) (by kernel_rfl) (fun _ _ _ h => h) HS.out (by rfl) (fun W h => rfl) (some 25) rfl #[true, true, false, false, false, false, false, false] (by kernel_rfl) ?_
          refine Held.wpAnyG_take (i := 2) (v := .int .i64 i) rfl (by kernel_rfl) (by kernel_rfl) (by kernel_rfl) (fun _ _ _ h => h) HS.out (by rfl) (fun W h => rfl) (some 26) rfl #[true, true, true, false, false, false, false, false] (by kernel_rfl) ?_
          refine Held.wpAnyG_take (i := 3) (v := .pointer (some (ad.add (i * 2)))) rfl (by kernel_rfl) (by kernel_rfl) (by kernel_rfl) (fun _ _ _ h => h) HS.out (by rfl) (fun W h => by go_simp) (some 27) rfl #[true, true, true, true, false, false, false, false] (by kernel_rfl) ?_
          refine Held.wpAnyG_take (i := 4) (v := .agg #[.int .u64 (hiN y), .int .u64 (loN y)]) rfl (by kernel_rfl) (by kernel_rfl) (by kernel_rfl) (fun _ _ _ h => h) HS.out (by rfl) (fun W h => by obtain ⟨_, h1, h2⟩ := h; go_simp) (some 28) rfl #[true, true, true, true, true, false, false, false] (by kernel_rfl) ?_
          refine Held.wpAnyG_one 5 (by kernel_rfl) rfl #[true, true, true, true, true, true, false, false] (by kernel_rfl) (fun K hK => ?_)
          go_wp2_with fail
          (with_reducible refine (lof_x y _ HEL.out).mono ?_)
          rintro e w2 ⟨rfl, hb2⟩
          have hS2 := Aside0.mk (show w2.heap[w1.heap.size + 1]? = some (.cells (arr 128 (fb s)) 28 (0, 0)) ∧ w2.cell? (ad.add (i * 2)) = some (.int .u64 (hiN y)) ∧ w2.cell? ⟨(ad.add (i * 2)).block, (ad.add (i * 2)).off + 1, none⟩ = some (.int .u64 (loN y)) from ⟨blk_below HS.out.1 hb2, pw_cell_below hb2 HS.out.2.1, pw_cell_below hb2 HS.out.2.2⟩)
          have G0 := Aside0.mk (blk_below (blk_drew H0.out) hb2)
          have G1 := Aside0.mk (blk_below (blk_drew H1.out) hb2)
          have G7 := Aside0.mk (blk_below (blk_drew H7.out) hb2)
          have GB := Aside0.mk ((below_drew HB.out).trans (hb2.mono HB.out.size))
          clear hb2 HS H0 H1 H7 H8 HB
          go_wp2_with fail
          refine hK _ _ hS2.out ?_
          clear hK K
          refine Held.wpAnyG_one 6 (by kernel_rfl) rfl #[true, true, true, true, true, true, true, false] (by kernel_rfl) (fun K hK => ?_)
          go_wp2_with fail
          (with_reducible refine (add_x s y _).mono ?_)
          rintro e w3 ⟨rfl, hb3⟩
          have hS3 := Aside0.mk (show w3.heap[w1.heap.size + 1]? = some (.cells (arr 128 (fb s)) 28 (0, 0)) ∧ w3.cell? (ad.add (i * 2)) = some (.int .u64 (hiN y)) ∧ w3.cell? ⟨(ad.add (i * 2)).block, (ad.add (i * 2)).off + 1, none⟩ = some (.int .u64 (loN y)) from ⟨blk_below hS2.out.1 hb3, pw_cell_below hb3 hS2.out.2.1, pw_cell_below hb3 hS2.out.2.2⟩)
          have J0 := Aside0.mk (blk_below G0.out hb3)
          have J1 := Aside0.mk (blk_below G1.out hb3)
          have J7 := Aside0.mk (blk_below G7.out hb3)
          have JB := Aside0.mk (GB.out.trans (hb3.mono GB.out.size))
          clear hb3 hS2 G0 G1 G7 GB
          go_wp2_with fail
          refine hK _ _ hS3.out ?_
          clear hK K
          refine Held.wpAnyG_last 7 (by kernel_rfl) rfl (by kernel_rfl) (by kernel_rfl) ?_
          refine wpList_store_row (by rfl) 28 (.tmp 8) (.tmp 30) (by rfl) (w1.heap.size + 1) (arr 128 (fb (s ^^^ y))) (by rfl) (by rfl) 28 _ hS3.out.1 (infoP_.trans (by rw [arr_size])) (by rw [arr_size, arr_size]) (arr_one _ _) ?_
          have K0 := Aside0.mk ((setRow_other w3 (w1.heap.size + 1) w.heap.size (arr 128 (fb (s ^^^ y))) (by have := hs1.out; omega)).trans J0.out)
          have K1 := Aside0.mk ((setRow_other w3 (w1.heap.size + 1) (w.heap.size + 1) (arr 128 (fb (s ^^^ y))) (by have := hs1.out; omega)).trans J1.out)
          have K7 := Aside0.mk ((setRow_other w3 (w1.heap.size + 1) w1.heap.size (arr 128 (fb (s ^^^ y))) (by omega)).trans J7.out)
          have K8 := Aside0.mk (setRow_heap w3 (w1.heap.size + 1) _ (arr 128 (fb (s ^^^ y))) 28 (0, 0) hS3.out.1)
          have KB := Aside0.mk (below_setRow JB.out (show w.heap.size ≤ w1.heap.size + 1 by have := hs1.out; omega) (arr 128 (fb (s ^^^ y))))
          clear hS3 J0 J1 J7 JB
          generalize w3.setRow (w1.heap.size + 1) (arr 128 (fb (s ^^^ y))) = w4 at K0 K1 K7 K8 KB ⊢
          go_wp2_with fail
          go_roundw
          case measure => simp [intOf]; omega
          case rel => exact ⟨i + 1, by omega, by go_num, ⟨K0.out, K1.out, K7.out, by rw [HXS.out]; exact K8.out, KB.out⟩⟩
        · obtain rfl : i = l2.length := by omega
          rw [List.take_length] at hb8
          have HT := Aside0.mk HALL.out.2.2.2.1
          have HN := Aside0.mk HALL.out.2.2.2.2.1
          have HSm := Aside0.mk HALL.out.2.2.2.2.2
          have HFa := HALL.out.1
          have HFb := HALL.out.2.1
          unfold crosswaylaw04_PolyAnswers.fine at HFa HFb
          simp at HFa HFb
          obtain ⟨hxl, hxa, hxb⟩ := nOf_lt (a := a0_0) (b := a0_1) (by omega) (by omega)
          obtain ⟨hyl, hya, hyb⟩ := nOf_lt (a := a1_0) (b := a1_1) (by omega) (by omega)
          have hsl := crosswaylaw04_PolyAnswers.xor_lt l2 HALL.out.2.2.1
          generalize crosswaylaw04_PolyAnswers.xor (crosswaylaw04_PolyAnswers.ns l2) = s at hb8 HSm hsl
          generalize nOf a0_0 a0_1 = x at hxl hxa hxb HT HN
          generalize nOf a1_0 a1_1 = y at hyl hya hyb HT
          subst hxa hxb hya hyb
          have HXL := Aside0.mk hxl
          have HYL := Aside0.mk hyl
          have HSL := Aside0.mk hsl
          clear HFa HFb HALL hxl hyl hsl
          have hc0 := blk_cell hb0 0
          have hc0' := blk_cell hb0 1
          have hc1 := blk_cell hb1 0
          have hc1' := blk_cell hb1 1
          simp at hc0 hc0' hc1 hc1'
          obtain ⟨SS, hSS⟩ : ∃ SS : World → Prop, SS = fun W => W.cell? ⟨w.heap.size, 0, none⟩ = some (.int .u64 (hiN x)) ∧ W.cell? ⟨w.heap.size, 1, none⟩ = some (.int .u64 (loN x)) ∧ W.cell? ⟨w.heap.size + 1, 0, none⟩ = some (.int .u64 (hiN y)) ∧ W.cell? ⟨w.heap.size + 1, 1, none⟩ = some (.int .u64 (loN y)) ∧ W.heap[w1.heap.size]? = some (.cells (arr 128 (fb gen)) 28 (0, 0)) ∧ W.heap[w1.heap.size + 1]? = some (.cells (arr 128 (fb s)) 28 (0, 0)) := ⟨_, rfl⟩
          have HS := Aside0.mk (show SS wr.drew by rw [hSS]; exact ⟨hc0, hc0', hc1, hc1', hb7, hb8⟩)
          have HSB := Aside0.mk (show ∀ W W' : World, SS W → Below W.heap.size W W' → SS W' by
            rw [hSS]
            rintro W W' ⟨h1, h2, h3, h4, h5, h6⟩ hb
            exact ⟨pw_cell_below hb h1, pw_cell_below hb h2, pw_cell_below hb h3, pw_cell_below hb h4, blk_below h5 hb, blk_below h6 hb⟩)
          have HSE := Aside0.mk hSS
          have HB := Aside0.mk (below_drew hB)
          have HC2 := Aside0.mk hc2
          clear hb0 hb1 hb7 hb8 hB hSS hc0 hc0' hc1 hc1' hc2
          have h0 : decide (((l2.length : Nat) : Int) < (l2.length : Int)) = false := decide_eq_false (by omega)
          go_wp2_with fail
          clear h0
          refine Held.wp_region_G (S := SS) (by kernel_rfl) ?_
          change Held.wpAnyG _ _ _ _ _ 28 _ _ _
          refine Held.wpAnyG_take (i := 0) (v := (.agg #[.int .u64 (hiN x), .int .u64 (loN x)])) rfl (by kernel_rfl) (by kernel_rfl) (by kernel_rfl) (fun _ _ _ h => h) HS.out (by first | (with_reducible rfl) | (simp [Region.wanted, yielded, Act.put]; done) | rfl) (fun W h => by rw [HSE.out] at h; obtain ⟨h1, h2, h3, h4, _, _⟩ := h; go_simp) (some 31) rfl #[true, false, false, false, false, false, false, false, false, false, false, false, false, false, false, false, false, false, false, false, false, false, false, false, false, false, false, false] (by kernel_rfl) ?_
          simp only [Act.put, List.setIfInBounds_toArray, List.set_cons_zero, List.set_cons_succ]
          refine Held.wpAnyG_take (i := 1) (v := (.agg #[.int .u64 (hiN y), .int .u64 (loN y)])) rfl (by kernel_rfl) (by kernel_rfl) (by kernel_rfl) (fun _ _ _ h => h) HS.out (by first | (with_reducible rfl) | (simp [Region.wanted, yielded, Act.put]; done) | rfl) (fun W h => by rw [HSE.out] at h; obtain ⟨h1, h2, h3, h4, _, _⟩ := h; go_simp) (some 32) rfl #[true, true, false, false, false, false, false, false, false, false, false, false, false, false, false, false, false, false, false, false, false, false, false, false, false, false, false, false] (by kernel_rfl) ?_
          simp only [Act.put, List.setIfInBounds_toArray, List.set_cons_zero, List.set_cons_succ]
          refine Held.wpAnyG_take (i := 4) (v := (.agg #[.int .u64 (hiN x), .int .u64 (loN x)])) rfl (by kernel_rfl) (by kernel_rfl) (by kernel_rfl) (fun _ _ _ h => h) HS.out (by first | (with_reducible rfl) | (simp [Region.wanted, yielded, Act.put]; done) | rfl) (fun W h => by rw [HSE.out] at h; obtain ⟨h1, h2, h3, h4, _, _⟩ := h; go_simp) (some 35) rfl #[true, true, false, false, true, false, false, false, false, false, false, false, false, false, false, false, false, false, false, false, false, false, false, false, false, false, false, false] (by kernel_rfl) ?_
          simp only [Act.put, List.setIfInBounds_toArray, List.set_cons_zero, List.set_cons_succ]
          refine Held.wpAnyG_take (i := 6) (v := (.agg #[.int .u64 (hiN y), .int .u64 (loN y)])) rfl (by kernel_rfl) (by kernel_rfl) (by kernel_rfl) (fun _ _ _ h => h) HS.out (by first | (with_reducible rfl) | (simp [Region.wanted, yielded, Act.put]; done) | rfl) (fun W h => by rw [HSE.out] at h; obtain ⟨h1, h2, h3, h4, _, _⟩ := h; go_simp) (some 37) rfl #[true, true, false, false, true, false, true, false, false, false, false, false, false, false, false, false, false, false, false, false, false, false, false, false, false, false, false, false] (by kernel_rfl) ?_
          simp only [Act.put, List.setIfInBounds_toArray, List.set_cons_zero, List.set_cons_succ]
          refine Held.wpAnyG_one 2 (by kernel_rfl) rfl #[true, true, true, false, true, false, true, false, false, false, false, false, false, false, false, false, false, false, false, false, false, false, false, false, false, false, false, false] (by kernel_rfl) (fun K hK => ?_)
          go_wp2_with fail
          (with_reducible refine (poly_Elem_Times.calls _ _ _ _ _ _ _ HT.out).mono ?_)
          rintro en w5 ⟨rfl, hbN⟩
          have n1_ := Aside0.mk (HSB.out _ _ HS.out hbN)
          have n2_ := Aside0.mk (HB.out.trans (hbN.mono HB.out.size))
          clear hbN HS HB 
          have HS := n1_
          have HB := n2_
          clear n1_ n2_
          go_wp2_with fail
          refine hK _ _ HS.out ?_
          clear hK K
          refine Held.wpAnyG_one 3 (by kernel_rfl) rfl #[true, true, true, true, true, false, true, false, false, false, false, false, false, false, false, false, false, false, false, false, false, false, false, false, false, false, false, false] (by kernel_rfl) (fun K hK => ?_)
          go_wp2_with fail
          (with_reducible refine (lof_x _ _ (mul_lt HYL.out)).mono ?_)
          rintro en w6 ⟨rfl, hbN⟩
          have n1_ := Aside0.mk (HSB.out _ _ HS.out hbN)
          have n2_ := Aside0.mk (HB.out.trans (hbN.mono HB.out.size))
          clear hbN HS HB 
          have HS := n1_
          have HB := n2_
          clear n1_ n2_
          go_wp2_with fail
          refine hK _ _ HS.out ?_
          clear hK K
          refine Held.wpAnyG_one 5 (by kernel_rfl) rfl #[true, true, true, true, true, true, true, false, false, false, false, false, false, false, false, false, false, false, false, false, false, false, false, false, false, false, false, false] (by kernel_rfl) (fun K hK => ?_)
          go_wp2_with fail
          (with_reducible refine (lof_x x _ HXL.out).mono ?_)
          rintro en w7 ⟨rfl, hbN⟩
          have n1_ := Aside0.mk (HSB.out _ _ HS.out hbN)
          have n2_ := Aside0.mk (HB.out.trans (hbN.mono HB.out.size))
          clear hbN HS HB 
          have HS := n1_
          have HB := n2_
          clear n1_ n2_
          go_wp2_with fail
          refine hK _ _ HS.out ?_
          clear hK K
          refine Held.wpAnyG_one 7 (by kernel_rfl) rfl #[true, true, true, true, true, true, true, true, false, false, false, false, false, false, false, false, false, false, false, false, false, false, false, false, false, false, false, false] (by kernel_rfl) (fun K hK => ?_)
          go_wp2_with fail
          (with_reducible refine (lof_x y _ HYL.out).mono ?_)
          rintro en w8 ⟨rfl, hbN⟩
          have n1_ := Aside0.mk (HSB.out _ _ HS.out hbN)
          have n2_ := Aside0.mk (HB.out.trans (hbN.mono HB.out.size))
          clear hbN HS HB 
          have HS := n1_
          have HB := n2_
          clear n1_ n2_
          go_wp2_with fail
          refine hK _ _ HS.out ?_
          clear hK K
          refine Held.wpAnyG_one 8 (by kernel_rfl) rfl #[true, true, true, true, true, true, true, true, true, false, false, false, false, false, false, false, false, false, false, false, false, false, false, false, false, false, false, false] (by kernel_rfl) (fun K hK => ?_)
          go_wp2_with fail
          (with_reducible refine (mul_x x y _ HYL.out).mono ?_)
          rintro en w9 ⟨rfl, hbN⟩
          have n1_ := Aside0.mk (HSB.out _ _ HS.out hbN)
          have n2_ := Aside0.mk (HB.out.trans (hbN.mono HB.out.size))
          clear hbN HS HB 
          have HS := n1_
          have HB := n2_
          clear n1_ n2_
          go_wp2_with fail
          refine hK _ _ HS.out ?_
          clear hK K
          refine Held.wpAnyG_take (i := 9) (v := (.bool true)) rfl (by kernel_rfl) (by kernel_rfl) (by kernel_rfl) (fun _ _ _ h => h) HS.out (by first | (with_reducible rfl) | (simp [Region.wanted, yielded, Act.put]; done) | rfl) (fun W h => run_eql_arr (.tmp 34) (.tmp 39) rfl (fb (mul x y)) rfl rfl W) (some 40) rfl #[true, true, true, true, true, true, true, true, true, true, false, false, false, false, false, false, false, false, false, false, false, false, false, false, false, false, false, false] (by kernel_rfl) ?_
          simp only [Act.put, List.setIfInBounds_toArray, List.set_cons_zero, List.set_cons_succ]
          refine Held.wpAnyG_take (i := 10) (v := _) rfl (by kernel_rfl) (by kernel_rfl) (by kernel_rfl) (fun _ _ _ h => h) HS.out (by first | (with_reducible rfl) | (simp [Region.wanted, yielded, Act.put]; done) | rfl) (fun W h => rfl) (some 41) rfl #[true, true, true, true, true, true, true, true, true, true, true, false, false, false, false, false, false, false, false, false, false, false, false, false, false, false, false, false] (by kernel_rfl) ?_
          simp only [Act.put, List.setIfInBounds_toArray, List.set_cons_zero, List.set_cons_succ]
          refine Held.wpAnyG_take (i := 11) (v := (.agg #[.int .u64 (hiN x), .int .u64 (loN x)])) rfl (by kernel_rfl) (by kernel_rfl) (by kernel_rfl) (fun _ _ _ h => h) HS.out (by first | (with_reducible rfl) | (simp [Region.wanted, yielded, Act.put]; done) | rfl) (fun W h => by rw [HSE.out] at h; obtain ⟨h1, h2, h3, h4, _, _⟩ := h; go_simp) (some 42) rfl #[true, true, true, true, true, true, true, true, true, true, true, true, false, false, false, false, false, false, false, false, false, false, false, false, false, false, false, false] (by kernel_rfl) ?_
          simp only [Act.put, List.setIfInBounds_toArray, List.set_cons_zero, List.set_cons_succ]
          refine Held.wpAnyG_take (i := 14) (v := (.agg #[.int .u64 (hiN x), .int .u64 (loN x)])) rfl (by kernel_rfl) (by kernel_rfl) (by kernel_rfl) (fun _ _ _ h => h) HS.out (by first | (with_reducible rfl) | (simp [Region.wanted, yielded, Act.put]; done) | rfl) (fun W h => by rw [HSE.out] at h; obtain ⟨h1, h2, h3, h4, _, _⟩ := h; go_simp) (some 45) rfl #[true, true, true, true, true, true, true, true, true, true, true, true, false, false, true, false, false, false, false, false, false, false, false, false, false, false, false, false] (by kernel_rfl) ?_
          simp only [Act.put, List.setIfInBounds_toArray, List.set_cons_zero, List.set_cons_succ]
          refine Held.wpAnyG_take (i := 16) (v := (.agg (arr 128 (fb gen)))) rfl (by kernel_rfl) (by kernel_rfl) (by kernel_rfl) (fun _ _ _ h => h) HS.out (by first | (with_reducible rfl) | (simp [Region.wanted, yielded, Act.put]; done) | rfl) (fun W h => Held.run_load_arr 28 (.tmp 7) rfl w1.heap.size rfl 28 _ _ _ (show W.heap[w1.heap.size]? = some (.cells (arr 128 (fb gen)) 28 (0, 0)) from by rw [HSE.out] at h; exact h.2.2.2.2.1) Try.underlying28 rfl (infoP_.trans (by rw [arr_size]))) (some 47) rfl #[true, true, true, true, true, true, true, true, true, true, true, true, false, false, true, false, true, false, false, false, false, false, false, false, false, false, false, false] (by kernel_rfl) ?_
          simp only [Act.put, List.setIfInBounds_toArray, List.set_cons_zero, List.set_cons_succ]
          refine Held.wpAnyG_one 12 (by kernel_rfl) rfl #[true, true, true, true, true, true, true, true, true, true, true, true, true, false, true, false, true, false, false, false, false, false, false, false, false, false, false, false] (by kernel_rfl) (fun K hK => ?_)
          go_wp2_with fail
          (with_reducible refine (poly_Elem_Next.calls _ _ _ _ _ HN.out).mono ?_)
          rintro en w10 ⟨rfl, hbN⟩
          have n1_ := Aside0.mk (HSB.out _ _ HS.out hbN)
          have n2_ := Aside0.mk (HB.out.trans (hbN.mono HB.out.size))
          clear hbN HS HB 
          have HS := n1_
          have HB := n2_
          clear n1_ n2_
          go_wp2_with fail
          refine hK _ _ HS.out ?_
          clear hK K
          refine Held.wpAnyG_one 13 (by kernel_rfl) rfl #[true, true, true, true, true, true, true, true, true, true, true, true, true, true, true, false, true, false, false, false, false, false, false, false, false, false, false, false] (by kernel_rfl) (fun K hK => ?_)
          go_wp2_with fail
          (with_reducible refine (lof_x _ _ (nx_lt HXL.out)).mono ?_)
          rintro en w11 ⟨rfl, hbN⟩
          have n1_ := Aside0.mk (HSB.out _ _ HS.out hbN)
          have n2_ := Aside0.mk (HB.out.trans (hbN.mono HB.out.size))
          clear hbN HS HB 
          have HS := n1_
          have HB := n2_
          clear n1_ n2_
          go_wp2_with fail
          refine hK _ _ HS.out ?_
          clear hK K
          refine Held.wpAnyG_one 15 (by kernel_rfl) rfl #[true, true, true, true, true, true, true, true, true, true, true, true, true, true, true, true, true, false, false, false, false, false, false, false, false, false, false, false] (by kernel_rfl) (fun K hK => ?_)
          go_wp2_with fail
          (with_reducible refine (lof_x x _ HXL.out).mono ?_)
          rintro en w12 ⟨rfl, hbN⟩
          have n1_ := Aside0.mk (HSB.out _ _ HS.out hbN)
          have n2_ := Aside0.mk (HB.out.trans (hbN.mono HB.out.size))
          clear hbN HS HB 
          have HS := n1_
          have HB := n2_
          clear n1_ n2_
          go_wp2_with fail
          refine hK _ _ HS.out ?_
          clear hK K
          refine Held.wpAnyG_one 17 (by kernel_rfl) rfl #[true, true, true, true, true, true, true, true, true, true, true, true, true, true, true, true, true, true, false, false, false, false, false, false, false, false, false, false] (by kernel_rfl) (fun K hK => ?_)
          go_wp2_with fail
          (with_reducible refine (mul_x x gen _ gen_lt).mono ?_)
          rintro en w13 ⟨rfl, hbN⟩
          have n1_ := Aside0.mk (HSB.out _ _ HS.out hbN)
          have n2_ := Aside0.mk (HB.out.trans (hbN.mono HB.out.size))
          clear hbN HS HB 
          have HS := n1_
          have HB := n2_
          clear n1_ n2_
          go_wp2_with fail
          refine hK _ _ HS.out ?_
          clear hK K
          rw [show mul x gen = nx x from (mul_comm HXL.out gen_lt).trans (mul_gen x)]
          refine Held.wpAnyG_take (i := 18) (v := (.bool true)) rfl (by kernel_rfl) (by kernel_rfl) (by kernel_rfl) (fun _ _ _ h => h) HS.out (by first | (with_reducible rfl) | (simp [Region.wanted, yielded, Act.put]; done) | rfl) (fun W h => run_eql_arr (.tmp 44) (.tmp 48) rfl (fb (nx x)) rfl rfl W) (some 49) rfl #[true, true, true, true, true, true, true, true, true, true, true, true, true, true, true, true, true, true, true, false, false, false, false, false, false, false, false, false] (by kernel_rfl) ?_
          simp only [Act.put, List.setIfInBounds_toArray, List.set_cons_zero, List.set_cons_succ]
          refine Held.wpAnyG_take (i := 19) (v := _) rfl (by kernel_rfl) (by kernel_rfl) (by kernel_rfl) (fun _ _ _ h => h) HS.out (by first | (with_reducible rfl) | (simp [Region.wanted, yielded, Act.put]; done) | rfl) (fun W h => rfl) (some 50) rfl #[true, true, true, true, true, true, true, true, true, true, true, true, true, true, true, true, true, true, true, true, false, false, false, false, false, false, false, false] (by kernel_rfl) ?_
          simp only [Act.put, List.setIfInBounds_toArray, List.set_cons_zero, List.set_cons_succ]
          refine Held.wpAnyG_take (i := 20) (v := _) rfl (by kernel_rfl) (by kernel_rfl) (by kernel_rfl) (fun _ _ _ h => h) HS.out (by first | (with_reducible rfl) | (simp [Region.wanted, yielded, Act.put]; done) | rfl) (fun W h => rfl) (some 51) rfl #[true, true, true, true, true, true, true, true, true, true, true, true, true, true, true, true, true, true, true, true, true, false, false, false, false, false, false, false] (by kernel_rfl) ?_
          simp only [Act.put, List.setIfInBounds_toArray, List.set_cons_zero, List.set_cons_succ]
          refine Held.wpAnyG_take (i := 21) (v := _) rfl (by kernel_rfl) (by kernel_rfl) (by kernel_rfl) (fun _ _ _ h => h) HS.out (by first | (with_reducible rfl) | (simp [Region.wanted, yielded, Act.put]; done) | rfl) (fun W h => rfl) (some 52) rfl #[true, true, true, true, true, true, true, true, true, true, true, true, true, true, true, true, true, true, true, true, true, true, false, false, false, false, false, false] (by kernel_rfl) ?_
          simp only [Act.put, List.setIfInBounds_toArray, List.set_cons_zero, List.set_cons_succ]
          refine Held.wpAnyG_take (i := 24) (v := (.agg (arr 128 (fb s)))) rfl (by kernel_rfl) (by kernel_rfl) (by kernel_rfl) (fun _ _ _ h => h) HS.out (by first | (with_reducible rfl) | (simp [Region.wanted, yielded, Act.put]; done) | rfl) (fun W h => Held.run_load_arr 28 (.tmp 8) rfl (w1.heap.size + 1) rfl 28 _ _ _ (show W.heap[w1.heap.size + 1]? = some (.cells (arr 128 (fb s)) 28 (0, 0)) from by rw [HSE.out] at h; exact h.2.2.2.2.2) Try.underlying28 rfl (infoP_.trans (by rw [arr_size]))) (some 55) rfl #[true, true, true, true, true, true, true, true, true, true, true, true, true, true, true, true, true, true, true, true, true, true, false, false, true, false, false, false] (by kernel_rfl) ?_
          simp only [Act.put, List.setIfInBounds_toArray, List.set_cons_zero, List.set_cons_succ]
          have HR2' := Aside0.mk (Kd.C_below HR2.out HB.out)
          refine Held.wpAnyG_one 22 (by kernel_rfl) rfl #[true, true, true, true, true, true, true, true, true, true, true, true, true, true, true, true, true, true, true, true, true, true, true, false, true, false, false, false] (by kernel_rfl) (fun K hK => ?_)
          go_wp2_with fail
          (with_reducible refine (poly_Sum.calls k _ _ _ _ _ _ HR2'.out HC2.out HSm.out).mono ?_)
          rintro en w14 ⟨rfl, hbN⟩
          have n1_ := Aside0.mk (HSB.out _ _ HS.out hbN)
          have n2_ := Aside0.mk (HB.out.trans (hbN.mono HB.out.size))
          clear hbN HS HB 
          have HS := n1_
          have HB := n2_
          clear n1_ n2_
          go_wp2_with fail
          refine hK _ _ HS.out ?_
          clear hK K
          refine Held.wpAnyG_one 23 (by kernel_rfl) rfl #[true, true, true, true, true, true, true, true, true, true, true, true, true, true, true, true, true, true, true, true, true, true, true, true, true, false, false, false] (by kernel_rfl) (fun K hK => ?_)
          go_wp2_with fail
          (with_reducible refine (lof_x _ _ HSL.out).mono ?_)
          rintro en w15 ⟨rfl, hbN⟩
          have n1_ := Aside0.mk (HSB.out _ _ HS.out hbN)
          have n2_ := Aside0.mk (HB.out.trans (hbN.mono HB.out.size))
          clear hbN HS HB 
          have HS := n1_
          have HB := n2_
          clear n1_ n2_
          go_wp2_with fail
          refine hK _ _ HS.out ?_
          clear hK K
          refine Held.wpAnyG_take (i := 25) (v := (.bool true)) rfl (by kernel_rfl) (by kernel_rfl) (by kernel_rfl) (fun _ _ _ h => h) HS.out (by first | (with_reducible rfl) | (simp [Region.wanted, yielded, Act.put]; done) | rfl) (fun W h => run_eql_arr (.tmp 54) (.tmp 55) rfl (fb s) rfl rfl W) (some 56) rfl #[true, true, true, true, true, true, true, true, true, true, true, true, true, true, true, true, true, true, true, true, true, true, true, true, true, true, false, false] (by kernel_rfl) ?_
          simp only [Act.put, List.setIfInBounds_toArray, List.set_cons_zero, List.set_cons_succ]
          refine Held.wpAnyG_take (i := 26) (v := _) rfl (by kernel_rfl) (by kernel_rfl) (by kernel_rfl) (fun _ _ _ h => h) HS.out (by first | (with_reducible rfl) | (simp [Region.wanted, yielded, Act.put]; done) | rfl) (fun W h => rfl) (some 57) rfl #[true, true, true, true, true, true, true, true, true, true, true, true, true, true, true, true, true, true, true, true, true, true, true, true, true, true, true, false] (by kernel_rfl) ?_
          simp only [Act.put, List.setIfInBounds_toArray, List.set_cons_zero, List.set_cons_succ]
          refine Held.wpAnyG_last 27 (by kernel_rfl) rfl (by kernel_rfl) (by kernel_rfl) ?_
          go_wp2_with fail
          go_ret
          exact ⟨rfl, HB.out⟩
    · rw [if_neg hall] at h; cases h
end


/-- The one pure statement of crosswaylaw04_PolyAnswers. -/
def crosswaylaw04_PolyAnswers.Pure : Prop := ∀ (a0_0 : Int) (a0_1 : Int) (a1_0 : Int) (a1_1 : Int) (l2 : List (S24)), (Lit.int .u64 a0_0).wf = true → (Lit.int .u64 a0_1).wf = true → (Lit.int .u64 a1_0).wf = true → (Lit.int .u64 a1_1).wf = true → l2.length ≤ maxLen → (∀ x ∈ l2, ((Lit.int .u64 x.f0).wf = true) ∧ ((Lit.int .u64 x.f1).wf = true) ∧ True) → ∃ k, crosswaylaw04_PolyAnswers.f k a0_0 a0_1 a1_0 a1_1 l2 = some true

end Go.Proofs.Ytblllcmdnmjghaa.M
