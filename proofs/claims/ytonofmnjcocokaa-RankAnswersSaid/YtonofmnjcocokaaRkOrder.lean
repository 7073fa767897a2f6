/- rank: which of two is ahead. Written by wip/gen/rkorder.py. -/
import Derived.Test.YtonofmnjcocokaaRkScore
import Derived.Test.YtonofmnjcocokaaHeld
import Derived.Sort.Grow
namespace Go.Proofs.Ytonofmnjcocokaa.Rk
open Go.RowKit Go.Proofs.YtonofmnjcocokaaW.PrintWords Go.Proofs.YtonofmnjcocokaaW.PrintLast Go.Proofs.YtonofmnjcocokaaW.PrintMore Go.Proofs.Ytonofmnjcocokaa.X Go.Proofs.Ytonofmnjcocokaa.M Go.Proofs.Ytonofmnjcocokaa.Bv Go.Proofs.Ytonofmnjcocokaa.PuLib Go.Proofs.Ytonofmnjcocokaa.PuMix
open Go.Sort (grow alloc_eq_grow grow_grow)
attribute [local go_sem] max2_int min2_int max_two min_two max_three min_three max_four min_four
set_option linter.unusedVariables false
set_option linter.unusedSimpArgs false
def cmpC (x y : Int) : Int := if x < y then -1 else if y < x then 1 else 0
set_option maxRecDepth 100000 in
theorem cmpU_calls (x y : Int) (w : World) : Calls Try.prog 34 #[.int .u64 x, .int .u64 y] w fun e w' => e = .returned (.int .i64 (cmpC x y)) ∧ w' = w := by
  unfold cmpC
  by_cases h1 : x < y
  · rw [if_pos h1]
    go_enter Try.func34, Try.ntmps34
    go_wp2
    go_ret
    exact ⟨rfl, rfl⟩
  · rw [if_neg h1]
    by_cases h2 : y < x
    · rw [if_pos h2]
      go_enter Try.func34, Try.ntmps34
      go_wp2
      go_ret
      exact ⟨rfl, rfl⟩
    · rw [if_neg h2]
      go_enter Try.func34, Try.ntmps34
      go_wp2
      go_ret
      exact ⟨rfl, rfl⟩
set_option maxRecDepth 100000 in
theorem cmpI_calls (x y : Int) (w : World) : Calls Try.prog 35 #[.int .i64 x, .int .i64 y] w fun e w' => e = .returned (.int .i64 (cmpC x y)) ∧ w' = w := by
  unfold cmpC
  by_cases h1 : x < y
  · rw [if_pos h1]
    go_enter Try.func35, Try.ntmps35
    go_wp2
    go_ret
    exact ⟨rfl, rfl⟩
  · rw [if_neg h1]
    by_cases h2 : y < x
    · rw [if_pos h2]
      go_enter Try.func35, Try.ntmps35
      go_wp2
      go_ret
      exact ⟨rfl, rfl⟩
    · rw [if_neg h2]
      go_enter Try.func35, Try.ntmps35
      go_wp2
      go_ret
      exact ⟨rfl, rfl⟩
def orC (a b : Int) : Int := if a = 0 then b else a
set_option maxRecDepth 100000 in
theorem or2_calls (a b : Int) (g t : Nat) (w : World) (hb : w.heap[g]? = some (.cells #[.int .i64 a, .int .i64 b] t (0, 0))) : Calls Try.prog 33 #[.slice (some ⟨g, 0, none⟩) 2 2] w fun e w' => e = .returned (.int .i64 (orC a b)) ∧ w' = w := by
  have hc0 := blk_cell hb 0
  have hc1 := blk_cell hb 1
  simp at hc0 hc1
  clear hb
  go_enter Try.func33, Try.ntmps33
  go_wp2
  go_loopw [8] (fun v8 wr => ∃ k : Nat, k ≤ 2 ∧ v8 = .int .i64 k ∧ (1 ≤ k → a = 0) ∧ (2 ≤ k → b = 0) ∧ wr = w) (fun v8 _ => 2 - (intOf v8).toNat)
  case atStart => exact ⟨0, by omega, rfl, by omega, by omega, rfl⟩
  case round =>
    obtain ⟨k, hk, rfl, ha, hb, rfl⟩ := hrel
    by_cases hlt : k < 2
    · have hk2 : k = 0 ∨ k = 1 := by omega
      rcases hk2 with rfl | rfl
      · by_cases h0 : a = 0
        · subst h0
          go_wp2
          go_roundw
          case measure => simp [intOf]
          case rel => refine ⟨1, by omega, by go_num, ?_, ?_, ?_⟩ <;> simp
        · have e : orC a b = a := if_neg h0
          go_wp2
          go_ret
          exact ⟨by rw [e]; rfl, rfl⟩
      · have h0 : a = 0 := ha (by omega)
        have e : orC a b = b := if_pos h0
        by_cases h1 : b = 0
        · subst h1
          go_wp2
          go_roundw
          case measure => simp [intOf]
          case rel => refine ⟨2, by omega, by go_num, ?_, ?_, ?_⟩ <;> simp [h0]
        · go_wp2
          go_ret
          exact ⟨by rw [e]; rfl, rfl⟩
    · obtain rfl : k = 2 := by omega
      have h0 : a = 0 := ha (by omega)
      have h1 : b = 0 := hb (by omega)
      have e : orC a b = 0 := by unfold orC; rw [if_pos h0, h1]
      go_wp2
      go_ret
      exact ⟨by rw [e]; rfl, rfl⟩
theorem blk_newN {W : World} {N : Nat} (h : W.heap.size = N) (o : Obj) : (W.alloc o).heap[N]? = some o := h ▸ heap_alloc_new W o
/-- Ahead: -1, behind: 1. -/
def ordC (s o : Int × Int) : Int := orC (cmpC o.2 s.2) (cmpC s.1 o.1)
set_option maxRecDepth 100000 in
set_option maxHeartbeats 4000000 in
theorem order_calls (s o : Int × Int) (w : World) : Calls Try.prog 25 #[.agg #[.int .i64 s.1, .int .u64 s.2], .agg #[.int .i64 o.1, .int .u64 o.2]] w fun e w' => e = .returned (.int .i64 (ordC s o)) ∧ ∃ q os', w' = grow (w.drewN q) os' := by
  obtain ⟨si, ss⟩ := s
  obtain ⟨oi, os⟩ := o
  dsimp only
  unfold ordC
  go_enter Try.func25, Try.ntmps25
  go_upto_region 1 with (fail)
  obtain ⟨b2, hb2⟩ : ∃ b2, b2 = w.heap.size := ⟨_, rfl⟩
  obtain ⟨w2, hw2⟩ : ∃ w2, w2 = (w.alloc (.cells #[.int .i64 si, .int .u64 ss] 57)).alloc (.cells #[.int .i64 oi, .int .u64 os] 57) := ⟨_, rfl⟩
  rw [← hw2, ← hb2]
  have HSS := Aside0.mk (show w2.drew.heap[b2]? = some (.cells #[.int .i64 si, .int .u64 ss] 57 (0, 0)) ∧ w2.drew.heap[b2 + 1]? = some (.cells #[.int .i64 oi, .int .u64 os] 57 (0, 0)) by
    rw [hw2, hb2]
    exact ⟨blk_alloc (blk_new w _) _, blk_newN (Array.size_push _) _⟩)
  have HW2 := Aside0.mk hw2
  clear hw2 hb2
  refine Held.wp_region_G (S := (fun W1 : World => W1.heap[b2]? = some (.cells #[.int .i64 si, .int .u64 ss] 57 (0, 0)) ∧ W1.heap[b2 + 1]? = some (.cells #[.int .i64 oi, .int .u64 os] 57 (0, 0)))) (by kernel_rfl) ?_
  change Held.wpAnyG _ _ _ _ _ 13 _ _ _
  refine Held.wpAnyG_take (i := 0) (v := (.pointer (some ⟨b2 + 1, 1, none⟩))) rfl (by kernel_rfl) (by kernel_rfl) (by kernel_rfl) (fun _ _ _ h => h) HSS.out (by first | (with_reducible rfl) | (simp [Region.wanted, yielded, Act.put]; done) | rfl) (fun W1 h1 => by go_simp) (some 5) rfl #[true, false, false, false, false, false, false, false, false, false, false, false, false] (by kernel_rfl) ?_
  simp only [Act.put, List.setIfInBounds_toArray, List.set_cons_zero, List.set_cons_succ]
  refine Held.wpAnyG_take (i := 1) (v := (.int .u64 os)) rfl (by kernel_rfl) (by kernel_rfl) (by kernel_rfl) (fun _ _ _ h => h) HSS.out (by first | (with_reducible rfl) | (simp [Region.wanted, yielded, Act.put]; done) | rfl) (fun W1 hs => by have hc := blk_cell hs.2 1; simp at hc; go_simp) (some 6) rfl #[true, true, false, false, false, false, false, false, false, false, false, false, false] (by kernel_rfl) ?_
  simp only [Act.put, List.setIfInBounds_toArray, List.set_cons_zero, List.set_cons_succ]
  refine Held.wpAnyG_take (i := 2) (v := (.pointer (some ⟨b2, 1, none⟩))) rfl (by kernel_rfl) (by kernel_rfl) (by kernel_rfl) (fun _ _ _ h => h) HSS.out (by first | (with_reducible rfl) | (simp [Region.wanted, yielded, Act.put]; done) | rfl) (fun W1 h1 => by go_simp) (some 7) rfl #[true, true, true, false, false, false, false, false, false, false, false, false, false] (by kernel_rfl) ?_
  simp only [Act.put, List.setIfInBounds_toArray, List.set_cons_zero, List.set_cons_succ]
  refine Held.wpAnyG_take (i := 3) (v := (.int .u64 ss)) rfl (by kernel_rfl) (by kernel_rfl) (by kernel_rfl) (fun _ _ _ h => h) HSS.out (by first | (with_reducible rfl) | (simp [Region.wanted, yielded, Act.put]; done) | rfl) (fun W1 hs => by have hc := blk_cell hs.1 1; simp at hc; go_simp) (some 8) rfl #[true, true, true, true, false, false, false, false, false, false, false, false, false] (by kernel_rfl) ?_
  simp only [Act.put, List.setIfInBounds_toArray, List.set_cons_zero, List.set_cons_succ]
  refine Held.wpAnyG_take (i := 5) (v := (.pointer (some ⟨b2, 0, none⟩))) rfl (by kernel_rfl) (by kernel_rfl) (by kernel_rfl) (fun _ _ _ h => h) HSS.out (by first | (with_reducible rfl) | (simp [Region.wanted, yielded, Act.put]; done) | rfl) (fun W1 h1 => by go_simp) (some 10) rfl #[true, true, true, true, false, true, false, false, false, false, false, false, false] (by kernel_rfl) ?_
  simp only [Act.put, List.setIfInBounds_toArray, List.set_cons_zero, List.set_cons_succ]
  refine Held.wpAnyG_take (i := 6) (v := (.int .i64 si)) rfl (by kernel_rfl) (by kernel_rfl) (by kernel_rfl) (fun _ _ _ h => h) HSS.out (by first | (with_reducible rfl) | (simp [Region.wanted, yielded, Act.put]; done) | rfl) (fun W1 hs => by have hc := blk_cell hs.1 0; simp at hc; go_simp) (some 11) rfl #[true, true, true, true, false, true, true, false, false, false, false, false, false] (by kernel_rfl) ?_
  simp only [Act.put, List.setIfInBounds_toArray, List.set_cons_zero, List.set_cons_succ]
  refine Held.wpAnyG_take (i := 7) (v := (.pointer (some ⟨b2 + 1, 0, none⟩))) rfl (by kernel_rfl) (by kernel_rfl) (by kernel_rfl) (fun _ _ _ h => h) HSS.out (by first | (with_reducible rfl) | (simp [Region.wanted, yielded, Act.put]; done) | rfl) (fun W1 h1 => by go_simp) (some 12) rfl #[true, true, true, true, false, true, true, true, false, false, false, false, false] (by kernel_rfl) ?_
  simp only [Act.put, List.setIfInBounds_toArray, List.set_cons_zero, List.set_cons_succ]
  refine Held.wpAnyG_take (i := 8) (v := (.int .i64 oi)) rfl (by kernel_rfl) (by kernel_rfl) (by kernel_rfl) (fun _ _ _ h => h) HSS.out (by first | (with_reducible rfl) | (simp [Region.wanted, yielded, Act.put]; done) | rfl) (fun W1 hs => by have hc := blk_cell hs.2 0; simp at hc; go_simp) (some 13) rfl #[true, true, true, true, false, true, true, true, true, false, false, false, false] (by kernel_rfl) ?_
  simp only [Act.put, List.setIfInBounds_toArray, List.set_cons_zero, List.set_cons_succ]
  refine Held.wpAnyG_one 4 (by kernel_rfl) rfl #[true, true, true, true, true, true, true, true, true, false, false, false, false] (by kernel_rfl) (fun K hK => ?_)
  go_wp2_with fail
  (with_reducible refine (cmpU_calls os ss _).mono ?_)
  rintro en wq ⟨rfl, rfl⟩
  go_wp2_with fail
  refine hK _ _ HSS.out ?_
  clear hK K
  refine Held.wpAnyG_one 9 (by kernel_rfl) rfl #[true, true, true, true, true, true, true, true, true, true, false, false, false] (by kernel_rfl) (fun K hK => ?_)
  go_wp2_with fail
  (with_reducible refine (cmpI_calls si oi _).mono ?_)
  rintro en wq ⟨rfl, rfl⟩
  go_wp2_with fail
  refine hK _ _ HSS.out ?_
  clear hK K
  obtain ⟨ca, hca⟩ : ∃ ca, ca = cmpC os ss := ⟨_, rfl⟩
  obtain ⟨cb, hcb⟩ : ∃ cb, cb = cmpC si oi := ⟨_, rfl⟩
  rw [← hca, ← hcb]
  have HCA := Aside0.mk hca
  have HCB := Aside0.mk hcb
  clear hca hcb
  refine Held.wpAnyG_one 10 (by kernel_rfl) rfl #[true, true, true, true, true, true, true, true, true, true, true, false, false] (by kernel_rfl) (fun K hK => ?_)
  go_wp2_with fail
  refine hK _ _ (show (w2.alloc (.cells #[.int .i64 ca, .int .i64 cb] 3)).drew.heap[b2]? = _ ∧ (w2.alloc (.cells #[.int .i64 ca, .int .i64 cb] 3)).drew.heap[b2 + 1]? = _ from ⟨blk_alloc HSS.out.1 _, blk_alloc HSS.out.2 _⟩) ?_
  clear hK K
  have HBK := Aside0.mk (show (w2.alloc (.cells #[.int .i64 ca, .int .i64 cb] 3)).drew.heap[w2.heap.size]? = some (.cells #[.int .i64 ca, .int .i64 cb] 3 (0, 0)) from blk_new w2 _)
  refine Held.wpAnyG_one 11 (by kernel_rfl) rfl #[true, true, true, true, true, true, true, true, true, true, true, true, false] (by kernel_rfl) (fun K hK => ?_)
  go_wp2_with fail
  (with_reducible refine (or2_calls ca cb w2.heap.size 3 _ HBK.out).mono ?_)
  rintro en wq ⟨rfl, rfl⟩
  go_wp2_with fail
  refine hK _ _ (show (w2.alloc (.cells #[.int .i64 ca, .int .i64 cb] 3)).drew.heap[b2]? = _ ∧ (w2.alloc (.cells #[.int .i64 ca, .int .i64 cb] 3)).drew.heap[b2 + 1]? = _ from ⟨blk_alloc HSS.out.1 _, blk_alloc HSS.out.2 _⟩) ?_
  clear hK K
  refine Held.wpAnyG_last 12 (by kernel_rfl) rfl (by kernel_rfl) (by kernel_rfl) ?_
  go_wp2_with fail
  go_ret
  rw [HCA.out, HCB.out]
  exact ⟨rfl, 1, _, by rw [HW2.out, alloc_eq_grow, alloc_eq_grow, alloc_eq_grow, grow_grow, grow_grow]; rfl⟩
theorem grow_below (w : World) (q : Nat) (os : Array Obj) : Below w.heap.size w (grow (w.drewN q) os) := by
  refine ⟨rfl, rfl, rfl, ?_, fun k hk => ?_⟩
  · show w.heap.size ≤ (w.heap ++ os).size
    rw [Array.size_append]; omega
  · show (w.heap ++ os)[k]? = w.heap[k]?
    exact Array.getElem?_append_left hk
theorem orderB_calls (s o : Int × Int) (w : World) : Calls Try.prog 25 #[.agg #[.int .i64 s.1, .int .u64 s.2], .agg #[.int .i64 o.1, .int .u64 o.2]] w fun e w' => e = .returned (.int .i64 (ordC s o)) ∧ Below w.heap.size w w' := by
  refine (order_calls s o w).mono ?_
  rintro e w' ⟨rfl, q, os, rfl⟩
  exact ⟨rfl, grow_below w q os⟩
end Go.Proofs.Ytonofmnjcocokaa.Rk
