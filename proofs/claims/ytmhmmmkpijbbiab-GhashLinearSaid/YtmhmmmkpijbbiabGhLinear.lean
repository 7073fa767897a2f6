/- ghash: the law GhashLinear walked. Written by wip/gen/ghlinear.py. -/
import Derived.Test.YtmhmmmkpijbbiabGhParts
namespace Go.Proofs.Ytmhmmmkpijbbiab.Gh
open Go.RowKit Go.Proofs.YtmhmmmkpijbbiabW.PrintWords Go.Proofs.YtmhmmmkpijbbiabW.PrintLast Go.Proofs.YtmhmmmkpijbbiabW.PrintMore Go.Proofs.Ytmhmmmkpijbbiab.X Go.Proofs.Ytmhmmmkpijbbiab.M Go.Proofs.Ytmhmmmkpijbbiab.Bv Go.Proofs.Ytmhmmmkpijbbiab.Gf Go.Proofs.Ytmhmmmkpijbbiab.Arr Go.Proofs.Ytmhmmmkpijbbiab.ArrX Go.Proofs.Ytmhmmmkpijbbiab.PuLib Go.Proofs.Ytmhmmmkpijbbiab.PuCat
attribute [local go_sem] max2_int min2_int max_two min_two max_three min_three max_four min_four
set_option linter.unusedVariables false
set_option linter.unusedSimpArgs false
set_option maxRecDepth 100000 in
set_option maxHeartbeats 4000000 in
theorem linear_bad (W : World) (A0 : Option Addr) (p0 c0 a b : Nat) (A3 : Option Addr) (p3 c3 : Nat) (A4 : Option Addr) (p4 c4 : Nat) (hbad : ¬ (p0 = 16 ∧ p3 ≤ 100 ∧ p4 ≤ 100)) :
    Calls Try.prog 6 #[.slice A0 p0 c0, el a, el b, .slice A3 p3 c3, .slice A4 p4 c4] W fun en W' => en = .returned (.bool true) ∧ Below W.heap.size W W' := by
  have HBAD := Aside0.mk hbad
  clear hbad
  go_enter Try.func6, Try.ntmps6
  go_wp2_with fail
  (with_reducible refine (alive_calls _).mono ?_)
  rintro en w2 ⟨rfl, hb2⟩
  have HB2 := Aside0.mk ((below_alloc (below_alloc (Below.refl W.heap.size W) (.cells #[.int .u64 (E a).1, .int .u64 (E a).2] 36)) (.cells #[.int .u64 (E b).1, .int .u64 (E b).2] 36)).trans (hb2.mono (by simp; omega)))
  clear hb2
  by_cases h1 : p0 = 16
  · subst h1
    by_cases h2 : (100 : Int) < (p3 : Int)
    · go_wp2_with fail
      go_ret
      exact ⟨rfl, HB2.out⟩
    · have h3 : (100 : Int) < (p4 : Int) := by have := HBAD.out; omega
      go_wp2_with fail
      go_ret
      exact ⟨rfl, HB2.out⟩
  · have h1' : ¬ (p0 : Int) = 16 := by omega
    go_wp2_with fail
    go_ret
    exact ⟨rfl, HB2.out⟩
/-- What stays while a hash is used. -/
structure LS (W0 W : World) (h n b6 b7 a b : Nat) (A3 A4 : Option Addr) (l3 l4 : List Int) : Prop where
  ba : W.heap[b6]? = some (.cells #[.int .u64 (E a).1, .int .u64 (E a).2] 36 (0, 0))
  bb : W.heap[b7]? = some (.cells #[.int .u64 (E b).1, .int .u64 (E b).2] 36 (0, 0))
  hh : ∃ d, HashAt W h n d
  rc : Kd.F (Kd.int .u8) W (fun k => k < W0.heap.size) A3 l3.length l3
  rd : Kd.F (Kd.int .u8) W (fun k => k < W0.heap.size) A4 l4.length l4
  ww : Below W0.heap.size W0 W
  nn : b6 ≠ h ∧ b7 ≠ h ∧ W0.heap.size ≤ h
theorem LS.grown {W0 W W' : World} {h n b6 b7 a b : Nat} {A3 A4 : Option Addr} {l3 l4 : List Int} (hs : LS W0 W h n b6 b7 a b A3 A4 l3 l4) (hg : W.grownBy W' (some h)) (hh : ∃ d, HashAt W' h n d) : LS W0 W' h n b6 b7 a b A3 A4 l3 l4 :=
  ⟨blk_grown hs.ba hg (fun e => hs.nn.1 (Option.some.inj e)), blk_grown hs.bb hg (fun e => hs.nn.2.1 (Option.some.inj e)), hh, Kd.F_grown hs.rc hg (fun k hk e => by have := hs.nn.2.2; injection e with e; omega), Kd.F_grown hs.rd hg (fun k hk e => by have := hs.nn.2.2; injection e with e; omega), hs.ww.grown hg hs.ww.size (fun k e => by cases e; exact hs.nn.2.2), hs.nn⟩
theorem LS.below {W0 W W' : World} {h n b6 b7 a b : Nat} {A3 A4 : Option Addr} {l3 l4 : List Int} (hs : LS W0 W h n b6 b7 a b A3 A4 l3 l4) (hb : Below W.heap.size W W') : LS W0 W' h n b6 b7 a b A3 A4 l3 l4 := by
  obtain ⟨d, hd⟩ := hs.hh
  exact hs.grown (grown_of_below hb _) ⟨d, hd.below hb⟩
theorem LS.new {W0 W W' : World} {h n b6 b7 a b : Nat} {A3 A4 : Option Addr} {l3 l4 : List Int} {row : Option Nat} (hs : LS W0 W h n b6 b7 a b A3 A4 l3 l4) (hg : W.grownBy W' row) (hr : ∀ k, row = some k → k ≠ h ∧ k ≠ b6 ∧ k ≠ b7 ∧ W0.heap.size ≤ k) : LS W0 W' h n b6 b7 a b A3 A4 l3 l4 := by
  obtain ⟨d, hd⟩ := hs.hh
  exact ⟨blk_grown hs.ba hg (fun e => (hr b6 e.symm).2.1 rfl), blk_grown hs.bb hg (fun e => (hr b7 e.symm).2.2.1 rfl), ⟨d, hd.same (hg.block h hd.lt (fun e => (hr h e.symm).1 rfl))⟩, Kd.F_grown hs.rc hg (fun k hk e => by have := (hr k e.symm).2.2.2; omega), Kd.F_grown hs.rd hg (fun k hk e => by have := (hr k e.symm).2.2.2; omega), hs.ww.grown hg hs.ww.size (fun k e => (hr k e).2.2.2), hs.nn⟩
theorem LS.load6 {W0 W : World} {h n b6 b7 a b : Nat} {A3 A4 : Option Addr} {l3 l4 : List Int} (hs : LS W0 W h n b6 b7 a b A3 A4 l3 l4) : (loadVar 36 ⟨b6, 0, none⟩).run Try.prog W = .ok (el a) W := load_elP (blk_cell hs.ba 0) (blk_cell hs.ba 1)
theorem LS.load7 {W0 W : World} {h n b6 b7 a b : Nat} {A3 A4 : Option Addr} {l3 l4 : List Int} (hs : LS W0 W h n b6 b7 a b A3 A4 l3 l4) : (loadVar 36 ⟨b7, 0, none⟩).run Try.prog W = .ok (el b) W := load_elP (blk_cell hs.bb 0) (blk_cell hs.bb 1)
theorem sameN (l : List Int) (m : Nat) (hm : m = l.length) (hl : m ≤ 1000000) (A : Option Addr) (c : Nat) (A' : Option Addr) (c' : Nat) (w : World) (hC : Kd.C (Kd.int .u8) w A m l) (hc : m ≤ c) (hC' : Kd.C (Kd.int .u8) w A' m l) (hc' : m ≤ c') :
    Calls Try.prog 13 #[.slice A m c, .slice A' m c'] w fun e w' => e = .returned (.bool true) ∧ Drawn0 w w' := by
  subst hm
  obtain ⟨k, hk⟩ := Ev.rounds (same_ev l l (by omega))
  rw [show decide (l = l) = true from decide_eq_true rfl] at hk
  exact crosswayref00_SameBytes.calls k A c l A' c' l true w hC hc hC' hc' hk
theorem fold0C (W : World) (h n : Nat) (m : List Nat) (k : Nat) (hk : k = m.length) (hn : n < top) (hm : ∀ b ∈ m, b < top) (A : Option Addr) (c : Nat) (hh : ∃ d, HashAt W h n d) (hC : Kd.F k36 W (fun k => k ≠ h) A k (m.map toS)) (hc : k ≤ c) :
    Calls Try.prog 21 #[.pointer (some ⟨h, 0, none⟩), .agg #[.int .u64 0, .int .u64 0], .slice A k c] W fun en W' => en = .returned (el (foldN n m 0)) ∧ (∃ d, HashAt W' h n d) ∧ W.grownBy W' (some h) := by
  have := foldC W h n 0 m k hk hn (by decide) hm A c hh hC hc
  rw [el0] at this
  exact this
theorem timesC (W : World) (h n e : Nat) (hn : n < top) (he : e < top) (hh : ∃ d, HashAt W h n d) :
    Calls Try.prog 22 #[.pointer (some ⟨h, 0, none⟩), el e] W fun en W' => en = .returned (el (mul e n)) ∧ (∃ d, HashAt W' h n d) ∧ W.grownBy W' (some h) := by
  obtain ⟨d, hd⟩ := hh
  refine (mul_calls' W h n e d hn he hd).mono ?_
  rintro en W' ⟨rfl, h1, h2⟩
  exact ⟨rfl, ⟨_, h1⟩, h2⟩
theorem times0C (W : World) (h n : Nat) (hn : n < top) (hh : ∃ d, HashAt W h n d) :
    Calls Try.prog 22 #[.pointer (some ⟨h, 0, none⟩), .agg #[.int .u64 0, .int .u64 0]] W fun en W' => en = .returned (.agg #[.int .u64 0, .int .u64 0]) ∧ (∃ d, HashAt W' h n d) ∧ W.grownBy W' (some h) := by
  have := timesC W h n 0 hn (by decide) hh
  rw [zero_mul hn, el0] at this
  exact this
theorem nx_mul (a n : Nat) (ha : a < top) (hn : n < top) : mul (nx a) n = nx (mul a n) := by
  rw [mul_comm (nx_lt ha) hn, ← mul_gen a, mul_left_comm, mul_gen, mul_comm hn ha]
set_option maxRecDepth 100000 in
set_option maxHeartbeats 8000000 in
theorem linear_good (W : World) (A0 : Option Addr) (c0 n a b : Nat) (hn : n < top) (ha : a < top) (hb : b < top) (hC0 : Kd.C (Kd.int .u8) W A0 16 (bytesN n)) (hc0 : 16 ≤ c0) (l3 l4 : List Int) (g3 : ∀ x ∈ l3, 0 ≤ x ∧ x < 256) (g4 : ∀ x ∈ l4, 0 ≤ x ∧ x < 256) (p3 p4 : Nat) (hp3 : p3 = l3.length) (hp4 : p4 = l4.length) (k3 : p3 ≤ 100) (k4 : p4 ≤ 100)
    (A3 : Option Addr) (c3 : Nat) (hC3 : Kd.C (Kd.int .u8) W A3 l3.length l3) (hc3 : l3.length ≤ c3) (A4 : Option Addr) (c4 : Nat) (hC4 : Kd.C (Kd.int .u8) W A4 l4.length l4) (hc4 : l4.length ≤ c4) :
    Calls Try.prog 6 #[.slice A0 16 c0, el a, el b, .slice A3 p3 c3, .slice A4 p4 c4] W fun en W' => en = .returned (.bool true) ∧ Below W.heap.size W W' := by
  have HN := Aside0.mk hn
  have HAT := Aside0.mk ha
  have HBT := Aside0.mk hb
  have HC0 := Aside0.mk hC0
  have HL0 := Aside0.mk hc0
  have HG3 := Aside0.mk g3
  have HG4 := Aside0.mk g4
  have HP3 := Aside0.mk hp3
  have HP4 := Aside0.mk hp4
  have HK3 := Aside0.mk k3
  have HK4 := Aside0.mk k4
  have HC3 := Aside0.mk hC3
  have HL3 := Aside0.mk hc3
  have HC4 := Aside0.mk hC4
  have HL4 := Aside0.mk hc4
  have q1 : ¬ (100 : Int) < (p3 : Int) := by omega
  have q2 : ¬ (100 : Int) < (p4 : Int) := by omega
  clear hn ha hb hC0 hc0 g3 g4 hp3 hp4 k3 k4 hC3 hc3 hC4 hc4
  go_enter Try.func6, Try.ntmps6
  go_wp2_with fail
  obtain ⟨b6, hb6⟩ : ∃ b6, b6 = W.heap.size := ⟨_, rfl⟩
  obtain ⟨w1, hw1⟩ : ∃ w1, w1 = (W.alloc (.cells #[.int .u64 (E a).1, .int .u64 (E a).2] 36)).alloc (.cells #[.int .u64 (E b).1, .int .u64 (E b).2] 36) := ⟨_, rfl⟩
  rw [← hw1, ← hb6]
  have hbe : Below W.heap.size W w1 := by rw [hw1]; exact below_alloc (below_alloc (Below.refl _ _) _) _
  have H6 := Aside0.mk (show w1.heap[b6]? = some (.cells #[.int .u64 (E a).1, .int .u64 (E a).2] 36 (0, 0)) by rw [hw1, hb6]; exact blk_alloc (blk_new W _) _)
  have H7 := Aside0.mk (show w1.heap[b6 + 1]? = some (.cells #[.int .u64 (E b).1, .int .u64 (E b).2] 36 (0, 0)) by rw [hw1, hb6]; exact blk_newN (Array.size_push _) _)
  have HB6 := Aside0.mk hb6
  have HB1 := Aside0.mk hbe
  clear hw1 hb6 hbe
  (with_reducible refine (alive_calls _).mono ?_)
  rintro en w2 ⟨rfl, hb2⟩
  have H6 := Aside0.mk (blk_below H6.out hb2)
  have H7 := Aside0.mk (blk_below H7.out hb2)
  have HB2 := Aside0.mk (HB1.out.trans (hb2.mono HB1.out.size))
  clear hb2 HB1
  go_wp2_with fail
  (with_reducible refine (new16_calls n HN.out A0 c0 w2 (Kd.C_below HC0.out HB2.out) HL0.out).mono ?_)
  rintro en w3 ⟨h, rfl, hh3, hl3, hb3⟩
  have hb03 := HB2.out.trans (hb3.mono HB2.out.size)
  have hWh : W.heap.size ≤ h := Nat.le_trans HB2.out.size hl3
  have HPS := Aside0.mk (show LS W w3 h n b6 (b6 + 1) a b A3 A4 l3 l4 from ⟨blk_below H6.out hb3, blk_below H7.out hb3, ⟨_, hh3⟩, Kd.F_below (Kd.C_F (Kd.heap_int _) HC3.out) hb03, Kd.F_below (Kd.C_F (Kd.heap_int _) HC4.out) hb03, hb03, by have h1 := blk_lt H6.out; have h2 := blk_lt H7.out; omega⟩)
  clear hh3 hl3 hb3 hb03 hWh H6 H7 HB2
  go_wp2_with fail
  have HSS := Aside0.mk (HPS.out.below (below_drew (Below.refl _ _)))
  have HX1 := Aside0.mk (show mul a n ^^^ mul b n = mul (a ^^^ b) n from (mul_xor_left a b n).symm)
  have HX2 := Aside0.mk (nx_mul a n HAT.out HN.out)
  clear HPS
  refine Held.wp_region_G (S := (fun W1 : World => LS W W1 h n b6 (b6 + 1) a b A3 A4 l3 l4)) (by kernel_rfl) ?_
  change Held.wpAnyG _ _ _ _ _ 33 _ _ _
  refine Held.wpAnyG_take (i := 0) (v := (.pointer (some ⟨h, 0, none⟩))) rfl (by kernel_rfl) (by kernel_rfl) (by kernel_rfl) (fun _ _ _ h => h) HSS.out (by first | (with_reducible rfl) | (simp [Region.wanted, yielded, Act.put]; done) | rfl) (fun W1 h1 => by go_simp) (some 42) rfl #[true, false, false, false, false, false, false, false, false, false, false, false, false, false, false, false, false, false, false, false, false, false, false, false, false, false, false, false, false, false, false, false, false] (by kernel_rfl) ?_
  simp only [Act.put, List.setIfInBounds_toArray, List.set_cons_zero, List.set_cons_succ]
  refine Held.wpAnyG_take (i := 1) (v := (el a)) rfl (by kernel_rfl) (by kernel_rfl) (by kernel_rfl) (fun _ _ _ h => h) HSS.out (by first | (with_reducible rfl) | (simp [Region.wanted, yielded, Act.put]; done) | rfl) (fun W1 hs => Held.run_load_of 36 (.tmp 6) rfl ⟨b6, 0, none⟩ rfl (LS.load6 hs)) (some 43) rfl #[true, true, false, false, false, false, false, false, false, false, false, false, false, false, false, false, false, false, false, false, false, false, false, false, false, false, false, false, false, false, false, false, false] (by kernel_rfl) ?_
  simp only [Act.put, List.setIfInBounds_toArray, List.set_cons_zero, List.set_cons_succ]
  refine Held.wpAnyG_take (i := 2) (v := (el b)) rfl (by kernel_rfl) (by kernel_rfl) (by kernel_rfl) (fun _ _ _ h => h) HSS.out (by first | (with_reducible rfl) | (simp [Region.wanted, yielded, Act.put]; done) | rfl) (fun W1 hs => Held.run_load_of 36 (.tmp 7) rfl ⟨b6 + 1, 0, none⟩ rfl (LS.load7 hs)) (some 44) rfl #[true, true, true, false, false, false, false, false, false, false, false, false, false, false, false, false, false, false, false, false, false, false, false, false, false, false, false, false, false, false, false, false, false] (by kernel_rfl) ?_
  simp only [Act.put, List.setIfInBounds_toArray, List.set_cons_zero, List.set_cons_succ]
  refine Held.wpAnyG_take (i := 6) (v := (.pointer (some ⟨h, 0, none⟩))) rfl (by kernel_rfl) (by kernel_rfl) (by kernel_rfl) (fun _ _ _ h => h) HSS.out (by first | (with_reducible rfl) | (simp [Region.wanted, yielded, Act.put]; done) | rfl) (fun W1 h1 => by go_simp) (some 48) rfl #[true, true, true, false, false, false, true, false, false, false, false, false, false, false, false, false, false, false, false, false, false, false, false, false, false, false, false, false, false, false, false, false, false] (by kernel_rfl) ?_
  simp only [Act.put, List.setIfInBounds_toArray, List.set_cons_zero, List.set_cons_succ]
  refine Held.wpAnyG_take (i := 7) (v := (el a)) rfl (by kernel_rfl) (by kernel_rfl) (by kernel_rfl) (fun _ _ _ h => h) HSS.out (by first | (with_reducible rfl) | (simp [Region.wanted, yielded, Act.put]; done) | rfl) (fun W1 hs => Held.run_load_of 36 (.tmp 6) rfl ⟨b6, 0, none⟩ rfl (LS.load6 hs)) (some 49) rfl #[true, true, true, false, false, false, true, true, false, false, false, false, false, false, false, false, false, false, false, false, false, false, false, false, false, false, false, false, false, false, false, false, false] (by kernel_rfl) ?_
  simp only [Act.put, List.setIfInBounds_toArray, List.set_cons_zero, List.set_cons_succ]
  refine Held.wpAnyG_take (i := 9) (v := (.pointer (some ⟨h, 0, none⟩))) rfl (by kernel_rfl) (by kernel_rfl) (by kernel_rfl) (fun _ _ _ h => h) HSS.out (by first | (with_reducible rfl) | (simp [Region.wanted, yielded, Act.put]; done) | rfl) (fun W1 h1 => by go_simp) (some 51) rfl #[true, true, true, false, false, false, true, true, false, true, false, false, false, false, false, false, false, false, false, false, false, false, false, false, false, false, false, false, false, false, false, false, false] (by kernel_rfl) ?_
  simp only [Act.put, List.setIfInBounds_toArray, List.set_cons_zero, List.set_cons_succ]
  refine Held.wpAnyG_take (i := 10) (v := (el b)) rfl (by kernel_rfl) (by kernel_rfl) (by kernel_rfl) (fun _ _ _ h => h) HSS.out (by first | (with_reducible rfl) | (simp [Region.wanted, yielded, Act.put]; done) | rfl) (fun W1 hs => Held.run_load_of 36 (.tmp 7) rfl ⟨b6 + 1, 0, none⟩ rfl (LS.load7 hs)) (some 52) rfl #[true, true, true, false, false, false, true, true, false, true, true, false, false, false, false, false, false, false, false, false, false, false, false, false, false, false, false, false, false, false, false, false, false] (by kernel_rfl) ?_
  simp only [Act.put, List.setIfInBounds_toArray, List.set_cons_zero, List.set_cons_succ]
  refine Held.wpAnyG_one 3 (by kernel_rfl) rfl #[true, true, true, true, false, false, true, true, false, true, true, false, false, false, false, false, false, false, false, false, false, false, false, false, false, false, false, false, false, false, false, false, false] (by kernel_rfl) (fun K hK => ?_)
  go_wp2_with fail
  obtain ⟨w4, hw4⟩ : ∃ w4, w4 = (w3.alloc (.cells #[.int .u64 (E (a)).1, .int .u64 (E (a)).2, .int .u64 (E (b)).1, .int .u64 (E (b)).2] 36)).drew := ⟨_, rfl⟩
  rw [← hw4]
  have HPB := Aside0.mk (show w4.heap[w3.heap.size]? = some (.cells #[.int .u64 (E (a)).1, .int .u64 (E (a)).2, .int .u64 (E (b)).1, .int .u64 (E (b)).2] 36 (0, 0)) by rw [hw4]; exact blk_new w3.drew _)
  have n1_ := Aside0.mk (HSS.out.below (show Below w3.drew.heap.size w3.drew w4 by rw [hw4]; exact below_alloc (Below.refl w3.drew.heap.size w3.drew) _))
  clear HSS hw4
  have HSS := n1_
  clear n1_
  refine hK _ _ HSS.out ?_
  clear hK K
  refine Held.wpAnyG_one 4 (by kernel_rfl) rfl #[true, true, true, true, true, false, true, true, false, true, true, false, false, false, false, false, false, false, false, false, false, false, false, false, false, false, false, false, false, false, false, false, false] (by kernel_rfl) (fun K hK => ?_)
  go_wp2_with fail
  (with_reducible refine (sum_calls a b HAT.out HBT.out w4 _ 36 HPB.out).mono ?_)
  rintro en w5 ⟨rfl, hb_⟩
  clear HPB
  have n1_ := Aside0.mk (HSS.out.below hb_)
  clear HSS
  have HSS := n1_
  clear n1_
  go_wp2_with fail
  refine hK _ _ HSS.out ?_
  clear hK K
  refine Held.wpAnyG_one 5 (by kernel_rfl) rfl #[true, true, true, true, true, true, true, true, false, true, true, false, false, false, false, false, false, false, false, false, false, false, false, false, false, false, false, false, false, false, false, false, false] (by kernel_rfl) (fun K hK => ?_)
  go_wp2_with fail
  (with_reducible refine (timesC _ h n (a ^^^ b) HN.out (xor_lt HAT.out HBT.out) HSS.out.hh).mono ?_)
  rintro en w6 ⟨rfl, hh_, hg_⟩
  have n1_ := Aside0.mk (HSS.out.grown hg_ hh_)
  clear HSS
  have HSS := n1_
  clear n1_
  go_wp2_with fail
  refine hK _ _ HSS.out ?_
  clear hK K
  refine Held.wpAnyG_one 8 (by kernel_rfl) rfl #[true, true, true, true, true, true, true, true, true, true, true, false, false, false, false, false, false, false, false, false, false, false, false, false, false, false, false, false, false, false, false, false, false] (by kernel_rfl) (fun K hK => ?_)
  go_wp2_with fail
  (with_reducible refine (timesC _ h n a HN.out HAT.out HSS.out.hh).mono ?_)
  rintro en w7 ⟨rfl, hh_, hg_⟩
  have n1_ := Aside0.mk (HSS.out.grown hg_ hh_)
  clear HSS
  have HSS := n1_
  clear n1_
  go_wp2_with fail
  refine hK _ _ HSS.out ?_
  clear hK K
  refine Held.wpAnyG_one 11 (by kernel_rfl) rfl #[true, true, true, true, true, true, true, true, true, true, true, true, false, false, false, false, false, false, false, false, false, false, false, false, false, false, false, false, false, false, false, false, false] (by kernel_rfl) (fun K hK => ?_)
  go_wp2_with fail
  (with_reducible refine (timesC _ h n b HN.out HBT.out HSS.out.hh).mono ?_)
  rintro en w8 ⟨rfl, hh_, hg_⟩
  have n1_ := Aside0.mk (HSS.out.grown hg_ hh_)
  clear HSS
  have HSS := n1_
  clear n1_
  go_wp2_with fail
  refine hK _ _ HSS.out ?_
  clear hK K
  refine Held.wpAnyG_one 12 (by kernel_rfl) rfl #[true, true, true, true, true, true, true, true, true, true, true, true, true, false, false, false, false, false, false, false, false, false, false, false, false, false, false, false, false, false, false, false, false] (by kernel_rfl) (fun K hK => ?_)
  go_wp2_with fail
  obtain ⟨w9, hw9⟩ : ∃ w9, w9 = w8.alloc (.cells #[.int .u64 (E (mul a n)).1, .int .u64 (E (mul a n)).2, .int .u64 (E (mul b n)).1, .int .u64 (E (mul b n)).2] 36) := ⟨_, rfl⟩
  rw [← hw9]
  have HPB := Aside0.mk (show w9.heap[w8.heap.size]? = some (.cells #[.int .u64 (E (mul a n)).1, .int .u64 (E (mul a n)).2, .int .u64 (E (mul b n)).1, .int .u64 (E (mul b n)).2] 36 (0, 0)) by rw [hw9]; exact blk_new w8 _)
  have n1_ := Aside0.mk (HSS.out.below (show Below w8.heap.size w8 w9 by rw [hw9]; exact below_alloc (Below.refl w8.heap.size w8) _))
  clear HSS hw9
  have HSS := n1_
  clear n1_
  refine hK _ _ HSS.out ?_
  clear hK K
  refine Held.wpAnyG_one 13 (by kernel_rfl) rfl #[true, true, true, true, true, true, true, true, true, true, true, true, true, true, false, false, false, false, false, false, false, false, false, false, false, false, false, false, false, false, false, false, false] (by kernel_rfl) (fun K hK => ?_)
  go_wp2_with fail
  (with_reducible refine (sum_calls (mul a n) (mul b n) (mul_lt HN.out) (mul_lt HN.out) w9 _ 36 HPB.out).mono ?_)
  rintro en w10 ⟨rfl, hb_⟩
  clear HPB
  rw [HX1.out]
  have n1_ := Aside0.mk (HSS.out.below hb_)
  clear HSS
  have HSS := n1_
  clear n1_
  go_wp2_with fail
  refine hK _ _ HSS.out ?_
  clear hK K
  refine Held.wpAnyG_take (i := 14) (v := (.bool false)) rfl (by kernel_rfl) (by kernel_rfl) (by kernel_rfl) (fun _ _ _ h => h) HSS.out (by first | (with_reducible rfl) | (simp [Region.wanted, yielded, Act.put]; done) | rfl) (fun W1 h1 => by go_simp) (some 56) rfl #[true, true, true, true, true, true, true, true, true, true, true, true, true, true, true, false, false, false, false, false, false, false, false, false, false, false, false, false, false, false, false, false, false] (by kernel_rfl) ?_
  simp only [Act.put, List.setIfInBounds_toArray, List.set_cons_zero, List.set_cons_succ]
  refine Held.wpAnyG_take (i := 15) (v := (.bool false)) rfl (by kernel_rfl) (by kernel_rfl) (by kernel_rfl) (fun _ _ _ h => h) HSS.out (by first | (with_reducible rfl) | (simp [Region.wanted, yielded, Act.put]; done) | rfl) (fun W1 h1 => by go_simp) (some 57) rfl #[true, true, true, true, true, true, true, true, true, true, true, true, true, true, true, true, false, false, false, false, false, false, false, false, false, false, false, false, false, false, false, false, false] (by kernel_rfl) ?_
  simp only [Act.put, List.setIfInBounds_toArray, List.set_cons_zero, List.set_cons_succ]
  refine Held.wpAnyG_take (i := 16) (v := (.pointer (some ⟨h, 0, none⟩))) rfl (by kernel_rfl) (by kernel_rfl) (by kernel_rfl) (fun _ _ _ h => h) HSS.out (by first | (with_reducible rfl) | (simp [Region.wanted, yielded, Act.put]; done) | rfl) (fun W1 h1 => by go_simp) (some 58) rfl #[true, true, true, true, true, true, true, true, true, true, true, true, true, true, true, true, true, false, false, false, false, false, false, false, false, false, false, false, false, false, false, false, false] (by kernel_rfl) ?_
  simp only [Act.put, List.setIfInBounds_toArray, List.set_cons_zero, List.set_cons_succ]
  refine Held.wpAnyG_take (i := 17) (v := (el a)) rfl (by kernel_rfl) (by kernel_rfl) (by kernel_rfl) (fun _ _ _ h => h) HSS.out (by first | (with_reducible rfl) | (simp [Region.wanted, yielded, Act.put]; done) | rfl) (fun W1 hs => Held.run_load_of 36 (.tmp 6) rfl ⟨b6, 0, none⟩ rfl (LS.load6 hs)) (some 59) rfl #[true, true, true, true, true, true, true, true, true, true, true, true, true, true, true, true, true, true, false, false, false, false, false, false, false, false, false, false, false, false, false, false, false] (by kernel_rfl) ?_
  simp only [Act.put, List.setIfInBounds_toArray, List.set_cons_zero, List.set_cons_succ]
  refine Held.wpAnyG_take (i := 20) (v := (.pointer (some ⟨h, 0, none⟩))) rfl (by kernel_rfl) (by kernel_rfl) (by kernel_rfl) (fun _ _ _ h => h) HSS.out (by first | (with_reducible rfl) | (simp [Region.wanted, yielded, Act.put]; done) | rfl) (fun W1 h1 => by go_simp) (some 62) rfl #[true, true, true, true, true, true, true, true, true, true, true, true, true, true, true, true, true, true, false, false, true, false, false, false, false, false, false, false, false, false, false, false, false] (by kernel_rfl) ?_
  simp only [Act.put, List.setIfInBounds_toArray, List.set_cons_zero, List.set_cons_succ]
  refine Held.wpAnyG_take (i := 21) (v := (el a)) rfl (by kernel_rfl) (by kernel_rfl) (by kernel_rfl) (fun _ _ _ h => h) HSS.out (by first | (with_reducible rfl) | (simp [Region.wanted, yielded, Act.put]; done) | rfl) (fun W1 hs => Held.run_load_of 36 (.tmp 6) rfl ⟨b6, 0, none⟩ rfl (LS.load6 hs)) (some 63) rfl #[true, true, true, true, true, true, true, true, true, true, true, true, true, true, true, true, true, true, false, false, true, true, false, false, false, false, false, false, false, false, false, false, false] (by kernel_rfl) ?_
  simp only [Act.put, List.setIfInBounds_toArray, List.set_cons_zero, List.set_cons_succ]
  refine Held.wpAnyG_one 18 (by kernel_rfl) rfl #[true, true, true, true, true, true, true, true, true, true, true, true, true, true, true, true, true, true, true, false, true, true, false, false, false, false, false, false, false, false, false, false, false] (by kernel_rfl) (fun K hK => ?_)
  go_wp2_with fail
  (with_reducible refine (next_calls a HAT.out _).mono ?_)
  rintro en w11 ⟨rfl, hb_⟩
  have n1_ := Aside0.mk (HSS.out.below hb_)
  clear HSS
  have HSS := n1_
  clear n1_
  go_wp2_with fail
  refine hK _ _ HSS.out ?_
  clear hK K
  refine Held.wpAnyG_one 19 (by kernel_rfl) rfl #[true, true, true, true, true, true, true, true, true, true, true, true, true, true, true, true, true, true, true, true, true, true, false, false, false, false, false, false, false, false, false, false, false] (by kernel_rfl) (fun K hK => ?_)
  go_wp2_with fail
  (with_reducible refine (timesC _ h n (nx a) HN.out (nx_lt HAT.out) HSS.out.hh).mono ?_)
  rintro en w12 ⟨rfl, hh_, hg_⟩
  rw [HX2.out]
  have n1_ := Aside0.mk (HSS.out.grown hg_ hh_)
  clear HSS
  have HSS := n1_
  clear n1_
  go_wp2_with fail
  refine hK _ _ HSS.out ?_
  clear hK K
  refine Held.wpAnyG_one 22 (by kernel_rfl) rfl #[true, true, true, true, true, true, true, true, true, true, true, true, true, true, true, true, true, true, true, true, true, true, true, false, false, false, false, false, false, false, false, false, false] (by kernel_rfl) (fun K hK => ?_)
  go_wp2_with fail
  (with_reducible refine (timesC _ h n a HN.out HAT.out HSS.out.hh).mono ?_)
  rintro en w13 ⟨rfl, hh_, hg_⟩
  have n1_ := Aside0.mk (HSS.out.grown hg_ hh_)
  clear HSS
  have HSS := n1_
  clear n1_
  go_wp2_with fail
  refine hK _ _ HSS.out ?_
  clear hK K
  refine Held.wpAnyG_one 23 (by kernel_rfl) rfl #[true, true, true, true, true, true, true, true, true, true, true, true, true, true, true, true, true, true, true, true, true, true, true, true, false, false, false, false, false, false, false, false, false] (by kernel_rfl) (fun K hK => ?_)
  go_wp2_with fail
  (with_reducible refine (next_calls (mul a n) (mul_lt HN.out) _).mono ?_)
  rintro en w14 ⟨rfl, hb_⟩
  have n1_ := Aside0.mk (HSS.out.below hb_)
  clear HSS
  have HSS := n1_
  clear n1_
  go_wp2_with fail
  refine hK _ _ HSS.out ?_
  clear hK K
  refine Held.wpAnyG_take (i := 24) (v := (.bool false)) rfl (by kernel_rfl) (by kernel_rfl) (by kernel_rfl) (fun _ _ _ h => h) HSS.out (by first | (with_reducible rfl) | (simp [Region.wanted, yielded, Act.put]; done) | rfl) (fun W1 h1 => by go_simp) (some 66) rfl #[true, true, true, true, true, true, true, true, true, true, true, true, true, true, true, true, true, true, true, true, true, true, true, true, true, false, false, false, false, false, false, false, false] (by kernel_rfl) ?_
  simp only [Act.put, List.setIfInBounds_toArray, List.set_cons_zero, List.set_cons_succ]
  refine Held.wpAnyG_take (i := 25) (v := (.bool false)) rfl (by kernel_rfl) (by kernel_rfl) (by kernel_rfl) (fun _ _ _ h => h) HSS.out (by first | (with_reducible rfl) | (simp [Region.wanted, yielded, Act.put]; done) | rfl) (fun W1 h1 => by go_simp) (some 67) rfl #[true, true, true, true, true, true, true, true, true, true, true, true, true, true, true, true, true, true, true, true, true, true, true, true, true, true, false, false, false, false, false, false, false] (by kernel_rfl) ?_
  simp only [Act.put, List.setIfInBounds_toArray, List.set_cons_zero, List.set_cons_succ]
  refine Held.wpAnyG_take (i := 26) (v := (.bool false)) rfl (by kernel_rfl) (by kernel_rfl) (by kernel_rfl) (fun _ _ _ h => h) HSS.out (by first | (with_reducible rfl) | (simp [Region.wanted, yielded, Act.put]; done) | rfl) (fun W1 h1 => by go_simp) (some 68) rfl #[true, true, true, true, true, true, true, true, true, true, true, true, true, true, true, true, true, true, true, true, true, true, true, true, true, true, true, false, false, false, false, false, false] (by kernel_rfl) ?_
  simp only [Act.put, List.setIfInBounds_toArray, List.set_cons_zero, List.set_cons_succ]
  refine Held.wpAnyG_take (i := 27) (v := (.pointer (some ⟨h, 0, none⟩))) rfl (by kernel_rfl) (by kernel_rfl) (by kernel_rfl) (fun _ _ _ h => h) HSS.out (by first | (with_reducible rfl) | (simp [Region.wanted, yielded, Act.put]; done) | rfl) (fun W1 h1 => by go_simp) (some 69) rfl #[true, true, true, true, true, true, true, true, true, true, true, true, true, true, true, true, true, true, true, true, true, true, true, true, true, true, true, true, false, false, false, false, false] (by kernel_rfl) ?_
  simp only [Act.put, List.setIfInBounds_toArray, List.set_cons_zero, List.set_cons_succ]
  refine Held.wpAnyG_take (i := 28) (v := (.agg #[.int .u64 0, .int .u64 0])) rfl (by kernel_rfl) (by kernel_rfl) (by kernel_rfl) (fun _ _ _ h => h) HSS.out (by first | (with_reducible rfl) | (simp [Region.wanted, yielded, Act.put]; done) | rfl) (fun W1 h1 => by go_simp) (some 70) rfl #[true, true, true, true, true, true, true, true, true, true, true, true, true, true, true, true, true, true, true, true, true, true, true, true, true, true, true, true, true, false, false, false, false] (by kernel_rfl) ?_
  simp only [Act.put, List.setIfInBounds_toArray, List.set_cons_zero, List.set_cons_succ]
  refine Held.wpAnyG_take (i := 30) (v := (.agg #[.int .u64 0, .int .u64 0])) rfl (by kernel_rfl) (by kernel_rfl) (by kernel_rfl) (fun _ _ _ h => h) HSS.out (by first | (with_reducible rfl) | (simp [Region.wanted, yielded, Act.put]; done) | rfl) (fun W1 h1 => by go_simp) (some 72) rfl #[true, true, true, true, true, true, true, true, true, true, true, true, true, true, true, true, true, true, true, true, true, true, true, true, true, true, true, true, true, false, true, false, false] (by kernel_rfl) ?_
  simp only [Act.put, List.setIfInBounds_toArray, List.set_cons_zero, List.set_cons_succ]
  refine Held.wpAnyG_one 29 (by kernel_rfl) rfl #[true, true, true, true, true, true, true, true, true, true, true, true, true, true, true, true, true, true, true, true, true, true, true, true, true, true, true, true, true, true, true, false, false] (by kernel_rfl) (fun K hK => ?_)
  go_wp2_with fail
  (with_reducible refine (times0C _ h n HN.out HSS.out.hh).mono ?_)
  rintro en w15 ⟨rfl, hh_, hg_⟩
  have n1_ := Aside0.mk (HSS.out.grown hg_ hh_)
  clear HSS
  have HSS := n1_
  clear n1_
  go_wp2_with fail
  refine hK _ _ HSS.out ?_
  clear hK K
  refine Held.wpAnyG_take (i := 31) (v := (.bool false)) rfl (by kernel_rfl) (by kernel_rfl) (by kernel_rfl) (fun _ _ _ h => h) HSS.out (by first | (with_reducible rfl) | (simp [Region.wanted, yielded, Act.put]; done) | rfl) (fun W1 h1 => by go_simp) (some 73) rfl #[true, true, true, true, true, true, true, true, true, true, true, true, true, true, true, true, true, true, true, true, true, true, true, true, true, true, true, true, true, true, true, true, false] (by kernel_rfl) ?_
  simp only [Act.put, List.setIfInBounds_toArray, List.set_cons_zero, List.set_cons_succ]
  refine Held.wpAnyG_take (i := 32) (v := (.bool false)) rfl (by kernel_rfl) (by kernel_rfl) (by kernel_rfl) (fun _ _ _ h => h) HSS.out (by first | (with_reducible rfl) | (simp [Region.wanted, yielded, Act.put]; done) | rfl) (fun W1 h1 => by go_simp) (some 74) rfl #[true, true, true, true, true, true, true, true, true, true, true, true, true, true, true, true, true, true, true, true, true, true, true, true, true, true, true, true, true, true, true, true, true] (by kernel_rfl) ?_
  simp only [Act.put, List.setIfInBounds_toArray, List.set_cons_zero, List.set_cons_succ]
  refine Held.wpAnyG_done (by kernel_rfl) ?_ _
  go_wp2_with fail
  rw [HP3.out]
  (with_reducible refine (blocks_calls l3 HG3.out A3 c3 w15 (Kd.F_now HSS.out.rc) HL3.out (by have h1 := HK3.out; have h2 := HP3.out; omega)).mono ?_)
  rintro en w16 ⟨v, rfl, hr, hb⟩
  rw [← HP3.out]
  obtain ⟨B1, d1, rfl⟩ := Kd.R_slice hr
  rw [List.length_map] at hr
  obtain ⟨p5, hp5⟩ : ∃ p5, p5 = (blocksN l3).length := ⟨_, rfl⟩
  rw [← hp5] at hr
  rw [List.length_map, ← hp5]
  have HR1 := Aside0.mk hr
  have HP5 := Aside0.mk hp5
  have HZ := Aside0.mk (show h < w15.heap.size ∧ b6 + 1 < w15.heap.size ∧ W.heap.size ≤ w15.heap.size by obtain ⟨d, hd⟩ := HSS.out.hh; exact ⟨hd.lt, blk_lt HSS.out.bb, HSS.out.ww.size⟩)
  have HS16 := Aside0.mk (HSS.out.below hb)
  have HZ16 := Aside0.mk hb.size
  clear hr hb hp5 HSS
  go_wp2_with fail
  rw [HP4.out]
  (with_reducible refine (blocks_calls l4 HG4.out A4 c4 w16 (Kd.F_now HS16.out.rd) HL4.out (by have h1 := HK4.out; have h2 := HP4.out; omega)).mono ?_)
  rintro en w17 ⟨v, rfl, hr, hb⟩
  rw [← HP4.out]
  obtain ⟨B2, d2, rfl⟩ := Kd.R_slice hr
  rw [List.length_map] at hr
  obtain ⟨p6, hp6⟩ : ∃ p6, p6 = (blocksN l4).length := ⟨_, rfl⟩
  rw [← hp6] at hr
  rw [List.length_map, ← hp6]
  have hr2 := Kd.R_reads' hr
  have HR2 := Aside0.mk (show Kd.C k36 w17 B2 p6 ((blocksN l4).map toS) by have h1 := hr2.2.2; rw [← hr2.1] at h1; exact h1)
  have HR1 := Aside0.mk (Kd.R_below HR1.out hb)
  have HP6 := Aside0.mk hp6
  have HS17 := Aside0.mk (HS16.out.below hb)
  have HZ17 := Aside0.mk (Nat.le_trans HZ16.out hb.size)
  have HM5 := Aside0.mk (show p5 ≤ 7 by rw [HP5.out, blocksN_length]; have h1 := HK3.out; have h2 := HP3.out; omega)
  have HM6 := Aside0.mk (show p6 ≤ 7 by rw [HP6.out, blocksN_length]; have h1 := HK4.out; have h2 := HP4.out; omega)
  clear hr hr2 hb hp6 HS16
  go_wp2_with (first | ((with_reducible refine gate_builtin (b := .append) (xs := #[.tmp 76, .tmp 78]) rfl ?_); at_builtin; refine Kd.R_append_rows k36 (w0 := w17) w15.heap.size rfl (.tmp 76) (.tmp 78) 29 36 (.agg #[(.int .u64 0), (.int .u64 0)]) 16 rfl Try.underlying29 M.info36 rfl (by decide) (by omega) (.slice B1 p5 d1) ((blocksN l3).map toS) ((blocksN l4).map toS) B2 p6 d2 (fun _ => True) (fun _ => False) rfl rfl HR1.out HR2.out (fun _ _ h => h) (fun _ h => h.elim) (fun _ _ => trivial) (Below.mono (Below.refl w17.heap.size w17) HZ17.out) HZ17.out (by rw [List.length_map, ← HP5.out]; have h1 := HM5.out; have h2 := HM6.out; omega) ?_; intro v18 w18 ho hb hg hat; obtain ⟨B3, d3, rfl⟩ := Kd.R_slice ho; (have hl7 : ((blocksN l3).map toS ++ (blocksN l4).map toS).length = p5 + p6 := by rw [List.length_append, List.length_map, List.length_map, HP5.out, HP6.out]); obtain ⟨p7, hp7⟩ : ∃ p7, p7 = p5 + p6 := ⟨_, rfl⟩; rw [hl7, ← hp7] at ho ⊢; rw [← List.map_append] at ho; have HR3 := Aside0.mk ho; have HP7 := Aside0.mk hp7; have HS18 := Aside0.mk (HS17.out.new hg (fun q hq => by have h1 := Kd.R_base HR1.out q hq; have h2 := HZ.out; omega)); have HZ18 := Aside0.mk (Nat.le_trans HZ17.out hg.size); clear ho hb hg hat hl7 hp7 HS17 HR1 HR2) | ((with_reducible refine gate_builtin (b := .append) (xs := #[.tmp 80, .tmp 90]) rfl ?_); at_builtin; obtain ⟨q, hq⟩ : ∃ q, q = lenN p3 p4 := ⟨_, rfl⟩; (have hE := lenN_E p3 p4 (by have h1 := HK4.out; omega)); rw [← hq] at hE; (have he1 : (p3 : Int) * 8 = (E q).1 := by rw [hE]; show (p3 : Int) * 8 = ((8 * p3 : Nat) : Int); omega); (have he2 : (p4 : Int) * 8 = (E q).2 := by rw [hE]; show (p4 : Int) * 8 = ((8 * p4 : Nat) : Int); omega); rw [he1, he2]; have HQ := Aside0.mk hq; clear hq hE he1 he2; refine append_el_list rfl (.tmp 80) (.tmp 90) rfl rfl w18 w15.heap.size w18.heap.size (.slice B3 p7 d3) _ q rfl rfl rfl HR3.out HZ18.out (by rw [List.length_map, List.length_append, ← HP5.out, ← HP6.out]; have h1 := HM5.out; have h2 := HM6.out; omega) ?_; intro v19 w19 ho hg; (have hx : (blocksN l3 ++ blocksN l4).map toS ++ [toS q] = (sumB l3 l4).map toS := by unfold sumB; rw [List.map_append (l₂ := [lenN l3.length l4.length]), HQ.out, HP3.out, HP4.out]; rfl); rw [hx] at ho; obtain ⟨B4, d4, rfl⟩ := Kd.R_slice ho; (have hl8 : ((sumB l3 l4).map toS).length = p5 + p6 + 1 := by unfold sumB; rw [List.length_map, List.length_append, List.length_append, ← HP5.out, ← HP6.out]; rfl); obtain ⟨p8, hp8⟩ : ∃ p8, p8 = p5 + p6 + 1 := ⟨_, rfl⟩; rw [hl8, ← hp8] at ho ⊢; have HR4 := Aside0.mk ho; have HP8 := Aside0.mk hp8; have HS19 := Aside0.mk (HS18.out.new hg (fun q hq => by have h1 := Kd.R_base HR3.out q hq; have h2 := HZ.out; omega)); clear ho hg hx hl8 hp8 HS18 HR3))
  rw [HP3.out, HP4.out]
  obtain ⟨d19, hd19⟩ := HS19.out.hh
  have HH19 := Aside0.mk hd19
  clear hd19
  (with_reducible refine (gsum_calls w19 h n d19 HN.out HH19.out l3 l4 HG3.out HG4.out A3 c3 (Kd.F_now HS19.out.rc) HL3.out A4 c4 (Kd.F_now HS19.out.rd) HL4.out (by have h1 := HK3.out; have h2 := HP3.out; omega) (by have h1 := HK4.out; have h2 := HP4.out; omega)).mono ?_)
  rintro en w20 ⟨v, rfl, hr, hh, hg⟩
  rw [← HP3.out, ← HP4.out]
  obtain ⟨s, hs⟩ : ∃ s, s = foldN n (sumB l3 l4) 0 := ⟨_, rfl⟩
  have HSL := Aside0.mk (show s < top by rw [hs]; exact foldN_lt HN.out _ (by decide))
  have HSE := Aside0.mk hs
  rw [← hs] at hr
  obtain ⟨B5, d5, rfl⟩ := Kd.R_slice hr
  rw [bytesN_length] at hr ⊢
  have hr5 := Kd.R_reads' hr
  have HD5 := Aside0.mk (show 16 ≤ d5 from hr5.2.1)
  have HF5 := Aside0.mk (show Kd.F (Kd.int .u8) w20 (fun k => k ≠ h) B5 16 (bytesN s) from Kd.F_mono (Kd.R_F (Kd.R_bound hr)) (fun k hk => by have h1 := hk.2.1; have h2 := HH19.out.lt; omega))
  have hr4 := Kd.R_reads' HR4.out
  have HD4 := Aside0.mk (show p8 ≤ d4 from hr4.2.1)
  have HF4 := Aside0.mk (show Kd.F k36 w20 (fun k => k ≠ h) B4 p8 ((sumB l3 l4).map toS) from Kd.F_grown (Kd.F_mono (Kd.R_F (Kd.R_bound HR4.out)) (fun k hk => by have h1 := hk.2.1; have h2 := HZ.out; omega)) hg (fun k hk e => hk (Option.some.inj e)))
  have HS20 := Aside0.mk (HS19.out.grown hg ⟨_, hh⟩)
  clear hs hr hh hg hr5 hr4 HR4 HS19 HH19
  go_wp2_with fail
  (with_reducible refine (fold0C w20 h n (sumB l3 l4) p8 (by unfold sumB; rw [List.length_append, List.length_append, List.length_singleton, ← HP5.out, ← HP6.out]; exact HP8.out) HN.out (sumB_lt HG3.out HG4.out (by have h1 := HK3.out; have h2 := HP3.out; omega) (by have h1 := HK4.out; have h2 := HP4.out; omega)) B4 d4 HS20.out.hh HF4.out HD4.out).mono ?_)
  rintro en w21 ⟨rfl, hh, hg⟩
  rw [← HSE.out]
  have HF5 := Aside0.mk (Kd.F_grown HF5.out hg (fun k hk e => hk (Option.some.inj e)))
  have HS21 := Aside0.mk (HS20.out.grown hg hh)
  clear hh hg HF4 HS20
  go_wp2_with fail
  (with_reducible refine (ebytes_calls s HSL.out _).mono ?_)
  rintro en w23 ⟨v, rfl, hr, hb⟩
  have hbe := (below_alloc (Below.refl w21.heap.size w21) (.cells #[.int .u64 (E s).1, .int .u64 (E s).2] 36)).trans (hb.mono (by simp))
  obtain ⟨B6, d6, rfl⟩ := Kd.R_slice hr
  rw [bytesN_length] at hr ⊢
  have hr6 := Kd.R_reads' hr
  have HR6 := Aside0.mk (show 16 ≤ d6 ∧ Kd.C (Kd.int .u8) w23 B6 16 (bytesN s) from ⟨hr6.2.1, by have h1 := hr6.2.2; rw [bytesN_length] at h1; exact h1⟩)
  have HF5 := Aside0.mk (Kd.F_below HF5.out hbe)
  have HS23 := Aside0.mk (HS21.out.below hbe)
  clear hr hb hbe hr6 HS21
  go_wp2_with fail
  (with_reducible refine (sameN (bytesN s) 16 (bytesN_length s).symm (by decide) B5 d5 B6 d6 w23 (Kd.F_now HF5.out) HD5.out HR6.out.2 HR6.out.1).mono ?_)
  rintro en w24 ⟨rfl, hd⟩
  have HS24 := Aside0.mk (HS23.out.below hd.below)
  have hfin : (p8 : Int) = ((p3 : Int) + 15) / 16 + ((p4 : Int) + 15) / 16 + 1 := by
    have h1 := HP8.out
    have h2 := HP5.out
    have h3 := HP6.out
    have h4 := HP3.out
    have h5 := HP4.out
    rw [blocksN_length] at h2 h3
    omega
  have HFIN := Aside0.mk hfin
  clear hd HS23 hfin
  go_wp2_with fail
  go_ret
  exact ⟨congrArg (fun x => Ending.returned (Value.bool x)) (beq_iff_eq.2 HFIN.out), HS24.out.ww⟩
theorem linear_calls (W : World) (l0 : List Int) (g0 : ∀ x ∈ l0, 0 ≤ x ∧ x < 256) (A0 : Option Addr) (c0 : Nat) (hC0 : Kd.C (Kd.int .u8) W A0 l0.length l0) (hc0 : l0.length ≤ c0) (x y z t : Int) (hf : fineS ⟨x, y⟩) (hg : fineS ⟨z, t⟩) (l3 l4 : List Int) (g3 : ∀ x ∈ l3, 0 ≤ x ∧ x < 256) (g4 : ∀ x ∈ l4, 0 ≤ x ∧ x < 256)
    (A3 : Option Addr) (c3 : Nat) (hC3 : Kd.C (Kd.int .u8) W A3 l3.length l3) (hc3 : l3.length ≤ c3) (A4 : Option Addr) (c4 : Nat) (hC4 : Kd.C (Kd.int .u8) W A4 l4.length l4) (hc4 : l4.length ≤ c4) :
    Calls Try.prog 6 #[.slice A0 l0.length c0, .agg #[.int .u64 x, .int .u64 y], .agg #[.int .u64 z, .int .u64 t], .slice A3 l3.length c3, .slice A4 l4.length c4] W fun en W' => en = .returned (.bool true) ∧ Below W.heap.size W W' := by
  obtain ⟨a, ha, ea, _⟩ := el_of hf
  obtain ⟨b, hb, eb, _⟩ := el_of hg
  rw [ea, eb]
  by_cases h : l0.length = 16 ∧ l3.length ≤ 100 ∧ l4.length ≤ 100
  · obtain ⟨n, hn, rfl⟩ := bytes_all l0 g0 h.1
    rw [bytesN_length] at hC0 hc0 ⊢
    exact linear_good W A0 c0 n a b hn ha hb hC0 hc0 l3 l4 g3 g4 l3.length l4.length rfl rfl h.2.1 h.2.2 A3 c3 hC3 hc3 A4 c4 hC4 hc4
  · exact linear_bad W A0 l0.length c0 a b A3 l3.length c3 A4 l4.length c4 h

end Go.Proofs.Ytmhmmmkpijbbiab.Gh
