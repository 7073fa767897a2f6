/- ghash: a row of the table is filled. Written by wip/gen/ghfill.py. -/
import Derived.Test.YtmhmmmkpijbbiabGhMath
import Derived.Test.YtmhmmmkpijbbiabGhOnce
import Derived.Test.YtmhmmmkpijbbiabHeld
import Derived.WalkSpells
namespace Go.Proofs.Ytmhmmmkpijbbiab.Gh
open Go.RowKit Go.Proofs.YtmhmmmkpijbbiabW.PrintWords Go.Proofs.YtmhmmmkpijbbiabW.PrintLast Go.Proofs.YtmhmmmkpijbbiabW.PrintMore Go.Proofs.Ytmhmmmkpijbbiab.X Go.Proofs.Ytmhmmmkpijbbiab.M Go.Proofs.Ytmhmmmkpijbbiab.Bv Go.Proofs.Ytmhmmmkpijbbiab.Gf
attribute [local go_sem] max2_int min2_int max_two min_two max_three min_three max_four min_four
set_option linter.unusedVariables false
set_option linter.unusedSimpArgs false
theorem load_elP {W : World} {h i n : Nat} (c0 : W.cell? ⟨h, i, none⟩ = some (.int .u64 (E n).1)) (c1 : W.cell? ⟨h, i + 1, none⟩ = some (.int .u64 (E n).2)) : (loadVar 36 ⟨h, i, none⟩).run Try.prog W = .ok (el n) W :=
  run_loadVar_mid W h i 36 [.int .u64 (E n).1, .int .u64 (E n).2] _ (fun j v hv => by
    have hj : j = 0 ∨ j = 1 := by have := (List.getElem?_eq_some_iff.1 hv).1; simp at this; omega
    rcases hj with rfl | rfl
    · have hv2 : Value.int .u64 (E n).1 = v := Option.some.inj hv
      rw [← hv2]; exact c0
    · have hv2 : Value.int .u64 (E n).2 = v := Option.some.inj hv
      rw [← hv2]; exact c1) Try.underlying36 rfl (by kernel_rfl)
theorem drew_grow (W : World) (r : Option Nat) : W.grownBy W.drew r := ⟨rfl, rfl, rfl, Nat.le_refl _, fun _ _ _ => rfl⟩
theorem grown_new {W W5 W6 : World} {row : Option Nat} {b : Nat} (h1 : W.grownBy W5 row) (h2 : W5.grownBy W6 (some b)) (hb : W.heap.size ≤ b) : W.grownBy W6 row :=
  ⟨h2.os.trans h1.os, h2.tape.trans h1.tape, h2.output.trans h1.output, Nat.le_trans h1.size h2.size, fun i hi hne => (h2.block i (Nat.lt_of_lt_of_le hi h1.size) (fun x => by have := Option.some.inj x; omega)).trans (h1.block i hi hne)⟩
theorem setCell_grown (W : World) (g i : Nat) (v : Value) : W.grownBy (W.setCell ⟨g, i, none⟩ v) (some g) := by
  refine ⟨rfl, rfl, rfl, by simp, fun k _ hk => Below.heap_setCell W ⟨g, i, none⟩ v k (fun e => hk (by rw [e]))⟩
/-- All cells of a hash are there, and may be written. -/
def HCells (W : World) (h : Nat) : Prop := ∀ i, i < 1030 → (∃ v, W.cell? ⟨h, i, none⟩ = some v) ∧ W.frozen? ⟨h, i, none⟩ = false
/-- An element lies at a cell of a block. -/
def ElAt (W : World) (h i n : Nat) : Prop := W.cell? ⟨h, i, none⟩ = some (.int .u64 (E n).1) ∧ W.cell? ⟨h, i + 1, none⟩ = some (.int .u64 (E n).2)
theorem cell_same {W W' : World} {h : Nat} (hs : W'.heap[h]? = W.heap[h]?) (i : Nat) : W'.cell? ⟨h, i, none⟩ = W.cell? ⟨h, i, none⟩ := World.cell?_of_block hs
theorem frozen_same {W W' : World} {h : Nat} (hs : W'.heap[h]? = W.heap[h]?) (i : Nat) : W'.frozen? ⟨h, i, none⟩ = W.frozen? ⟨h, i, none⟩ := by unfold World.frozen?; rw [hs]
theorem HCells.same {W W' : World} {h : Nat} (hc : HCells W h) (hs : W'.heap[h]? = W.heap[h]?) : HCells W' h := fun i hi => ⟨by rw [cell_same hs]; exact (hc i hi).1, by rw [frozen_same hs]; exact (hc i hi).2⟩
theorem ElAt.same {W W' : World} {h i n : Nat} (he : ElAt W h i n) (hs : W'.heap[h]? = W.heap[h]?) : ElAt W' h i n := ⟨by rw [cell_same hs]; exact he.1, by rw [cell_same hs]; exact he.2⟩
/-- An element is stored at a cell of the hash. -/
def putEl (W : World) (h i n : Nat) : World := (W.setCell ⟨h, i, none⟩ (.int .u64 (E n).1)).setCell ⟨h, i + 1, none⟩ (.int .u64 (E n).2)
theorem putEl_other (W : World) (h i n : Nat) (j : Nat) (h1 : j ≠ i) (h2 : j ≠ i + 1) : (putEl W h i n).cell? ⟨h, j, none⟩ = W.cell? ⟨h, j, none⟩ := by
  unfold putEl
  rw [World.cell?_setCell_other _ ⟨h, i + 1, none⟩ ⟨h, j, none⟩ _ (fun x => h2 (congrArg Addr.off x).symm), World.cell?_setCell_other _ ⟨h, i, none⟩ ⟨h, j, none⟩ _ (fun x => h1 (congrArg Addr.off x).symm)]
theorem putEl_at {W : World} {h i : Nat} (n : Nat) (hc : HCells W h) (hi : i + 1 < 1030) : ElAt (putEl W h i n) h i n := by
  obtain ⟨⟨v0, h0⟩, _⟩ := hc i (by omega)
  obtain ⟨⟨v1, h1⟩, _⟩ := hc (i + 1) hi
  unfold putEl
  constructor
  · rw [World.cell?_setCell_other _ ⟨h, i + 1, none⟩ ⟨h, i, none⟩ _ (by simp)]
    exact World.cell?_setCell_same _ _ _ h0
  · exact World.cell?_setCell_same _ _ _ ((World.cell?_setCell_other _ ⟨h, i, none⟩ ⟨h, i + 1, none⟩ _ (by simp)).trans h1)
theorem putEl_cells {W : World} {h i : Nat} (n : Nat) (hc : HCells W h) (hi : i + 1 < 1030) : HCells (putEl W h i n) h := fun j hj => by
  refine ⟨?_, ?_⟩
  · by_cases h1 : j = i
    · subst h1; exact ⟨_, (putEl_at n hc hi).1⟩
    · by_cases h2 : j = i + 1
      · subst h2; exact ⟨_, (putEl_at n hc hi).2⟩
      · rw [putEl_other W h i n j h1 h2]; exact (hc j hj).1
  · unfold putEl
    simp
    exact (hc j hj).2
theorem putEl_blk {W : World} {h i n b : Nat} {o : Obj} (hb : W.heap[b]? = some o) (hne : b ≠ h) : (putEl W h i n).heap[b]? = some o := by
  unfold putEl
  rw [Below.heap_setCell _ ⟨h, i + 1, none⟩ _ b hne, Below.heap_setCell W ⟨h, i, none⟩ _ b hne]
  exact hb
theorem putEl_self (W : World) (h i n b : Nat) (hne : h ≠ b) : (putEl W b i n).heap[h]? = W.heap[h]? := by
  unfold putEl
  rw [Below.heap_setCell _ ⟨b, i + 1, none⟩ _ h hne, Below.heap_setCell W ⟨b, i, none⟩ _ h hne]
theorem blk_newN {W : World} {N : Nat} (h : W.heap.size = N) (o : Obj) : (W.alloc o).heap[N]? = some o := by subst h; exact blk_new W o
theorem putEl_set {W : World} {b n : Nat} {x y : Value} {u : Nat} (hb : W.heap[b]? = some (.cells #[x, y] u (0, 0))) : (putEl W b 0 n).heap[b]? = some (.cells #[.int .u64 (E n).1, .int .u64 (E n).2] u (0, 0)) := by
  unfold putEl
  exact blk_put (cs := #[.int .u64 (E n).1, y]) (blk_put (cs := #[x, y]) hb 0 _ rfl) 1 _ rfl
theorem putEl_keep {W : World} {h i n j m : Nat} (he : ElAt W h j m) (h1 : j + 1 < i ∨ i + 1 < j) : ElAt (putEl W h i n) h j m :=
  ⟨by rw [putEl_other W h i n j (by omega) (by omega)]; exact he.1, by rw [putEl_other W h i n (j + 1) (by omega) (by omega)]; exact he.2⟩
theorem putEl_grown (W : World) (h i n : Nat) : W.grownBy (putEl W h i n) (some h) := (setCell_grown W h i _).trans (setCell_grown _ h (i + 1) _)
/-- The power of x with which a bit of a nibble goes. -/
def bitN (n m : Nat) : Nat := match m with
  | 0 => n
  | 1 => nx n
  | 2 => nx (nx n)
  | _ => nx (nx (nx n))
/-- What stands in a row at place j. -/
def ent (n j : Nat) : Nat := ((if j / 8 % 2 = 1 then n else 0) ^^^ (if j / 4 % 2 = 1 then nx n else 0)) ^^^ ((if j / 2 % 2 = 1 then nx (nx n) else 0) ^^^ (if j % 2 = 1 then nx (nx (nx n)) else 0))
def bitI (m : Nat) : Int := match m with
  | 0 => 8
  | 1 => 4
  | 2 => 2
  | 3 => 1
  | _ => 0
def posI (m : Nat) : Nat := match m with
  | 0 => 8
  | 1 => 4
  | 2 => 2
  | _ => 1
/-- The power that the next bit goes with. -/
def powI (n m : Nat) : Nat := match m with
  | 0 => n
  | 1 => nx n
  | 2 => nx (nx n)
  | 3 => nx (nx (nx n))
  | _ => nx (nx (nx (nx n)))
/-- The lowest bit of an index. -/
def lb (i : Nat) : Nat := if i % 2 = 1 then 1 else if i / 2 % 2 = 1 then 2 else if i / 4 % 2 = 1 then 4 else if i / 8 % 2 = 1 then 8 else 0
theorem and_neg (i : Nat) (hi : i < 16) : Go.bits .and .i64 (i : Int) (-(i : Int)) = ((lb i : Nat) : Int) := by
  have h : (List.range 16).all (fun i => Go.bits .and .i64 (i : Int) (-(i : Int)) == ((lb i : Nat) : Int)) = true := by decide +kernel
  exact beq_iff_eq.1 (List.all_eq_true.1 h i (List.mem_range.2 hi))
theorem lb_le (i : Nat) : lb i ≤ 8 := by unfold lb; repeat (first | split | omega)
theorem lb_pow (i : Nat) (hi : i < 16) (h : lb i = i) : i = 0 ∨ i = 1 ∨ i = 2 ∨ i = 4 ∨ i = 8 := by
  have h1 : (List.range 16).all (fun i => (!(lb i == i)) || (i == 0 || i == 1 || i == 2 || i == 4 || i == 8)) = true := by decide +kernel
  have h2 := List.all_eq_true.1 h1 i (List.mem_range.2 hi)
  simp [h] at h2
  omega
theorem lb_four (i : Nat) (hi : i < 16) (h : lb i ≠ i) : (lb i = 1 ∨ lb i = 2 ∨ lb i = 4 ∨ lb i = 8) ∧ lb i ≤ i := by
  have h1 : (List.range 16).all (fun i => (lb i == i) || ((lb i == 1 || lb i == 2 || lb i == 4 || lb i == 8) && decide (lb i ≤ i))) = true := by decide +kernel
  have h2 := List.all_eq_true.1 h1 i (List.mem_range.2 hi)
  simp [h] at h2
  omega
theorem ent_split (n i : Nat) (hi : i < 16) (d : Nat) (hd : i = lb i + d) (h : lb i ≠ i) : ent n (lb i) ^^^ ent n d = ent n i := by
  have hd2 : d = i - lb i := by omega
  subst hd2
  have hc : i = 0 ∨ i = 1 ∨ i = 2 ∨ i = 3 ∨ i = 4 ∨ i = 5 ∨ i = 6 ∨ i = 7 ∨ i = 8 ∨ i = 9 ∨ i = 10 ∨ i = 11 ∨ i = 12 ∨ i = 13 ∨ i = 14 ∨ i = 15 := by omega
  rcases hc with rfl | rfl | rfl | rfl | rfl | rfl | rfl | rfl | rfl | rfl | rfl | rfl | rfl | rfl | rfl | rfl <;> first | (exact absurd rfl h) | (simp [ent, lb]; done) | (simp [ent, lb]; ac_rfl)
theorem ent_lt {n : Nat} (hn : n < top) (j : Nat) : ent n j < top := by
  have h0 : (0 : Nat) < top := by decide
  unfold ent
  refine xor_lt (xor_lt ?_ ?_) (xor_lt ?_ ?_)
  · split <;> assumption
  · split; exact nx_lt hn; exact h0
  · split; exact nx_lt (nx_lt hn); exact h0
  · split; exact nx_lt (nx_lt (nx_lt hn)); exact h0
/-- The first loop, behind m bits. -/
def Inv1 (W wr : World) (h o n b3 m : Nat) : Prop := wr.heap[b3]? = some (.cells #[.int .u64 (E (powI n m)).1, .int .u64 (E (powI n m)).2] 36 (0, 0)) ∧ wr.heap[b3 + 1]? = some (.cells #[.int .u64 0, .int .u64 0] 36 (0, 0)) ∧ HCells wr h ∧ (∀ j, j < m → ElAt wr h (o + 2 * posI j) (powI n j)) ∧ (∀ i, i < o + 2 ∨ o + 32 ≤ i → wr.cell? ⟨h, i, none⟩ = W.cell? ⟨h, i, none⟩) ∧ W.grownBy wr (some h)
/-- The second loop, behind i entries. -/
def Inv2 (W wr : World) (h o n b3 i : Nat) : Prop := wr.heap[b3]? = some (.cells #[.int .u64 (E (nx (nx (nx (nx n))))).1, .int .u64 (E (nx (nx (nx (nx n))))).2] 36 (0, 0)) ∧ wr.heap[b3 + 1]? = some (.cells #[.int .u64 0, .int .u64 0] 36 (0, 0)) ∧ HCells wr h ∧ (∀ j, (j < i ∨ j = 0 ∨ j = 1 ∨ j = 2 ∨ j = 4 ∨ j = 8) → j < 16 → ElAt wr h (o + j * 2) (ent n j)) ∧ (∀ i, i < o ∨ o + 32 ≤ i → wr.cell? ⟨h, i, none⟩ = W.cell? ⟨h, i, none⟩) ∧ W.grownBy wr (some h)
theorem powI_lt {n : Nat} (hn : n < top) (m : Nat) : powI n m < top := by
  unfold powI
  split
  · exact hn
  · exact nx_lt hn
  · exact nx_lt (nx_lt hn)
  · exact nx_lt (nx_lt (nx_lt hn))
  · exact nx_lt (nx_lt (nx_lt (nx_lt hn)))
set_option maxRecDepth 100000 in
set_option maxHeartbeats 8000000 in
theorem fill_calls (W : World) (h o n : Nat) (hn : n < top) (hh : h < W.heap.size) (hc : HCells W h) (ho : o + 32 ≤ 1030) (hz : ElAt W h o 0) :
    Calls Try.prog 48 #[.pointer (some ⟨h, o, none⟩), el n] W fun e W' => e = .returned (el (nx (nx (nx (nx n))))) ∧ HCells W' h ∧ (∀ j, j < 16 → ElAt W' h (o + j * 2) (ent n j)) ∧ (∀ i, i < o ∨ o + 32 ≤ i → W'.cell? ⟨h, i, none⟩ = W.cell? ⟨h, i, none⟩) ∧ W.grownBy W' (some h) := by
  have HN := Aside0.mk hn
  have HH := Aside0.mk hh
  have HC := Aside0.mk hc
  have HO := Aside0.mk ho
  have HZ := Aside0.mk hz
  clear hn hh hc ho hz
  go_enter Try.func48, Try.ntmps48
  go_upto_region 1 with (fail)
  obtain ⟨b3, hb3⟩ : ∃ b3, b3 = W.heap.size := ⟨_, rfl⟩
  obtain ⟨w1, hw1⟩ : ∃ w1, w1 = (W.alloc (.cells #[.int .u64 (E n).1, .int .u64 (E n).2] 36)).alloc (.cells #[.int .u64 0, .int .u64 0] 36) := ⟨_, rfl⟩
  rw [← hw1, ← hb3]
  have hbe : Below W.heap.size W w1 := by rw [hw1]; exact below_alloc (below_alloc (Below.refl _ _) _) _
  have HI := Aside0.mk (show Inv1 W w1 h o n b3 0 from ⟨by rw [hw1, hb3]; exact blk_alloc (blk_new W _) _, by rw [hw1, hb3]; exact blk_newN (by simp) _, HC.out.same (hbe.block h HH.out), fun j hj => absurd hj (Nat.not_lt_zero j), fun i _ => cell_same (hbe.block h HH.out) i, grown_of_below hbe _⟩)
  have HB3 := Aside0.mk (show W.heap.size ≤ b3 by omega)
  have HZN := Aside0.mk (show h ≠ b3 ∧ h ≠ b3 + 1 by have := HH.out; omega)
  clear hw1 hb3 hbe
  go_wp2_with fail
  go_loopw [5] (fun v5 wr => ∃ m : Nat, m ≤ 4 ∧ v5 = .int .i64 (bitI m) ∧ Aside0 (Inv1 W wr h o n b3 m)) (fun v5 _ => (intOf v5).toNat)
  case atStart => exact ⟨0, by omega, rfl, HI⟩
  case round =>
    clear HI
    obtain ⟨m, hm, rfl, HI⟩ := hrel
    have hm5 : m = 0 ∨ m = 1 ∨ m = 2 ∨ m = 3 ∨ m = 4 := by omega
    clear hm
    rcases hm5 with rfl | rfl | rfl | rfl | rfl
    · obtain ⟨h3, h4, hc, hel, hot, hgr⟩ := HI.out
      obtain ⟨pn, hpn⟩ : ∃ pn, pn = powI n 0 := ⟨_, rfl⟩
      have hpl : pn < top := by rw [hpn]; exact powI_lt HN.out _
      rw [← hpn] at h3
      have HPN := Aside0.mk hpn
      have HPL := Aside0.mk hpl
      have H3 := Aside0.mk h3
      have H4 := Aside0.mk h4
      have HCC := Aside0.mk hc
      have HEL := Aside0.mk hel
      have HOT := Aside0.mk hot
      have HGR := Aside0.mk hgr
      have hz1 := hc (o + 16) (by have := HO.out; omega)
      have hz2 := hc (o + 16 + 1) (by have := HO.out; omega)
      obtain ⟨⟨v1, hx1⟩, hy1⟩ := hz1
      obtain ⟨⟨v2, hx2⟩, hy2⟩ := hz2
      clear HI hpn hpl h3 h4 hc hel hot hgr
      rw [show bitI 0 = 8 from rfl]
      go_upto_region 4 with (fail)
      have HSS := Aside0.mk (show (fun W1 : World => W1.heap[b3]? = some (.cells #[.int .u64 (E pn).1, .int .u64 (E pn).2] 36 (0, 0))) wr.drew from blk_drew H3.out)
      refine Held.wp_region_G (S := (fun W1 : World => W1.heap[b3]? = some (.cells #[.int .u64 (E pn).1, .int .u64 (E pn).2] 36 (0, 0)))) (by kernel_rfl) ?_
      change Held.wpAnyG _ _ _ _ _ 6 _ _ _
      refine Held.wpAnyG_take (i := 0) (v := (.pointer (some ⟨h, o, none⟩))) rfl (by kernel_rfl) (by kernel_rfl) (by kernel_rfl) (fun _ _ _ h => h) HSS.out (by first | (with_reducible rfl) | (simp [Region.wanted, yielded, Act.put]; done) | rfl) (fun W h => by go_simp) (some 12) rfl #[true, false, false, false, false, false] (by kernel_rfl) ?_
      simp only [Act.put, List.setIfInBounds_toArray, List.set_cons_zero, List.set_cons_succ]
      refine Held.wpAnyG_take (i := 1) (v := (.int .i64 8)) rfl (by kernel_rfl) (by kernel_rfl) (by kernel_rfl) (fun _ _ _ h => h) HSS.out (by first | (with_reducible rfl) | (simp [Region.wanted, yielded, Act.put]; done) | rfl) (fun W h => by go_simp) (some 13) rfl #[true, true, false, false, false, false] (by kernel_rfl) ?_
      simp only [Act.put, List.setIfInBounds_toArray, List.set_cons_zero, List.set_cons_succ]
      refine Held.wpAnyG_take (i := 2) (v := (el pn)) rfl (by kernel_rfl) (by kernel_rfl) (by kernel_rfl) (fun _ _ _ h => h) HSS.out (by first | (with_reducible rfl) | (simp [Region.wanted, yielded, Act.put]; done) | rfl) (fun W h => Held.run_load_arr 36 (.tmp 3) rfl b3 rfl 36 _ _ _ h Try.underlying36 rfl (by kernel_rfl)) (some 14) rfl #[true, true, true, false, false, false] (by kernel_rfl) ?_
      simp only [Act.put, List.setIfInBounds_toArray, List.set_cons_zero, List.set_cons_succ]
      refine Held.wpAnyG_take (i := 3) (v := (.pointer (some ⟨h, o, none⟩))) rfl (by kernel_rfl) (by kernel_rfl) (by kernel_rfl) (fun _ _ _ h => h) HSS.out (by first | (with_reducible rfl) | (simp [Region.wanted, yielded, Act.put]; done) | rfl) (fun W h => by go_simp) (some 15) rfl #[true, true, true, true, false, false] (by kernel_rfl) ?_
      simp only [Act.put, List.setIfInBounds_toArray, List.set_cons_zero, List.set_cons_succ]
      refine Held.wpAnyG_take (i := 4) (v := (.pointer (some ⟨h, o + 16, none⟩))) rfl (by kernel_rfl) (by kernel_rfl) (by kernel_rfl) (fun _ _ _ h => h) HSS.out (by first | (with_reducible rfl) | (simp [Region.wanted, yielded, Act.put]; done) | rfl) (fun W h => by go_simp) (some 16) rfl #[true, true, true, true, true, false] (by kernel_rfl) ?_
      simp only [Act.put, List.setIfInBounds_toArray, List.set_cons_zero, List.set_cons_succ]
      refine Held.wpAnyG_one 5 (by kernel_rfl) rfl #[true, true, true, true, true, true] (by kernel_rfl) (fun K hK => ?_)
      go_wp2_with fail
      refine hK _ _ (blk_drew (putEl_blk (W := wr) (h := h) (i := o + 16) (n := pn) H3.out HZN.out.1.symm)) ?_
      clear hK K
      refine Held.wpAnyG_done (by kernel_rfl) ?_ _
      go_upto_region 5 with (fail)
      obtain ⟨w4, hw4⟩ : ∃ w4, w4 = ((wr.setCell ⟨h, o + 16, none⟩ (.int .u64 (E pn).1)).setCell ⟨h, o + 16 + 1, none⟩ (.int .u64 (E pn).2)).drew := ⟨_, rfl⟩
      rw [← hw4]
      replace hw4 : w4 = (putEl wr h (o + 16) pn).drew := hw4
      have K3 := Aside0.mk (show w4.heap[b3]? = some (.cells #[.int .u64 (E pn).1, .int .u64 (E pn).2] 36 (0, 0)) by rw [hw4]; exact blk_drew (putEl_blk H3.out HZN.out.1.symm))
      have K4 := Aside0.mk (show w4.heap[b3 + 1]? = some (.cells #[.int .u64 0, .int .u64 0] 36 (0, 0)) by rw [hw4]; exact blk_drew (putEl_blk H4.out HZN.out.2.symm))
      have hs : w4.heap[h]? = (putEl wr h (o + 16) pn).heap[h]? := by rw [hw4]; rfl
      have KC := Aside0.mk ((putEl_cells (i := o + 16) pn HCC.out (by have := HO.out; omega)).same hs)
      have KE := Aside0.mk (show ∀ j, j < 1 → ElAt w4 h (o + 2 * posI j) (powI n j) from fun j hj => by
        by_cases hjm : j = 0
        · subst hjm
          have h1 := (putEl_at (i := o + 16) pn HCC.out (by have := HO.out; omega)).same hs
          rw [HPN.out] at h1
          exact h1
        · refine ElAt.same (putEl_keep (HEL.out j (by omega)) ?_) hs
          have hjj : False := by omega
          exact hjj.elim)
      have KO := Aside0.mk (show ∀ i, i < o + 2 ∨ o + 32 ≤ i → w4.cell? ⟨h, i, none⟩ = W.cell? ⟨h, i, none⟩ from fun i hi => (cell_same hs i).trans ((putEl_other wr h (o + 16) pn i (by omega) (by omega)).trans (HOT.out i hi)))
      have KG := Aside0.mk (show W.grownBy w4 (some h) by rw [hw4]; exact HGR.out.trans ((putEl_grown wr h (o + 16) pn).trans (drew_grow _ _)))
      clear hw4 hs hx1 hx2 hy1 hy2 H3 H4 HCC HEL HOT HGR HSS
      have hk0 := blk_cell K3.out 0
      have hk1 := blk_cell K3.out 1
      simp at hk0 hk1
      go_wp2_with fail
      (with_reducible refine (next_calls pn HPL.out _).mono ?_)
      rintro e w5 ⟨rfl, hb5⟩
      have J3 := Aside0.mk (blk_below K3.out hb5)
      have J4 := Aside0.mk (blk_below K4.out hb5)
      have hhw : h < w4.heap.size := Nat.lt_of_lt_of_le HH.out KG.out.size
      have hs5 := hb5.block h hhw
      have JC := Aside0.mk (KC.out.same hs5)
      have JE := Aside0.mk (show ∀ j, j < 1 → ElAt w5 h (o + 2 * posI j) (powI n j) from fun j hj => (KE.out j hj).same hs5)
      have JO := Aside0.mk (show ∀ i, i < o + 2 ∨ o + 32 ≤ i → w5.cell? ⟨h, i, none⟩ = W.cell? ⟨h, i, none⟩ from fun i hi => (cell_same hs5 i).trans (KO.out i hi))
      have JG := Aside0.mk (KG.out.trans (grown_of_below hb5 (some h)))
      have hk0 := blk_cell J3.out 0
      have hk1 := blk_cell J3.out 1
      have hm0 := blk_frozen J3.out 0
      have hm1 := blk_frozen J3.out 1
      simp at hk0 hk1
      clear hb5 hhw hs5 K3 K4 KC KE KO KG
      go_wp2_with fail
      go_roundw
      case measure => simp [intOf, bitI]
      case rel => exact ⟨1, by omega, rfl, ⟨by rw [show powI n 1 = nx pn by rw [HPN.out]; rfl]; exact putEl_set J3.out, putEl_blk J4.out (by omega), JC.out.same (putEl_self _ _ _ _ _ HZN.out.1), fun j hj => (JE.out j hj).same (putEl_self _ _ _ _ _ HZN.out.1), fun i hi => (cell_same (putEl_self _ _ _ _ _ HZN.out.1) i).trans (JO.out i hi), grown_new JG.out (putEl_grown _ b3 0 _) HB3.out⟩⟩
    · obtain ⟨h3, h4, hc, hel, hot, hgr⟩ := HI.out
      obtain ⟨pn, hpn⟩ : ∃ pn, pn = powI n 1 := ⟨_, rfl⟩
      have hpl : pn < top := by rw [hpn]; exact powI_lt HN.out _
      rw [← hpn] at h3
      have HPN := Aside0.mk hpn
      have HPL := Aside0.mk hpl
      have H3 := Aside0.mk h3
      have H4 := Aside0.mk h4
      have HCC := Aside0.mk hc
      have HEL := Aside0.mk hel
      have HOT := Aside0.mk hot
      have HGR := Aside0.mk hgr
      have hz1 := hc (o + 8) (by have := HO.out; omega)
      have hz2 := hc (o + 8 + 1) (by have := HO.out; omega)
      obtain ⟨⟨v1, hx1⟩, hy1⟩ := hz1
      obtain ⟨⟨v2, hx2⟩, hy2⟩ := hz2
      clear HI hpn hpl h3 h4 hc hel hot hgr
      rw [show bitI 1 = 4 from rfl]
      go_upto_region 4 with (fail)
      have HSS := Aside0.mk (show (fun W1 : World => W1.heap[b3]? = some (.cells #[.int .u64 (E pn).1, .int .u64 (E pn).2] 36 (0, 0))) wr.drew from blk_drew H3.out)
      refine Held.wp_region_G (S := (fun W1 : World => W1.heap[b3]? = some (.cells #[.int .u64 (E pn).1, .int .u64 (E pn).2] 36 (0, 0)))) (by kernel_rfl) ?_
      change Held.wpAnyG _ _ _ _ _ 6 _ _ _
      refine Held.wpAnyG_take (i := 0) (v := (.pointer (some ⟨h, o, none⟩))) rfl (by kernel_rfl) (by kernel_rfl) (by kernel_rfl) (fun _ _ _ h => h) HSS.out (by first | (with_reducible rfl) | (simp [Region.wanted, yielded, Act.put]; done) | rfl) (fun W h => by go_simp) (some 12) rfl #[true, false, false, false, false, false] (by kernel_rfl) ?_
      simp only [Act.put, List.setIfInBounds_toArray, List.set_cons_zero, List.set_cons_succ]
      refine Held.wpAnyG_take (i := 1) (v := (.int .i64 4)) rfl (by kernel_rfl) (by kernel_rfl) (by kernel_rfl) (fun _ _ _ h => h) HSS.out (by first | (with_reducible rfl) | (simp [Region.wanted, yielded, Act.put]; done) | rfl) (fun W h => by go_simp) (some 13) rfl #[true, true, false, false, false, false] (by kernel_rfl) ?_
      simp only [Act.put, List.setIfInBounds_toArray, List.set_cons_zero, List.set_cons_succ]
      refine Held.wpAnyG_take (i := 2) (v := (el pn)) rfl (by kernel_rfl) (by kernel_rfl) (by kernel_rfl) (fun _ _ _ h => h) HSS.out (by first | (with_reducible rfl) | (simp [Region.wanted, yielded, Act.put]; done) | rfl) (fun W h => Held.run_load_arr 36 (.tmp 3) rfl b3 rfl 36 _ _ _ h Try.underlying36 rfl (by kernel_rfl)) (some 14) rfl #[true, true, true, false, false, false] (by kernel_rfl) ?_
      simp only [Act.put, List.setIfInBounds_toArray, List.set_cons_zero, List.set_cons_succ]
      refine Held.wpAnyG_take (i := 3) (v := (.pointer (some ⟨h, o, none⟩))) rfl (by kernel_rfl) (by kernel_rfl) (by kernel_rfl) (fun _ _ _ h => h) HSS.out (by first | (with_reducible rfl) | (simp [Region.wanted, yielded, Act.put]; done) | rfl) (fun W h => by go_simp) (some 15) rfl #[true, true, true, true, false, false] (by kernel_rfl) ?_
      simp only [Act.put, List.setIfInBounds_toArray, List.set_cons_zero, List.set_cons_succ]
      refine Held.wpAnyG_take (i := 4) (v := (.pointer (some ⟨h, o + 8, none⟩))) rfl (by kernel_rfl) (by kernel_rfl) (by kernel_rfl) (fun _ _ _ h => h) HSS.out (by first | (with_reducible rfl) | (simp [Region.wanted, yielded, Act.put]; done) | rfl) (fun W h => by go_simp) (some 16) rfl #[true, true, true, true, true, false] (by kernel_rfl) ?_
      simp only [Act.put, List.setIfInBounds_toArray, List.set_cons_zero, List.set_cons_succ]
      refine Held.wpAnyG_one 5 (by kernel_rfl) rfl #[true, true, true, true, true, true] (by kernel_rfl) (fun K hK => ?_)
      go_wp2_with fail
      refine hK _ _ (blk_drew (putEl_blk (W := wr) (h := h) (i := o + 8) (n := pn) H3.out HZN.out.1.symm)) ?_
      clear hK K
      refine Held.wpAnyG_done (by kernel_rfl) ?_ _
      go_upto_region 5 with (fail)
      obtain ⟨w4, hw4⟩ : ∃ w4, w4 = ((wr.setCell ⟨h, o + 8, none⟩ (.int .u64 (E pn).1)).setCell ⟨h, o + 8 + 1, none⟩ (.int .u64 (E pn).2)).drew := ⟨_, rfl⟩
      rw [← hw4]
      replace hw4 : w4 = (putEl wr h (o + 8) pn).drew := hw4
      have K3 := Aside0.mk (show w4.heap[b3]? = some (.cells #[.int .u64 (E pn).1, .int .u64 (E pn).2] 36 (0, 0)) by rw [hw4]; exact blk_drew (putEl_blk H3.out HZN.out.1.symm))
      have K4 := Aside0.mk (show w4.heap[b3 + 1]? = some (.cells #[.int .u64 0, .int .u64 0] 36 (0, 0)) by rw [hw4]; exact blk_drew (putEl_blk H4.out HZN.out.2.symm))
      have hs : w4.heap[h]? = (putEl wr h (o + 8) pn).heap[h]? := by rw [hw4]; rfl
      have KC := Aside0.mk ((putEl_cells (i := o + 8) pn HCC.out (by have := HO.out; omega)).same hs)
      have KE := Aside0.mk (show ∀ j, j < 2 → ElAt w4 h (o + 2 * posI j) (powI n j) from fun j hj => by
        by_cases hjm : j = 1
        · subst hjm
          have h1 := (putEl_at (i := o + 8) pn HCC.out (by have := HO.out; omega)).same hs
          rw [HPN.out] at h1
          exact h1
        · refine ElAt.same (putEl_keep (HEL.out j (by omega)) ?_) hs
          have hjj : j = 0 := by omega
          subst hjj; simp [posI])
      have KO := Aside0.mk (show ∀ i, i < o + 2 ∨ o + 32 ≤ i → w4.cell? ⟨h, i, none⟩ = W.cell? ⟨h, i, none⟩ from fun i hi => (cell_same hs i).trans ((putEl_other wr h (o + 8) pn i (by omega) (by omega)).trans (HOT.out i hi)))
      have KG := Aside0.mk (show W.grownBy w4 (some h) by rw [hw4]; exact HGR.out.trans ((putEl_grown wr h (o + 8) pn).trans (drew_grow _ _)))
      clear hw4 hs hx1 hx2 hy1 hy2 H3 H4 HCC HEL HOT HGR HSS
      have hk0 := blk_cell K3.out 0
      have hk1 := blk_cell K3.out 1
      simp at hk0 hk1
      go_wp2_with fail
      (with_reducible refine (next_calls pn HPL.out _).mono ?_)
      rintro e w5 ⟨rfl, hb5⟩
      have J3 := Aside0.mk (blk_below K3.out hb5)
      have J4 := Aside0.mk (blk_below K4.out hb5)
      have hhw : h < w4.heap.size := Nat.lt_of_lt_of_le HH.out KG.out.size
      have hs5 := hb5.block h hhw
      have JC := Aside0.mk (KC.out.same hs5)
      have JE := Aside0.mk (show ∀ j, j < 2 → ElAt w5 h (o + 2 * posI j) (powI n j) from fun j hj => (KE.out j hj).same hs5)
      have JO := Aside0.mk (show ∀ i, i < o + 2 ∨ o + 32 ≤ i → w5.cell? ⟨h, i, none⟩ = W.cell? ⟨h, i, none⟩ from fun i hi => (cell_same hs5 i).trans (KO.out i hi))
      have JG := Aside0.mk (KG.out.trans (grown_of_below hb5 (some h)))
      have hk0 := blk_cell J3.out 0
      have hk1 := blk_cell J3.out 1
      have hm0 := blk_frozen J3.out 0
      have hm1 := blk_frozen J3.out 1
      simp at hk0 hk1
      clear hb5 hhw hs5 K3 K4 KC KE KO KG
      go_wp2_with fail
      go_roundw
      case measure => simp [intOf, bitI]
      case rel => exact ⟨2, by omega, rfl, ⟨by rw [show powI n 2 = nx pn by rw [HPN.out]; rfl]; exact putEl_set J3.out, putEl_blk J4.out (by omega), JC.out.same (putEl_self _ _ _ _ _ HZN.out.1), fun j hj => (JE.out j hj).same (putEl_self _ _ _ _ _ HZN.out.1), fun i hi => (cell_same (putEl_self _ _ _ _ _ HZN.out.1) i).trans (JO.out i hi), grown_new JG.out (putEl_grown _ b3 0 _) HB3.out⟩⟩
    · obtain ⟨h3, h4, hc, hel, hot, hgr⟩ := HI.out
      obtain ⟨pn, hpn⟩ : ∃ pn, pn = powI n 2 := ⟨_, rfl⟩
      have hpl : pn < top := by rw [hpn]; exact powI_lt HN.out _
      rw [← hpn] at h3
      have HPN := Aside0.mk hpn
      have HPL := Aside0.mk hpl
      have H3 := Aside0.mk h3
      have H4 := Aside0.mk h4
      have HCC := Aside0.mk hc
      have HEL := Aside0.mk hel
      have HOT := Aside0.mk hot
      have HGR := Aside0.mk hgr
      have hz1 := hc (o + 4) (by have := HO.out; omega)
      have hz2 := hc (o + 4 + 1) (by have := HO.out; omega)
      obtain ⟨⟨v1, hx1⟩, hy1⟩ := hz1
      obtain ⟨⟨v2, hx2⟩, hy2⟩ := hz2
      clear HI hpn hpl h3 h4 hc hel hot hgr
      rw [show bitI 2 = 2 from rfl]
      go_upto_region 4 with (fail)
      have HSS := Aside0.mk (show (fun W1 : World => W1.heap[b3]? = some (.cells #[.int .u64 (E pn).1, .int .u64 (E pn).2] 36 (0, 0))) wr.drew from blk_drew H3.out)
      refine Held.wp_region_G (S := (fun W1 : World => W1.heap[b3]? = some (.cells #[.int .u64 (E pn).1, .int .u64 (E pn).2] 36 (0, 0)))) (by kernel_rfl) ?_
      change Held.wpAnyG _ _ _ _ _ 6 _ _ _
      refine Held.wpAnyG_take (i := 0) (v := (.pointer (some ⟨h, o, none⟩))) rfl (by kernel_rfl) (by kernel_rfl) (by kernel_rfl) (fun _ _ _ h => h) HSS.out (by first | (with_reducible rfl) | (simp [Region.wanted, yielded, Act.put]; done) | rfl) (fun W h => by go_simp) (some 12) rfl #[true, false, false, false, false, false] (by kernel_rfl) ?_
      simp only [Act.put, List.setIfInBounds_toArray, List.set_cons_zero, List.set_cons_succ]
      refine Held.wpAnyG_take (i := 1) (v := (.int .i64 2)) rfl (by kernel_rfl) (by kernel_rfl) (by kernel_rfl) (fun _ _ _ h => h) HSS.out (by first | (with_reducible rfl) | (simp [Region.wanted, yielded, Act.put]; done) | rfl) (fun W h => by go_simp) (some 13) rfl #[true, true, false, false, false, false] (by kernel_rfl) ?_
      simp only [Act.put, List.setIfInBounds_toArray, List.set_cons_zero, List.set_cons_succ]
      refine Held.wpAnyG_take (i := 2) (v := (el pn)) rfl (by kernel_rfl) (by kernel_rfl) (by kernel_rfl) (fun _ _ _ h => h) HSS.out (by first | (with_reducible rfl) | (simp [Region.wanted, yielded, Act.put]; done) | rfl) (fun W h => Held.run_load_arr 36 (.tmp 3) rfl b3 rfl 36 _ _ _ h Try.underlying36 rfl (by kernel_rfl)) (some 14) rfl #[true, true, true, false, false, false] (by kernel_rfl) ?_
      simp only [Act.put, List.setIfInBounds_toArray, List.set_cons_zero, List.set_cons_succ]
      refine Held.wpAnyG_take (i := 3) (v := (.pointer (some ⟨h, o, none⟩))) rfl (by kernel_rfl) (by kernel_rfl) (by kernel_rfl) (fun _ _ _ h => h) HSS.out (by first | (with_reducible rfl) | (simp [Region.wanted, yielded, Act.put]; done) | rfl) (fun W h => by go_simp) (some 15) rfl #[true, true, true, true, false, false] (by kernel_rfl) ?_
      simp only [Act.put, List.setIfInBounds_toArray, List.set_cons_zero, List.set_cons_succ]
      refine Held.wpAnyG_take (i := 4) (v := (.pointer (some ⟨h, o + 4, none⟩))) rfl (by kernel_rfl) (by kernel_rfl) (by kernel_rfl) (fun _ _ _ h => h) HSS.out (by first | (with_reducible rfl) | (simp [Region.wanted, yielded, Act.put]; done) | rfl) (fun W h => by go_simp) (some 16) rfl #[true, true, true, true, true, false] (by kernel_rfl) ?_
      simp only [Act.put, List.setIfInBounds_toArray, List.set_cons_zero, List.set_cons_succ]
      refine Held.wpAnyG_one 5 (by kernel_rfl) rfl #[true, true, true, true, true, true] (by kernel_rfl) (fun K hK => ?_)
      go_wp2_with fail
      refine hK _ _ (blk_drew (putEl_blk (W := wr) (h := h) (i := o + 4) (n := pn) H3.out HZN.out.1.symm)) ?_
      clear hK K
      refine Held.wpAnyG_done (by kernel_rfl) ?_ _
      go_upto_region 5 with (fail)
      obtain ⟨w4, hw4⟩ : ∃ w4, w4 = ((wr.setCell ⟨h, o + 4, none⟩ (.int .u64 (E pn).1)).setCell ⟨h, o + 4 + 1, none⟩ (.int .u64 (E pn).2)).drew := ⟨_, rfl⟩
      rw [← hw4]
      replace hw4 : w4 = (putEl wr h (o + 4) pn).drew := hw4
      have K3 := Aside0.mk (show w4.heap[b3]? = some (.cells #[.int .u64 (E pn).1, .int .u64 (E pn).2] 36 (0, 0)) by rw [hw4]; exact blk_drew (putEl_blk H3.out HZN.out.1.symm))
      have K4 := Aside0.mk (show w4.heap[b3 + 1]? = some (.cells #[.int .u64 0, .int .u64 0] 36 (0, 0)) by rw [hw4]; exact blk_drew (putEl_blk H4.out HZN.out.2.symm))
      have hs : w4.heap[h]? = (putEl wr h (o + 4) pn).heap[h]? := by rw [hw4]; rfl
      have KC := Aside0.mk ((putEl_cells (i := o + 4) pn HCC.out (by have := HO.out; omega)).same hs)
      have KE := Aside0.mk (show ∀ j, j < 3 → ElAt w4 h (o + 2 * posI j) (powI n j) from fun j hj => by
        by_cases hjm : j = 2
        · subst hjm
          have h1 := (putEl_at (i := o + 4) pn HCC.out (by have := HO.out; omega)).same hs
          rw [HPN.out] at h1
          exact h1
        · refine ElAt.same (putEl_keep (HEL.out j (by omega)) ?_) hs
          have hjj : j = 0 ∨ j = 1 := by omega
          rcases hjj with rfl | rfl <;> simp [posI])
      have KO := Aside0.mk (show ∀ i, i < o + 2 ∨ o + 32 ≤ i → w4.cell? ⟨h, i, none⟩ = W.cell? ⟨h, i, none⟩ from fun i hi => (cell_same hs i).trans ((putEl_other wr h (o + 4) pn i (by omega) (by omega)).trans (HOT.out i hi)))
      have KG := Aside0.mk (show W.grownBy w4 (some h) by rw [hw4]; exact HGR.out.trans ((putEl_grown wr h (o + 4) pn).trans (drew_grow _ _)))
      clear hw4 hs hx1 hx2 hy1 hy2 H3 H4 HCC HEL HOT HGR HSS
      have hk0 := blk_cell K3.out 0
      have hk1 := blk_cell K3.out 1
      simp at hk0 hk1
      go_wp2_with fail
      (with_reducible refine (next_calls pn HPL.out _).mono ?_)
      rintro e w5 ⟨rfl, hb5⟩
      have J3 := Aside0.mk (blk_below K3.out hb5)
      have J4 := Aside0.mk (blk_below K4.out hb5)
      have hhw : h < w4.heap.size := Nat.lt_of_lt_of_le HH.out KG.out.size
      have hs5 := hb5.block h hhw
      have JC := Aside0.mk (KC.out.same hs5)
      have JE := Aside0.mk (show ∀ j, j < 3 → ElAt w5 h (o + 2 * posI j) (powI n j) from fun j hj => (KE.out j hj).same hs5)
      have JO := Aside0.mk (show ∀ i, i < o + 2 ∨ o + 32 ≤ i → w5.cell? ⟨h, i, none⟩ = W.cell? ⟨h, i, none⟩ from fun i hi => (cell_same hs5 i).trans (KO.out i hi))
      have JG := Aside0.mk (KG.out.trans (grown_of_below hb5 (some h)))
      have hk0 := blk_cell J3.out 0
      have hk1 := blk_cell J3.out 1
      have hm0 := blk_frozen J3.out 0
      have hm1 := blk_frozen J3.out 1
      simp at hk0 hk1
      clear hb5 hhw hs5 K3 K4 KC KE KO KG
      go_wp2_with fail
      go_roundw
      case measure => simp [intOf, bitI]
      case rel => exact ⟨3, by omega, rfl, ⟨by rw [show powI n 3 = nx pn by rw [HPN.out]; rfl]; exact putEl_set J3.out, putEl_blk J4.out (by omega), JC.out.same (putEl_self _ _ _ _ _ HZN.out.1), fun j hj => (JE.out j hj).same (putEl_self _ _ _ _ _ HZN.out.1), fun i hi => (cell_same (putEl_self _ _ _ _ _ HZN.out.1) i).trans (JO.out i hi), grown_new JG.out (putEl_grown _ b3 0 _) HB3.out⟩⟩
    · obtain ⟨h3, h4, hc, hel, hot, hgr⟩ := HI.out
      obtain ⟨pn, hpn⟩ : ∃ pn, pn = powI n 3 := ⟨_, rfl⟩
      have hpl : pn < top := by rw [hpn]; exact powI_lt HN.out _
      rw [← hpn] at h3
      have HPN := Aside0.mk hpn
      have HPL := Aside0.mk hpl
      have H3 := Aside0.mk h3
      have H4 := Aside0.mk h4
      have HCC := Aside0.mk hc
      have HEL := Aside0.mk hel
      have HOT := Aside0.mk hot
      have HGR := Aside0.mk hgr
      have hz1 := hc (o + 2) (by have := HO.out; omega)
      have hz2 := hc (o + 2 + 1) (by have := HO.out; omega)
      obtain ⟨⟨v1, hx1⟩, hy1⟩ := hz1
      obtain ⟨⟨v2, hx2⟩, hy2⟩ := hz2
      clear HI hpn hpl h3 h4 hc hel hot hgr
      rw [show bitI 3 = 1 from rfl]
      go_upto_region 4 with (fail)
      have HSS := Aside0.mk (show (fun W1 : World => W1.heap[b3]? = some (.cells #[.int .u64 (E pn).1, .int .u64 (E pn).2] 36 (0, 0))) wr.drew from blk_drew H3.out)
      refine Held.wp_region_G (S := (fun W1 : World => W1.heap[b3]? = some (.cells #[.int .u64 (E pn).1, .int .u64 (E pn).2] 36 (0, 0)))) (by kernel_rfl) ?_
      change Held.wpAnyG _ _ _ _ _ 6 _ _ _
      refine Held.wpAnyG_take (i := 0) (v := (.pointer (some ⟨h, o, none⟩))) rfl (by kernel_rfl) (by kernel_rfl) (by kernel_rfl) (fun _ _ _ h => h) HSS.out (by first | (with_reducible rfl) | (simp [Region.wanted, yielded, Act.put]; done) | rfl) (fun W h => by go_simp) (some 12) rfl #[true, false, false, false, false, false] (by kernel_rfl) ?_
      simp only [Act.put, List.setIfInBounds_toArray, List.set_cons_zero, List.set_cons_succ]
      refine Held.wpAnyG_take (i := 1) (v := (.int .i64 1)) rfl (by kernel_rfl) (by kernel_rfl) (by kernel_rfl) (fun _ _ _ h => h) HSS.out (by first | (with_reducible rfl) | (simp [Region.wanted, yielded, Act.put]; done) | rfl) (fun W h => by go_simp) (some 13) rfl #[true, true, false, false, false, false] (by kernel_rfl) ?_
      simp only [Act.put, List.setIfInBounds_toArray, List.set_cons_zero, List.set_cons_succ]
      refine Held.wpAnyG_take (i := 2) (v := (el pn)) rfl (by kernel_rfl) (by kernel_rfl) (by kernel_rfl) (fun _ _ _ h => h) HSS.out (by first | (with_reducible rfl) | (simp [Region.wanted, yielded, Act.put]; done) | rfl) (fun W h => Held.run_load_arr 36 (.tmp 3) rfl b3 rfl 36 _ _ _ h Try.underlying36 rfl (by kernel_rfl)) (some 14) rfl #[true, true, true, false, false, false] (by kernel_rfl) ?_
      simp only [Act.put, List.setIfInBounds_toArray, List.set_cons_zero, List.set_cons_succ]
      refine Held.wpAnyG_take (i := 3) (v := (.pointer (some ⟨h, o, none⟩))) rfl (by kernel_rfl) (by kernel_rfl) (by kernel_rfl) (fun _ _ _ h => h) HSS.out (by first | (with_reducible rfl) | (simp [Region.wanted, yielded, Act.put]; done) | rfl) (fun W h => by go_simp) (some 15) rfl #[true, true, true, true, false, false] (by kernel_rfl) ?_
      simp only [Act.put, List.setIfInBounds_toArray, List.set_cons_zero, List.set_cons_succ]
      refine Held.wpAnyG_take (i := 4) (v := (.pointer (some ⟨h, o + 2, none⟩))) rfl (by kernel_rfl) (by kernel_rfl) (by kernel_rfl) (fun _ _ _ h => h) HSS.out (by first | (with_reducible rfl) | (simp [Region.wanted, yielded, Act.put]; done) | rfl) (fun W h => by go_simp) (some 16) rfl #[true, true, true, true, true, false] (by kernel_rfl) ?_
      simp only [Act.put, List.setIfInBounds_toArray, List.set_cons_zero, List.set_cons_succ]
      refine Held.wpAnyG_one 5 (by kernel_rfl) rfl #[true, true, true, true, true, true] (by kernel_rfl) (fun K hK => ?_)
      go_wp2_with fail
      refine hK _ _ (blk_drew (putEl_blk (W := wr) (h := h) (i := o + 2) (n := pn) H3.out HZN.out.1.symm)) ?_
      clear hK K
      refine Held.wpAnyG_done (by kernel_rfl) ?_ _
      go_upto_region 5 with (fail)
      obtain ⟨w4, hw4⟩ : ∃ w4, w4 = ((wr.setCell ⟨h, o + 2, none⟩ (.int .u64 (E pn).1)).setCell ⟨h, o + 2 + 1, none⟩ (.int .u64 (E pn).2)).drew := ⟨_, rfl⟩
      rw [← hw4]
      replace hw4 : w4 = (putEl wr h (o + 2) pn).drew := hw4
      have K3 := Aside0.mk (show w4.heap[b3]? = some (.cells #[.int .u64 (E pn).1, .int .u64 (E pn).2] 36 (0, 0)) by rw [hw4]; exact blk_drew (putEl_blk H3.out HZN.out.1.symm))
      have K4 := Aside0.mk (show w4.heap[b3 + 1]? = some (.cells #[.int .u64 0, .int .u64 0] 36 (0, 0)) by rw [hw4]; exact blk_drew (putEl_blk H4.out HZN.out.2.symm))
      have hs : w4.heap[h]? = (putEl wr h (o + 2) pn).heap[h]? := by rw [hw4]; rfl
      have KC := Aside0.mk ((putEl_cells (i := o + 2) pn HCC.out (by have := HO.out; omega)).same hs)
      have KE := Aside0.mk (show ∀ j, j < 4 → ElAt w4 h (o + 2 * posI j) (powI n j) from fun j hj => by
        by_cases hjm : j = 3
        · subst hjm
          have h1 := (putEl_at (i := o + 2) pn HCC.out (by have := HO.out; omega)).same hs
          rw [HPN.out] at h1
          exact h1
        · refine ElAt.same (putEl_keep (HEL.out j (by omega)) ?_) hs
          have hjj : j = 0 ∨ j = 1 ∨ j = 2 := by omega
          rcases hjj with rfl | rfl | rfl <;> simp [posI])
      have KO := Aside0.mk (show ∀ i, i < o + 2 ∨ o + 32 ≤ i → w4.cell? ⟨h, i, none⟩ = W.cell? ⟨h, i, none⟩ from fun i hi => (cell_same hs i).trans ((putEl_other wr h (o + 2) pn i (by omega) (by omega)).trans (HOT.out i hi)))
      have KG := Aside0.mk (show W.grownBy w4 (some h) by rw [hw4]; exact HGR.out.trans ((putEl_grown wr h (o + 2) pn).trans (drew_grow _ _)))
      clear hw4 hs hx1 hx2 hy1 hy2 H3 H4 HCC HEL HOT HGR HSS
      have hk0 := blk_cell K3.out 0
      have hk1 := blk_cell K3.out 1
      simp at hk0 hk1
      go_wp2_with fail
      (with_reducible refine (next_calls pn HPL.out _).mono ?_)
      rintro e w5 ⟨rfl, hb5⟩
      have J3 := Aside0.mk (blk_below K3.out hb5)
      have J4 := Aside0.mk (blk_below K4.out hb5)
      have hhw : h < w4.heap.size := Nat.lt_of_lt_of_le HH.out KG.out.size
      have hs5 := hb5.block h hhw
      have JC := Aside0.mk (KC.out.same hs5)
      have JE := Aside0.mk (show ∀ j, j < 4 → ElAt w5 h (o + 2 * posI j) (powI n j) from fun j hj => (KE.out j hj).same hs5)
      have JO := Aside0.mk (show ∀ i, i < o + 2 ∨ o + 32 ≤ i → w5.cell? ⟨h, i, none⟩ = W.cell? ⟨h, i, none⟩ from fun i hi => (cell_same hs5 i).trans (KO.out i hi))
      have JG := Aside0.mk (KG.out.trans (grown_of_below hb5 (some h)))
      have hk0 := blk_cell J3.out 0
      have hk1 := blk_cell J3.out 1
      have hm0 := blk_frozen J3.out 0
      have hm1 := blk_frozen J3.out 1
      simp at hk0 hk1
      clear hb5 hhw hs5 K3 K4 KC KE KO KG
      go_wp2_with fail
      go_roundw
      case measure => simp [intOf, bitI]
      case rel => exact ⟨4, by omega, rfl, ⟨by rw [show powI n 4 = nx pn by rw [HPN.out]; rfl]; exact putEl_set J3.out, putEl_blk J4.out (by omega), JC.out.same (putEl_self _ _ _ _ _ HZN.out.1), fun j hj => (JE.out j hj).same (putEl_self _ _ _ _ _ HZN.out.1), fun i hi => (cell_same (putEl_self _ _ _ _ _ HZN.out.1) i).trans (JO.out i hi), grown_new JG.out (putEl_grown _ b3 0 _) HB3.out⟩⟩
    · obtain ⟨h3, h4, hc, hel, hot, hgr⟩ := HI.out
      have HJ := Aside0.mk (show Inv2 W wr h o n b3 0 from ⟨h3, h4, hc, fun j hj hj16 => by
        have h0 : ElAt wr h (o + 0 * 2) (ent n 0) := by
          have hz := HZ.out
          rw [show ent n 0 = 0 by simp [ent]]
          exact ⟨(hot o (by omega)).trans hz.1, (hot (o + 1) (by omega)).trans hz.2⟩
        have h8 : ElAt wr h (o + 8 * 2) (ent n 8) := by have := hel 0 (by omega); simpa [ent, powI, posI] using this
        have h4' : ElAt wr h (o + 4 * 2) (ent n 4) := by have := hel 1 (by omega); simpa [ent, powI, posI] using this
        have h2 : ElAt wr h (o + 2 * 2) (ent n 2) := by have := hel 2 (by omega); simpa [ent, powI, posI] using this
        have h1 : ElAt wr h (o + 1 * 2) (ent n 1) := by have := hel 3 (by omega); simpa [ent, powI, posI] using this
        have hjj : j = 0 ∨ j = 1 ∨ j = 2 ∨ j = 4 ∨ j = 8 := by omega
        rcases hjj with rfl | rfl | rfl | rfl | rfl <;> assumption, fun i hi => hot i (by omega), hgr⟩)
      clear HI h3 h4 hc hel hot hgr
      rw [show bitI 4 = 0 from rfl]
      go_wp2_with fail
      go_loopw [19] (fun v19 wr => ∃ i : Nat, i ≤ 16 ∧ v19 = .int .i64 i ∧ Aside0 (Inv2 W wr h o n b3 i)) (fun v19 _ => 16 - (intOf v19).toNat)
      case atStart => exact ⟨0, by omega, rfl, HJ⟩
      case round =>
        clear HJ
        obtain ⟨i, hi, rfl, HI⟩ := hrel
        by_cases hlt : i < 16
        · have hneg : wrap64 (-(i : Int)) = -(i : Int) := by unfold wrap64; omega
          have hand := and_neg i hlt
          have hlb := lb_le i
          obtain ⟨lo, hlo⟩ : ∃ lo, lo = lb i := ⟨_, rfl⟩
          rw [← hlo] at hand hlb
          have HLO := Aside0.mk hlo
          clear hlo
          by_cases hli : lo = i
          · have hne : ((lo : Int) != (i : Int)) = false := by rw [hli]; exact bne_self_eq_false _
            have hne2 : (lo != i) = false := by rw [hli]; exact bne_self_eq_false _
            have HP2 := Aside0.mk (lb_pow i hlt (by rw [← HLO.out]; exact hli))
            clear hli hlb
            go_wp2_with fail
            go_roundw
            case measure => simp [intOf]; omega
            case rel =>
              obtain ⟨h3, h4, hc, hel, hot, hgr⟩ := HI.out
              exact ⟨i + 1, by omega, by go_num, ⟨h3, h4, hc, fun j hj hj16 => hel j (by have := HP2.out; omega) hj16, hot, hgr⟩⟩
          · have hl4 := lb_four i hlt (by rw [← HLO.out]; exact hli)
            rw [← HLO.out] at hl4
            obtain ⟨d, hd⟩ : ∃ d, i = lo + d := ⟨i - lo, by omega⟩
            have hne : ((lo : Int) != (i : Int)) = true := bne_iff_ne.mpr (by omega)
            have hne2 : (lo != i) = true := bne_iff_ne.mpr hli
            have hsub : (i : Int) - (lo : Int) = (d : Int) := by omega
            obtain ⟨h3, h4, hc, hel, hot, hgr⟩ := HI.out
            have HE1 := Aside0.mk (hel lo (by omega) (by omega))
            have HE2 := Aside0.mk (hel d (by omega) (by omega))
            have HENT := Aside0.mk (show ent n lo ^^^ ent n d = ent n i by have h9 := ent_split n i hlt d (by rw [← HLO.out]; exact hd) (by rw [← HLO.out]; exact hli); rw [← HLO.out] at h9; exact h9)
            have hwd : IntKind.i64.wrap (d : Int) = (d : Int) := by simp [IntKind.wrap, IntKind.bits, IntKind.signed]; omega
            have hz1 := hc (o + i * 2) (by have := HO.out; omega)
            have hz2 := hc (o + i * 2 + 1) (by have := HO.out; omega)
            have HL1 := Aside0.mk (ent_lt HN.out lo)
            have HL2 := Aside0.mk (ent_lt HN.out d)
            have HHW := Aside0.mk (Nat.lt_of_lt_of_le HH.out hgr.size)
            have HI16 := Aside0.mk hlt
            have q1 : (0 : Int) ≤ (lo : Int) ∧ (lo : Int) < 16 := by omega
            have q2 : (0 : Int) ≤ (d : Int) ∧ (d : Int) < 16 := by omega
            have q3 : (0 : Int) ≤ (i : Int) ∧ (i : Int) < 16 := by omega
            have q4 : (lo : Int) < 16 := by omega
            have q5 : (d : Int) < 16 := by omega
            have q6 : (i : Int) < 16 := by omega
            have HD := Aside0.mk hd
            have HLO1 := Aside0.mk hl4.1
            have HLO2 := Aside0.mk hli
            clear hli hlb hd h3 h4 hc hel hot hgr hl4
            go_upto_region 11 with (fail)
            have HSS := Aside0.mk (show (fun W1 : World => ElAt W1 h (o + lo * 2) (ent n lo) ∧ ElAt W1 h (o + d * 2) (ent n d)) wr.drew from ⟨HE1.out.same rfl, HE2.out.same rfl⟩)
            refine Held.wp_region_G (S := (fun W1 : World => ElAt W1 h (o + lo * 2) (ent n lo) ∧ ElAt W1 h (o + d * 2) (ent n d))) (by kernel_rfl) ?_
            change Held.wpAnyG _ _ _ _ _ 19 _ _ _
            refine Held.wpAnyG_take (i := 0) (v := (.pointer (some ⟨h, o, none⟩))) rfl (by kernel_rfl) (by kernel_rfl) (by kernel_rfl) (fun _ _ _ h => h) HSS.out (by first | (with_reducible rfl) | (simp [Region.wanted, yielded, Act.put]; done) | rfl) (fun W h => by go_simp) (some 29) rfl #[true, false, false, false, false, false, false, false, false, false, false, false, false, false, false, false, false, false, false] (by kernel_rfl) ?_
            simp only [Act.put, List.setIfInBounds_toArray, List.set_cons_zero, List.set_cons_succ]
            refine Held.wpAnyG_take (i := 1) (v := (.int .i64 (i : Int))) rfl (by kernel_rfl) (by kernel_rfl) (by kernel_rfl) (fun _ _ _ h => h) HSS.out (by first | (with_reducible rfl) | (simp [Region.wanted, yielded, Act.put]; done) | rfl) (fun W h => by go_simp) (some 30) rfl #[true, true, false, false, false, false, false, false, false, false, false, false, false, false, false, false, false, false, false] (by kernel_rfl) ?_
            simp only [Act.put, List.setIfInBounds_toArray, List.set_cons_zero, List.set_cons_succ]
            refine Held.wpAnyG_take (i := 2) (v := (.pointer (some ⟨h, o, none⟩))) rfl (by kernel_rfl) (by kernel_rfl) (by kernel_rfl) (fun _ _ _ h => h) HSS.out (by first | (with_reducible rfl) | (simp [Region.wanted, yielded, Act.put]; done) | rfl) (fun W h => by go_simp) (some 31) rfl #[true, true, true, false, false, false, false, false, false, false, false, false, false, false, false, false, false, false, false] (by kernel_rfl) ?_
            simp only [Act.put, List.setIfInBounds_toArray, List.set_cons_zero, List.set_cons_succ]
            refine Held.wpAnyG_take (i := 3) (v := (.int .i64 (lo : Int))) rfl (by kernel_rfl) (by kernel_rfl) (by kernel_rfl) (fun _ _ _ h => h) HSS.out (by first | (with_reducible rfl) | (simp [Region.wanted, yielded, Act.put]; done) | rfl) (fun W h => by go_simp) (some 32) rfl #[true, true, true, true, false, false, false, false, false, false, false, false, false, false, false, false, false, false, false] (by kernel_rfl) ?_
            simp only [Act.put, List.setIfInBounds_toArray, List.set_cons_zero, List.set_cons_succ]
            refine Held.wpAnyG_take (i := 4) (v := (.pointer (some ⟨h, o, none⟩))) rfl (by kernel_rfl) (by kernel_rfl) (by kernel_rfl) (fun _ _ _ h => h) HSS.out (by first | (with_reducible rfl) | (simp [Region.wanted, yielded, Act.put]; done) | rfl) (fun W h => by go_simp) (some 33) rfl #[true, true, true, true, true, false, false, false, false, false, false, false, false, false, false, false, false, false, false] (by kernel_rfl) ?_
            simp only [Act.put, List.setIfInBounds_toArray, List.set_cons_zero, List.set_cons_succ]
            refine Held.wpAnyG_take (i := 5) (v := (.pointer (some ⟨h, o + lo * 2, none⟩))) rfl (by kernel_rfl) (by kernel_rfl) (by kernel_rfl) (fun _ _ _ h => h) HSS.out (by first | (with_reducible rfl) | (simp [Region.wanted, yielded, Act.put]; done) | rfl) (fun W h => by go_simp) (some 34) rfl #[true, true, true, true, true, true, false, false, false, false, false, false, false, false, false, false, false, false, false] (by kernel_rfl) ?_
            simp only [Act.put, List.setIfInBounds_toArray, List.set_cons_zero, List.set_cons_succ]
            refine Held.wpAnyG_take (i := 6) (v := (el (ent n lo))) rfl (by kernel_rfl) (by kernel_rfl) (by kernel_rfl) (fun _ _ _ h => h) HSS.out (by first | (with_reducible rfl) | (simp [Region.wanted, yielded, Act.put]; done) | rfl) (fun W hs => Held.run_load_of 36 (.tmp 34) rfl ⟨h, o + lo * 2, none⟩ rfl (load_elP hs.1.1 hs.1.2)) (some 35) rfl #[true, true, true, true, true, true, true, false, false, false, false, false, false, false, false, false, false, false, false] (by kernel_rfl) ?_
            simp only [Act.put, List.setIfInBounds_toArray, List.set_cons_zero, List.set_cons_succ]
            refine Held.wpAnyG_take (i := 7) (v := (.pointer (some ⟨h, o, none⟩))) rfl (by kernel_rfl) (by kernel_rfl) (by kernel_rfl) (fun _ _ _ h => h) HSS.out (by first | (with_reducible rfl) | (simp [Region.wanted, yielded, Act.put]; done) | rfl) (fun W h => by go_simp) (some 36) rfl #[true, true, true, true, true, true, true, true, false, false, false, false, false, false, false, false, false, false, false] (by kernel_rfl) ?_
            simp only [Act.put, List.setIfInBounds_toArray, List.set_cons_zero, List.set_cons_succ]
            refine Held.wpAnyG_take (i := 8) (v := (.int .i64 (i : Int))) rfl (by kernel_rfl) (by kernel_rfl) (by kernel_rfl) (fun _ _ _ h => h) HSS.out (by first | (with_reducible rfl) | (simp [Region.wanted, yielded, Act.put]; done) | rfl) (fun W h => by go_simp) (some 37) rfl #[true, true, true, true, true, true, true, true, true, false, false, false, false, false, false, false, false, false, false] (by kernel_rfl) ?_
            simp only [Act.put, List.setIfInBounds_toArray, List.set_cons_zero, List.set_cons_succ]
            refine Held.wpAnyG_take (i := 9) (v := (.int .i64 (lo : Int))) rfl (by kernel_rfl) (by kernel_rfl) (by kernel_rfl) (fun _ _ _ h => h) HSS.out (by first | (with_reducible rfl) | (simp [Region.wanted, yielded, Act.put]; done) | rfl) (fun W h => by go_simp) (some 38) rfl #[true, true, true, true, true, true, true, true, true, true, false, false, false, false, false, false, false, false, false] (by kernel_rfl) ?_
            simp only [Act.put, List.setIfInBounds_toArray, List.set_cons_zero, List.set_cons_succ]
            refine Held.wpAnyG_take (i := 10) (v := (.int .i64 (d : Int))) rfl (by kernel_rfl) (by kernel_rfl) (by kernel_rfl) (fun _ _ _ h => h) HSS.out (by first | (with_reducible rfl) | (simp [Region.wanted, yielded, Act.put]; done) | rfl) (fun W h => by go_simp) (some 39) rfl #[true, true, true, true, true, true, true, true, true, true, true, false, false, false, false, false, false, false, false] (by kernel_rfl) ?_
            simp only [Act.put, List.setIfInBounds_toArray, List.set_cons_zero, List.set_cons_succ]
            refine Held.wpAnyG_take (i := 11) (v := (.pointer (some ⟨h, o, none⟩))) rfl (by kernel_rfl) (by kernel_rfl) (by kernel_rfl) (fun _ _ _ h => h) HSS.out (by first | (with_reducible rfl) | (simp [Region.wanted, yielded, Act.put]; done) | rfl) (fun W h => by go_simp) (some 40) rfl #[true, true, true, true, true, true, true, true, true, true, true, true, false, false, false, false, false, false, false] (by kernel_rfl) ?_
            simp only [Act.put, List.setIfInBounds_toArray, List.set_cons_zero, List.set_cons_succ]
            refine Held.wpAnyG_take (i := 12) (v := (.pointer (some ⟨h, o + d * 2, none⟩))) rfl (by kernel_rfl) (by kernel_rfl) (by kernel_rfl) (fun _ _ _ h => h) HSS.out (by first | (with_reducible rfl) | (simp [Region.wanted, yielded, Act.put]; done) | rfl) (fun W h => by go_simp) (some 41) rfl #[true, true, true, true, true, true, true, true, true, true, true, true, true, false, false, false, false, false, false] (by kernel_rfl) ?_
            simp only [Act.put, List.setIfInBounds_toArray, List.set_cons_zero, List.set_cons_succ]
            refine Held.wpAnyG_take (i := 13) (v := (el (ent n d))) rfl (by kernel_rfl) (by kernel_rfl) (by kernel_rfl) (fun _ _ _ h => h) HSS.out (by first | (with_reducible rfl) | (simp [Region.wanted, yielded, Act.put]; done) | rfl) (fun W hs => Held.run_load_of 36 (.tmp 41) rfl ⟨h, o + d * 2, none⟩ rfl (load_elP hs.2.1 hs.2.2)) (some 42) rfl #[true, true, true, true, true, true, true, true, true, true, true, true, true, true, false, false, false, false, false] (by kernel_rfl) ?_
            simp only [Act.put, List.setIfInBounds_toArray, List.set_cons_zero, List.set_cons_succ]
            refine Held.wpAnyG_take (i := 16) (v := (.pointer (some ⟨h, o, none⟩))) rfl (by kernel_rfl) (by kernel_rfl) (by kernel_rfl) (fun _ _ _ h => h) HSS.out (by first | (with_reducible rfl) | (simp [Region.wanted, yielded, Act.put]; done) | rfl) (fun W h => by go_simp) (some 45) rfl #[true, true, true, true, true, true, true, true, true, true, true, true, true, true, false, false, true, false, false] (by kernel_rfl) ?_
            simp only [Act.put, List.setIfInBounds_toArray, List.set_cons_zero, List.set_cons_succ]
            have hbe : Below wr.heap.size wr (wr.alloc (.cells #[.int .u64 (E (ent n lo)).1, .int .u64 (E (ent n lo)).2, .int .u64 (E (ent n d)).1, .int .u64 (E (ent n d)).2] 36)).drew := below_drew (below_alloc (Below.refl wr.heap.size wr) (.cells #[.int .u64 (E (ent n lo)).1, .int .u64 (E (ent n lo)).2, .int .u64 (E (ent n d)).1, .int .u64 (E (ent n d)).2] 36))
            have HBE := Aside0.mk hbe
            clear hbe
            refine Held.wpAnyG_one 14 (by kernel_rfl) rfl #[true, true, true, true, true, true, true, true, true, true, true, true, true, true, true, false, true, false, false] (by kernel_rfl) (fun K hK => ?_)
            go_wp2_with fail
            refine hK _ _ ⟨HE1.out.same (HBE.out.block h HHW.out), HE2.out.same (HBE.out.block h HHW.out)⟩ ?_
            clear hK K
            refine Held.wpAnyG_one 15 (by kernel_rfl) rfl #[true, true, true, true, true, true, true, true, true, true, true, true, true, true, true, true, true, false, false] (by kernel_rfl) (fun K hK => ?_)
            go_wp2_with fail
            (with_reducible refine (sum_calls (ent n lo) (ent n d) HL1.out HL2.out _ _ 36 (blk_drew (blk_new wr (.cells #[.int .u64 (E (ent n lo)).1, .int .u64 (E (ent n lo)).2, .int .u64 (E (ent n d)).1, .int .u64 (E (ent n d)).2] 36)))).mono ?_)
            rintro e w5 ⟨rfl, hb5⟩
            rw [HENT.out]
            have HB5 := Aside0.mk (HBE.out.trans (hb5.mono HBE.out.size))
            clear hb5
            go_wp2_with fail
            refine hK _ _ ⟨HE1.out.same (HB5.out.block h HHW.out), HE2.out.same (HB5.out.block h HHW.out)⟩ ?_
            clear hK K
            have HSS := Aside0.mk (show (fun W1 : World => ElAt W1 h (o + lo * 2) (ent n lo) ∧ ElAt W1 h (o + d * 2) (ent n d)) w5 from ⟨HE1.out.same (HB5.out.block h HHW.out), HE2.out.same (HB5.out.block h HHW.out)⟩)
            refine Held.wpAnyG_take (i := 17) (v := (.pointer (some ⟨h, o + i * 2, none⟩))) rfl (by kernel_rfl) (by kernel_rfl) (by kernel_rfl) (fun _ _ _ h => h) HSS.out (by first | (with_reducible rfl) | (simp [Region.wanted, yielded, Act.put]; done) | rfl) (fun W h => by go_simp) (some 46) rfl #[true, true, true, true, true, true, true, true, true, true, true, true, true, true, true, true, true, true, false] (by kernel_rfl) ?_
            simp only [Act.put, List.setIfInBounds_toArray, List.set_cons_zero, List.set_cons_succ]
            obtain ⟨⟨v1, hx1⟩, hy1⟩ := hz1
            obtain ⟨⟨v2, hx2⟩, hy2⟩ := hz2
            have hs5 := HB5.out.block h HHW.out
            have hx1 := (cell_same hs5 (o + i * 2)).trans hx1
            have hx2 := (cell_same hs5 (o + i * 2 + 1)).trans hx2
            have hy1 := (frozen_same hs5 (o + i * 2)).trans hy1
            have hy2 := (frozen_same hs5 (o + i * 2 + 1)).trans hy2
            clear hs5
            refine Held.wpAnyG_one 18 (by kernel_rfl) rfl #[true, true, true, true, true, true, true, true, true, true, true, true, true, true, true, true, true, true, true] (by kernel_rfl) (fun K hK => ?_)
            go_wp2_with fail
            have hlo0 : 1 ≤ lo := by have := HLO1.out; omega
            have hdd := HD.out
            refine hK _ _ (show ElAt (putEl w5 h (o + i * 2) (ent n i)) h (o + lo * 2) (ent n lo) ∧ ElAt (putEl w5 h (o + i * 2) (ent n i)) h (o + d * 2) (ent n d) from ⟨putEl_keep (HE1.out.same (HB5.out.block h HHW.out)) (by have := HLO2.out; omega), putEl_keep (HE2.out.same (HB5.out.block h HHW.out)) (by omega)⟩) ?_
            clear hK K hlo0 hdd
            refine Held.wpAnyG_done (by kernel_rfl) ?_ _
            go_wp2_with fail
            go_roundw
            case measure => simp [intOf]; omega
            case rel =>
              obtain ⟨h3, h4, hc, hel, hot, hgr⟩ := HI.out
              have hs := HB5.out.block h HHW.out
              have hi5 := HI16.out
              refine ⟨i + 1, by omega, by go_num, ?_⟩
              change Aside0 (Inv2 W (putEl w5 h (o + i * 2) (ent n i)) h o n b3 (i + 1))
              refine ⟨putEl_blk (blk_below h3 HB5.out) HZN.out.1.symm, putEl_blk (blk_below h4 HB5.out) HZN.out.2.symm, putEl_cells _ (hc.same hs) (by have := HO.out; omega), fun j hj hj16 => ?_, fun q hq => ((putEl_other w5 h (o + i * 2) _ q (by omega) (by omega)).trans (cell_same hs q)).trans (hot q hq), (hgr.trans (grown_of_below HB5.out _)).trans (putEl_grown _ _ _ _)⟩
              by_cases hji : j = i
              · subst hji; exact putEl_at _ (hc.same hs) (by have := HO.out; omega)
              · exact putEl_keep ((hel j (by omega) hj16).same hs) (by omega)
        · obtain rfl : i = 16 := by omega
          obtain ⟨h3, h4, hc, hel, hot, hgr⟩ := HI.out
          have H3 := Aside0.mk h3
          have H4 := Aside0.mk h4
          have hk0 := blk_cell h3 0
          have hk1 := blk_cell h3 1
          have hj0 := blk_cell h4 0
          have hj1 := blk_cell h4 1
          have hm0 := blk_frozen h4 0
          have hm1 := blk_frozen h4 1
          simp at hk0 hk1 hj0 hj1
          clear h3 h4 hc hel hot hgr hlt hi
          go_wp2_with fail
          have hfin := putEl_set (n := nx (nx (nx (nx n)))) H4.out
          obtain ⟨h3, h4, hc, hel, hot, hgr⟩ := HI.out
          have hsx := putEl_self wr h 0 (nx (nx (nx (nx n)))) (b3 + 1) HZN.out.2
          refine bodyPost_ret (results_cell_row rfl _ _ (b3 + 1) 36 _ (0, 0) _ rfl hfin Try.underlying36 rfl (by kernel_rfl)) rfl ⟨rfl, hc.same hsx, fun j hj => (hel j (by omega) hj).same hsx, fun q hq => (cell_same hsx q).trans (hot q hq), grown_new hgr (putEl_grown wr (b3 + 1) 0 _) (by have := HB3.out; omega)⟩
end Go.Proofs.Ytmhmmmkpijbbiab.Gh
