/- ghash: the product with the key. Written by wip/gen/ghtimes.py. -/
import Derived.Test.YtmhmmmkpijbbiabGhMake
namespace Go.Proofs.Ytmhmmmkpijbbiab.Gh
open Go.RowKit Go.Proofs.YtmhmmmkpijbbiabW.PrintWords Go.Proofs.YtmhmmmkpijbbiabW.PrintLast Go.Proofs.YtmhmmmkpijbbiabW.PrintMore Go.Proofs.Ytmhmmmkpijbbiab.X Go.Proofs.Ytmhmmmkpijbbiab.M Go.Proofs.Ytmhmmmkpijbbiab.Bv Go.Proofs.Ytmhmmmkpijbbiab.Gf
attribute [local go_sem] max2_int min2_int max_two min_two max_three min_three max_four min_four
set_option linter.unusedVariables false
set_option linter.unusedSimpArgs false
/-- A hash at block h, of the key n; is its table made? -/
structure HashAt (W : World) (h n : Nat) (d : Bool) : Prop where
  lt : h < W.heap.size
  c : HCells W h
  k : ElAt W h 0 n
  l : W.cell? ⟨h, 3, none⟩ = some (.int .i32 0)
  s : if d = true then (W.cell? ⟨h, 2, none⟩ = some (.int .u32 1) ∧ W.cell? ⟨h, 5, none⟩ = some (.int .i64 1) ∧ Tab W h n 32) else (W.cell? ⟨h, 2, none⟩ = some (.int .u32 0) ∧ W.cell? ⟨h, 5, none⟩ = some (.int .i64 0) ∧ Nul W h 0)
theorem HashAt.same {W W' : World} {h n : Nat} {d : Bool} (hh : HashAt W h n d) (hs : W'.heap[h]? = W.heap[h]?) : HashAt W' h n d := by
  have hl : h < W'.heap.size := by
    have h1 := hh.lt
    rcases Nat.lt_or_ge h W'.heap.size with h2 | h2
    · exact h2
    · rw [Array.getElem?_eq_none h2] at hs
      rw [Array.getElem?_eq_getElem h1] at hs
      cases hs
  refine ⟨hl, hh.c.same hs, hh.k.same hs, (cell_same hs 3).trans hh.l, ?_⟩
  have h1 := hh.s
  cases d with
  | true => exact ⟨(cell_same hs 2).trans h1.1, (cell_same hs 5).trans h1.2.1, fun r hr j hj => (h1.2.2 r hr j hj).same hs⟩
  | false => exact ⟨(cell_same hs 2).trans h1.1, (cell_same hs 5).trans h1.2.1, fun r h0 h32 => (h1.2.2 r h0 h32).same hs⟩
theorem HashAt.below {W W' : World} {h n : Nat} {d : Bool} (hh : HashAt W h n d) (hb : Below W.heap.size W W') : HashAt W' h n d := hh.same (hb.block h hh.lt)
theorem once_calls (W : World) (h n : Nat) (d : Bool) (hn : n < top) (hh : HashAt W h n d) :
    Calls Try.prog 37 #[.pointer (some ⟨h, 2, none⟩), .func (.func 38) #[.pointer (some ⟨h, 0, none⟩)] #[]] W fun e W' => e = .returned (.tuple #[]) ∧ HashAt W' h n true ∧ W.grownBy W' (some h) := by
  cases d with
  | true =>
    refine (do_done ⟨h, 2, none⟩ 1 (by decide) _ W hh.s.1).mono ?_
    rintro e w' ⟨rfl, rfl⟩
    exact ⟨rfl, hh, World.grownBy.refl _ _⟩
  | false =>
    have hs : W.cell? ⟨h, 2, none⟩ = some (.int .u32 0) ∧ W.cell? ⟨h, 5, none⟩ = some (.int .i64 0) ∧ Nul W h 0 := hh.s
    obtain ⟨w1, hw1⟩ : ∃ w1, w1 = W.setCell ⟨h, 3, none⟩ (.int .i32 1) := ⟨_, rfl⟩
    have ho : ∀ i, i ≠ 3 → w1.cell? ⟨h, i, none⟩ = W.cell? ⟨h, i, none⟩ := fun i hi => by rw [hw1]; exact World.cell?_setCell_other _ ⟨h, 3, none⟩ ⟨h, i, none⟩ _ (fun x => hi (congrArg Addr.off x).symm)
    have h3 : w1.cell? ⟨h, 3, none⟩ = some (.int .i32 1) := by rw [hw1]; exact World.cell?_setCell_same _ _ _ hh.l
    have hc1 : HCells w1 h := fun i hi => by
      refine ⟨?_, by rw [hw1]; simp; exact (hh.c i hi).2⟩
      by_cases hi5 : i = 3
      · subst hi5; exact ⟨_, h3⟩
      · rw [ho i hi5]; exact (hh.c i hi).1
    have hg1 : W.grownBy w1 (some h) := by rw [hw1]; exact setCell_grown W h 3 _
    have hmk := make_calls w1 h n 0 1 hn (Nat.lt_of_lt_of_le hh.lt hg1.size) hc1 ⟨(ho 0 (by omega)).trans hh.k.1, (ho 1 (by omega)).trans hh.k.2⟩ (fun r h0 h32 => ⟨(ho _ (by omega)).trans (hs.2.2 r h0 h32).1, (ho _ (by omega)).trans (hs.2.2 r h0 h32).2⟩) ((ho 5 (by omega)).trans hs.2.1) (by decide)
    rw [hw1] at hmk
    refine (do_first h W _ hs.1 hh.l (hh.c 2 (by omega)).2 (hh.c 3 (by omega)).2 hmk (fun w2 h2 => ?_)).mono ?_
    · obtain ⟨hc2, _, _, ho2, _⟩ := h2
      rw [← hw1] at ho2
      exact ⟨(ho2 2 (by omega)).trans ((ho 2 (by omega)).trans hs.1), (ho2 3 (by omega)).trans h3, (hc2 2 (by omega)).2, (hc2 3 (by omega)).2⟩
    · rintro e w' ⟨rfl, w2, ⟨hc2, ht2, h52, ho2, hg2⟩, rfl⟩
      rw [← hw1] at ho2 hg2
      have hx : ∀ i, i ≠ 2 → i ≠ 3 → ((w2.drew.setCell ⟨h, 2, none⟩ (.int .u32 1)).setCell ⟨h, 3, none⟩ (.int .i32 0)).cell? ⟨h, i, none⟩ = w2.cell? ⟨h, i, none⟩ := fun i h2 h3 => by
        rw [World.cell?_setCell_other _ ⟨h, 3, none⟩ ⟨h, i, none⟩ _ (fun x => h3 (congrArg Addr.off x).symm), World.cell?_setCell_other _ ⟨h, 2, none⟩ ⟨h, i, none⟩ _ (fun x => h2 (congrArg Addr.off x).symm)]
        simp
      have hg3 : W.grownBy ((w2.drew.setCell ⟨h, 2, none⟩ (.int .u32 1)).setCell ⟨h, 3, none⟩ (.int .i32 0)) (some h) := (hg1.trans hg2).trans ((drew_grow w2 _).trans ((setCell_grown w2.drew h 2 _).trans (setCell_grown _ h 3 _)))
      obtain ⟨v2, hv2⟩ := (hc2 2 (by omega)).1
      obtain ⟨v3, hv3⟩ := (hc2 3 (by omega)).1
      have e2 : ((w2.drew.setCell ⟨h, 2, none⟩ (.int .u32 1)).setCell ⟨h, 3, none⟩ (.int .i32 0)).cell? ⟨h, 2, none⟩ = some (.int .u32 1) := by
        rw [World.cell?_setCell_other _ ⟨h, 3, none⟩ ⟨h, 2, none⟩ _ (by simp)]
        exact World.cell?_setCell_same _ _ _ (by simpa using hv2)
      have e3 : ((w2.drew.setCell ⟨h, 2, none⟩ (.int .u32 1)).setCell ⟨h, 3, none⟩ (.int .i32 0)).cell? ⟨h, 3, none⟩ = some (.int .i32 0) :=
        World.cell?_setCell_same _ _ _ ((World.cell?_setCell_other _ ⟨h, 2, none⟩ ⟨h, 3, none⟩ _ (by simp)).trans (by simpa using hv3))
      refine ⟨rfl, ⟨Nat.lt_of_lt_of_le hh.lt hg3.size, fun i hi => ⟨?_, by simp; exact (hc2 i hi).2⟩, ⟨(hx 0 (by omega) (by omega)).trans ((ho2 0 (by omega)).trans ((ho 0 (by omega)).trans hh.k.1)), (hx 1 (by omega) (by omega)).trans ((ho2 1 (by omega)).trans ((ho 1 (by omega)).trans hh.k.2))⟩, e3, ⟨e2, (hx 5 (by omega) (by omega)).trans h52, fun r hr j hj => ⟨(hx _ (by omega) (by omega)).trans (ht2 r hr j hj).1, (hx _ (by omega) (by omega)).trans (ht2 r hr j hj).2⟩⟩⟩, hg3⟩
      by_cases hi2 : i = 2
      · subst hi2; exact ⟨_, e2⟩
      · by_cases hi3 : i = 3
        · subst hi3; exact ⟨_, e3⟩
        · rw [hx i hi2 hi3]; exact (hc2 i hi).1
/-- The nibble k of an element, from the highest on. -/
def nib (e k : Nat) : Nat := e / 2 ^ (124 - 4 * k) % 16
/-- The sum of k rows. -/
def tmK (n e : Nat) : Nat → Nat
  | 0 => 0
  | k + 1 => tmK n e k ^^^ ent (pk n k) (nib e k)
theorem tmK_lt {n : Nat} (hn : n < top) (e : Nat) : ∀ k, tmK n e k < top
  | 0 => by show 0 < top; decide
  | k + 1 => xor_lt (tmK_lt hn e k) (ent_lt (pk_lt hn k) _)
theorem tab_of {W : World} {h n : Nat} (hh : HashAt W h n true) : W.cell? ⟨h, 2, none⟩ = some (.int .u32 1) ∧ W.cell? ⟨h, 5, none⟩ = some (.int .i64 1) ∧ Tab W h n 32 := hh.s
theorem E_parts (e : Nat) : (E e).1 = ((e / 18446744073709551616 : Nat) : Int) ∧ (E e).2 = ((e % 18446744073709551616 : Nat) : Int) := ⟨rfl, rfl⟩
theorem word_hi {e k : Nat} (he : e < top) (hk : k < 16) : ∃ w : Nat, w < 18446744073709551616 ∧ (E e).1 = (w : Int) ∧ nib e k = w / 2 ^ (60 - 4 * (k % 16)) % 16 := by
  refine ⟨e / 18446744073709551616, (E_lt he).1, rfl, ?_⟩
  unfold nib
  rw [show 124 - 4 * k = 64 + (60 - 4 * (k % 16)) by omega, Nat.pow_add, ← Nat.div_div_eq_div_mul]
theorem word_lo {e k : Nat} (he : e < top) (h32 : k < 32) (hk : ¬ k < 16) : ∃ w : Nat, w < 18446744073709551616 ∧ (E e).2 = (w : Int) ∧ nib e k = w / 2 ^ (60 - 4 * (k % 16)) % 16 := by
  refine ⟨e % 18446744073709551616, (E_lt he).2, rfl, ?_⟩
  obtain ⟨s, hs⟩ : ∃ s, s = 60 - 4 * (k % 16) := ⟨_, rfl⟩
  unfold nib
  rw [show 124 - 4 * k = s by omega, ← hs]
  obtain ⟨m, hm⟩ : ∃ m, s + 4 + m = 64 := ⟨60 - s, by omega⟩
  have h1 : e / 2 ^ s % 16 = e % 2 ^ (s + 4) / 2 ^ s := by
    rw [Nat.pow_add, Nat.mod_mul_right_div_self]
  have h2 : e % 18446744073709551616 / 2 ^ s % 16 = e % 18446744073709551616 % 2 ^ (s + 4) / 2 ^ s := by
    rw [Nat.pow_add, Nat.mod_mul_right_div_self]
  rw [h1, h2, Nat.mod_mod_of_dvd]
  rw [show 18446744073709551616 = 2 ^ (s + 4 + m) by rw [hm]]
  exact Nat.pow_dvd_pow 2 (by omega)
theorem shr_nat (w s : Nat) (hs : s ≤ 64) : shr .u64 (w : Int) (s : Int) = ((w / 2 ^ s : Nat) : Int) := by
  unfold shr
  rw [Nat.min_eq_left (by simpa [IntKind.bits] using hs)]
  simp
/-- The loop of the product, behind k rows. -/
def InvT (W wr : World) (h n e b3 b5 k : Nat) : Prop := wr.heap[b3]? = some (.cells #[.int .u64 (E e).1, .int .u64 (E e).2] 36 (0, 0)) ∧ wr.heap[b3 + 1]? = some (.cells #[.int .u64 0, .int .u64 0] 36 (0, 0)) ∧ wr.heap[b5]? = some (.cells #[.int .u64 (E (tmK n e k)).1, .int .u64 (E (tmK n e k)).2] 36 (0, 0)) ∧ HashAt wr h n true ∧ W.grownBy wr (some h)
set_option maxRecDepth 100000 in
set_option maxHeartbeats 8000000 in
theorem times_calls (W : World) (h n e : Nat) (d : Bool) (hn : n < top) (he : e < top) (hh : HashAt W h n d) :
    Calls Try.prog 22 #[.pointer (some ⟨h, 0, none⟩), el e] W fun en W' => en = .returned (el (tmK n e 32)) ∧ HashAt W' h n true ∧ W.grownBy W' (some h) := by
  have HN := Aside0.mk hn
  have HE := Aside0.mk he
  have HH := Aside0.mk hh
  clear hn he hh
  have hmf : ∀ (fn : Fn) (first cap : Array Value) (w : World), (Instr.makeFunc fn first cap).run Try.prog w = .ok (.func fn first cap) w := fun _ _ _ _ => rfl
  go_enter Try.func22, Try.ntmps22
  go_upto_region 1 with (fail)
  obtain ⟨b3, hb3⟩ : ∃ b3, b3 = W.heap.size := ⟨_, rfl⟩
  obtain ⟨w1, hw1⟩ : ∃ w1, w1 = (W.alloc (.cells #[.int .u64 (E e).1, .int .u64 (E e).2] 36)).alloc (.cells #[.int .u64 0, .int .u64 0] 36) := ⟨_, rfl⟩
  rw [← hw1, ← hb3]
  have hbe : Below W.heap.size W w1 := by rw [hw1]; exact below_alloc (below_alloc (Below.refl _ _) _) _
  have H3 := Aside0.mk (show w1.heap[b3]? = some (.cells #[.int .u64 (E e).1, .int .u64 (E e).2] 36 (0, 0)) by rw [hw1, hb3]; exact blk_alloc (blk_new W _) _)
  have H4 := Aside0.mk (show w1.heap[b3 + 1]? = some (.cells #[.int .u64 0, .int .u64 0] 36 (0, 0)) by rw [hw1, hb3]; exact blk_newN (by simp) _)
  have HH1 := Aside0.mk (HH.out.below hbe)
  have HG1 := Aside0.mk (grown_of_below hbe (some h))
  have HB3 := Aside0.mk (show W.heap.size ≤ b3 by omega)
  have HZN := Aside0.mk (show h ≠ b3 ∧ h ≠ b3 + 1 by have := HH.out.lt; omega)
  clear hw1 hb3 hbe
  go_wp2_with fail
  (with_reducible refine (once_calls w1 h n d HN.out HH1.out).mono ?_)
  rintro en w2 ⟨rfl, hh2, hg2⟩
  clear hmf
  have J3 := Aside0.mk (blk_grown H3.out hg2 (fun x => HZN.out.1 (Option.some.inj x).symm))
  have J4 := Aside0.mk (blk_grown H4.out hg2 (fun x => HZN.out.2 (Option.some.inj x).symm))
  have JH := Aside0.mk hh2
  have JG := Aside0.mk (HG1.out.trans hg2)
  clear hh2 hg2 H3 H4 HH1 HG1
  go_upto_region 3 with (fail)
  obtain ⟨b5, hb5⟩ : ∃ b5, b5 = w2.heap.size := ⟨_, rfl⟩
  obtain ⟨w3, hw3⟩ : ∃ w3, w3 = w2.alloc (.cells #[.int .u64 0, .int .u64 0] 36) := ⟨_, rfl⟩
  rw [← hw3, ← hb5]
  have hbe : Below w2.heap.size w2 w3 := by rw [hw3]; exact below_alloc (Below.refl _ _) _
  have hh2 : h < w2.heap.size := JH.out.lt
  have hl3 : b3 + 1 < w2.heap.size := by
    rcases Nat.lt_or_ge (b3 + 1) w2.heap.size with h2 | h2
    · exact h2
    · have h4 := J4.out
      rw [Array.getElem?_eq_none h2] at h4
      cases h4
  have HI := Aside0.mk (show InvT W w3 h n e b3 b5 0 from ⟨blk_below J3.out hbe, blk_below J4.out hbe, by rw [hw3, show E (tmK n e 0) = (0, 0) from (show E 0 = (0, 0) by decide)]; exact blk_newN hb5.symm _, JH.out.below hbe, JG.out.trans (grown_of_below hbe _)⟩)
  have HB5 := Aside0.mk (show b3 + 1 < b5 ∧ h ≠ b5 by omega)
  clear hw3 hb5 hbe hh2 hl3 J3 J4 JH JG
  go_wp2_with fail
  go_loopw [15] (fun v15 wr => ∃ k : Nat, k ≤ 32 ∧ v15 = .int .i64 k ∧ Aside0 (InvT W wr h n e b3 b5 k)) (fun v15 _ => 32 - (intOf v15).toNat)
  case atStart => exact ⟨0, by omega, rfl, HI⟩
  case round =>
    clear HI
    obtain ⟨k, hk, rfl, HI⟩ := hrel
    by_cases hlt : k < 32
    · obtain ⟨h3, h4, h5, hh, hgr⟩ := HI.out
      have H3 := Aside0.mk h3
      have H4 := Aside0.mk h4
      have H5 := Aside0.mk h5
      have HHS := Aside0.mk hh
      have HGR := Aside0.mk hgr
      have HKL := Aside0.mk hlt
      have q1 : (0 : Int) ≤ (k : Int) ∧ (k : Int) < 32 := by omega
      have q2 : (k : Int) < 32 := by omega
      have hk0 := blk_cell H3.out 0
      have hk1 := blk_cell H3.out 1
      simp at hk0 hk1
      clear h3 h4 h5 hh hgr HI
      by_cases hk16 : k < 16
      · have q3 : (k : Int) < 16 := by omega
        go_upto_region 10 with (fail)
        obtain ⟨w, hwl, hwi, hwn⟩ := word_hi HE.out hk16
        obtain ⟨s, hs, hsi⟩ : ∃ s : Nat, s = 60 - 4 * (k % 16) ∧ 4 * (15 - (k : Int) % 16) = (s : Int) := ⟨_, rfl, by omega⟩
        rw [← hs] at hwn
        rw [hsi, hwi]
        obtain ⟨j, hj⟩ : ∃ j, j = nib e k := ⟨_, rfl⟩
        have HTM := Aside0.mk (show tmK n e k ^^^ ent (pk n k) j = tmK n e (k + 1) by rw [hj]; rfl)
        have hj16 : j < 16 := by rw [hj]; exact Nat.mod_lt _ (by decide)
        have HJ := Aside0.mk hj16
        have q6 : (j : Int) < 16 := by omega
        have q7 : (0 : Int) ≤ (j : Int) ∧ (j : Int) < 16 := by omega
        have hand : Go.bits .and .u64 ((w : Int) / 2 ^ s) 15 = (j : Int) := by
          rw [hj, hwn]
          have h9 := u64_and_nat (w / 2 ^ s) 15 (Nat.lt_of_le_of_lt (Nat.div_le_self _ _) hwl) (by decide)
          rw [show (15 : Nat) = 2 ^ 4 - 1 from rfl, Nat.and_two_pow_sub_one_eq_mod] at h9
          rw [show (((w / 2 ^ s : Nat)) : Int) = (w : Int) / 2 ^ s by simp] at h9
          exact h9
        have HS64 := Aside0.mk (show s ≤ 64 by omega)
        clear hwn hwi hs hsi hj hj16 hwl
        have HSS := Aside0.mk (show (fun W1 : World => W1.heap[b5]? = some (.cells #[.int .u64 (E (tmK n e k)).1, .int .u64 (E (tmK n e k)).2] 36 (0, 0)) ∧ HashAt W1 h n true) wr.drew from ⟨blk_drew H5.out, HHS.out.same rfl⟩)
        refine Held.wp_region_G (S := (fun W1 : World => W1.heap[b5]? = some (.cells #[.int .u64 (E (tmK n e k)).1, .int .u64 (E (tmK n e k)).2] 36 (0, 0)) ∧ HashAt W1 h n true)) (by kernel_rfl) ?_
        change Held.wpAnyG _ _ _ _ _ 15 _ _ _
        refine Held.wpAnyG_take (i := 0) (v := (el (tmK n e k))) rfl (by kernel_rfl) (by kernel_rfl) (by kernel_rfl) (fun _ _ _ h => h) HSS.out (by first | (with_reducible rfl) | (simp [Region.wanted, yielded, Act.put]; done) | rfl) (fun W hs => Held.run_load_arr 36 (.tmp 5) rfl b5 rfl 36 _ _ _ hs.1 Try.underlying36 rfl (by kernel_rfl)) (some 28) rfl #[true, false, false, false, false, false, false, false, false, false, false, false, false, false, false] (by kernel_rfl) ?_
        simp only [Act.put, List.setIfInBounds_toArray, List.set_cons_zero, List.set_cons_succ]
        refine Held.wpAnyG_take (i := 1) (v := (.pointer (some ⟨h, 0, none⟩))) rfl (by kernel_rfl) (by kernel_rfl) (by kernel_rfl) (fun _ _ _ h => h) HSS.out (by first | (with_reducible rfl) | (simp [Region.wanted, yielded, Act.put]; done) | rfl) (fun W h => by go_simp) (some 29) rfl #[true, true, false, false, false, false, false, false, false, false, false, false, false, false, false] (by kernel_rfl) ?_
        simp only [Act.put, List.setIfInBounds_toArray, List.set_cons_zero, List.set_cons_succ]
        refine Held.wpAnyG_take (i := 2) (v := (.int .i64 (k : Int))) rfl (by kernel_rfl) (by kernel_rfl) (by kernel_rfl) (fun _ _ _ h => h) HSS.out (by first | (with_reducible rfl) | (simp [Region.wanted, yielded, Act.put]; done) | rfl) (fun W h => by go_simp) (some 30) rfl #[true, true, true, false, false, false, false, false, false, false, false, false, false, false, false] (by kernel_rfl) ?_
        simp only [Act.put, List.setIfInBounds_toArray, List.set_cons_zero, List.set_cons_succ]
        refine Held.wpAnyG_take (i := 3) (v := (.int .u64 (w : Int))) rfl (by kernel_rfl) (by kernel_rfl) (by kernel_rfl) (fun _ _ _ h => h) HSS.out (by first | (with_reducible rfl) | (simp [Region.wanted, yielded, Act.put]; done) | rfl) (fun W h => by go_simp) (some 31) rfl #[true, true, true, true, false, false, false, false, false, false, false, false, false, false, false] (by kernel_rfl) ?_
        simp only [Act.put, List.setIfInBounds_toArray, List.set_cons_zero, List.set_cons_succ]
        refine Held.wpAnyG_take (i := 4) (v := (.int .i64 (s : Int))) rfl (by kernel_rfl) (by kernel_rfl) (by kernel_rfl) (fun _ _ _ h => h) HSS.out (by first | (with_reducible rfl) | (simp [Region.wanted, yielded, Act.put]; done) | rfl) (fun W h => by go_simp) (some 32) rfl #[true, true, true, true, true, false, false, false, false, false, false, false, false, false, false] (by kernel_rfl) ?_
        simp only [Act.put, List.setIfInBounds_toArray, List.set_cons_zero, List.set_cons_succ]
        refine Held.wpAnyG_take (i := 5) (v := (.int .u64 ((w / 2 ^ s : Nat) : Int))) rfl (by kernel_rfl) (by kernel_rfl) (by kernel_rfl) (fun _ _ _ h => h) HSS.out (by first | (with_reducible rfl) | (simp [Region.wanted, yielded, Act.put]; done) | rfl) (fun W h => by go_simp; rw [Nat.min_eq_left HS64.out]) (some 33) rfl #[true, true, true, true, true, true, false, false, false, false, false, false, false, false, false] (by kernel_rfl) ?_
        simp only [Act.put, List.setIfInBounds_toArray, List.set_cons_zero, List.set_cons_succ]
        refine Held.wpAnyG_take (i := 6) (v := (.int .u64 (j : Int))) rfl (by kernel_rfl) (by kernel_rfl) (by kernel_rfl) (fun _ _ _ h => h) HSS.out (by first | (with_reducible rfl) | (simp [Region.wanted, yielded, Act.put]; done) | rfl) (fun W h => by go_simp) (some 34) rfl #[true, true, true, true, true, true, true, false, false, false, false, false, false, false, false] (by kernel_rfl) ?_
        simp only [Act.put, List.setIfInBounds_toArray, List.set_cons_zero, List.set_cons_succ]
        refine Held.wpAnyG_take (i := 7) (v := (.pointer (some ⟨h, 0, none⟩))) rfl (by kernel_rfl) (by kernel_rfl) (by kernel_rfl) (fun _ _ _ h => h) HSS.out (by first | (with_reducible rfl) | (simp [Region.wanted, yielded, Act.put]; done) | rfl) (fun W h => by go_simp) (some 35) rfl #[true, true, true, true, true, true, true, true, false, false, false, false, false, false, false] (by kernel_rfl) ?_
        simp only [Act.put, List.setIfInBounds_toArray, List.set_cons_zero, List.set_cons_succ]
        refine Held.wpAnyG_take (i := 8) (v := (.pointer (some ⟨h, 6, none⟩))) rfl (by kernel_rfl) (by kernel_rfl) (by kernel_rfl) (fun _ _ _ h => h) HSS.out (by first | (with_reducible rfl) | (simp [Region.wanted, yielded, Act.put]; done) | rfl) (fun W h => by go_simp) (some 36) rfl #[true, true, true, true, true, true, true, true, true, false, false, false, false, false, false] (by kernel_rfl) ?_
        simp only [Act.put, List.setIfInBounds_toArray, List.set_cons_zero, List.set_cons_succ]
        refine Held.wpAnyG_take (i := 9) (v := (.pointer (some ⟨h, 6 + k * 32, none⟩))) rfl (by kernel_rfl) (by kernel_rfl) (by kernel_rfl) (fun _ _ _ h => h) HSS.out (by first | (with_reducible rfl) | (simp [Region.wanted, yielded, Act.put]; done) | rfl) (fun W h => by go_simp) (some 37) rfl #[true, true, true, true, true, true, true, true, true, true, false, false, false, false, false] (by kernel_rfl) ?_
        simp only [Act.put, List.setIfInBounds_toArray, List.set_cons_zero, List.set_cons_succ]
        refine Held.wpAnyG_take (i := 10) (v := (.pointer (some ⟨h, 6 + k * 32 + j * 2, none⟩))) rfl (by kernel_rfl) (by kernel_rfl) (by kernel_rfl) (fun _ _ _ h => h) HSS.out (by first | (with_reducible rfl) | (simp [Region.wanted, yielded, Act.put]; done) | rfl) (fun W h => by go_simp) (some 38) rfl #[true, true, true, true, true, true, true, true, true, true, true, false, false, false, false] (by kernel_rfl) ?_
        simp only [Act.put, List.setIfInBounds_toArray, List.set_cons_zero, List.set_cons_succ]
        refine Held.wpAnyG_take (i := 11) (v := (el (ent (pk n k) j))) rfl (by kernel_rfl) (by kernel_rfl) (by kernel_rfl) (fun _ _ _ h => h) HSS.out (by first | (with_reducible rfl) | (simp [Region.wanted, yielded, Act.put]; done) | rfl) (fun W hs => Held.run_load_of 36 (.tmp 38) rfl ⟨h, 6 + k * 32 + j * 2, none⟩ rfl (load_elP ((tab_of hs.2).2.2 k HKL.out j HJ.out).1 ((tab_of hs.2).2.2 k HKL.out j HJ.out).2)) (some 39) rfl #[true, true, true, true, true, true, true, true, true, true, true, true, false, false, false] (by kernel_rfl) ?_
        simp only [Act.put, List.setIfInBounds_toArray, List.set_cons_zero, List.set_cons_succ]
        have hbe : Below wr.heap.size wr (wr.alloc (.cells #[.int .u64 (E (tmK n e k)).1, .int .u64 (E (tmK n e k)).2, .int .u64 (E (ent (pk n k) j)).1, .int .u64 (E (ent (pk n k) j)).2] 36)).drew := below_drew (below_alloc (Below.refl wr.heap.size wr) (.cells #[.int .u64 (E (tmK n e k)).1, .int .u64 (E (tmK n e k)).2, .int .u64 (E (ent (pk n k) j)).1, .int .u64 (E (ent (pk n k) j)).2] 36))
        have HBE := Aside0.mk hbe
        clear hbe
        refine Held.wpAnyG_one 12 (by kernel_rfl) rfl #[true, true, true, true, true, true, true, true, true, true, true, true, true, false, false] (by kernel_rfl) (fun K hK => ?_)
        go_wp2_with fail
        refine hK _ _ ⟨blk_below H5.out HBE.out, HHS.out.same (HBE.out.block h HHS.out.lt)⟩ ?_
        clear hK K
        refine Held.wpAnyG_one 13 (by kernel_rfl) rfl #[true, true, true, true, true, true, true, true, true, true, true, true, true, true, false] (by kernel_rfl) (fun K hK => ?_)
        go_wp2_with fail
        (with_reducible refine (sum_calls (tmK n e k) (ent (pk n k) j) (tmK_lt HN.out e k) (ent_lt (pk_lt HN.out k) j) _ _ 36 (blk_drew (blk_new wr (.cells #[.int .u64 (E (tmK n e k)).1, .int .u64 (E (tmK n e k)).2, .int .u64 (E (ent (pk n k) j)).1, .int .u64 (E (ent (pk n k) j)).2] 36)))).mono ?_)
        rintro en w5 ⟨rfl, hb5⟩
        rw [HTM.out]
        have HB9 := Aside0.mk (HBE.out.trans (hb5.mono HBE.out.size))
        clear hb5
        have J5 := Aside0.mk (blk_below H5.out HB9.out)
        have hz0 := blk_cell J5.out 0
        have hz1 := blk_cell J5.out 1
        have hm0 := blk_frozen J5.out 0
        have hm1 := blk_frozen J5.out 1
        simp at hz0 hz1
        go_wp2_with fail
        refine hK _ _ ⟨J5.out, HHS.out.same (HB9.out.block h HHS.out.lt)⟩ ?_
        clear hK K HSS
        have HSS := Aside0.mk (show (fun W1 : World => W1.heap[b5]? = some (.cells #[.int .u64 (E (tmK n e k)).1, .int .u64 (E (tmK n e k)).2] 36 (0, 0)) ∧ HashAt W1 h n true) w5 from ⟨J5.out, HHS.out.same (HB9.out.block h HHS.out.lt)⟩)
        refine Held.wpAnyG_last 14 (by kernel_rfl) rfl (by kernel_rfl) (by kernel_rfl) ?_
        go_wp2_with fail
        go_roundw
        case measure => simp [intOf]; omega
        case rel =>
          have hsx := putEl_self w5 h 0 (tmK n e (k + 1)) b5 HB5.out.2
          have hb35 := HB5.out.1
          refine ⟨k + 1, by omega, by go_num, ?_⟩
          change Aside0 (InvT W (putEl w5 b5 0 (tmK n e (k + 1))) h n e b3 b5 (k + 1))
          exact ⟨putEl_blk (blk_below H3.out HB9.out) (by omega), putEl_blk (blk_below H4.out HB9.out) (by omega), putEl_set J5.out, (HHS.out.same (HB9.out.block h HHS.out.lt)).same hsx, grown_new (HGR.out.trans (grown_of_below HB9.out _)) (putEl_grown w5 b5 0 _) (by have := HB3.out; omega)⟩
      · have q3 : ¬ (k : Int) < 16 := by omega
        go_upto_region 10 with (fail)
        obtain ⟨w, hwl, hwi, hwn⟩ := word_lo HE.out hlt hk16
        obtain ⟨s, hs, hsi⟩ : ∃ s : Nat, s = 60 - 4 * (k % 16) ∧ 4 * (15 - (k : Int) % 16) = (s : Int) := ⟨_, rfl, by omega⟩
        rw [← hs] at hwn
        rw [hsi, hwi]
        obtain ⟨j, hj⟩ : ∃ j, j = nib e k := ⟨_, rfl⟩
        have HTM := Aside0.mk (show tmK n e k ^^^ ent (pk n k) j = tmK n e (k + 1) by rw [hj]; rfl)
        have hj16 : j < 16 := by rw [hj]; exact Nat.mod_lt _ (by decide)
        have HJ := Aside0.mk hj16
        have q6 : (j : Int) < 16 := by omega
        have q7 : (0 : Int) ≤ (j : Int) ∧ (j : Int) < 16 := by omega
        have hand : Go.bits .and .u64 ((w : Int) / 2 ^ s) 15 = (j : Int) := by
          rw [hj, hwn]
          have h9 := u64_and_nat (w / 2 ^ s) 15 (Nat.lt_of_le_of_lt (Nat.div_le_self _ _) hwl) (by decide)
          rw [show (15 : Nat) = 2 ^ 4 - 1 from rfl, Nat.and_two_pow_sub_one_eq_mod] at h9
          rw [show (((w / 2 ^ s : Nat)) : Int) = (w : Int) / 2 ^ s by simp] at h9
          exact h9
        have HS64 := Aside0.mk (show s ≤ 64 by omega)
        clear hwn hwi hs hsi hj hj16 hwl
        have HSS := Aside0.mk (show (fun W1 : World => W1.heap[b5]? = some (.cells #[.int .u64 (E (tmK n e k)).1, .int .u64 (E (tmK n e k)).2] 36 (0, 0)) ∧ HashAt W1 h n true) wr.drew from ⟨blk_drew H5.out, HHS.out.same rfl⟩)
        refine Held.wp_region_G (S := (fun W1 : World => W1.heap[b5]? = some (.cells #[.int .u64 (E (tmK n e k)).1, .int .u64 (E (tmK n e k)).2] 36 (0, 0)) ∧ HashAt W1 h n true)) (by kernel_rfl) ?_
        change Held.wpAnyG _ _ _ _ _ 15 _ _ _
        refine Held.wpAnyG_take (i := 0) (v := (el (tmK n e k))) rfl (by kernel_rfl) (by kernel_rfl) (by kernel_rfl) (fun _ _ _ h => h) HSS.out (by first | (with_reducible rfl) | (simp [Region.wanted, yielded, Act.put]; done) | rfl) (fun W hs => Held.run_load_arr 36 (.tmp 5) rfl b5 rfl 36 _ _ _ hs.1 Try.underlying36 rfl (by kernel_rfl)) (some 28) rfl #[true, false, false, false, false, false, false, false, false, false, false, false, false, false, false] (by kernel_rfl) ?_
        simp only [Act.put, List.setIfInBounds_toArray, List.set_cons_zero, List.set_cons_succ]
        refine Held.wpAnyG_take (i := 1) (v := (.pointer (some ⟨h, 0, none⟩))) rfl (by kernel_rfl) (by kernel_rfl) (by kernel_rfl) (fun _ _ _ h => h) HSS.out (by first | (with_reducible rfl) | (simp [Region.wanted, yielded, Act.put]; done) | rfl) (fun W h => by go_simp) (some 29) rfl #[true, true, false, false, false, false, false, false, false, false, false, false, false, false, false] (by kernel_rfl) ?_
        simp only [Act.put, List.setIfInBounds_toArray, List.set_cons_zero, List.set_cons_succ]
        refine Held.wpAnyG_take (i := 2) (v := (.int .i64 (k : Int))) rfl (by kernel_rfl) (by kernel_rfl) (by kernel_rfl) (fun _ _ _ h => h) HSS.out (by first | (with_reducible rfl) | (simp [Region.wanted, yielded, Act.put]; done) | rfl) (fun W h => by go_simp) (some 30) rfl #[true, true, true, false, false, false, false, false, false, false, false, false, false, false, false] (by kernel_rfl) ?_
        simp only [Act.put, List.setIfInBounds_toArray, List.set_cons_zero, List.set_cons_succ]
        refine Held.wpAnyG_take (i := 3) (v := (.int .u64 (w : Int))) rfl (by kernel_rfl) (by kernel_rfl) (by kernel_rfl) (fun _ _ _ h => h) HSS.out (by first | (with_reducible rfl) | (simp [Region.wanted, yielded, Act.put]; done) | rfl) (fun W h => by go_simp) (some 31) rfl #[true, true, true, true, false, false, false, false, false, false, false, false, false, false, false] (by kernel_rfl) ?_
        simp only [Act.put, List.setIfInBounds_toArray, List.set_cons_zero, List.set_cons_succ]
        refine Held.wpAnyG_take (i := 4) (v := (.int .i64 (s : Int))) rfl (by kernel_rfl) (by kernel_rfl) (by kernel_rfl) (fun _ _ _ h => h) HSS.out (by first | (with_reducible rfl) | (simp [Region.wanted, yielded, Act.put]; done) | rfl) (fun W h => by go_simp) (some 32) rfl #[true, true, true, true, true, false, false, false, false, false, false, false, false, false, false] (by kernel_rfl) ?_
        simp only [Act.put, List.setIfInBounds_toArray, List.set_cons_zero, List.set_cons_succ]
        refine Held.wpAnyG_take (i := 5) (v := (.int .u64 ((w / 2 ^ s : Nat) : Int))) rfl (by kernel_rfl) (by kernel_rfl) (by kernel_rfl) (fun _ _ _ h => h) HSS.out (by first | (with_reducible rfl) | (simp [Region.wanted, yielded, Act.put]; done) | rfl) (fun W h => by go_simp; rw [Nat.min_eq_left HS64.out]) (some 33) rfl #[true, true, true, true, true, true, false, false, false, false, false, false, false, false, false] (by kernel_rfl) ?_
        simp only [Act.put, List.setIfInBounds_toArray, List.set_cons_zero, List.set_cons_succ]
        refine Held.wpAnyG_take (i := 6) (v := (.int .u64 (j : Int))) rfl (by kernel_rfl) (by kernel_rfl) (by kernel_rfl) (fun _ _ _ h => h) HSS.out (by first | (with_reducible rfl) | (simp [Region.wanted, yielded, Act.put]; done) | rfl) (fun W h => by go_simp) (some 34) rfl #[true, true, true, true, true, true, true, false, false, false, false, false, false, false, false] (by kernel_rfl) ?_
        simp only [Act.put, List.setIfInBounds_toArray, List.set_cons_zero, List.set_cons_succ]
        refine Held.wpAnyG_take (i := 7) (v := (.pointer (some ⟨h, 0, none⟩))) rfl (by kernel_rfl) (by kernel_rfl) (by kernel_rfl) (fun _ _ _ h => h) HSS.out (by first | (with_reducible rfl) | (simp [Region.wanted, yielded, Act.put]; done) | rfl) (fun W h => by go_simp) (some 35) rfl #[true, true, true, true, true, true, true, true, false, false, false, false, false, false, false] (by kernel_rfl) ?_
        simp only [Act.put, List.setIfInBounds_toArray, List.set_cons_zero, List.set_cons_succ]
        refine Held.wpAnyG_take (i := 8) (v := (.pointer (some ⟨h, 6, none⟩))) rfl (by kernel_rfl) (by kernel_rfl) (by kernel_rfl) (fun _ _ _ h => h) HSS.out (by first | (with_reducible rfl) | (simp [Region.wanted, yielded, Act.put]; done) | rfl) (fun W h => by go_simp) (some 36) rfl #[true, true, true, true, true, true, true, true, true, false, false, false, false, false, false] (by kernel_rfl) ?_
        simp only [Act.put, List.setIfInBounds_toArray, List.set_cons_zero, List.set_cons_succ]
        refine Held.wpAnyG_take (i := 9) (v := (.pointer (some ⟨h, 6 + k * 32, none⟩))) rfl (by kernel_rfl) (by kernel_rfl) (by kernel_rfl) (fun _ _ _ h => h) HSS.out (by first | (with_reducible rfl) | (simp [Region.wanted, yielded, Act.put]; done) | rfl) (fun W h => by go_simp) (some 37) rfl #[true, true, true, true, true, true, true, true, true, true, false, false, false, false, false] (by kernel_rfl) ?_
        simp only [Act.put, List.setIfInBounds_toArray, List.set_cons_zero, List.set_cons_succ]
        refine Held.wpAnyG_take (i := 10) (v := (.pointer (some ⟨h, 6 + k * 32 + j * 2, none⟩))) rfl (by kernel_rfl) (by kernel_rfl) (by kernel_rfl) (fun _ _ _ h => h) HSS.out (by first | (with_reducible rfl) | (simp [Region.wanted, yielded, Act.put]; done) | rfl) (fun W h => by go_simp) (some 38) rfl #[true, true, true, true, true, true, true, true, true, true, true, false, false, false, false] (by kernel_rfl) ?_
        simp only [Act.put, List.setIfInBounds_toArray, List.set_cons_zero, List.set_cons_succ]
        refine Held.wpAnyG_take (i := 11) (v := (el (ent (pk n k) j))) rfl (by kernel_rfl) (by kernel_rfl) (by kernel_rfl) (fun _ _ _ h => h) HSS.out (by first | (with_reducible rfl) | (simp [Region.wanted, yielded, Act.put]; done) | rfl) (fun W hs => Held.run_load_of 36 (.tmp 38) rfl ⟨h, 6 + k * 32 + j * 2, none⟩ rfl (load_elP ((tab_of hs.2).2.2 k HKL.out j HJ.out).1 ((tab_of hs.2).2.2 k HKL.out j HJ.out).2)) (some 39) rfl #[true, true, true, true, true, true, true, true, true, true, true, true, false, false, false] (by kernel_rfl) ?_
        simp only [Act.put, List.setIfInBounds_toArray, List.set_cons_zero, List.set_cons_succ]
        have hbe : Below wr.heap.size wr (wr.alloc (.cells #[.int .u64 (E (tmK n e k)).1, .int .u64 (E (tmK n e k)).2, .int .u64 (E (ent (pk n k) j)).1, .int .u64 (E (ent (pk n k) j)).2] 36)).drew := below_drew (below_alloc (Below.refl wr.heap.size wr) (.cells #[.int .u64 (E (tmK n e k)).1, .int .u64 (E (tmK n e k)).2, .int .u64 (E (ent (pk n k) j)).1, .int .u64 (E (ent (pk n k) j)).2] 36))
        have HBE := Aside0.mk hbe
        clear hbe
        refine Held.wpAnyG_one 12 (by kernel_rfl) rfl #[true, true, true, true, true, true, true, true, true, true, true, true, true, false, false] (by kernel_rfl) (fun K hK => ?_)
        go_wp2_with fail
        refine hK _ _ ⟨blk_below H5.out HBE.out, HHS.out.same (HBE.out.block h HHS.out.lt)⟩ ?_
        clear hK K
        refine Held.wpAnyG_one 13 (by kernel_rfl) rfl #[true, true, true, true, true, true, true, true, true, true, true, true, true, true, false] (by kernel_rfl) (fun K hK => ?_)
        go_wp2_with fail
        (with_reducible refine (sum_calls (tmK n e k) (ent (pk n k) j) (tmK_lt HN.out e k) (ent_lt (pk_lt HN.out k) j) _ _ 36 (blk_drew (blk_new wr (.cells #[.int .u64 (E (tmK n e k)).1, .int .u64 (E (tmK n e k)).2, .int .u64 (E (ent (pk n k) j)).1, .int .u64 (E (ent (pk n k) j)).2] 36)))).mono ?_)
        rintro en w5 ⟨rfl, hb5⟩
        rw [HTM.out]
        have HB9 := Aside0.mk (HBE.out.trans (hb5.mono HBE.out.size))
        clear hb5
        have J5 := Aside0.mk (blk_below H5.out HB9.out)
        have hz0 := blk_cell J5.out 0
        have hz1 := blk_cell J5.out 1
        have hm0 := blk_frozen J5.out 0
        have hm1 := blk_frozen J5.out 1
        simp at hz0 hz1
        go_wp2_with fail
        refine hK _ _ ⟨J5.out, HHS.out.same (HB9.out.block h HHS.out.lt)⟩ ?_
        clear hK K HSS
        have HSS := Aside0.mk (show (fun W1 : World => W1.heap[b5]? = some (.cells #[.int .u64 (E (tmK n e k)).1, .int .u64 (E (tmK n e k)).2] 36 (0, 0)) ∧ HashAt W1 h n true) w5 from ⟨J5.out, HHS.out.same (HB9.out.block h HHS.out.lt)⟩)
        refine Held.wpAnyG_last 14 (by kernel_rfl) rfl (by kernel_rfl) (by kernel_rfl) ?_
        go_wp2_with fail
        go_roundw
        case measure => simp [intOf]; omega
        case rel =>
          have hsx := putEl_self w5 h 0 (tmK n e (k + 1)) b5 HB5.out.2
          have hb35 := HB5.out.1
          refine ⟨k + 1, by omega, by go_num, ?_⟩
          change Aside0 (InvT W (putEl w5 b5 0 (tmK n e (k + 1))) h n e b3 b5 (k + 1))
          exact ⟨putEl_blk (blk_below H3.out HB9.out) (by omega), putEl_blk (blk_below H4.out HB9.out) (by omega), putEl_set J5.out, (HHS.out.same (HB9.out.block h HHS.out.lt)).same hsx, grown_new (HGR.out.trans (grown_of_below HB9.out _)) (putEl_grown w5 b5 0 _) (by have := HB3.out; omega)⟩
    · obtain rfl : k = 32 := by omega
      obtain ⟨h3, h4, h5, hh, hgr⟩ := HI.out
      have HHS := Aside0.mk hh
      have HGR := Aside0.mk hgr
      have H4 := Aside0.mk h4
      have hk0 := blk_cell h5 0
      have hk1 := blk_cell h5 1
      have hj0 := blk_cell h4 0
      have hj1 := blk_cell h4 1
      have hm0 := blk_frozen h4 0
      have hm1 := blk_frozen h4 1
      simp at hk0 hk1 hj0 hj1
      clear h3 h4 h5 hh hgr hlt hk HI
      go_wp2_with fail
      have hfin := putEl_set (n := tmK n e 32) H4.out
      have hsx := putEl_self wr h 0 (tmK n e 32) (b3 + 1) HZN.out.2
      refine bodyPost_ret (results_cell_row rfl _ _ (b3 + 1) 36 _ (0, 0) _ rfl hfin Try.underlying36 rfl (by kernel_rfl)) rfl ⟨rfl, HHS.out.same hsx, grown_new HGR.out (putEl_grown wr (b3 + 1) 0 _) (by have := HB3.out; omega)⟩
end Go.Proofs.Ytmhmmmkpijbbiab.Gh
