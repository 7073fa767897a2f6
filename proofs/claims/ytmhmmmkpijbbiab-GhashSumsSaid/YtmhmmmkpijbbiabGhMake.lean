/- ghash: the table of a hash is made. Written by wip/gen/ghmake.py. -/
import Derived.Test.YtmhmmmkpijbbiabGhFill
namespace Go.Proofs.Ytmhmmmkpijbbiab.Gh
open Go.RowKit Go.Proofs.YtmhmmmkpijbbiabW.PrintWords Go.Proofs.YtmhmmmkpijbbiabW.PrintLast Go.Proofs.YtmhmmmkpijbbiabW.PrintMore Go.Proofs.Ytmhmmmkpijbbiab.X Go.Proofs.Ytmhmmmkpijbbiab.M Go.Proofs.Ytmhmmmkpijbbiab.Bv Go.Proofs.Ytmhmmmkpijbbiab.Gf
attribute [local go_sem] max2_int min2_int max_two min_two max_three min_three max_four min_four
set_option linter.unusedVariables false
set_option linter.unusedSimpArgs false
/-- The key times x to the 4k. -/
def pk (n : Nat) : Nat → Nat
  | 0 => n
  | k + 1 => nx (nx (nx (nx (pk n k))))
theorem pk_lt {n : Nat} (hn : n < top) : ∀ k, pk n k < top
  | 0 => hn
  | k + 1 => nx_lt (nx_lt (nx_lt (nx_lt (pk_lt hn k))))
/-- The table, k rows of it. -/
def Tab (W : World) (h n k : Nat) : Prop := ∀ r, r < k → ∀ j, j < 16 → ElAt W h (6 + r * 32 + j * 2) (ent (pk n r) j)
/-- The rows from k on are noughts at their first places. -/
def Nul (W : World) (h k : Nat) : Prop := ∀ r, k ≤ r → r < 32 → ElAt W h (6 + r * 32) 0
def InvM (W wr : World) (h n b2 k : Nat) (md : Int) : Prop := wr.heap[b2]? = some (.cells #[.int .u64 (E (pk n k)).1, .int .u64 (E (pk n k)).2] 36 (0, 0)) ∧ HCells wr h ∧ Tab wr h n k ∧ Nul wr h k ∧ wr.cell? ⟨h, 5, none⟩ = some (.int .i64 md) ∧ (∀ i, i < 5 → wr.cell? ⟨h, i, none⟩ = W.cell? ⟨h, i, none⟩) ∧ W.grownBy wr (some h)
set_option maxRecDepth 100000 in
set_option maxHeartbeats 8000000 in
theorem make_calls (W : World) (h n : Nat) (md md2 : Int) (hn : n < top) (hh : h < W.heap.size) (hc : HCells W h) (hk : ElAt W h 0 n) (hz : Nul W h 0) (hm : W.cell? ⟨h, 5, none⟩ = some (.int .i64 md)) (hmd : IntKind.i64.wrap (md + 1) = md2) :
    Calls Try.prog 38 #[.pointer (some ⟨h, 0, none⟩)] W fun e W' => e = .returned (.tuple #[]) ∧ HCells W' h ∧ Tab W' h n 32 ∧ W'.cell? ⟨h, 5, none⟩ = some (.int .i64 md2) ∧ (∀ i, i < 5 → W'.cell? ⟨h, i, none⟩ = W.cell? ⟨h, i, none⟩) ∧ W.grownBy W' (some h) := by
  have HN := Aside0.mk hn
  have HH := Aside0.mk hh
  have HADD := Aside0.mk (add_calls ⟨h, 5, none⟩ md W hm (hc 5 (by omega)).2 md2 hmd)
  obtain ⟨w1, hw1⟩ : ∃ w1, w1 = W.setCell ⟨h, 5, none⟩ (.int .i64 md2) := ⟨_, rfl⟩
  have ho : ∀ i, i ≠ 5 → w1.cell? ⟨h, i, none⟩ = W.cell? ⟨h, i, none⟩ := fun i hi => by rw [hw1]; exact World.cell?_setCell_other _ ⟨h, 5, none⟩ ⟨h, i, none⟩ _ (fun x => hi (congrArg Addr.off x).symm)
  have h5 : w1.cell? ⟨h, 5, none⟩ = some (.int .i64 md2) := by rw [hw1]; exact World.cell?_setCell_same _ _ _ hm
  have HC1 := Aside0.mk (show HCells w1 h from fun i hi => by
    refine ⟨?_, by rw [hw1]; simp; exact (hc i hi).2⟩
    by_cases hi5 : i = 5
    · subst hi5; exact ⟨_, h5⟩
    · rw [ho i hi5]; exact (hc i hi).1)
  have HZ1 := Aside0.mk (show Nul w1 h 0 from fun r h0 h32 => ⟨(ho _ (by omega)).trans (hz r h0 h32).1, (ho _ (by omega)).trans (hz r h0 h32).2⟩)
  have HO1 := Aside0.mk (show ∀ i, i < 5 → w1.cell? ⟨h, i, none⟩ = W.cell? ⟨h, i, none⟩ from fun i hi => ho i (by omega))
  have HG1 := Aside0.mk (show W.grownBy w1 (some h) by rw [hw1]; exact setCell_grown W h 5 _)
  have H51 := Aside0.mk h5
  have hk0 := (ho 0 (by omega)).trans hk.1
  have hk1 := (ho 1 (by omega)).trans hk.2
  have HW1 := Aside0.mk hw1
  clear hn hh hc hk hz hm hmd ho h5 hw1
  go_enter Try.func38, Try.ntmps38
  go_wp2_with (go_at_call 47; (with_reducible refine HADD.out.mono ?_); rintro e w' ⟨rfl, hw'⟩; rw [← HW1.out] at hw'; have hw2 := hw'.symm; clear hw'; subst hw2)
  obtain ⟨b2, hb2⟩ : ∃ b2, b2 = w1.heap.size := ⟨_, rfl⟩
  obtain ⟨w2, hw2⟩ : ∃ w2, w2 = w1.alloc (.cells #[.int .u64 (E n).1, .int .u64 (E n).2] 36) := ⟨_, rfl⟩
  rw [← hw2, ← hb2]
  have hbe : Below w1.heap.size w1 w2 := by rw [hw2]; exact below_alloc (Below.refl _ _) _
  have hh1 : h < w1.heap.size := Nat.lt_of_lt_of_le HH.out HG1.out.size
  have hs := hbe.block h hh1
  have HI := Aside0.mk (show InvM W w2 h n b2 0 md2 from ⟨by rw [hw2, hb2]; exact blk_new w1 _, HC1.out.same hs, fun r hr => absurd hr (Nat.not_lt_zero r), fun r h0 h32 => (HZ1.out r h0 h32).same hs, (cell_same hs 5).trans H51.out, fun i hi => (cell_same hs i).trans (HO1.out i hi), HG1.out.trans (grown_of_below hbe _)⟩)
  have HB2 := Aside0.mk (show W.heap.size ≤ b2 by rw [hb2]; exact HG1.out.size)
  have HBH := Aside0.mk (show h ≠ b2 by rw [hb2]; omega)
  clear hw2 hb2 hbe hh1 hs hk0 hk1 HC1 HZ1 HO1 HG1 H51 HADD HW1
  go_loopw [12] (fun v12 wr => ∃ k : Nat, k ≤ 32 ∧ v12 = .int .i64 k ∧ Aside0 (InvM W wr h n b2 k md2)) (fun v12 _ => 32 - (intOf v12).toNat)
  case atStart => exact ⟨0, by omega, rfl, HI⟩
  case round =>
    clear HI
    obtain ⟨k, hk, rfl, HI⟩ := hrel
    by_cases hlt : k < 32
    · obtain ⟨h2, hc, htab, hnul, h5, hot, hgr⟩ := HI.out
      have H2 := Aside0.mk h2
      have HHW := Aside0.mk (Nat.lt_of_lt_of_le HH.out hgr.size)
      have HKL := Aside0.mk hlt
      have q1 : (0 : Int) ≤ (k : Int) ∧ (k : Int) < 32 := by omega
      have q2 : (k : Int) < 32 := by omega
      have HFI := Aside0.mk (fun (wz : World) (hs : wz.heap[h]? = wr.heap[h]?) (hl : h < wz.heap.size) => fill_calls wz h (6 + k * 32) (pk n k) (pk_lt HN.out k) hl (hc.same hs) (by omega) ((hnul k (Nat.le_refl k) hlt).same hs))
      clear h2 hc htab hnul h5 hot hgr
      go_upto_region 5 with (fail)
      have HSS := Aside0.mk (show (fun W1 : World => W1.heap[b2]? = some (.cells #[.int .u64 (E (pk n k)).1, .int .u64 (E (pk n k)).2] 36 (0, 0))) wr.drew from blk_drew H2.out)
      refine Held.wp_region_G (S := (fun W1 : World => W1.heap[b2]? = some (.cells #[.int .u64 (E (pk n k)).1, .int .u64 (E (pk n k)).2] 36 (0, 0)))) (by kernel_rfl) ?_
      change Held.wpAnyG _ _ _ _ _ 8 _ _ _
      refine Held.wpAnyG_take (i := 0) (v := (.pointer (some ⟨h, 0, none⟩))) rfl (by kernel_rfl) (by kernel_rfl) (by kernel_rfl) (fun _ _ _ h => h) HSS.out (by first | (with_reducible rfl) | (simp [Region.wanted, yielded, Act.put]; done) | rfl) (fun W h => by go_simp) (some 15) rfl #[true, false, false, false, false, false, false, false] (by kernel_rfl) ?_
      simp only [Act.put, List.setIfInBounds_toArray, List.set_cons_zero, List.set_cons_succ]
      refine Held.wpAnyG_take (i := 1) (v := (.int .i64 (k : Int))) rfl (by kernel_rfl) (by kernel_rfl) (by kernel_rfl) (fun _ _ _ h => h) HSS.out (by first | (with_reducible rfl) | (simp [Region.wanted, yielded, Act.put]; done) | rfl) (fun W h => by go_simp) (some 16) rfl #[true, true, false, false, false, false, false, false] (by kernel_rfl) ?_
      simp only [Act.put, List.setIfInBounds_toArray, List.set_cons_zero, List.set_cons_succ]
      refine Held.wpAnyG_take (i := 2) (v := (.pointer (some ⟨h, 0, none⟩))) rfl (by kernel_rfl) (by kernel_rfl) (by kernel_rfl) (fun _ _ _ h => h) HSS.out (by first | (with_reducible rfl) | (simp [Region.wanted, yielded, Act.put]; done) | rfl) (fun W h => by go_simp) (some 17) rfl #[true, true, true, false, false, false, false, false] (by kernel_rfl) ?_
      simp only [Act.put, List.setIfInBounds_toArray, List.set_cons_zero, List.set_cons_succ]
      refine Held.wpAnyG_take (i := 3) (v := (.pointer (some ⟨h, 6, none⟩))) rfl (by kernel_rfl) (by kernel_rfl) (by kernel_rfl) (fun _ _ _ h => h) HSS.out (by first | (with_reducible rfl) | (simp [Region.wanted, yielded, Act.put]; done) | rfl) (fun W h => by go_simp) (some 18) rfl #[true, true, true, true, false, false, false, false] (by kernel_rfl) ?_
      simp only [Act.put, List.setIfInBounds_toArray, List.set_cons_zero, List.set_cons_succ]
      refine Held.wpAnyG_take (i := 4) (v := (.pointer (some ⟨h, 6 + k * 32, none⟩))) rfl (by kernel_rfl) (by kernel_rfl) (by kernel_rfl) (fun _ _ _ h => h) HSS.out (by first | (with_reducible rfl) | (simp [Region.wanted, yielded, Act.put]; done) | rfl) (fun W h => by go_simp) (some 19) rfl #[true, true, true, true, true, false, false, false] (by kernel_rfl) ?_
      simp only [Act.put, List.setIfInBounds_toArray, List.set_cons_zero, List.set_cons_succ]
      refine Held.wpAnyG_take (i := 5) (v := (el (pk n k))) rfl (by kernel_rfl) (by kernel_rfl) (by kernel_rfl) (fun _ _ _ h => h) HSS.out (by first | (with_reducible rfl) | (simp [Region.wanted, yielded, Act.put]; done) | rfl) (fun W hs => Held.run_load_arr 36 (.tmp 2) rfl b2 rfl 36 _ _ _ hs Try.underlying36 rfl (by kernel_rfl)) (some 20) rfl #[true, true, true, true, true, true, false, false] (by kernel_rfl) ?_
      simp only [Act.put, List.setIfInBounds_toArray, List.set_cons_zero, List.set_cons_succ]
      have HF5 := Aside0.mk (HFI.out wr.drew rfl (show h < wr.drew.heap.size from HHW.out))
      clear HFI
      refine Held.wpAnyG_one 6 (by kernel_rfl) rfl #[true, true, true, true, true, true, true, false] (by kernel_rfl) (fun K hK => ?_)
      go_wp2_with fail
      (with_reducible refine HF5.out.mono ?_)
      rintro e w5 ⟨rfl, hc5, he5, ho5, hg5⟩
      have J2 := Aside0.mk (blk_grown (blk_drew H2.out) hg5 (fun x => HBH.out (Option.some.inj x).symm))
      have JC := Aside0.mk hc5
      have JE := Aside0.mk he5
      have JO := Aside0.mk ho5
      have JG := Aside0.mk hg5
      have hk0 := blk_cell J2.out 0
      have hk1 := blk_cell J2.out 1
      have hm0 := blk_frozen J2.out 0
      have hm1 := blk_frozen J2.out 1
      simp at hk0 hk1
      clear hc5 he5 ho5 hg5
      go_wp2_with fail
      refine hK _ _ J2.out ?_
      clear hK K HSS
      have HSS := J2
      refine Held.wpAnyG_last 7 (by kernel_rfl) rfl (by kernel_rfl) (by kernel_rfl) ?_
      go_wp2_with fail
      go_roundw
      case measure => simp [intOf]; omega
      case rel =>
        obtain ⟨h2, hc, htab, hnul, h5, hot, hgr⟩ := HI.out
        have hsx := putEl_self w5 h 0 (pk n (k + 1)) b2 HBH.out
        have hkl := HKL.out
        refine ⟨k + 1, by omega, by go_num, ?_⟩
        change Aside0 (InvM W (putEl w5 b2 0 (pk n (k + 1))) h n b2 (k + 1) md2)
        have hold : ∀ i, (i < 6 + k * 32 ∨ 6 + k * 32 + 32 ≤ i) → (putEl w5 b2 0 (pk n (k + 1))).cell? ⟨h, i, none⟩ = wr.cell? ⟨h, i, none⟩ := fun i hi => (cell_same hsx i).trans ((JO.out i hi).trans (by simp))
        refine ⟨putEl_set J2.out, JC.out.same hsx, fun r hr j hj => ?_, fun r h0 h32 => ⟨(hold _ (by omega)).trans (hnul r (by omega) h32).1, (hold _ (by omega)).trans (hnul r (by omega) h32).2⟩, (hold 5 (by omega)).trans h5, fun i hi => (hold i (by omega)).trans (hot i hi), grown_new (hgr.trans ((drew_grow wr _).trans JG.out)) (putEl_grown w5 b2 0 _) HB2.out⟩
        by_cases hrk : r = k
        · subst hrk; exact (JE.out j hj).same hsx
        · exact ⟨(hold _ (by omega)).trans (htab r (by omega) j hj).1, (hold _ (by omega)).trans (htab r (by omega) j hj).2⟩
    · obtain rfl : k = 32 := by omega
      obtain ⟨h2, hc, htab, hnul, h5, hot, hgr⟩ := HI.out
      have HE := Aside0.mk (show HCells wr h ∧ Tab wr h n 32 ∧ wr.cell? ⟨h, 5, none⟩ = some (.int .i64 md2) ∧ (∀ i, i < 5 → wr.cell? ⟨h, i, none⟩ = W.cell? ⟨h, i, none⟩) ∧ W.grownBy wr (some h) from ⟨hc, htab, h5, hot, hgr⟩)
      clear HI h2 hc htab hnul h5 hot hgr hlt hk
      go_wp2_with fail
      go_end0
      exact ⟨rfl, HE.out⟩
end Go.Proofs.Ytmhmmmkpijbbiab.Gh
