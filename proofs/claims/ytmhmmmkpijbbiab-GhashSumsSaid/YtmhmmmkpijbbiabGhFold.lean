/- ghash: blocks are folded. Written by wip/gen/ghfold.py. -/
import Derived.Test.YtmhmmmkpijbbiabGhNew
namespace Go.Proofs.Ytmhmmmkpijbbiab.Gh
open Go.RowKit Go.Proofs.YtmhmmmkpijbbiabW.PrintWords Go.Proofs.YtmhmmmkpijbbiabW.PrintLast Go.Proofs.YtmhmmmkpijbbiabW.PrintMore Go.Proofs.Ytmhmmmkpijbbiab.X Go.Proofs.Ytmhmmmkpijbbiab.M Go.Proofs.Ytmhmmmkpijbbiab.Bv Go.Proofs.Ytmhmmmkpijbbiab.Gf
attribute [local go_sem] max2_int min2_int max_two min_two max_three min_three max_four min_four
set_option linter.unusedVariables false
set_option linter.unusedSimpArgs false
def foldN (n : Nat) (m : List Nat) (f : Nat) : Nat := m.foldl (fun a b => mul (a ^^^ b) n) f
theorem foldN_lt {n : Nat} (hn : n < top) : ∀ (m : List Nat) {f : Nat}, f < top → foldN n m f < top
  | [], _, hf => hf
  | b :: m, f, _ => foldN_lt hn m (mul_lt hn)
theorem foldN_take (n f : Nat) (m : List Nat) {k : Nat} (hk : k < m.length) : foldN n (m.take (k + 1)) f = mul (foldN n (m.take k) f ^^^ m.getD k 0) n := by
  unfold foldN
  rw [List.take_succ_eq_append_getElem hk, List.foldl_append, List.getD_eq_getElem?_getD, List.getElem?_eq_getElem hk]
  rfl
theorem foldN_append (n f : Nat) (m l : List Nat) : foldN n (m ++ l) f = foldN n l (foldN n m f) := List.foldl_append
/-- The loop of Fold, behind k blocks. -/
def InvF (W wr : World) (h n : Nat) (d : Bool) (f : Nat) (m : List Nat) (A : Option Addr) (b4 k : Nat) : Prop := wr.heap[b4]? = some (.cells #[.int .u64 (E (foldN n (m.take k) f)).1, .int .u64 (E (foldN n (m.take k) f)).2] 36 (0, 0)) ∧ wr.heap[b4 + 1]? = some (.cells #[.int .u64 0, .int .u64 0] 36 (0, 0)) ∧ HashAt wr h n (d || decide (0 < k)) ∧ Kd.F k36 wr (fun k => k ≠ h ∧ k ≠ b4) A m.length (m.map toS) ∧ W.grownBy wr (some h)
set_option maxRecDepth 100000 in
set_option maxHeartbeats 8000000 in
theorem fold_calls (W : World) (h n f : Nat) (d : Bool) (m : List Nat) (hn : n < top) (hf : f < top) (hm : ∀ b ∈ m, b < top) (A : Option Addr) (c : Nat) (hh : HashAt W h n d) (hC : Kd.F k36 W (fun k => k ≠ h) A m.length (m.map toS)) (hc : m.length ≤ c) :
    Calls Try.prog 21 #[.pointer (some ⟨h, 0, none⟩), el f, .slice A m.length c] W fun en W' => en = .returned (el (foldN n m f)) ∧ HashAt W' h n (d || decide (0 < m.length)) ∧ W.grownBy W' (some h) := by
  have HN := Aside0.mk hn
  have HFT := Aside0.mk hf
  have HM := Aside0.mk hm
  have HH := Aside0.mk hh
  have HC := Aside0.mk hC
  have HL := Aside0.mk hc
  have hmax := Kd.F_max hC
  have HX := Aside0.mk hmax
  clear hn hf hm hh hC hc hmax
  go_enter Try.func21, Try.ntmps21
  go_upto_region 1 with (fail)
  obtain ⟨b4, hb4⟩ : ∃ b4, b4 = W.heap.size := ⟨_, rfl⟩
  obtain ⟨w1, hw1⟩ : ∃ w1, w1 = (W.alloc (.cells #[.int .u64 (E f).1, .int .u64 (E f).2] 36)).alloc (.cells #[.int .u64 0, .int .u64 0] 36) := ⟨_, rfl⟩
  rw [← hw1, ← hb4]
  have hbe : Below W.heap.size W w1 := by rw [hw1]; exact below_alloc (below_alloc (Below.refl _ _) _) _
  have HI := Aside0.mk (show InvF W w1 h n d f m A b4 0 from ⟨by rw [hw1, hb4]; exact blk_alloc (blk_new W _) _, by rw [hw1, hb4]; exact blk_newN (Array.size_push _) _, by rw [show (d || decide (0 < 0)) = d by simp]; exact HH.out.below hbe, Kd.F_below (Kd.F_elderB HC.out b4 (by omega)) hbe, grown_of_below hbe (some h)⟩)
  have HB4 := Aside0.mk (show W.heap.size ≤ b4 by omega)
  have HZN := Aside0.mk (show h ≠ b4 ∧ h ≠ b4 + 1 by have := HH.out.lt; omega)
  clear hw1 hb4 hbe HH HC
  go_wp2_with fail
  go_loopw [11] (fun v11 wr => ∃ k : Nat, k ≤ m.length ∧ v11 = .int .i64 k ∧ Aside0 (InvF W wr h n d f m A b4 k)) (fun v11 _ => m.length - (intOf v11).toNat)
  case atStart => exact ⟨0, by omega, rfl, HI⟩
  case round =>
    clear HI
    obtain ⟨k, hk, rfl, HI⟩ := hrel
    by_cases hlt : k < m.length
    · obtain ⟨h4, h6, hh, hF, hgr⟩ := HI.out
      have H4 := Aside0.mk h4
      have H6 := Aside0.mk h6
      have HHS := Aside0.mk hh
      have HGR := Aside0.mk hgr
      have HF := Aside0.mk hF
      have HKL := Aside0.mk hlt
      have hbm : m.getD k 0 ∈ m := by rw [List.getD_eq_getElem?_getD, List.getElem?_eq_getElem hlt]; exact List.getElem_mem hlt
      obtain ⟨ad, hA, hc0, hc1⟩ := at_T36 (Kd.F_now hF) (k : Int) (by omega) (by omega)
      rw [rd_toS, Int.toNat_natCast] at hc0 hc1
      obtain ⟨b, hb⟩ : ∃ b, b = m.getD k 0 := ⟨_, rfl⟩
      rw [← hb] at hc0 hc1 hbm
      have HBM := Aside0.mk (HM.out b hbm)
      have HBK := Aside0.mk hb
      obtain ⟨s, hs⟩ : ∃ s, s = foldN n (m.take k) f := ⟨_, rfl⟩
      have HST := Aside0.mk (show s < top by rw [hs]; exact foldN_lt HN.out _ HFT.out)
      have HSK := Aside0.mk hs
      have H4 := Aside0.mk (show wr.heap[b4]? = some (.cells #[.int .u64 (E s).1, .int .u64 (E s).2] 36 (0, 0)) by rw [hs]; exact h4)
      have q1 : (0 : Int) ≤ (k : Int) ∧ (k : Int) < (m.length : Int) := by omega
      have q2 : (k : Int) < (m.length : Int) := by omega
      clear h4 h6 hh hF hgr hb hs hbm HI
      subst hA
      change wr.cell? _ = some (.int .u64 (E b).1) at hc0
      change wr.cell? _ = some (.int .u64 (E b).2) at hc1
      go_upto_region 4 with (fail)
      obtain ⟨b8, hb8⟩ : ∃ b8, b8 = wr.heap.size := ⟨_, rfl⟩
      obtain ⟨w2, hw2⟩ : ∃ w2, w2 = wr.alloc (.cells #[.int .u64 (E b).1, .int .u64 (E b).2] 36) := ⟨_, rfl⟩
      rw [← hw2, ← hb8]
      have hbe : Below wr.heap.size wr w2 := by rw [hw2]; exact below_alloc (Below.refl _ _) _
      have J8 := Aside0.mk (show w2.heap[b8]? = some (.cells #[.int .u64 (E b).1, .int .u64 (E b).2] 36 (0, 0)) by rw [hw2, hb8]; exact blk_new wr _)
      have J4 := Aside0.mk (blk_below H4.out hbe)
      have hk0 := blk_cell J4.out 0
      have hk1 := blk_cell J4.out 1
      have hj0 := blk_cell J8.out 0
      have hj1 := blk_cell J8.out 1
      simp at hk0 hk1 hj0 hj1
      have HBE := Aside0.mk hbe
      clear hw2 hb8 hbe hc0 hc1
      go_wp2_with fail
      (with_reducible refine (sum_calls s b HST.out HBM.out _ _ 36 (blk_new w2 _)).mono ?_)
      rintro en w5 ⟨rfl, hb5⟩
      have HB5 := Aside0.mk (HBE.out.trans ((below_alloc (Below.refl w2.heap.size w2) (.cells #[.int .u64 (E s).1, .int .u64 (E s).2, .int .u64 (E b).1, .int .u64 (E b).2] 36)).trans (hb5.mono (by simp)) |>.mono HBE.out.size))
      clear hb5 hk0 hk1 hj0 hj1
      go_wp2_with fail
      (with_reducible refine (mul_calls' w5 h n (s ^^^ b) _ HN.out (xor_lt HST.out HBM.out) (HHS.out.below HB5.out)).mono ?_)
      rintro en w6 ⟨rfl, hh6, hg6⟩
      have HG6 := Aside0.mk ((grown_of_below HB5.out (some h)).trans hg6)
      have J4 := Aside0.mk (blk_grown H4.out HG6.out (fun x => HZN.out.1 (Option.some.inj x).symm))
      have HH6 := Aside0.mk hh6
      have hk0 := blk_cell J4.out 0
      have hk1 := blk_cell J4.out 1
      have hm0 := blk_frozen J4.out 0
      have hm1 := blk_frozen J4.out 1
      simp at hk0 hk1
      clear hh6 hg6
      go_wp2_with fail
      go_roundw
      case measure =>
        rw [w64_up k (by have := HX.out; have := HKL.out; omega)]
        have := HKL.out
        show m.length - ((k + 1 : Nat) : Int).toNat < m.length - ((k : Nat) : Int).toNat
        rw [Int.toNat_natCast, Int.toNat_natCast]
        omega
      case rel =>
        rw [w64_up k (by have := HX.out; have := HKL.out; omega)]
        refine ⟨k + 1, HKL.out, rfl, ?_⟩
        change Aside0 (InvF W (putEl w6 b4 0 (mul (s ^^^ b) n)) h n d f m (some ad) b4 (k + 1))
        have e1 : foldN n (m.take (k + 1)) f = mul (s ^^^ b) n := by rw [foldN_take n f m HKL.out, HSK.out, HBK.out]
        refine ⟨?_⟩
        unfold InvF
        rw [e1, show (d || decide (0 < k + 1)) = true by simp]
        refine ⟨putEl_set J4.out, putEl_blk (blk_grown H6.out HG6.out (fun x => HZN.out.2 (Option.some.inj x).symm)) (by omega), HH6.out.same (putEl_self w6 h 0 _ b4 HZN.out.1), Kd.F_grown (Kd.F_grown HF.out HG6.out (fun k hk x => hk.1 (Option.some.inj x))) (putEl_grown w6 b4 0 _) (fun k hk x => hk.2 (Option.some.inj x)), grown_new (HGR.out.trans HG6.out) (putEl_grown w6 b4 0 _) HB4.out⟩
    · obtain rfl : k = m.length := by omega
      obtain ⟨h4, h6, hh, hF, hgr⟩ := HI.out
      have HHS := Aside0.mk hh
      have HGR := Aside0.mk hgr
      have H6 := Aside0.mk h6
      rw [List.take_length] at h4
      have hk0 := blk_cell h4 0
      have hk1 := blk_cell h4 1
      have hj0 := blk_cell h6 0
      have hj1 := blk_cell h6 1
      have hm0 := blk_frozen h6 0
      have hm1 := blk_frozen h6 1
      simp at hk0 hk1 hj0 hj1
      clear h4 h6 hh hF hgr hlt hk HI
      go_wp2_with fail
      have hfin := putEl_set (n := foldN n m f) H6.out
      have hsx := putEl_self wr h 0 (foldN n m f) (b4 + 1) HZN.out.2
      refine bodyPost_ret (results_cell_row rfl _ _ (b4 + 1) 36 _ (0, 0) _ rfl hfin Try.underlying36 rfl (by kernel_rfl)) rfl ⟨rfl, HHS.out.same hsx, grown_new HGR.out (putEl_grown wr (b4 + 1) 0 _) (by have := HB4.out; omega)⟩
end Go.Proofs.Ytmhmmmkpijbbiab.Gh
