/- ghash: alive. Written by wip/gen/ghalive.py. -/
import Derived.Test.YtmhmmmkpijbbiabGhSum
namespace Go.Proofs.Ytmhmmmkpijbbiab.Gh
open Go.RowKit Go.Proofs.YtmhmmmkpijbbiabW.PrintWords Go.Proofs.YtmhmmmkpijbbiabW.PrintLast Go.Proofs.YtmhmmmkpijbbiabW.PrintMore Go.Proofs.Ytmhmmmkpijbbiab.X Go.Proofs.Ytmhmmmkpijbbiab.M Go.Proofs.Ytmhmmmkpijbbiab.Bv Go.Proofs.Ytmhmmmkpijbbiab.Gf Go.Proofs.Ytmhmmmkpijbbiab.Arr Go.Proofs.Ytmhmmmkpijbbiab.ArrX Go.Proofs.Ytmhmmmkpijbbiab.PuLib Go.Proofs.Ytmhmmmkpijbbiab.PuCat
attribute [local go_sem] max2_int min2_int max_two min_two max_three min_three max_four min_four
set_option linter.unusedVariables false
set_option linter.unusedSimpArgs false
/-! ### contracts with plain slots -/
theorem el_eql (a b : Nat) (w : World) : (binOp .eql 36 (el a) (el b)).run Try.prog w = .ok (.bool (decide (a = b))) w := by
  have h : (binOp .eql 36 (.agg #[.int .u64 (E a).1, .int .u64 (E a).2]) (.agg #[.int .u64 (E b).1, .int .u64 (E b).2])).run Try.prog w = .ok (.bool ((E a).1 == (E b).1 && ((E a).2 == (E b).2))) w := by
    go_simp
    by_cases h1 : (E a).1 = (E b).1 <;> by_cases h2 : (E a).2 = (E b).2 <;> simp [h1, h2]
  rw [eq_E] at h
  exact h
theorem el_neq (a b : Nat) (w : World) : (binOp .neq 36 (el a) (el b)).run Try.prog w = .ok (.bool (!decide (a = b))) w := by
  have h : (binOp .neq 36 (.agg #[.int .u64 (E a).1, .int .u64 (E a).2]) (.agg #[.int .u64 (E b).1, .int .u64 (E b).2])).run Try.prog w = .ok (.bool (!((E a).1 == (E b).1) || (!((E a).2 == (E b).2)))) w := by
    go_simp
    by_cases h1 : (E a).1 = (E b).1 <;> by_cases h2 : (E a).2 = (E b).2 <;> simp [h1, h2]
  rw [ne_E] at h
  exact h
theorem new16_calls (n : Nat) (hn : n < top) (A : Option Addr) (c : Nat) (w : World) (hC : Kd.C (Kd.int .u8) w A 16 (bytesN n)) (hc : 16 ≤ c) :
    Calls Try.prog 9 #[.slice A 16 c] w fun e w' => ∃ h, e = .returned (.tuple #[.pointer (some ⟨h, 0, none⟩), .int .i64 0]) ∧ HashAt w' h n false ∧ w.heap.size ≤ h ∧ Below w.heap.size w w' := by
  have h := new_calls n hn A c w (by rw [bytesN_length]; exact hC) (by rw [bytesN_length]; exact hc)
  rw [bytesN_length] at h
  exact h
theorem newnil_calls (w : World) : Calls Try.prog 9 #[.slice none 0 0] w fun e w' => e = .returned (.tuple #[.pointer none, .int .i64 11]) ∧ Below w.heap.size w w' :=
  newbad_calls [] (by decide) none 0 w (Kd.C_nil _ _) (Nat.le_refl 0)
theorem ofr_calls (n : Nat) (hn : n < top) (A : Option Addr) (c : Nat) (w : World) (hC : Kd.C (Kd.int .u8) w A 16 (bytesN n)) (hc : 16 ≤ c) :
    Calls Try.prog 26 #[.slice A 16 c] w fun e w' => e = .returned (.tuple #[el n, .int .i64 0]) ∧ Below w.heap.size w w' := by
  have h := of_calls n hn A c w (by rw [bytesN_length]; exact hC) (by rw [bytesN_length]; exact hc)
  rw [bytesN_length] at h
  exact h
theorem madeT_calls (W : World) (h n : Nat) (hh : HashAt W h n true) : Calls Try.prog 16 #[.pointer (some ⟨h, 0, none⟩)] W fun e W' => e = .returned (.int .i64 1) ∧ W' = W := made_calls h 1 W hh.s.2.1
theorem madeF_calls (W : World) (h n : Nat) (hh : HashAt W h n false) : Calls Try.prog 16 #[.pointer (some ⟨h, 0, none⟩)] W fun e W' => e = .returned (.int .i64 0) ∧ W' = W := made_calls h 0 W hh.s.2.1
theorem one_calls (w : World) : Calls Try.prog 27 #[] w fun e w' => e = .returned (el one) ∧ Below w.heap.size w w' := poly_One.calls _ _ w one_E
/-! ### the values -/
def KN : Nat := 136792598789324718765670228683992083246
def SN : Nat := 323733119472864005843474405660461955205
theorem KN_lt : KN < top := by decide
theorem SN_lt : SN < top := by decide
theorem KN_bytes : bytesN KN = [102, 233, 75, 212, 239, 138, 44, 59, 136, 76, 250, 89, 202, 52, 43, 46] := by decide +kernel
theorem SN_bytes : bytesN SN = [243, 140, 187, 26, 214, 146, 35, 220, 195, 69, 122, 229, 182, 176, 248, 133] := by decide +kernel
theorem fold_text : foldN KN (sumB [] [3, 136, 218, 206, 96, 182, 163, 146, 243, 40, 194, 185, 113, 178, 254, 120]) 0 = SN := by decide +kernel
def BN : Nat := 254693072481288192 * 18446744073709551616
theorem blocks_3 : blocksN [3, 136, 218] = [BN] := by decide +kernel
theorem el_BN : el BN = .agg #[.int .u64 254693072481288192, .int .u64 0] := by
  show Value.agg #[.int .u64 (E BN).1, .int .u64 (E BN).2] = _
  rw [show E BN = (254693072481288192, 0) by decide]
theorem fold_nil (W : World) (h n f : Nat) (d : Bool) (hn : n < top) (hf : f < top) (hh : HashAt W h n d) :
    Calls Try.prog 21 #[.pointer (some ⟨h, 0, none⟩), el f, .slice none 0 0] W fun en W' => en = .returned (el f) ∧ HashAt W' h n d ∧ W.grownBy W' (some h) := by
  refine (fold_calls W h n f d [] hn hf (by intro b hb; cases hb) none 0 hh (Kd.F_nil _ _ _) (Nat.le_refl 0)).mono ?_
  rintro en W' ⟨rfl, hh', hg⟩
  rw [show (d || decide (0 < ([] : List Nat).length)) = d by simp] at hh'
  exact ⟨rfl, hh', hg⟩
theorem fold_one (W : World) (h n f b g : Nat) (d : Bool) (hn : n < top) (hf : f < top) (hb : b < top) (hh : HashAt W h n d) (hne : g ≠ h) (hg : W.heap[g]? = some (.cells #[.int .u64 (E b).1, .int .u64 (E b).2] 36 (0, 0))) :
    Calls Try.prog 21 #[.pointer (some ⟨h, 0, none⟩), el f, .slice (some ⟨g, 0, none⟩) 1 1] W fun en W' => en = .returned (el (mul (f ^^^ b) n)) ∧ HashAt W' h n true ∧ W.grownBy W' (some h) := by
  have hF : Kd.F k36 W (fun k => k ≠ h) (some ⟨g, 0, none⟩) 1 [toS b] := fun W' hW => one_el ((hW g hne (blk_lt hg)).trans hg)
  refine (fold_calls W h n f d [b] hn hf (by intro x hx; rw [List.mem_singleton.1 hx]; exact hb) (some ⟨g, 0, none⟩) 1 hh hF (Nat.le_refl 1)).mono ?_
  rintro en W' ⟨rfl, hh', hg⟩
  rw [show (d || decide (0 < [b].length)) = true by simp] at hh'
  exact ⟨rfl, hh', hg⟩
theorem key16 (w : World) : Calls Try.prog 25 #[] w fun e w' => ∃ A c, e = .returned (.slice A 16 c) ∧ 16 ≤ c ∧ Kd.C (Kd.int .u8) w' A 16 (bytesN KN) ∧ Below w.heap.size w w' := by
  refine (crosswaylaw05_key.calls _ w rfl).mono ?_
  rintro e w' ⟨v, rfl, hr, hb⟩
  obtain ⟨A, c, rfl⟩ := Kd.R_slice hr
  have h := Kd.R_reads' hr
  rw [KN_bytes]
  exact ⟨A, c, rfl, h.2.1, h.2.2, hb⟩
theorem range_text : ∀ x ∈ ([3, 136, 218, 206, 96, 182, 163, 146, 243, 40, 194, 185, 113, 178, 254, 120] : List Int), 0 ≤ x ∧ x < 256 := by decide
theorem sum_text (W : World) (h : Nat) (hh : HashAt W h KN false) (g : Nat) (hb : W.heap[g]? = some (.cells #[.int .u8 3, .int .u8 136, .int .u8 218, .int .u8 206, .int .u8 96, .int .u8 182, .int .u8 163, .int .u8 146, .int .u8 243, .int .u8 40, .int .u8 194, .int .u8 185, .int .u8 113, .int .u8 178, .int .u8 254, .int .u8 120] 5 (0, 0))) :
    Calls Try.prog 14 #[.pointer (some ⟨h, 0, none⟩), .slice none 0 0, .slice (some ⟨g, 0, none⟩) 16 16] W fun en W' => ∃ A c, en = .returned (.slice A 16 c) ∧ 16 ≤ c ∧ Kd.F (Kd.int .u8) W' (fun k => k ≠ h) A 16 (bytesN SN) ∧ HashAt W' h KN true ∧ W.grownBy W' (some h) := by
  have hC : Kd.C (Kd.int .u8) W (some ⟨g, 0, none⟩) 16 [3, 136, 218, 206, 96, 182, 163, 146, 243, 40, 194, 185, 113, 178, 254, 120] := C_blk [3, 136, 218, 206, 96, 182, 163, 146, 243, 40, 194, 185, 113, 178, 254, 120] hb (by decide)
  refine (gsum_calls W h KN false KN_lt hh [] [3, 136, 218, 206, 96, 182, 163, 146, 243, 40, 194, 185, 113, 178, 254, 120] (by intro x hx; cases hx) range_text none 0 (Kd.C_nil _ _) (Nat.le_refl 0) (some ⟨g, 0, none⟩) 16 hC (Nat.le_refl 16) (by decide) (by decide)).mono ?_
  rintro en W' ⟨v, rfl, hr, hh', hg⟩
  rw [fold_text] at hr
  obtain ⟨A, c, rfl⟩ := Kd.R_slice hr
  rw [bytesN_length] at hr ⊢
  have h2 := Kd.R_reads' hr
  exact ⟨A, c, rfl, h2.2.1, Kd.F_mono (Kd.R_F (Kd.R_bound hr)) (fun k hk => by have := hk.2.1; have := hh.lt; omega), hh', hg⟩
theorem blocks_text (W : World) (h g : Nat) (hh : h < W.heap.size) (hb : W.heap[g]? = some (.cells #[.int .u8 3, .int .u8 136, .int .u8 218, .int .u8 206, .int .u8 96, .int .u8 182, .int .u8 163, .int .u8 146, .int .u8 243, .int .u8 40, .int .u8 194, .int .u8 185, .int .u8 113, .int .u8 178, .int .u8 254, .int .u8 120] 5 (0, 0))) :
    Calls Try.prog 12 #[.slice (some ⟨g, 0, none⟩) 3 16] W fun en W' => ∃ g c, en = .returned (.slice (some ⟨g, 0, none⟩) 1 c) ∧ 1 ≤ c ∧ Kd.F k36 W' (fun k => k ≠ h) (some ⟨g, 0, none⟩) 1 [toS BN] ∧ Below W.heap.size W W' := by
  have hC : Kd.C (Kd.int .u8) W (some ⟨g, 0, none⟩) 16 [3, 136, 218, 206, 96, 182, 163, 146, 243, 40, 194, 185, 113, 178, 254, 120] := C_blk [3, 136, 218, 206, 96, 182, 163, 146, 243, 40, 194, 185, 113, 178, 254, 120] hb (by decide)
  have hC3 : Kd.C (Kd.int .u8) W (some ⟨g, 0, none⟩) 3 [3, 136, 218] := Kd.C_take (m := 3) hC (by decide)
  refine (blocks_calls [3, 136, 218] (by decide) (some ⟨g, 0, none⟩) 16 W hC3 (by decide) (by decide)).mono ?_
  rintro en W' ⟨v, rfl, hr, hb⟩
  rw [blocks_3] at hr
  obtain ⟨g2, c, rfl, _⟩ := Kd.R_form hr (by decide)
  have h2 := Kd.R_reads' hr
  exact ⟨g2, c, rfl, h2.2.1, Kd.F_mono (Kd.R_F (Kd.R_bound hr)) (fun k hk => by have := hk.2.1; omega), hb⟩
theorem sameT (A : Option Addr) (c g : Nat) (w : World) (hC : Kd.C (Kd.int .u8) w A 16 (bytesN SN)) (hc : 16 ≤ c) (hb : w.heap[g]? = some (.cells #[.int .u8 243, .int .u8 140, .int .u8 187, .int .u8 26, .int .u8 214, .int .u8 146, .int .u8 35, .int .u8 220, .int .u8 195, .int .u8 69, .int .u8 122, .int .u8 229, .int .u8 182, .int .u8 176, .int .u8 248, .int .u8 133] 5 (0, 0))) :
    Calls Try.prog 13 #[.slice A 16 c, .slice (some ⟨g, 0, none⟩) 16 16] w fun e w' => e = .returned (.bool true) ∧ Drawn0 w w' := by
  rw [SN_bytes] at hC
  have hD : Kd.C (Kd.int .u8) w (some ⟨g, 0, none⟩) 16 [243, 140, 187, 26, 214, 146, 35, 220, 195, 69, 122, 229, 182, 176, 248, 133] := C_blk [243, 140, 187, 26, 214, 146, 35, 220, 195, 69, 122, 229, 182, 176, 248, 133] hb (by decide)
  obtain ⟨k, hk⟩ := Ev.rounds (same_ev [243, 140, 187, 26, 214, 146, 35, 220, 195, 69, 122, 229, 182, 176, 248, 133] [243, 140, 187, 26, 214, 146, 35, 220, 195, 69, 122, 229, 182, 176, 248, 133] (by decide))
  rw [show decide (([243, 140, 187, 26, 214, 146, 35, 220, 195, 69, 122, 229, 182, 176, 248, 133] : List Int) = [243, 140, 187, 26, 214, 146, 35, 220, 195, 69, 122, 229, 182, 176, 248, 133]) = true by decide] at hk
  exact crosswayref00_SameBytes.calls k A c [243, 140, 187, 26, 214, 146, 35, 220, 195, 69, 122, 229, 182, 176, 248, 133] (some ⟨g, 0, none⟩) 16 [243, 140, 187, 26, 214, 146, 35, 220, 195, 69, 122, 229, 182, 176, 248, 133] true w hC hc hD (Nat.le_refl 16) hk
/-- What stays in the last region. -/
structure AliveS (W0 W : World) (h b9 g : Nat) : Prop where
  bb : W.heap[b9]? = some (.cells #[.int .u64 (E KN).1, .int .u64 (E KN).2] 36 (0, 0))
  hh : HashAt W h KN true
  rr : Kd.F k36 W (fun k => k ≠ h) (some ⟨g, 0, none⟩) 1 [toS BN]
  ww : Below W0.heap.size W0 W
  nn : b9 ≠ h ∧ W0.heap.size ≤ h
theorem AliveS.grown {W0 W W' : World} {h b9 g : Nat} (hs : AliveS W0 W h b9 g) (hg : W.grownBy W' (some h)) (hh : HashAt W' h KN true) : AliveS W0 W' h b9 g :=
  ⟨blk_grown hs.bb hg (fun e => hs.nn.1 (Option.some.inj e)), hh, Kd.F_grown hs.rr hg (fun k hk e => hk (Option.some.inj e)), hs.ww.grown hg hs.ww.size (fun k e => by cases e; exact hs.nn.2), hs.nn⟩
theorem AliveS.below {W0 W W' : World} {h b9 g : Nat} (hs : AliveS W0 W h b9 g) (hb : Below W.heap.size W W') : AliveS W0 W' h b9 g := hs.grown (grown_of_below hb _) (hs.hh.below hb)
theorem AliveS.load {W0 W : World} {h b9 g : Nat} (hs : AliveS W0 W h b9 g) : (loadVar 36 ⟨b9, 0, none⟩).run Try.prog W = .ok (el KN) W := load_elP (blk_cell hs.bb 0) (blk_cell hs.bb 1)
theorem AliveS.first {W0 W : World} {h b9 g : Nat} (hs : AliveS W0 W h b9 g) : (loadVar 36 ⟨g, 0, none⟩).run Try.prog W = .ok (.agg #[.int .u64 254693072481288192, .int .u64 0]) W := by
  obtain ⟨a2, e, c0, c1⟩ := at_T36 (Kd.F_now hs.rr) 0 (by decide) (by decide)
  obtain rfl := Option.some.inj e
  rw [← el_BN]
  exact load_elP (n := BN) c0 c1
set_option maxRecDepth 100000 in
set_option maxHeartbeats 8000000 in
theorem alive_calls (W : World) : Calls Try.prog 7 #[] W fun en W' => en = .returned (.bool true) ∧ Below W.heap.size W W' := by
  go_enter Try.func7, Try.ntmps7
  go_wp2_with fail
  (with_reducible refine (key16 _).mono ?_)
  rintro en w1 ⟨A1, c1, rfl, hc1, hr1, hb1⟩
  go_wp2_with fail
  (with_reducible refine (new16_calls KN KN_lt A1 c1 w1 hr1 hc1).mono ?_)
  rintro en w2 ⟨h, rfl, hh2, hl2, hb2⟩
  have HB2 := Aside0.mk (hb1.trans (hb2.mono hb1.size))
  have HLE := Aside0.mk (show W.heap.size ≤ h by have := hb1.size; omega)
  have HH2 := Aside0.mk hh2
  clear hr1 hc1 hb1 hb2 hl2 hh2
  go_wp2_with fail
  (with_reducible refine (newnil_calls w2).mono ?_)
  rintro en w3 ⟨rfl, hb3⟩
  have HH3 := Aside0.mk (HH2.out.below hb3)
  have HB3 := Aside0.mk (HB2.out.trans (hb3.mono HB2.out.size))
  clear hb3 HH2 HB2
  go_wp2_with fail
  (with_reducible refine (madeF_calls w3 h KN HH3.out).mono ?_)
  rintro en w4 ⟨rfl, rfl⟩
  go_wp2_with fail
  obtain ⟨tb, htb⟩ : ∃ tb, tb = w4.heap.size := ⟨_, rfl⟩
  obtain ⟨w5, hw5⟩ : ∃ w5, w5 = (w4.alloc (.cells #[.int .u8 3, .int .u8 136, .int .u8 218, .int .u8 206, .int .u8 96, .int .u8 182, .int .u8 163, .int .u8 146, .int .u8 243, .int .u8 40, .int .u8 194, .int .u8 185, .int .u8 113, .int .u8 178, .int .u8 254, .int .u8 120] 5)).alloc (.cells #[.int .u8 243, .int .u8 140, .int .u8 187, .int .u8 26, .int .u8 214, .int .u8 146, .int .u8 35, .int .u8 220, .int .u8 195, .int .u8 69, .int .u8 122, .int .u8 229, .int .u8 182, .int .u8 176, .int .u8 248, .int .u8 133] 5) := ⟨_, rfl⟩
  have ht5 : w5.heap[tb]? = some (.cells #[.int .u8 3, .int .u8 136, .int .u8 218, .int .u8 206, .int .u8 96, .int .u8 182, .int .u8 163, .int .u8 146, .int .u8 243, .int .u8 40, .int .u8 194, .int .u8 185, .int .u8 113, .int .u8 178, .int .u8 254, .int .u8 120] 5 (0, 0)) := by rw [hw5, htb]; exact blk_alloc (blk_new w4 _) _
  have hw15 : w5.heap[tb + 1]? = some (.cells #[.int .u8 243, .int .u8 140, .int .u8 187, .int .u8 26, .int .u8 214, .int .u8 146, .int .u8 35, .int .u8 220, .int .u8 195, .int .u8 69, .int .u8 122, .int .u8 229, .int .u8 182, .int .u8 176, .int .u8 248, .int .u8 133] 5 (0, 0)) := by rw [hw5, htb]; exact blk_newN (Array.size_push _) _
  have hb45 : Below w4.heap.size w4 w5 := by rw [hw5]; exact below_alloc (below_alloc (Below.refl _ _) _) _
  rw [← hw5, ← htb]
  have HT5 := Aside0.mk ht5
  have HW5 := Aside0.mk hw15
  have HH5 := Aside0.mk (HH3.out.below hb45)
  have HB5 := Aside0.mk (HB3.out.trans (hb45.mono HB3.out.size))
  have HTB := Aside0.mk (show tb ≠ h ∧ tb + 1 ≠ h by have := HH3.out.lt; omega)
  clear hw5 htb ht5 hw15 hb45 HH3 HB3
  (with_reducible refine (sum_text w5 h HH5.out tb HT5.out).mono ?_)
  rintro en w6 ⟨AS, cS, rfl, hcS, hFS, hh6, hg6⟩
  have HCS := Aside0.mk hcS
  have HFS := Aside0.mk hFS
  have HT6 := Aside0.mk (blk_grown HT5.out hg6 (fun e => HTB.out.1 (Option.some.inj e)))
  have HW6 := Aside0.mk (blk_grown HW5.out hg6 (fun e => HTB.out.2 (Option.some.inj e)))
  have HH6 := Aside0.mk hh6
  have HB6 := Aside0.mk (HB5.out.grown hg6 HB5.out.size (fun k e => by cases e; exact HLE.out))
  clear hcS hFS hh6 hg6 HT5 HW5 HH5 HB5
  go_wp2_with fail
  (with_reducible refine (blocks_text w6 h tb HH6.out.lt HT6.out).mono ?_)
  rintro en w7 ⟨gL, cL, rfl, hcL, hFL, hb7⟩
  have HCL := Aside0.mk hcL
  have HFL := Aside0.mk hFL
  have HFS := Aside0.mk (Kd.F_below HFS.out hb7)
  have HW7 := Aside0.mk (blk_below HW6.out hb7)
  have HH7 := Aside0.mk (HH6.out.below hb7)
  have HB7 := Aside0.mk (HB6.out.trans (hb7.mono HB6.out.size))
  clear hcL hFL hb7 HT6 HW6 HH6 HB6
  go_wp2_with fail
  (with_reducible refine (key16 _).mono ?_)
  rintro en w8 ⟨A8, c8, rfl, hc8, hr8, hb8⟩
  go_wp2_with fail
  (with_reducible refine (ofr_calls KN KN_lt A8 c8 w8 hr8 hc8).mono ?_)
  rintro en w9 ⟨rfl, hb9⟩
  have hb79 := hb8.trans (hb9.mono hb8.size)
  have HFL := Aside0.mk (Kd.F_below HFL.out hb79)
  have HFS := Aside0.mk (Kd.F_below HFS.out hb79)
  have HW9 := Aside0.mk (blk_below HW7.out hb79)
  have HH9 := Aside0.mk (HH7.out.below hb79)
  have HB9 := Aside0.mk (HB7.out.trans (hb79.mono HB7.out.size))
  clear hb79 hb8 hb9 hc8 hr8 HW7 HH7 HB7
  go_upto_region 10 with (fail)
  obtain ⟨b9, hb9⟩ : ∃ b9, b9 = w9.heap.size := ⟨_, rfl⟩
  obtain ⟨w10, hw10⟩ : ∃ w10, w10 = w9.alloc (.cells #[.int .u64 (E KN).1, .int .u64 (E KN).2] 36) := ⟨_, rfl⟩
  rw [← hw10, ← hb9]
  have hbe : Below w9.heap.size w9 w10 := by rw [hw10]; exact below_alloc (Below.refl _ _) _
  have HSS := Aside0.mk (show AliveS W w10.drew h b9 gL from AliveS.below (W := w10) ⟨by rw [hw10, hb9]; exact blk_new w9 _, HH9.out.below hbe, Kd.F_below HFL.out hbe, HB9.out.trans (hbe.mono HB9.out.size), by rw [hb9]; have := HH9.out.lt; omega, HLE.out⟩ (below_drew (Below.refl _ _)))
  have HFS := Aside0.mk (Kd.F_now (Kd.F_drew (Kd.F_below HFS.out hbe)))
  have HW9 := Aside0.mk (blk_drew (blk_below HW9.out hbe))
  clear hb9 hw10 hbe HFL HH9 HB9
  refine Held.wp_region_G (S := (fun W1 : World => AliveS W W1 h b9 gL)) (by kernel_rfl) ?_
  change Held.wpAnyG _ _ _ _ _ 44 _ _ _
  refine Held.wpAnyG_take (i := 0) (v := (.slice AS 16 cS)) rfl (by kernel_rfl) (by kernel_rfl) (by kernel_rfl) (fun _ _ _ h => h) HSS.out (by first | (with_reducible rfl) | (simp [Region.wanted, yielded, Act.put]; done) | rfl) (fun W1 h1 => by go_simp) (some 48) rfl #[true, false, false, false, false, false, false, false, false, false, false, false, false, false, false, false, false, false, false, false, false, false, false, false, false, false, false, false, false, false, false, false, false, false, false, false, false, false, false, false, false, false, false, false] (by kernel_rfl) ?_
  simp only [Act.put, List.setIfInBounds_toArray, List.set_cons_zero, List.set_cons_succ]
  refine Held.wpAnyG_take (i := 1) (v := (.slice (some ⟨tb + 1, 0, none⟩) 16 16)) rfl (by kernel_rfl) (by kernel_rfl) (by kernel_rfl) (fun _ _ _ h => h) HSS.out (by first | (with_reducible rfl) | (simp [Region.wanted, yielded, Act.put]; done) | rfl) (fun W1 h1 => by go_simp) (some 49) rfl #[true, true, false, false, false, false, false, false, false, false, false, false, false, false, false, false, false, false, false, false, false, false, false, false, false, false, false, false, false, false, false, false, false, false, false, false, false, false, false, false, false, false, false, false] (by kernel_rfl) ?_
  simp only [Act.put, List.setIfInBounds_toArray, List.set_cons_zero, List.set_cons_succ]
  refine Held.wpAnyG_one 2 (by kernel_rfl) rfl #[true, true, true, false, false, false, false, false, false, false, false, false, false, false, false, false, false, false, false, false, false, false, false, false, false, false, false, false, false, false, false, false, false, false, false, false, false, false, false, false, false, false, false, false] (by kernel_rfl) (fun K hK => ?_)
  go_wp2_with fail
  (with_reducible refine (sameT AS cS (tb + 1) _ HFS.out HCS.out HW9.out).mono ?_)
  rintro en w11 ⟨rfl, hd_⟩
  have n1_ := Aside0.mk (HSS.out.below hd_.below)
  clear HSS
  have HSS := n1_
  clear n1_
  go_wp2_with fail
  refine hK _ _ HSS.out ?_
  clear hK K
  refine Held.wpAnyG_take (i := 3) (v := (.bool true)) rfl (by kernel_rfl) (by kernel_rfl) (by kernel_rfl) (fun _ _ _ h => h) HSS.out (by first | (with_reducible rfl) | (simp [Region.wanted, yielded, Act.put]; done) | rfl) (fun W1 h1 => by go_simp) (some 51) rfl #[true, true, true, true, false, false, false, false, false, false, false, false, false, false, false, false, false, false, false, false, false, false, false, false, false, false, false, false, false, false, false, false, false, false, false, false, false, false, false, false, false, false, false, false] (by kernel_rfl) ?_
  simp only [Act.put, List.setIfInBounds_toArray, List.set_cons_zero, List.set_cons_succ]
  refine Held.wpAnyG_take (i := 4) (v := (.pointer (some ⟨h, 0, none⟩))) rfl (by kernel_rfl) (by kernel_rfl) (by kernel_rfl) (fun _ _ _ h => h) HSS.out (by first | (with_reducible rfl) | (simp [Region.wanted, yielded, Act.put]; done) | rfl) (fun W1 h1 => by go_simp) (some 52) rfl #[true, true, true, true, true, false, false, false, false, false, false, false, false, false, false, false, false, false, false, false, false, false, false, false, false, false, false, false, false, false, false, false, false, false, false, false, false, false, false, false, false, false, false, false] (by kernel_rfl) ?_
  simp only [Act.put, List.setIfInBounds_toArray, List.set_cons_zero, List.set_cons_succ]
  refine Held.wpAnyG_one 5 (by kernel_rfl) rfl #[true, true, true, true, true, true, false, false, false, false, false, false, false, false, false, false, false, false, false, false, false, false, false, false, false, false, false, false, false, false, false, false, false, false, false, false, false, false, false, false, false, false, false, false] (by kernel_rfl) (fun K hK => ?_)
  go_wp2_with fail
  (with_reducible refine (madeT_calls _ h KN HSS.out.hh).mono ?_)
  rintro en w12 ⟨rfl, rfl⟩
  go_wp2_with fail
  refine hK _ _ HSS.out ?_
  clear hK K
  refine Held.wpAnyG_take (i := 6) (v := (.bool true)) rfl (by kernel_rfl) (by kernel_rfl) (by kernel_rfl) (fun _ _ _ h => h) HSS.out (by first | (with_reducible rfl) | (simp [Region.wanted, yielded, Act.put]; done) | rfl) (fun W1 h1 => by go_simp) (some 54) rfl #[true, true, true, true, true, true, true, false, false, false, false, false, false, false, false, false, false, false, false, false, false, false, false, false, false, false, false, false, false, false, false, false, false, false, false, false, false, false, false, false, false, false, false, false] (by kernel_rfl) ?_
  simp only [Act.put, List.setIfInBounds_toArray, List.set_cons_zero, List.set_cons_succ]
  refine Held.wpAnyG_take (i := 7) (v := (.bool true)) rfl (by kernel_rfl) (by kernel_rfl) (by kernel_rfl) (fun _ _ _ h => h) HSS.out (by first | (with_reducible rfl) | (simp [Region.wanted, yielded, Act.put]; done) | rfl) (fun W1 h1 => by go_simp) (some 55) rfl #[true, true, true, true, true, true, true, true, false, false, false, false, false, false, false, false, false, false, false, false, false, false, false, false, false, false, false, false, false, false, false, false, false, false, false, false, false, false, false, false, false, false, false, false] (by kernel_rfl) ?_
  simp only [Act.put, List.setIfInBounds_toArray, List.set_cons_zero, List.set_cons_succ]
  refine Held.wpAnyG_take (i := 8) (v := (.bool true)) rfl (by kernel_rfl) (by kernel_rfl) (by kernel_rfl) (fun _ _ _ h => h) HSS.out (by first | (with_reducible rfl) | (simp [Region.wanted, yielded, Act.put]; done) | rfl) (fun W1 h1 => by go_simp) (some 56) rfl #[true, true, true, true, true, true, true, true, true, false, false, false, false, false, false, false, false, false, false, false, false, false, false, false, false, false, false, false, false, false, false, false, false, false, false, false, false, false, false, false, false, false, false, false] (by kernel_rfl) ?_
  simp only [Act.put, List.setIfInBounds_toArray, List.set_cons_zero, List.set_cons_succ]
  refine Held.wpAnyG_take (i := 9) (v := (.slice (some ⟨gL, 0, none⟩) 1 cL)) rfl (by kernel_rfl) (by kernel_rfl) (by kernel_rfl) (fun _ _ _ h => h) HSS.out (by first | (with_reducible rfl) | (simp [Region.wanted, yielded, Act.put]; done) | rfl) (fun W1 h1 => by go_simp) (some 57) rfl #[true, true, true, true, true, true, true, true, true, true, false, false, false, false, false, false, false, false, false, false, false, false, false, false, false, false, false, false, false, false, false, false, false, false, false, false, false, false, false, false, false, false, false, false] (by kernel_rfl) ?_
  simp only [Act.put, List.setIfInBounds_toArray, List.set_cons_zero, List.set_cons_succ]
  refine Held.wpAnyG_one 10 (by kernel_rfl) rfl #[true, true, true, true, true, true, true, true, true, true, true, false, false, false, false, false, false, false, false, false, false, false, false, false, false, false, false, false, false, false, false, false, false, false, false, false, false, false, false, false, false, false, false, false] (by kernel_rfl) (fun K hK => ?_)
  go_wp2_with fail
  refine hK _ _ HSS.out ?_
  clear hK K
  refine Held.wpAnyG_take (i := 11) (v := (.bool true)) rfl (by kernel_rfl) (by kernel_rfl) (by kernel_rfl) (fun _ _ _ h => h) HSS.out (by first | (with_reducible rfl) | (simp [Region.wanted, yielded, Act.put]; done) | rfl) (fun W1 h1 => by go_simp) (some 59) rfl #[true, true, true, true, true, true, true, true, true, true, true, true, false, false, false, false, false, false, false, false, false, false, false, false, false, false, false, false, false, false, false, false, false, false, false, false, false, false, false, false, false, false, false, false] (by kernel_rfl) ?_
  simp only [Act.put, List.setIfInBounds_toArray, List.set_cons_zero, List.set_cons_succ]
  refine Held.wpAnyG_take (i := 12) (v := (.bool true)) rfl (by kernel_rfl) (by kernel_rfl) (by kernel_rfl) (fun _ _ _ h => h) HSS.out (by first | (with_reducible rfl) | (simp [Region.wanted, yielded, Act.put]; done) | rfl) (fun W1 h1 => by go_simp) (some 60) rfl #[true, true, true, true, true, true, true, true, true, true, true, true, true, false, false, false, false, false, false, false, false, false, false, false, false, false, false, false, false, false, false, false, false, false, false, false, false, false, false, false, false, false, false, false] (by kernel_rfl) ?_
  simp only [Act.put, List.setIfInBounds_toArray, List.set_cons_zero, List.set_cons_succ]
  refine Held.wpAnyG_take (i := 13) (v := (.bool true)) rfl (by kernel_rfl) (by kernel_rfl) (by kernel_rfl) (fun _ _ _ h => h) HSS.out (by first | (with_reducible rfl) | (simp [Region.wanted, yielded, Act.put]; done) | rfl) (fun W1 h1 => by go_simp) (some 61) rfl #[true, true, true, true, true, true, true, true, true, true, true, true, true, true, false, false, false, false, false, false, false, false, false, false, false, false, false, false, false, false, false, false, false, false, false, false, false, false, false, false, false, false, false, false] (by kernel_rfl) ?_
  simp only [Act.put, List.setIfInBounds_toArray, List.set_cons_zero, List.set_cons_succ]
  refine Held.wpAnyG_take (i := 14) (v := (.slice (some ⟨gL, 0, none⟩) 1 cL)) rfl (by kernel_rfl) (by kernel_rfl) (by kernel_rfl) (fun _ _ _ h => h) HSS.out (by first | (with_reducible rfl) | (simp [Region.wanted, yielded, Act.put]; done) | rfl) (fun W1 h1 => by go_simp) (some 62) rfl #[true, true, true, true, true, true, true, true, true, true, true, true, true, true, true, false, false, false, false, false, false, false, false, false, false, false, false, false, false, false, false, false, false, false, false, false, false, false, false, false, false, false, false, false] (by kernel_rfl) ?_
  simp only [Act.put, List.setIfInBounds_toArray, List.set_cons_zero, List.set_cons_succ]
  refine Held.wpAnyG_take (i := 15) (v := (.pointer (some ⟨gL, 0, none⟩))) rfl (by kernel_rfl) (by kernel_rfl) (by kernel_rfl) (fun _ _ _ h => h) HSS.out (by first | (with_reducible rfl) | (simp [Region.wanted, yielded, Act.put]; done) | rfl) (fun W1 h1 => by go_simp) (some 63) rfl #[true, true, true, true, true, true, true, true, true, true, true, true, true, true, true, true, false, false, false, false, false, false, false, false, false, false, false, false, false, false, false, false, false, false, false, false, false, false, false, false, false, false, false, false] (by kernel_rfl) ?_
  simp only [Act.put, List.setIfInBounds_toArray, List.set_cons_zero, List.set_cons_succ]
  refine Held.wpAnyG_take (i := 16) (v := (.agg #[.int .u64 254693072481288192, .int .u64 0])) rfl (by kernel_rfl) (by kernel_rfl) (by kernel_rfl) (fun _ _ _ h => h) HSS.out (by first | (with_reducible rfl) | (simp [Region.wanted, yielded, Act.put]; done) | rfl) (fun W1 hs => Held.run_load_of 36 (.tmp 63) rfl ⟨gL, 0, none⟩ rfl (AliveS.first hs)) (some 64) rfl #[true, true, true, true, true, true, true, true, true, true, true, true, true, true, true, true, true, false, false, false, false, false, false, false, false, false, false, false, false, false, false, false, false, false, false, false, false, false, false, false, false, false, false, false] (by kernel_rfl) ?_
  simp only [Act.put, List.setIfInBounds_toArray, List.set_cons_zero, List.set_cons_succ]
  refine Held.wpAnyG_take (i := 17) (v := (.agg #[.int .u64 254693072481288192, .int .u64 0])) rfl (by kernel_rfl) (by kernel_rfl) (by kernel_rfl) (fun _ _ _ h => h) HSS.out (by first | (with_reducible rfl) | (simp [Region.wanted, yielded, Act.put]; done) | rfl) (fun W1 h1 => by go_simp) (some 65) rfl #[true, true, true, true, true, true, true, true, true, true, true, true, true, true, true, true, true, true, false, false, false, false, false, false, false, false, false, false, false, false, false, false, false, false, false, false, false, false, false, false, false, false, false, false] (by kernel_rfl) ?_
  simp only [Act.put, List.setIfInBounds_toArray, List.set_cons_zero, List.set_cons_succ]
  refine Held.wpAnyG_take (i := 18) (v := (.bool true)) rfl (by kernel_rfl) (by kernel_rfl) (by kernel_rfl) (fun _ _ _ h => h) HSS.out (by first | (with_reducible rfl) | (simp [Region.wanted, yielded, Act.put]; done) | rfl) (fun W1 h1 => by go_simp) (some 66) rfl #[true, true, true, true, true, true, true, true, true, true, true, true, true, true, true, true, true, true, true, false, false, false, false, false, false, false, false, false, false, false, false, false, false, false, false, false, false, false, false, false, false, false, false, false] (by kernel_rfl) ?_
  simp only [Act.put, List.setIfInBounds_toArray, List.set_cons_zero, List.set_cons_succ]
  refine Held.wpAnyG_take (i := 19) (v := (.bool true)) rfl (by kernel_rfl) (by kernel_rfl) (by kernel_rfl) (fun _ _ _ h => h) HSS.out (by first | (with_reducible rfl) | (simp [Region.wanted, yielded, Act.put]; done) | rfl) (fun W1 h1 => by go_simp) (some 67) rfl #[true, true, true, true, true, true, true, true, true, true, true, true, true, true, true, true, true, true, true, true, false, false, false, false, false, false, false, false, false, false, false, false, false, false, false, false, false, false, false, false, false, false, false, false] (by kernel_rfl) ?_
  simp only [Act.put, List.setIfInBounds_toArray, List.set_cons_zero, List.set_cons_succ]
  refine Held.wpAnyG_take (i := 20) (v := (.bool true)) rfl (by kernel_rfl) (by kernel_rfl) (by kernel_rfl) (fun _ _ _ h => h) HSS.out (by first | (with_reducible rfl) | (simp [Region.wanted, yielded, Act.put]; done) | rfl) (fun W1 h1 => by go_simp) (some 68) rfl #[true, true, true, true, true, true, true, true, true, true, true, true, true, true, true, true, true, true, true, true, true, false, false, false, false, false, false, false, false, false, false, false, false, false, false, false, false, false, false, false, false, false, false, false] (by kernel_rfl) ?_
  simp only [Act.put, List.setIfInBounds_toArray, List.set_cons_zero, List.set_cons_succ]
  refine Held.wpAnyG_take (i := 21) (v := (.pointer (some ⟨h, 0, none⟩))) rfl (by kernel_rfl) (by kernel_rfl) (by kernel_rfl) (fun _ _ _ h => h) HSS.out (by first | (with_reducible rfl) | (simp [Region.wanted, yielded, Act.put]; done) | rfl) (fun W1 h1 => by go_simp) (some 69) rfl #[true, true, true, true, true, true, true, true, true, true, true, true, true, true, true, true, true, true, true, true, true, true, false, false, false, false, false, false, false, false, false, false, false, false, false, false, false, false, false, false, false, false, false, false] (by kernel_rfl) ?_
  simp only [Act.put, List.setIfInBounds_toArray, List.set_cons_zero, List.set_cons_succ]
  refine Held.wpAnyG_take (i := 24) (v := (el KN)) rfl (by kernel_rfl) (by kernel_rfl) (by kernel_rfl) (fun _ _ _ h => h) HSS.out (by first | (with_reducible rfl) | (simp [Region.wanted, yielded, Act.put]; done) | rfl) (fun W1 hs => Held.run_load_of 36 (.tmp 9) rfl ⟨b9, 0, none⟩ rfl (AliveS.load hs)) (some 72) rfl #[true, true, true, true, true, true, true, true, true, true, true, true, true, true, true, true, true, true, true, true, true, true, false, false, true, false, false, false, false, false, false, false, false, false, false, false, false, false, false, false, false, false, false, false] (by kernel_rfl) ?_
  simp only [Act.put, List.setIfInBounds_toArray, List.set_cons_zero, List.set_cons_succ]
  refine Held.wpAnyG_one 22 (by kernel_rfl) rfl #[true, true, true, true, true, true, true, true, true, true, true, true, true, true, true, true, true, true, true, true, true, true, true, false, true, false, false, false, false, false, false, false, false, false, false, false, false, false, false, false, false, false, false, false] (by kernel_rfl) (fun K hK => ?_)
  go_wp2_with fail
  (with_reducible refine (one_calls _).mono ?_)
  rintro en w13 ⟨rfl, hb_⟩
  have n1_ := Aside0.mk (HSS.out.below hb_)
  clear HSS
  have HSS := n1_
  clear n1_
  go_wp2_with fail
  refine hK _ _ HSS.out ?_
  clear hK K
  refine Held.wpAnyG_one 23 (by kernel_rfl) rfl #[true, true, true, true, true, true, true, true, true, true, true, true, true, true, true, true, true, true, true, true, true, true, true, true, true, false, false, false, false, false, false, false, false, false, false, false, false, false, false, false, false, false, false, false] (by kernel_rfl) (fun K hK => ?_)
  go_wp2_with fail
  (with_reducible refine (mul_calls' _ h KN one true KN_lt one_lt HSS.out.hh).mono ?_)
  rintro en w14 ⟨rfl, hh_, hg_⟩
  rw [one_mul KN_lt]
  have n1_ := Aside0.mk (HSS.out.grown hg_ hh_)
  clear HSS
  have HSS := n1_
  clear n1_
  go_wp2_with fail
  refine hK _ _ HSS.out ?_
  clear hK K
  refine Held.wpAnyG_take (i := 25) (v := (.bool true)) rfl (by kernel_rfl) (by kernel_rfl) (by kernel_rfl) (fun _ _ _ h => h) HSS.out (by first | (with_reducible rfl) | (simp [Region.wanted, yielded, Act.put]; done) | rfl) (fun W1 h1 => by go_simp) (some 73) rfl #[true, true, true, true, true, true, true, true, true, true, true, true, true, true, true, true, true, true, true, true, true, true, true, true, true, true, false, false, false, false, false, false, false, false, false, false, false, false, false, false, false, false, false, false] (by kernel_rfl) ?_
  simp only [Act.put, List.setIfInBounds_toArray, List.set_cons_zero, List.set_cons_succ]
  refine Held.wpAnyG_take (i := 26) (v := (.bool true)) rfl (by kernel_rfl) (by kernel_rfl) (by kernel_rfl) (fun _ _ _ h => h) HSS.out (by first | (with_reducible rfl) | (simp [Region.wanted, yielded, Act.put]; done) | rfl) (fun W1 h1 => by go_simp) (some 74) rfl #[true, true, true, true, true, true, true, true, true, true, true, true, true, true, true, true, true, true, true, true, true, true, true, true, true, true, true, false, false, false, false, false, false, false, false, false, false, false, false, false, false, false, false, false] (by kernel_rfl) ?_
  simp only [Act.put, List.setIfInBounds_toArray, List.set_cons_zero, List.set_cons_succ]
  refine Held.wpAnyG_take (i := 27) (v := (.bool true)) rfl (by kernel_rfl) (by kernel_rfl) (by kernel_rfl) (fun _ _ _ h => h) HSS.out (by first | (with_reducible rfl) | (simp [Region.wanted, yielded, Act.put]; done) | rfl) (fun W1 h1 => by go_simp) (some 75) rfl #[true, true, true, true, true, true, true, true, true, true, true, true, true, true, true, true, true, true, true, true, true, true, true, true, true, true, true, true, false, false, false, false, false, false, false, false, false, false, false, false, false, false, false, false] (by kernel_rfl) ?_
  simp only [Act.put, List.setIfInBounds_toArray, List.set_cons_zero, List.set_cons_succ]
  refine Held.wpAnyG_take (i := 28) (v := (.pointer (some ⟨h, 0, none⟩))) rfl (by kernel_rfl) (by kernel_rfl) (by kernel_rfl) (fun _ _ _ h => h) HSS.out (by first | (with_reducible rfl) | (simp [Region.wanted, yielded, Act.put]; done) | rfl) (fun W1 h1 => by go_simp) (some 76) rfl #[true, true, true, true, true, true, true, true, true, true, true, true, true, true, true, true, true, true, true, true, true, true, true, true, true, true, true, true, true, false, false, false, false, false, false, false, false, false, false, false, false, false, false, false] (by kernel_rfl) ?_
  simp only [Act.put, List.setIfInBounds_toArray, List.set_cons_zero, List.set_cons_succ]
  refine Held.wpAnyG_one 29 (by kernel_rfl) rfl #[true, true, true, true, true, true, true, true, true, true, true, true, true, true, true, true, true, true, true, true, true, true, true, true, true, true, true, true, true, true, false, false, false, false, false, false, false, false, false, false, false, false, false, false] (by kernel_rfl) (fun K hK => ?_)
  go_wp2_with fail
  (with_reducible refine (one_calls _).mono ?_)
  rintro en w15 ⟨rfl, hb_⟩
  have n1_ := Aside0.mk (HSS.out.below hb_)
  clear HSS
  have HSS := n1_
  clear n1_
  go_wp2_with fail
  refine hK _ _ HSS.out ?_
  clear hK K
  refine Held.wpAnyG_one 30 (by kernel_rfl) rfl #[true, true, true, true, true, true, true, true, true, true, true, true, true, true, true, true, true, true, true, true, true, true, true, true, true, true, true, true, true, true, true, false, false, false, false, false, false, false, false, false, false, false, false, false] (by kernel_rfl) (fun K hK => ?_)
  go_wp2_with fail
  (with_reducible refine (fold_nil _ h KN one true KN_lt one_lt HSS.out.hh).mono ?_)
  rintro en w16 ⟨rfl, hh_, hg_⟩
  have n1_ := Aside0.mk (HSS.out.grown hg_ hh_)
  clear HSS
  have HSS := n1_
  clear n1_
  go_wp2_with fail
  refine hK _ _ HSS.out ?_
  clear hK K
  refine Held.wpAnyG_one 31 (by kernel_rfl) rfl #[true, true, true, true, true, true, true, true, true, true, true, true, true, true, true, true, true, true, true, true, true, true, true, true, true, true, true, true, true, true, true, true, false, false, false, false, false, false, false, false, false, false, false, false] (by kernel_rfl) (fun K hK => ?_)
  go_wp2_with fail
  (with_reducible refine (one_calls _).mono ?_)
  rintro en w17 ⟨rfl, hb_⟩
  have n1_ := Aside0.mk (HSS.out.below hb_)
  clear HSS
  have HSS := n1_
  clear n1_
  go_wp2_with fail
  refine hK _ _ HSS.out ?_
  clear hK K
  refine Held.wpAnyG_take (i := 32) (v := (.bool true)) rfl (by kernel_rfl) (by kernel_rfl) (by kernel_rfl) (fun _ _ _ h => h) HSS.out (by first | (with_reducible rfl) | (simp [Region.wanted, yielded, Act.put]; done) | rfl) (fun W1 h1 => by go_simp) (some 80) rfl #[true, true, true, true, true, true, true, true, true, true, true, true, true, true, true, true, true, true, true, true, true, true, true, true, true, true, true, true, true, true, true, true, true, false, false, false, false, false, false, false, false, false, false, false] (by kernel_rfl) ?_
  simp only [Act.put, List.setIfInBounds_toArray, List.set_cons_zero, List.set_cons_succ]
  refine Held.wpAnyG_take (i := 33) (v := (.bool true)) rfl (by kernel_rfl) (by kernel_rfl) (by kernel_rfl) (fun _ _ _ h => h) HSS.out (by first | (with_reducible rfl) | (simp [Region.wanted, yielded, Act.put]; done) | rfl) (fun W1 h1 => by go_simp) (some 81) rfl #[true, true, true, true, true, true, true, true, true, true, true, true, true, true, true, true, true, true, true, true, true, true, true, true, true, true, true, true, true, true, true, true, true, true, false, false, false, false, false, false, false, false, false, false] (by kernel_rfl) ?_
  simp only [Act.put, List.setIfInBounds_toArray, List.set_cons_zero, List.set_cons_succ]
  refine Held.wpAnyG_take (i := 34) (v := (.bool true)) rfl (by kernel_rfl) (by kernel_rfl) (by kernel_rfl) (fun _ _ _ h => h) HSS.out (by first | (with_reducible rfl) | (simp [Region.wanted, yielded, Act.put]; done) | rfl) (fun W1 h1 => by go_simp) (some 82) rfl #[true, true, true, true, true, true, true, true, true, true, true, true, true, true, true, true, true, true, true, true, true, true, true, true, true, true, true, true, true, true, true, true, true, true, true, false, false, false, false, false, false, false, false, false] (by kernel_rfl) ?_
  simp only [Act.put, List.setIfInBounds_toArray, List.set_cons_zero, List.set_cons_succ]
  refine Held.wpAnyG_take (i := 35) (v := (.pointer (some ⟨h, 0, none⟩))) rfl (by kernel_rfl) (by kernel_rfl) (by kernel_rfl) (fun _ _ _ h => h) HSS.out (by first | (with_reducible rfl) | (simp [Region.wanted, yielded, Act.put]; done) | rfl) (fun W1 h1 => by go_simp) (some 83) rfl #[true, true, true, true, true, true, true, true, true, true, true, true, true, true, true, true, true, true, true, true, true, true, true, true, true, true, true, true, true, true, true, true, true, true, true, true, false, false, false, false, false, false, false, false] (by kernel_rfl) ?_
  simp only [Act.put, List.setIfInBounds_toArray, List.set_cons_zero, List.set_cons_succ]
  refine Held.wpAnyG_take (i := 40) (v := (.agg #[.int .u64 0, .int .u64 0])) rfl (by kernel_rfl) (by kernel_rfl) (by kernel_rfl) (fun _ _ _ h => h) HSS.out (by first | (with_reducible rfl) | (simp [Region.wanted, yielded, Act.put]; done) | rfl) (fun W1 h1 => by go_simp) (some 88) rfl #[true, true, true, true, true, true, true, true, true, true, true, true, true, true, true, true, true, true, true, true, true, true, true, true, true, true, true, true, true, true, true, true, true, true, true, true, false, false, false, false, true, false, false, false] (by kernel_rfl) ?_
  simp only [Act.put, List.setIfInBounds_toArray, List.set_cons_zero, List.set_cons_succ]
  refine Held.wpAnyG_one 36 (by kernel_rfl) rfl #[true, true, true, true, true, true, true, true, true, true, true, true, true, true, true, true, true, true, true, true, true, true, true, true, true, true, true, true, true, true, true, true, true, true, true, true, true, false, false, false, true, false, false, false] (by kernel_rfl) (fun K hK => ?_)
  go_wp2_with fail
  (with_reducible refine (one_calls _).mono ?_)
  rintro en w18 ⟨rfl, hb_⟩
  have n1_ := Aside0.mk (HSS.out.below hb_)
  clear HSS
  have HSS := n1_
  clear n1_
  go_wp2_with fail
  refine hK _ _ HSS.out ?_
  clear hK K
  refine Held.wpAnyG_one 37 (by kernel_rfl) rfl #[true, true, true, true, true, true, true, true, true, true, true, true, true, true, true, true, true, true, true, true, true, true, true, true, true, true, true, true, true, true, true, true, true, true, true, true, true, true, false, false, true, false, false, false] (by kernel_rfl) (fun K hK => ?_)
  go_wp2_with fail
  (with_reducible refine (one_calls _).mono ?_)
  rintro en w19 ⟨rfl, hb_⟩
  have n1_ := Aside0.mk (HSS.out.below hb_)
  clear HSS
  have HSS := n1_
  clear n1_
  go_wp2_with fail
  refine hK _ _ HSS.out ?_
  clear hK K
  refine Held.wpAnyG_one 38 (by kernel_rfl) rfl #[true, true, true, true, true, true, true, true, true, true, true, true, true, true, true, true, true, true, true, true, true, true, true, true, true, true, true, true, true, true, true, true, true, true, true, true, true, true, true, false, true, false, false, false] (by kernel_rfl) (fun K hK => ?_)
  go_wp2_with fail
  obtain ⟨b19, hb19⟩ : ∃ b19, b19 = w19.heap.size := ⟨_, rfl⟩
  obtain ⟨w20, hw20⟩ : ∃ w20, w20 = w19.alloc (.cells #[.int .u64 (E one).1, .int .u64 (E one).2] 36) := ⟨_, rfl⟩
  rw [← hw20, ← hb19]
  have HBK := Aside0.mk (show w20.heap[b19]? = some (.cells #[.int .u64 (E one).1, .int .u64 (E one).2] 36 (0, 0)) by rw [hw20, hb19]; exact blk_new w19 _)
  have HNB := Aside0.mk (show b19 ≠ h by rw [hb19]; have := HSS.out.hh.lt; omega)
  have n1_ := Aside0.mk (show AliveS W w20 h b9 gL from HSS.out.below (by rw [hw20]; exact below_alloc (Below.refl _ _) _))
  clear HSS hw20 hb19
  have HSS := n1_
  clear n1_
  refine hK _ _ HSS.out ?_
  clear hK K
  refine Held.wpAnyG_one 39 (by kernel_rfl) rfl #[true, true, true, true, true, true, true, true, true, true, true, true, true, true, true, true, true, true, true, true, true, true, true, true, true, true, true, true, true, true, true, true, true, true, true, true, true, true, true, true, true, false, false, false] (by kernel_rfl) (fun K hK => ?_)
  go_wp2_with fail
  (with_reducible refine (fold_one w20 h KN one one b19 true KN_lt one_lt one_lt HSS.out.hh HNB.out HBK.out).mono ?_)
  rintro en w21 ⟨rfl, hh_, hg_⟩
  rw [Nat.xor_self, zero_mul KN_lt, el0]
  have n1_ := Aside0.mk (HSS.out.grown hg_ hh_)
  clear HSS
  have HSS := n1_
  clear n1_
  go_wp2_with fail
  refine hK _ _ HSS.out ?_
  clear hK K
  refine Held.wpAnyG_take (i := 41) (v := (.bool true)) rfl (by kernel_rfl) (by kernel_rfl) (by kernel_rfl) (fun _ _ _ h => h) HSS.out (by first | (with_reducible rfl) | (simp [Region.wanted, yielded, Act.put]; done) | rfl) (fun W1 h1 => by go_simp) (some 89) rfl #[true, true, true, true, true, true, true, true, true, true, true, true, true, true, true, true, true, true, true, true, true, true, true, true, true, true, true, true, true, true, true, true, true, true, true, true, true, true, true, true, true, true, false, false] (by kernel_rfl) ?_
  simp only [Act.put, List.setIfInBounds_toArray, List.set_cons_zero, List.set_cons_succ]
  refine Held.wpAnyG_take (i := 42) (v := (.bool true)) rfl (by kernel_rfl) (by kernel_rfl) (by kernel_rfl) (fun _ _ _ h => h) HSS.out (by first | (with_reducible rfl) | (simp [Region.wanted, yielded, Act.put]; done) | rfl) (fun W1 h1 => by go_simp) (some 90) rfl #[true, true, true, true, true, true, true, true, true, true, true, true, true, true, true, true, true, true, true, true, true, true, true, true, true, true, true, true, true, true, true, true, true, true, true, true, true, true, true, true, true, true, true, false] (by kernel_rfl) ?_
  simp only [Act.put, List.setIfInBounds_toArray, List.set_cons_zero, List.set_cons_succ]
  refine Held.wpAnyG_last 43 (by kernel_rfl) rfl (by kernel_rfl) (by kernel_rfl) ?_
  go_wp2_with fail
  go_ret
  exact ⟨rfl, HSS.out.ww⟩
end Go.Proofs.Ytmhmmmkpijbbiab.Gh
