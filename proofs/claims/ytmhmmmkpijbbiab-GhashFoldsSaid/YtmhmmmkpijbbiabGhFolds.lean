/- ghash: the law GhashFolds walked. Written by wip/gen/ghfolds.py. -/
import Derived.Test.YtmhmmmkpijbbiabGhPoly
namespace Go.Proofs.Ytmhmmmkpijbbiab.Gh
open Go.RowKit Go.Proofs.YtmhmmmkpijbbiabW.PrintWords Go.Proofs.YtmhmmmkpijbbiabW.PrintLast Go.Proofs.YtmhmmmkpijbbiabW.PrintMore Go.Proofs.Ytmhmmmkpijbbiab.X Go.Proofs.Ytmhmmmkpijbbiab.M Go.Proofs.Ytmhmmmkpijbbiab.Bv Go.Proofs.Ytmhmmmkpijbbiab.Gf Go.Proofs.Ytmhmmmkpijbbiab.Arr Go.Proofs.Ytmhmmmkpijbbiab.ArrX Go.Proofs.Ytmhmmmkpijbbiab.PuLib Go.Proofs.Ytmhmmmkpijbbiab.PuCat
open Go.Proofs.Ytmhmmmkpijbbiab.ArrW (infoP_ zeroP)
attribute [local go_sem] max2_int min2_int max_two min_two max_three min_three max_four min_four
set_option linter.unusedVariables false
set_option linter.unusedSimpArgs false
set_option maxRecDepth 100000 in
set_option maxHeartbeats 4000000 in
theorem folds_bad (W : World) (A0 : Option Addr) (p0 c0 f : Nat) (A2 : Option Addr) (p2 c2 : Nat) (hbad : ¬ (p0 = 16 ∧ p2 ≤ 30)) :
    Calls Try.prog 4 #[.slice A0 p0 c0, el f, .slice A2 p2 c2] W fun en W' => en = .returned (.bool true) ∧ Below W.heap.size W W' := by
  have HBAD := Aside0.mk hbad
  clear hbad
  go_enter Try.func4, Try.ntmps4
  go_wp2_with fail
  (with_reducible refine (alive_calls _).mono ?_)
  rintro en w2 ⟨rfl, hb2⟩
  have HB2 := Aside0.mk ((below_alloc (Below.refl W.heap.size W) (.cells #[.int .u64 (E f).1, .int .u64 (E f).2] 36)).trans (hb2.mono (by simp)))
  clear hb2
  by_cases h1 : p0 = 16
  · subst h1
    have h2 : (30 : Int) < (p2 : Int) := by have := HBAD.out; omega
    go_wp2_with fail
    go_ret
    exact ⟨rfl, HB2.out⟩
  · have h1' : ¬ (p0 : Int) = 16 := by omega
    go_wp2_with fail
    go_ret
    exact ⟨rfl, HB2.out⟩
/-- What stays while a hash is used. -/
structure FS (W0 W : World) (h n b4 f : Nat) (A2 : Option Addr) (p : Nat) (ma : List Nat) : Prop where
  bb : W.heap[b4]? = some (.cells #[.int .u64 (E f).1, .int .u64 (E f).2] 36 (0, 0))
  hh : ∃ d, HashAt W h n d
  ra : Kd.F k36 W (fun k => k < W0.heap.size) A2 p (ma.map toS)
  ww : Below W0.heap.size W0 W
  nn : b4 ≠ h ∧ W0.heap.size ≤ h
theorem FS.fa {W0 W : World} {h n b4 f : Nat} {A2 : Option Addr} {p : Nat} {ma : List Nat} (hs : FS W0 W h n b4 f A2 p ma) : Kd.F k36 W (fun k => k ≠ h) A2 p (ma.map toS) := Kd.F_mono hs.ra (fun k hk => by have := hs.nn.2; omega)
theorem FS.new {W0 W W' : World} {h n b4 f : Nat} {A2 : Option Addr} {p : Nat} {ma : List Nat} {row : Option Nat} (hs : FS W0 W h n b4 f A2 p ma) (hg : W.grownBy W' row) (hr : ∀ k, row = some k → k ≠ h ∧ k ≠ b4 ∧ W0.heap.size ≤ k) : FS W0 W' h n b4 f A2 p ma := by
  obtain ⟨d, hd⟩ := hs.hh
  exact ⟨blk_grown hs.bb hg (fun e => (hr b4 e.symm).2.1 rfl), ⟨d, hd.same (hg.block h hd.lt (fun e => (hr h e.symm).1 rfl))⟩, Kd.F_grown hs.ra hg (fun k hk e => by have := (hr k e.symm).2.2; omega), hs.ww.grown hg hs.ww.size (fun k e => (hr k e).2.2), hs.nn⟩
theorem FS.grown {W0 W W' : World} {h n b4 f : Nat} {A2 : Option Addr} {p : Nat} {ma : List Nat} (hs : FS W0 W h n b4 f A2 p ma) (hg : W.grownBy W' (some h)) (hh : ∃ d, HashAt W' h n d) : FS W0 W' h n b4 f A2 p ma :=
  ⟨blk_grown hs.bb hg (fun e => hs.nn.1 (Option.some.inj e)), hh, Kd.F_grown hs.ra hg (fun k hk e => by have := hs.nn.2; injection e with e; omega), hs.ww.grown hg hs.ww.size (fun k e => by cases e; exact hs.nn.2), hs.nn⟩
theorem FS.below {W0 W W' : World} {h n b4 f : Nat} {A2 : Option Addr} {p : Nat} {ma : List Nat} (hs : FS W0 W h n b4 f A2 p ma) (hb : Below W.heap.size W W') : FS W0 W' h n b4 f A2 p ma := hs.new (grown_of_below hb none) (fun k e => by cases e)
theorem FS.load {W0 W : World} {h n b4 f : Nat} {A2 : Option Addr} {p : Nat} {ma : List Nat} (hs : FS W0 W h n b4 f A2 p ma) : (loadVar 36 ⟨b4, 0, none⟩).run Try.prog W = .ok (el f) W := load_elP (blk_cell hs.bb 0) (blk_cell hs.bb 1)
theorem timesC_ (W : World) (h n e : Nat) (hn : n < top) (he : e < top) (hh : ∃ d, HashAt W h n d) :
    Calls Try.prog 22 #[.pointer (some ⟨h, 0, none⟩), el e] W fun en W' => en = .returned (el (mul e n)) ∧ (∃ d, HashAt W' h n d) ∧ W.grownBy W' (some h) := by
  obtain ⟨d, hd⟩ := hh
  refine (mul_calls' W h n e d hn he hd).mono ?_
  rintro en W' ⟨rfl, h1, h2⟩
  exact ⟨rfl, ⟨_, h1⟩, h2⟩
/-- What stays while the document's answer is made. -/
structure FT (W0 W : World) (h n b4 f : Nat) (A2 : Option Addr) (p : Nat) (ma : List Nat) (b11 b12 : Nat) (A5 : Option Addr) : Prop where
  fs : FS W0 W h n b4 f A2 p ma
  k1 : W.heap[b11]? = some (.cells (arr 128 (fb n)) 43 (0, 0))
  k2 : W.heap[b12]? = some (.cells (arr 128 (fb f)) 43 (0, 0))
  rl : Kd.C kP W A5 p ma
theorem FT.below {W0 W W' : World} {h n b4 f : Nat} {A2 : Option Addr} {p : Nat} {ma : List Nat} {b11 b12 : Nat} {A5 : Option Addr} (hs : FT W0 W h n b4 f A2 p ma b11 b12 A5) (hb : Below W.heap.size W W') : FT W0 W' h n b4 f A2 p ma b11 b12 A5 := ⟨hs.fs.below hb, blk_below hs.k1 hb, blk_below hs.k2 hb, Kd.C_below hs.rl hb⟩
/-- What stays while the program's answers are asked. -/
structure FX (W0 W : World) (h n b4 f : Nat) (A2 : Option Addr) (p : Nat) (ma : List Nat) (g : Nat) : Prop where
  fs : FS W0 W h n b4 f A2 p ma
  rx : Kd.F k36 W (fun k => k ≠ h) (some ⟨g, 0, none⟩) 2 ([foldN n ma f, mul f n].map toS)
theorem FX.grown {W0 W W' : World} {h n b4 f : Nat} {A2 : Option Addr} {p : Nat} {ma : List Nat} {g : Nat} (hs : FX W0 W h n b4 f A2 p ma g) (hg : W.grownBy W' (some h)) (hh : ∃ d, HashAt W' h n d) : FX W0 W' h n b4 f A2 p ma g := ⟨hs.fs.grown hg hh, Kd.F_grown hs.rx hg (fun k hk e => hk (Option.some.inj e))⟩
theorem FX.x0 {W0 W : World} {h n b4 f : Nat} {A2 : Option Addr} {p : Nat} {ma : List Nat} {g : Nat} (hs : FX W0 W h n b4 f A2 p ma g) : (loadVar 36 ⟨g, 0, none⟩).run Try.prog W = .ok (el (foldN n ma f)) W := by
  have h := load_row (l := [foldN n ma f, mul f n]) (k := 0) hs.rx (by simp)
  rw [add_plain, show [foldN n ma f, mul f n].getD 0 0 = foldN n ma f from rfl] at h
  exact h
theorem FX.x1 {W0 W : World} {h n b4 f : Nat} {A2 : Option Addr} {p : Nat} {ma : List Nat} {g : Nat} (hs : FX W0 W h n b4 f A2 p ma g) : (loadVar 36 ⟨g, 2, none⟩).run Try.prog W = .ok (el (mul f n)) W := by
  have h := load_row (l := [foldN n ma f, mul f n]) (k := 1) hs.rx (by simp)
  rw [add_plain, show [foldN n ma f, mul f n].getD 1 0 = mul f n from rfl] at h
  exact h
set_option maxRecDepth 100000 in
set_option maxHeartbeats 8000000 in
theorem folds_good (W : World) (A0 : Option Addr) (c0 n f : Nat) (hn : n < top) (hf : f < top) (hC0 : Kd.C (Kd.int .u8) W A0 16 (bytesN n)) (hc0 : 16 ≤ c0) (ma : List Nat) (hma : ∀ b ∈ ma, b < top) (p : Nat) (hpa : p = ma.length) (hp30 : p ≤ 30)
    (A2 : Option Addr) (c2 : Nat) (hC2 : Kd.C k36 W A2 p (ma.map toS)) (hc2 : p ≤ c2) :
    Calls Try.prog 4 #[.slice A0 16 c0, el f, .slice A2 p c2] W fun en W' => en = .returned (.bool true) ∧ Below W.heap.size W W' := by
  have HN := Aside0.mk hn
  have HF := Aside0.mk hf
  have HC0 := Aside0.mk hC0
  have HL0 := Aside0.mk hc0
  have HMA := Aside0.mk hma
  have HPA := Aside0.mk hpa
  have HC2 := Aside0.mk hC2
  have HL2 := Aside0.mk hc2
  have HP := Aside0.mk hp30
  have q1 : ¬ (30 : Int) < (p : Int) := by omega
  clear hn hf hC0 hc0 hma hpa hC2 hc2 hp30
  go_enter Try.func4, Try.ntmps4
  go_wp2_with fail
  obtain ⟨b4, hb4⟩ : ∃ b4, b4 = W.heap.size := ⟨_, rfl⟩
  obtain ⟨w1, hw1⟩ : ∃ w1, w1 = W.alloc (.cells #[.int .u64 (E f).1, .int .u64 (E f).2] 36) := ⟨_, rfl⟩
  rw [← hw1, ← hb4]
  have hbe : Below W.heap.size W w1 := by rw [hw1]; exact below_alloc (Below.refl _ _) _
  have H4 := Aside0.mk (show w1.heap[b4]? = some (.cells #[.int .u64 (E f).1, .int .u64 (E f).2] 36 (0, 0)) by rw [hw1, hb4]; exact blk_new W _)
  have HB4 := Aside0.mk hb4
  have HB1 := Aside0.mk hbe
  clear hw1 hb4 hbe
  (with_reducible refine (alive_calls _).mono ?_)
  rintro en w2 ⟨rfl, hb2⟩
  have H4 := Aside0.mk (blk_below H4.out hb2)
  have HB2 := Aside0.mk (HB1.out.trans (hb2.mono HB1.out.size))
  clear hb2 HB1
  go_wp2_with fail
  (with_reducible refine (new16_calls n HN.out A0 c0 w2 (Kd.C_below HC0.out HB2.out) HL0.out).mono ?_)
  rintro en w3 ⟨h, rfl, hh3, hl3, hb3⟩
  have hb03 := HB2.out.trans (hb3.mono HB2.out.size)
  have hWh : W.heap.size ≤ h := Nat.le_trans HB2.out.size hl3
  have HNH := Aside0.mk (show b4 ≠ h by have h1 := blk_lt H4.out; omega)
  have HFS := Aside0.mk (show FS W w3 h n b4 f A2 p ma from ⟨blk_below H4.out hb3, ⟨_, hh3⟩, by have h1 := HC2.out; rw [HPA.out] at h1 ⊢; exact rows_F h1 w3 hb03, hb03, HNH.out, hWh⟩)
  clear hh3 hl3 hb3 hb03 hWh H4 HB2
  go_wp2_with fail
  obtain ⟨B0, hB0⟩ : ∃ B0, B0 = w3.heap.size := ⟨_, rfl⟩
  obtain ⟨w7, hw7⟩ : ∃ w7, w7 = w3.alloc (.cells #[] 43) := ⟨_, rfl⟩
  rw [← hw7, ← hB0]
  have HR7 := Aside0.mk (show Kd.R kP 43 w7 B0 (fun _ => True) (.slice (some ⟨B0, 0, none⟩) 0 0) (ma.take 0) by rw [hw7, hB0]; exact R_emptyP w3 _ (Nat.le_refl _))
  have HPS := Aside0.mk (show FS W w7 h n b4 f A2 p ma from HFS.out.below (by rw [hw7]; exact below_alloc (Below.refl _ _) _))
  have HNB := Aside0.mk (show h < B0 ∧ b4 < B0 ∧ W.heap.size ≤ B0 by rw [hB0]; obtain ⟨d, hd⟩ := HFS.out.hh; exact ⟨hd.lt, blk_lt HFS.out.bb, HFS.out.ww.size⟩)
  have HB7 := Aside0.mk (show B0 ≤ w7.heap.size by rw [hw7, hB0]; simp)
  clear hB0 hw7 HFS
  go_loopw [9, 10] (fun v9 v10 wr => ∃ (k : Nat) (A5 : Option Addr) (c5 : Nat), k ≤ p ∧ v10 = .int .i64 k ∧ v9 = .slice A5 k c5 ∧ Aside0 (Kd.R kP 43 wr B0 (fun _ => True) (.slice A5 k c5) (ma.take k)) ∧ Aside0 (FS W wr h n b4 f A2 p ma) ∧ Aside0 (B0 ≤ wr.heap.size)) (fun _ v10 _ => p - (intOf v10).toNat)
  case atStart => exact ⟨0, _, _, Nat.zero_le _, rfl, rfl, HR7, HPS, HB7⟩
  case round =>
    clear HR7 HPS HB7
    obtain ⟨k, A5, c5, hk, rfl, rfl, HR, HPS, HBZ⟩ := hrel
    by_cases hlt : k < p
    · have HKL := Aside0.mk hlt
      obtain ⟨ad2, hA2, _⟩ := (Kd.F_now HPS.out.ra).2.2 (Nat.lt_of_le_of_lt (Nat.zero_le _) hlt)
      subst hA2
      obtain ⟨b, hb⟩ : ∃ b, b = ma.getD k 0 := ⟨_, rfl⟩
      have HBL := Aside0.mk (show b < top by rw [hb, List.getD_eq_getElem?_getD, List.getElem?_eq_getElem (by have := HPA.out; omega)]; exact HMA.out _ (List.getElem_mem _))
      have HBK := Aside0.mk hb
      have HLD := Aside0.mk (show (loadVar 36 (ad2.add (k * 2))).run Try.prog wr = .ok (el b) wr by
        rw [hb]
        have h1 := HPS.out.ra
        rw [HPA.out] at h1
        exact load_row h1 (by have h2 := HPA.out; omega))
      have e1 : (0 : Int) ≤ (k : Int) ∧ (k : Int) < (p : Int) := by omega
      have e2 : (k : Int) < (p : Int) := by omega
      clear hb hlt hk
      go_wp2_with (refine wpList_load_of rfl 36 (.tmp 45) rfl (ad2.add (k * 2)) rfl HLD.out ?_)
      (with_reducible refine (ebytes_calls b HBL.out wr).mono ?_)
      rintro en w8 ⟨v, rfl, hr, hb⟩
      obtain ⟨B1, d1, rfl⟩ := Kd.R_slice hr
      rw [bytesN_length] at hr ⊢
      have hr1 := Kd.R_reads' hr
      have hC1 : Kd.C (Kd.int .u8) w8 B1 16 (bytesN b) := by have h1 := hr1.2.2; rw [bytesN_length] at h1; exact h1
      have HC1 := Aside0.mk hC1
      have HR := Aside0.mk (Kd.R_below HR.out hb)
      have HPS := Aside0.mk (HPS.out.below hb)
      have HBZ := Aside0.mk (Nat.le_trans HBZ.out hb.size)
      clear hr hr1 hC1 hb HLD
      go_wp2_with fail
      (with_reducible refine (ofP_calls b B1 d1 w8 HC1.out).mono ?_)
      rintro en w9 ⟨rfl, hb⟩
      have HR := Aside0.mk (Kd.R_below HR.out hb)
      have HPS := Aside0.mk (HPS.out.below hb)
      have HBZ := Aside0.mk (Nat.le_trans HBZ.out hb.size)
      clear hb HC1
      go_wp2_with (first | (refine wpList_bsP1 rfl (.tmp 48) rfl b rfl ?_) | ((with_reducible refine gate_builtin (b := .append) (xs := #[.tmp 42, .tmp 49]) rfl ?_); at_builtin; refine append_P_list rfl (.tmp 42) (.tmp 49) rfl rfl w9 B0 w9.heap.size (.slice A5 k c5) _ b rfl rfl rfl HR.out HBZ.out (by rw [List.length_take]; have h1 := HPA.out; have h2 := HP.out; omega) ?_; intro v4 w4 ho hg; obtain ⟨A6, c6, rfl⟩ := Kd.R_slice ho; (have hl : (ma.take k ++ [b]).length = k + 1 := by rw [List.length_append, List.length_take, Nat.min_eq_left (by have h1 := HPA.out; have h2 := HKL.out; omega)]; rfl); rw [hl] at ho ⊢; (have hx : ma.take k ++ [b] = ma.take (k + 1) := by rw [take_succ_getD ma (by have h1 := HPA.out; have h2 := HKL.out; omega), ← HBK.out]); rw [hx] at ho; have HR6 := Aside0.mk ho; have HP6 := Aside0.mk (HPS.out.new hg (fun q hq => by have h1 := Kd.R_base HR.out q hq; have h2 := HNB.out; omega)); have HZ6 := Aside0.mk (Nat.le_trans HBZ.out hg.size); clear ho hg hl hx))
      go_roundw
      case measure => have h2 := HKL.out; simp [intOf]; omega
      case rel => exact ⟨k + 1, A6, c6, HKL.out, by go_num, rfl, HR6, HP6, HZ6⟩
    · obtain rfl : k = p := by omega
      have hr := HR.out
      rw [List.take_of_length_le (Nat.le_of_eq HPA.out.symm)] at hr
      have hr2 := Kd.R_reads' hr
      have HL5 := Aside0.mk (show k ≤ c5 from hr2.2.1)
      have HC5 := Aside0.mk (show Kd.C kP wr A5 k ma by have h1 := hr2.2.2; rw [← hr2.1] at h1; exact h1)
      clear hr hr2 HR HBZ
      have hz := zeroP
      go_wp2_with fail
      (with_reducible refine (ofP_calls n A0 c0 wr (Kd.C_below HC0.out HPS.out.ww)).mono ?_)
      rintro en w10 ⟨rfl, hb⟩
      have HC5 := Aside0.mk (Kd.C_below HC5.out hb)
      have HPS := Aside0.mk (HPS.out.below hb)
      clear hb
      obtain ⟨b11, hb11⟩ : ∃ b11, b11 = w10.heap.size := ⟨_, rfl⟩
      go_upto_region 14 with (refine wpList_store_row rfl 43 (.tmp 11) (.tmp 52) rfl w10.heap.size _ rfl rfl 43 _ (blk_new w10 (.cells (arr 128 fun _ => false) 43)) (infoP_.trans (by rw [arr_size])) (by rw [arr_size, arr_size]) (arr_one _ _) ?_)
      obtain ⟨w11, hw11⟩ : ∃ w11, w11 = (w10.alloc (.cells (arr 128 fun _ => false) 43)).setRow w10.heap.size (arr 128 (fb n)) := ⟨_, rfl⟩
      rw [← hw11, ← hb11]
      have hbe : Below w10.heap.size w10 w11 := by rw [hw11]; exact ArrW.below_setRow (below_alloc (Below.refl _ _) _) (Nat.le_refl _) _
      have HK1 := Aside0.mk (show w11.heap[b11]? = some (.cells (arr 128 (fb n)) 43 (0, 0)) by rw [hw11, hb11]; exact setRow_heap _ _ _ _ 43 (0, 0) (blk_new w10 _))
      have HC5 := Aside0.mk (Kd.C_below HC5.out hbe)
      have HPS := Aside0.mk (HPS.out.below hbe)
      clear hbe hw11 hb11
      have hk0 := blk_cell HPS.out.bb 0
      have hk1 := blk_cell HPS.out.bb 1
      simp at hk0 hk1
      go_wp2_with fail
      clear hk0 hk1
      (with_reducible refine (ebytes_calls f HF.out w11).mono ?_)
      rintro en w12 ⟨v, rfl, hr, hb⟩
      obtain ⟨B1, d1, rfl⟩ := Kd.R_slice hr
      rw [bytesN_length] at hr ⊢
      have hr1 := Kd.R_reads' hr
      have HC1 := Aside0.mk (show Kd.C (Kd.int .u8) w12 B1 16 (bytesN f) by have h1 := hr1.2.2; rw [bytesN_length] at h1; exact h1)
      have HC5 := Aside0.mk (Kd.C_below HC5.out hb)
      have HPS := Aside0.mk (HPS.out.below hb)
      have HK1 := Aside0.mk (blk_below HK1.out hb)
      clear hr hr1 hb
      go_wp2_with fail
      (with_reducible refine (ofP_calls f B1 d1 w12 HC1.out).mono ?_)
      rintro en w13 ⟨rfl, hb⟩
      have HC5 := Aside0.mk (Kd.C_below HC5.out hb)
      have HPS := Aside0.mk (HPS.out.below hb)
      have HK1 := Aside0.mk (blk_below HK1.out hb)
      clear hb HC1
      obtain ⟨b12, hb12⟩ : ∃ b12, b12 = w13.heap.size := ⟨_, rfl⟩
      go_upto_region 15 with (refine wpList_store_row rfl 43 (.tmp 12) (.tmp 55) rfl w13.heap.size _ rfl rfl 43 _ (blk_new w13 (.cells (arr 128 fun _ => false) 43)) (infoP_.trans (by rw [arr_size])) (by rw [arr_size, arr_size]) (arr_one _ _) ?_)
      obtain ⟨w14, hw14⟩ : ∃ w14, w14 = (w13.alloc (.cells (arr 128 fun _ => false) 43)).setRow w13.heap.size (arr 128 (fb f)) := ⟨_, rfl⟩
      rw [← hw14, ← hb12]
      have hbe : Below w13.heap.size w13 w14 := by rw [hw14]; exact ArrW.below_setRow (below_alloc (Below.refl _ _) _) (Nat.le_refl _) _
      have hk2 : w14.heap[b12]? = some (.cells (arr 128 (fb f)) 43 (0, 0)) := by rw [hw14, hb12]; exact setRow_heap _ _ _ _ 43 (0, 0) (blk_new w13 _)
      have HSS := Aside0.mk (show FT W w14.drew h n b4 f A2 k ma b11 b12 A5 from FT.below (W := w14) ⟨HPS.out.below hbe, blk_below HK1.out hbe, hk2, Kd.C_below HC5.out hbe⟩ (below_drew (Below.refl _ _)))
      clear hbe hw14 hb12 hk2 HPS HC5 HK1
      refine Held.wp_region_G (S := (fun W1 : World => FT W W1 h n b4 f A2 k ma b11 b12 A5)) (by kernel_rfl) ?_
      change Held.wpAnyG _ _ _ _ _ 10 _ _ _
      refine Held.wpAnyG_take (i := 0) (v := (pv n)) rfl (by kernel_rfl) (by kernel_rfl) (by kernel_rfl) (fun _ _ _ h => h) HSS.out (by first | (with_reducible rfl) | (simp [Region.wanted, yielded, Act.put]; done) | rfl) (fun W1 hs => Held.run_load_of 43 (.tmp 11) rfl ⟨b11, 0, none⟩ rfl (load_blkP hs.k1)) (some 56) rfl #[true, false, false, false, false, false, false, false, false, false] (by kernel_rfl) ?_
      simp only [Act.put, List.setIfInBounds_toArray, List.set_cons_zero, List.set_cons_succ]
      refine Held.wpAnyG_take (i := 1) (v := (pv f)) rfl (by kernel_rfl) (by kernel_rfl) (by kernel_rfl) (fun _ _ _ h => h) HSS.out (by first | (with_reducible rfl) | (simp [Region.wanted, yielded, Act.put]; done) | rfl) (fun W1 hs => Held.run_load_of 43 (.tmp 12) rfl ⟨b12, 0, none⟩ rfl (load_blkP hs.k2)) (some 57) rfl #[true, true, false, false, false, false, false, false, false, false] (by kernel_rfl) ?_
      simp only [Act.put, List.setIfInBounds_toArray, List.set_cons_zero, List.set_cons_succ]
      refine Held.wpAnyG_take (i := 2) (v := (.slice A5 k c5)) rfl (by kernel_rfl) (by kernel_rfl) (by kernel_rfl) (fun _ _ _ h => h) HSS.out (by first | (with_reducible rfl) | (simp [Region.wanted, yielded, Act.put]; done) | rfl) (fun W1 h1 => by go_simp) (some 58) rfl #[true, true, true, false, false, false, false, false, false, false] (by kernel_rfl) ?_
      simp only [Act.put, List.setIfInBounds_toArray, List.set_cons_zero, List.set_cons_succ]
      refine Held.wpAnyG_take (i := 4) (v := (pv n)) rfl (by kernel_rfl) (by kernel_rfl) (by kernel_rfl) (fun _ _ _ h => h) HSS.out (by first | (with_reducible rfl) | (simp [Region.wanted, yielded, Act.put]; done) | rfl) (fun W1 hs => Held.run_load_of 43 (.tmp 11) rfl ⟨b11, 0, none⟩ rfl (load_blkP hs.k1)) (some 60) rfl #[true, true, true, false, true, false, false, false, false, false] (by kernel_rfl) ?_
      simp only [Act.put, List.setIfInBounds_toArray, List.set_cons_zero, List.set_cons_succ]
      refine Held.wpAnyG_take (i := 5) (v := (pv f)) rfl (by kernel_rfl) (by kernel_rfl) (by kernel_rfl) (fun _ _ _ h => h) HSS.out (by first | (with_reducible rfl) | (simp [Region.wanted, yielded, Act.put]; done) | rfl) (fun W1 hs => Held.run_load_of 43 (.tmp 12) rfl ⟨b12, 0, none⟩ rfl (load_blkP hs.k2)) (some 61) rfl #[true, true, true, false, true, true, false, false, false, false] (by kernel_rfl) ?_
      simp only [Act.put, List.setIfInBounds_toArray, List.set_cons_zero, List.set_cons_succ]
      refine Held.wpAnyG_one 3 (by kernel_rfl) rfl #[true, true, true, true, true, true, false, false, false, false] (by kernel_rfl) (fun K hK => ?_)
      go_wp2_with fail
      (with_reducible refine (rfold_calls n f ma k HPA.out HN.out (Nat.le_trans HP.out (by decide)) A5 c5 _ HSS.out.rl HL5.out).mono ?_)
      rintro en w15 ⟨rfl, hb_⟩
      have n1_ := Aside0.mk (HSS.out.below hb_)
      clear HSS
      have HSS := n1_
      clear n1_
      go_wp2_with fail
      refine hK _ _ HSS.out ?_
      clear hK K
      refine Held.wpAnyG_one 6 (by kernel_rfl) rfl #[true, true, true, true, true, true, true, false, false, false] (by kernel_rfl) (fun K hK => ?_)
      go_wp2_with fail
      (with_reducible refine (mul_x n f _ HF.out).mono ?_)
      rintro en w16 ⟨rfl, hb_⟩
      rw [mul_comm HN.out HF.out]
      have n1_ := Aside0.mk (HSS.out.below hb_)
      clear HSS
      have HSS := n1_
      clear n1_
      go_wp2_with fail
      refine hK _ _ HSS.out ?_
      clear hK K
      refine Held.wpAnyG_one 7 (by kernel_rfl) rfl #[true, true, true, true, true, true, true, true, false, false] (by kernel_rfl) (fun K hK => ?_)
      refine wpList_bsP2 rfl (.tmp 59) (.tmp 62) rfl (foldN n ma f) (mul f n) rfl rfl ?_
      go_wp2_with fail
      obtain ⟨w20, hw20⟩ : ∃ w20, w20 = w16.alloc (.cells (arr 128 (fb (foldN n ma f)) ++ arr 128 (fb (mul f n))) 43) := ⟨_, rfl⟩
      rw [← hw20]
      have HRP := Aside0.mk (show Kd.C kP w20 (some ⟨w16.heap.size, 0, none⟩) 2 [foldN n ma f, mul f n] by rw [hw20]; exact rows2P (blk_new w16 _))
      have n1_ := Aside0.mk (HSS.out.below (show Below w16.heap.size w16 w20 by rw [hw20]; exact below_alloc (Below.refl _ _) _))
      clear HSS hw20
      have HSS := n1_
      clear n1_
      refine hK _ _ HSS.out ?_
      clear hK K
      refine Held.wpAnyG_one 8 (by kernel_rfl) rfl #[true, true, true, true, true, true, true, true, true, false] (by kernel_rfl) (fun K hK => ?_)
      go_wp2_with fail
      (with_reducible refine (elems_calls [foldN n ma f, mul f n] 2 rfl (by intro b hb; simp only [List.mem_cons, List.not_mem_nil, or_false] at hb; rcases hb with rfl | rfl; exact foldN_lt HN.out _ HF.out; exact mul_lt HN.out) (by decide) (some ⟨w16.heap.size, 0, none⟩) 2 w20 HRP.out (Nat.le_refl 2)).mono ?_)
      rintro en w21 ⟨v, rfl, hr, hb⟩
      obtain ⟨g, cg, rfl, _⟩ := Kd.R_form hr (by simp)
      have HX := Aside0.mk (show FX W w21 h n b4 f A2 k ma g from ⟨HSS.out.fs.below hb, Kd.F_mono (Kd.R_F (Kd.R_bound hr)) (fun q hq => by have h1 := hq.2.1; obtain ⟨d, hd⟩ := HSS.out.fs.hh; have h2 := hd.lt; omega)⟩)
      have n1_ := Aside0.mk (HSS.out.below hb)
      clear HSS hr hb HRP
      have HSS := n1_
      clear n1_
      go_wp2_with fail
      refine hK _ _ HSS.out ?_
      clear hK K
      refine Held.wpAnyG_last 9 (by kernel_rfl) rfl (by kernel_rfl) (by kernel_rfl) ?_
      go_upto_region 16 with (fail)
      have HSS := Aside0.mk (show FX W w21.drew h n b4 f A2 k ma g from ⟨HX.out.fs.below (below_drew (Below.refl _ _)), Kd.F_drew HX.out.rx⟩)
      clear HX
      refine Held.wp_region_G (S := (fun W1 : World => FX W W1 h n b4 f A2 k ma g)) (by kernel_rfl) ?_
      change Held.wpAnyG _ _ _ _ _ 18 _ _ _
      refine Held.wpAnyG_take (i := 0) (v := (.pointer (some ⟨h, 0, none⟩))) rfl (by kernel_rfl) (by kernel_rfl) (by kernel_rfl) (fun _ _ _ h => h) HSS.out (by first | (with_reducible rfl) | (simp [Region.wanted, yielded, Act.put]; done) | rfl) (fun W1 h1 => by go_simp) (some 65) rfl #[true, false, false, false, false, false, false, false, false, false, false, false, false, false, false, false, false, false] (by kernel_rfl) ?_
      simp only [Act.put, List.setIfInBounds_toArray, List.set_cons_zero, List.set_cons_succ]
      refine Held.wpAnyG_take (i := 1) (v := (el f)) rfl (by kernel_rfl) (by kernel_rfl) (by kernel_rfl) (fun _ _ _ h => h) HSS.out (by first | (with_reducible rfl) | (simp [Region.wanted, yielded, Act.put]; done) | rfl) (fun W1 hs => Held.run_load_of 36 (.tmp 4) rfl ⟨b4, 0, none⟩ rfl (FS.load hs.fs)) (some 66) rfl #[true, true, false, false, false, false, false, false, false, false, false, false, false, false, false, false, false, false] (by kernel_rfl) ?_
      simp only [Act.put, List.setIfInBounds_toArray, List.set_cons_zero, List.set_cons_succ]
      refine Held.wpAnyG_take (i := 2) (v := (.slice A2 k c2)) rfl (by kernel_rfl) (by kernel_rfl) (by kernel_rfl) (fun _ _ _ h => h) HSS.out (by first | (with_reducible rfl) | (simp [Region.wanted, yielded, Act.put]; done) | rfl) (fun W1 h1 => by go_simp) (some 67) rfl #[true, true, true, false, false, false, false, false, false, false, false, false, false, false, false, false, false, false] (by kernel_rfl) ?_
      simp only [Act.put, List.setIfInBounds_toArray, List.set_cons_zero, List.set_cons_succ]
      refine Held.wpAnyG_take (i := 4) (v := (.slice (some ⟨g, 0, none⟩) 2 cg)) rfl (by kernel_rfl) (by kernel_rfl) (by kernel_rfl) (fun _ _ _ h => h) HSS.out (by first | (with_reducible rfl) | (simp [Region.wanted, yielded, Act.put]; done) | rfl) (fun W1 h1 => by go_simp) (some 69) rfl #[true, true, true, false, true, false, false, false, false, false, false, false, false, false, false, false, false, false] (by kernel_rfl) ?_
      simp only [Act.put, List.setIfInBounds_toArray, List.set_cons_zero, List.set_cons_succ]
      refine Held.wpAnyG_take (i := 5) (v := (.pointer (some ⟨g, 0, none⟩))) rfl (by kernel_rfl) (by kernel_rfl) (by kernel_rfl) (fun _ _ _ h => h) HSS.out (by first | (with_reducible rfl) | (simp [Region.wanted, yielded, Act.put]; done) | rfl) (fun W1 h1 => by go_simp) (some 70) rfl #[true, true, true, false, true, true, false, false, false, false, false, false, false, false, false, false, false, false] (by kernel_rfl) ?_
      simp only [Act.put, List.setIfInBounds_toArray, List.set_cons_zero, List.set_cons_succ]
      refine Held.wpAnyG_take (i := 6) (v := (el (foldN n ma f))) rfl (by kernel_rfl) (by kernel_rfl) (by kernel_rfl) (fun _ _ _ h => h) HSS.out (by first | (with_reducible rfl) | (simp [Region.wanted, yielded, Act.put]; done) | rfl) (fun W1 hs => Held.run_load_of 36 (.tmp 70) rfl ⟨g, 0, none⟩ rfl (FX.x0 hs)) (some 71) rfl #[true, true, true, false, true, true, true, false, false, false, false, false, false, false, false, false, false, false] (by kernel_rfl) ?_
      simp only [Act.put, List.setIfInBounds_toArray, List.set_cons_zero, List.set_cons_succ]
      refine Held.wpAnyG_one 3 (by kernel_rfl) rfl #[true, true, true, true, true, true, true, false, false, false, false, false, false, false, false, false, false, false] (by kernel_rfl) (fun K hK => ?_)
      go_wp2_with fail
      (with_reducible refine (foldC _ h n f ma k HPA.out HN.out HF.out HMA.out A2 c2 HSS.out.fs.hh HSS.out.fs.fa HL2.out).mono ?_)
      rintro en w31 ⟨rfl, hh_, hg_⟩
      have n1_ := Aside0.mk (HSS.out.grown hg_ hh_)
      clear HSS
      have HSS := n1_
      clear n1_
      go_wp2_with fail
      refine hK _ _ HSS.out ?_
      clear hK K
      refine Held.wpAnyG_take (i := 7) (v := (.bool true)) rfl (by kernel_rfl) (by kernel_rfl) (by kernel_rfl) (fun _ _ _ h => h) HSS.out (by first | (with_reducible rfl) | (simp [Region.wanted, yielded, Act.put]; done) | rfl) (fun W1 h1 => by go_simp) (some 72) rfl #[true, true, true, true, true, true, true, true, false, false, false, false, false, false, false, false, false, false] (by kernel_rfl) ?_
      simp only [Act.put, List.setIfInBounds_toArray, List.set_cons_zero, List.set_cons_succ]
      refine Held.wpAnyG_take (i := 8) (v := (.bool true)) rfl (by kernel_rfl) (by kernel_rfl) (by kernel_rfl) (fun _ _ _ h => h) HSS.out (by first | (with_reducible rfl) | (simp [Region.wanted, yielded, Act.put]; done) | rfl) (fun W1 h1 => by go_simp) (some 73) rfl #[true, true, true, true, true, true, true, true, true, false, false, false, false, false, false, false, false, false] (by kernel_rfl) ?_
      simp only [Act.put, List.setIfInBounds_toArray, List.set_cons_zero, List.set_cons_succ]
      refine Held.wpAnyG_take (i := 9) (v := (.pointer (some ⟨h, 0, none⟩))) rfl (by kernel_rfl) (by kernel_rfl) (by kernel_rfl) (fun _ _ _ h => h) HSS.out (by first | (with_reducible rfl) | (simp [Region.wanted, yielded, Act.put]; done) | rfl) (fun W1 h1 => by go_simp) (some 74) rfl #[true, true, true, true, true, true, true, true, true, true, false, false, false, false, false, false, false, false] (by kernel_rfl) ?_
      simp only [Act.put, List.setIfInBounds_toArray, List.set_cons_zero, List.set_cons_succ]
      refine Held.wpAnyG_take (i := 10) (v := (el f)) rfl (by kernel_rfl) (by kernel_rfl) (by kernel_rfl) (fun _ _ _ h => h) HSS.out (by first | (with_reducible rfl) | (simp [Region.wanted, yielded, Act.put]; done) | rfl) (fun W1 hs => Held.run_load_of 36 (.tmp 4) rfl ⟨b4, 0, none⟩ rfl (FS.load hs.fs)) (some 75) rfl #[true, true, true, true, true, true, true, true, true, true, true, false, false, false, false, false, false, false] (by kernel_rfl) ?_
      simp only [Act.put, List.setIfInBounds_toArray, List.set_cons_zero, List.set_cons_succ]
      refine Held.wpAnyG_take (i := 12) (v := (.slice (some ⟨g, 0, none⟩) 2 cg)) rfl (by kernel_rfl) (by kernel_rfl) (by kernel_rfl) (fun _ _ _ h => h) HSS.out (by first | (with_reducible rfl) | (simp [Region.wanted, yielded, Act.put]; done) | rfl) (fun W1 h1 => by go_simp) (some 77) rfl #[true, true, true, true, true, true, true, true, true, true, true, false, true, false, false, false, false, false] (by kernel_rfl) ?_
      simp only [Act.put, List.setIfInBounds_toArray, List.set_cons_zero, List.set_cons_succ]
      refine Held.wpAnyG_take (i := 13) (v := (.pointer (some ⟨g, 2, none⟩))) rfl (by kernel_rfl) (by kernel_rfl) (by kernel_rfl) (fun _ _ _ h => h) HSS.out (by first | (with_reducible rfl) | (simp [Region.wanted, yielded, Act.put]; done) | rfl) (fun W1 h1 => by go_simp) (some 78) rfl #[true, true, true, true, true, true, true, true, true, true, true, false, true, true, false, false, false, false] (by kernel_rfl) ?_
      simp only [Act.put, List.setIfInBounds_toArray, List.set_cons_zero, List.set_cons_succ]
      refine Held.wpAnyG_take (i := 14) (v := (el (mul f n))) rfl (by kernel_rfl) (by kernel_rfl) (by kernel_rfl) (fun _ _ _ h => h) HSS.out (by first | (with_reducible rfl) | (simp [Region.wanted, yielded, Act.put]; done) | rfl) (fun W1 hs => Held.run_load_of 36 (.tmp 78) rfl ⟨g, 2, none⟩ rfl (FX.x1 hs)) (some 79) rfl #[true, true, true, true, true, true, true, true, true, true, true, false, true, true, true, false, false, false] (by kernel_rfl) ?_
      simp only [Act.put, List.setIfInBounds_toArray, List.set_cons_zero, List.set_cons_succ]
      refine Held.wpAnyG_one 11 (by kernel_rfl) rfl #[true, true, true, true, true, true, true, true, true, true, true, true, true, true, true, false, false, false] (by kernel_rfl) (fun K hK => ?_)
      go_wp2_with fail
      (with_reducible refine (timesC_ _ h n f HN.out HF.out HSS.out.fs.hh).mono ?_)
      rintro en w32 ⟨rfl, hh_, hg_⟩
      have n1_ := Aside0.mk (HSS.out.grown hg_ hh_)
      clear HSS
      have HSS := n1_
      clear n1_
      go_wp2_with fail
      refine hK _ _ HSS.out ?_
      clear hK K
      refine Held.wpAnyG_take (i := 15) (v := (.bool true)) rfl (by kernel_rfl) (by kernel_rfl) (by kernel_rfl) (fun _ _ _ h => h) HSS.out (by first | (with_reducible rfl) | (simp [Region.wanted, yielded, Act.put]; done) | rfl) (fun W1 h1 => by go_simp) (some 80) rfl #[true, true, true, true, true, true, true, true, true, true, true, true, true, true, true, true, false, false] (by kernel_rfl) ?_
      simp only [Act.put, List.setIfInBounds_toArray, List.set_cons_zero, List.set_cons_succ]
      refine Held.wpAnyG_take (i := 16) (v := (.bool true)) rfl (by kernel_rfl) (by kernel_rfl) (by kernel_rfl) (fun _ _ _ h => h) HSS.out (by first | (with_reducible rfl) | (simp [Region.wanted, yielded, Act.put]; done) | rfl) (fun W1 h1 => by go_simp) (some 81) rfl #[true, true, true, true, true, true, true, true, true, true, true, true, true, true, true, true, true, false] (by kernel_rfl) ?_
      simp only [Act.put, List.setIfInBounds_toArray, List.set_cons_zero, List.set_cons_succ]
      refine Held.wpAnyG_last 17 (by kernel_rfl) rfl (by kernel_rfl) (by kernel_rfl) ?_
      go_wp2_with fail
      go_ret
      exact ⟨rfl, HSS.out.fs.ww⟩
theorem folds_calls (W : World) (l0 : List Int) (g0 : ∀ x ∈ l0, 0 ≤ x ∧ x < 256) (A0 : Option Addr) (c0 : Nat) (hC0 : Kd.C (Kd.int .u8) W A0 l0.length l0) (hc0 : l0.length ≤ c0) (x y : Int) (hf : fineS ⟨x, y⟩) (l2 : List S36) (g2 : ∀ s ∈ l2, fineS s)
    (A2 : Option Addr) (c2 : Nat) (hC2 : Kd.C k36 W A2 l2.length l2) (hc2 : l2.length ≤ c2) :
    Calls Try.prog 4 #[.slice A0 l0.length c0, .agg #[.int .u64 x, .int .u64 y], .slice A2 l2.length c2] W fun en W' => en = .returned (.bool true) ∧ Below W.heap.size W W' := by
  obtain ⟨f, hf2, ef, _⟩ := el_of hf
  rw [ef]
  by_cases hg : l0.length = 16 ∧ l2.length ≤ 30
  · obtain ⟨n, hn, rfl⟩ := bytes_all l0 g0 hg.1
    obtain ⟨ma, hma, rfl⟩ := rows_of l2 g2
    simp only [List.length_map] at hg hC2 hc2 ⊢
    rw [bytesN_length] at hC0 hc0 ⊢
    exact folds_good W A0 c0 n f hn hf2 hC0 hc0 ma hma ma.length rfl hg.2 A2 c2 hC2 hc2
  · exact folds_bad W A0 l0.length c0 f A2 l2.length c2 hg
end Go.Proofs.Ytmhmmmkpijbbiab.Gh
