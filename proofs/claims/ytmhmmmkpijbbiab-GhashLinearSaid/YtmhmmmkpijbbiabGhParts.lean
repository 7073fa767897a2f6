/- ghash: the law GhashParts walked. Written by wip/gen/ghparts.py. -/
import Derived.Test.YtmhmmmkpijbbiabGhLib
namespace Go.Proofs.Ytmhmmmkpijbbiab.Gh
open Go.RowKit Go.Proofs.YtmhmmmkpijbbiabW.PrintWords Go.Proofs.YtmhmmmkpijbbiabW.PrintLast Go.Proofs.YtmhmmmkpijbbiabW.PrintMore Go.Proofs.Ytmhmmmkpijbbiab.X Go.Proofs.Ytmhmmmkpijbbiab.M Go.Proofs.Ytmhmmmkpijbbiab.Bv Go.Proofs.Ytmhmmmkpijbbiab.Gf Go.Proofs.Ytmhmmmkpijbbiab.Arr Go.Proofs.Ytmhmmmkpijbbiab.ArrX Go.Proofs.Ytmhmmmkpijbbiab.PuLib Go.Proofs.Ytmhmmmkpijbbiab.PuCat
attribute [local go_sem] max2_int min2_int max_two min_two max_three min_three max_four min_four
set_option linter.unusedVariables false
set_option linter.unusedSimpArgs false
set_option maxRecDepth 100000 in
set_option maxHeartbeats 4000000 in
theorem parts_bad (W : World) (A0 : Option Addr) (p0 c0 f : Nat) (A2 : Option Addr) (p2 c2 : Nat) (A3 : Option Addr) (p3 c3 : Nat) (cut : Int) (hbad : ¬ (p0 = 16 ∧ p2 ≤ 30 ∧ p3 = p2 ∧ 0 ≤ cut ∧ cut ≤ p2)) :
    Calls Try.prog 5 #[.slice A0 p0 c0, el f, .slice A2 p2 c2, .slice A3 p3 c3, .int .i64 cut] W fun en W' => en = .returned (.bool true) ∧ Below W.heap.size W W' := by
  have HBAD := Aside0.mk hbad
  clear hbad
  go_enter Try.func5, Try.ntmps5
  go_wp2_with fail
  (with_reducible refine (alive_calls _).mono ?_)
  rintro en w2 ⟨rfl, hb2⟩
  have HB2 := Aside0.mk ((below_alloc (Below.refl W.heap.size W) (.cells #[.int .u64 (E f).1, .int .u64 (E f).2] 36)).trans (hb2.mono (by simp)))
  clear hb2
  by_cases h1 : p0 = 16
  · subst h1
    by_cases h2 : (p2 : Int) ≤ 30
    · have h2' : ¬ (30 : Int) < (p2 : Int) := by omega
      by_cases h3 : p3 = p2
      · subst h3
        by_cases h4 : cut < 0
        · go_wp2_with fail
          go_ret
          exact ⟨rfl, HB2.out⟩
        · have h5 : (p3 : Int) < cut := by have := HBAD.out; omega
          go_wp2_with fail
          go_ret
          exact ⟨rfl, HB2.out⟩
      · have h3' : ¬ (p3 : Int) = (p2 : Int) := by omega
        go_wp2_with fail
        go_ret
        exact ⟨rfl, HB2.out⟩
    · have h2' : (30 : Int) < (p2 : Int) := by omega
      go_wp2_with fail
      go_ret
      exact ⟨rfl, HB2.out⟩
  · have h1' : ¬ (p0 : Int) = 16 := by omega
    go_wp2_with fail
    go_ret
    exact ⟨rfl, HB2.out⟩
/-- What stays while a hash is used. -/
structure PS (W0 W : World) (h n b6 f : Nat) (A2 A3 : Option Addr) (p : Nat) (ma mb : List Nat) : Prop where
  bb : W.heap[b6]? = some (.cells #[.int .u64 (E f).1, .int .u64 (E f).2] 36 (0, 0))
  hh : ∃ d, HashAt W h n d
  ra : Kd.F k36 W (fun k => k < W0.heap.size) A2 p (ma.map toS)
  rb : Kd.F k36 W (fun k => k < W0.heap.size) A3 p (mb.map toS)
  ww : Below W0.heap.size W0 W
  nn : b6 ≠ h ∧ W0.heap.size ≤ h
theorem PS.fa {W0 W : World} {h n b6 f : Nat} {A2 A3 : Option Addr} {p : Nat} {ma mb : List Nat} (hs : PS W0 W h n b6 f A2 A3 p ma mb) : Kd.F k36 W (fun k => k ≠ h) A2 p (ma.map toS) := Kd.F_mono hs.ra (fun k hk => by have := hs.nn.2; omega)
theorem PS.fb {W0 W : World} {h n b6 f : Nat} {A2 A3 : Option Addr} {p : Nat} {ma mb : List Nat} (hs : PS W0 W h n b6 f A2 A3 p ma mb) : Kd.F k36 W (fun k => k ≠ h) A3 p (mb.map toS) := Kd.F_mono hs.rb (fun k hk => by have := hs.nn.2; omega)
theorem PS.grown {W0 W W' : World} {h n b6 f : Nat} {A2 A3 : Option Addr} {p : Nat} {ma mb : List Nat} (hs : PS W0 W h n b6 f A2 A3 p ma mb) (hg : W.grownBy W' (some h)) (hh : ∃ d, HashAt W' h n d) : PS W0 W' h n b6 f A2 A3 p ma mb :=
  ⟨blk_grown hs.bb hg (fun e => hs.nn.1 (Option.some.inj e)), hh, Kd.F_grown hs.ra hg (fun k hk e => by have := hs.nn.2; injection e with e; omega), Kd.F_grown hs.rb hg (fun k hk e => by have := hs.nn.2; injection e with e; omega), hs.ww.grown hg hs.ww.size (fun k e => by cases e; exact hs.nn.2), hs.nn⟩
theorem PS.new {W0 W W' : World} {h n b6 f : Nat} {A2 A3 : Option Addr} {p : Nat} {ma mb : List Nat} {row : Option Nat} (hs : PS W0 W h n b6 f A2 A3 p ma mb) (hg : W.grownBy W' row) (hr : ∀ k, row = some k → k ≠ h ∧ k ≠ b6 ∧ W0.heap.size ≤ k) : PS W0 W' h n b6 f A2 A3 p ma mb := by
  obtain ⟨d, hd⟩ := hs.hh
  exact ⟨blk_grown hs.bb hg (fun e => (hr b6 e.symm).2.1 rfl), ⟨d, hd.same (hg.block h hd.lt (fun e => (hr h e.symm).1 rfl))⟩, Kd.F_grown hs.ra hg (fun k hk e => by have := (hr k e.symm).2.2; omega), Kd.F_grown hs.rb hg (fun k hk e => by have := (hr k e.symm).2.2; omega), hs.ww.grown hg hs.ww.size (fun k e => (hr k e).2.2), hs.nn⟩
theorem PS.below {W0 W W' : World} {h n b6 f : Nat} {A2 A3 : Option Addr} {p : Nat} {ma mb : List Nat} (hs : PS W0 W h n b6 f A2 A3 p ma mb) (hb : Below W.heap.size W W') : PS W0 W' h n b6 f A2 A3 p ma mb := hs.new (grown_of_below hb none) (fun k e => by cases e)
/-- Sums of rows. -/
def xorL (ma mb : List Nat) : List Nat := List.zipWith (· ^^^ ·) ma mb
theorem xorL_length {ma mb : List Nat} {p : Nat} (ha : p = ma.length) (hb : p = mb.length) : (xorL ma mb).length = p := by unfold xorL; rw [List.length_zipWith, ← ha, ← hb, Nat.min_self]
theorem xorL_take {ma mb : List Nat} {p k : Nat} (ha : p = ma.length) (hb : p = mb.length) (hk : k < p) : (xorL ma mb).take (k + 1) = (xorL ma mb).take k ++ [ma.getD k 0 ^^^ mb.getD k 0] := by
  have h1 : k < (xorL ma mb).length := by rw [xorL_length ha hb]; exact hk
  rw [List.take_succ_eq_append_getElem h1]
  have h2 : (xorL ma mb)[k] = ma.getD k 0 ^^^ mb.getD k 0 := by
    simp [xorL, List.getD_eq_getElem?_getD, List.getElem?_eq_getElem (show k < ma.length by omega), List.getElem?_eq_getElem (show k < mb.length by omega)]
  rw [h2]
theorem xorL_lt {ma mb : List Nat} (ha : ∀ b ∈ ma, b < top) (hb : ∀ b ∈ mb, b < top) : ∀ b ∈ xorL ma mb, b < top := by
  induction ma generalizing mb with
  | nil => intro b h; simp [xorL] at h
  | cons x ma ih =>
    cases mb with
    | nil => intro b h; simp [xorL] at h
    | cons y mb =>
      intro b h
      unfold xorL at h
      rw [List.zipWith_cons_cons] at h
      rcases List.mem_cons.1 h with rfl | h
      · exact xor_lt (ha x List.mem_cons_self) (hb y List.mem_cons_self)
      · exact ih (fun z hz => ha z (List.mem_cons_of_mem _ hz)) (fun z hz => hb z (List.mem_cons_of_mem _ hz)) b h
theorem foldN_xor (n : Nat) : ∀ (ma mb : List Nat) (f g : Nat), ma.length = mb.length → foldN n (xorL ma mb) (f ^^^ g) = foldN n ma f ^^^ foldN n mb g
  | [], [], f, g, _ => rfl
  | [], _ :: _, _, _, h => by simp at h
  | _ :: _, [], _, _, h => by simp at h
  | x :: ma, y :: mb, f, g, h => by
    show foldN n (xorL ma mb) (mul ((f ^^^ g) ^^^ (x ^^^ y)) n) = foldN n ma (mul (f ^^^ x) n) ^^^ foldN n mb (mul (g ^^^ y) n)
    rw [xor4, mul_xor_left, foldN_xor n ma mb _ _ (by simpa using h)]
/-- What stays in the last region. -/
structure PT (W0 W : World) (h n b6 f : Nat) (A2 A3 : Option Addr) (p : Nat) (ma mb : List Nat) (b15 : Nat) (A5 : Option Addr) : Prop where
  ps : PS W0 W h n b6 f A2 A3 p ma mb
  zz : W.heap[b15]? = some (.cells #[.int .u64 (E 0).1, .int .u64 (E 0).2] 36 (0, 0))
  rs : Kd.F k36 W (fun k => k ≠ h) A5 p ((xorL ma mb).map toS)
  zn : b15 ≠ h
theorem PT.grown {W0 W W' : World} {h n b6 f : Nat} {A2 A3 : Option Addr} {p : Nat} {ma mb : List Nat} {b15 : Nat} {A5 : Option Addr} (hs : PT W0 W h n b6 f A2 A3 p ma mb b15 A5) (hg : W.grownBy W' (some h)) (hh : ∃ d, HashAt W' h n d) : PT W0 W' h n b6 f A2 A3 p ma mb b15 A5 :=
  ⟨hs.ps.grown hg hh, blk_grown hs.zz hg (fun e => hs.zn (Option.some.inj e)), Kd.F_grown hs.rs hg (fun k hk e => hk (Option.some.inj e)), hs.zn⟩
theorem PT.below {W0 W W' : World} {h n b6 f : Nat} {A2 A3 : Option Addr} {p : Nat} {ma mb : List Nat} {b15 : Nat} {A5 : Option Addr} (hs : PT W0 W h n b6 f A2 A3 p ma mb b15 A5) (hb : Below W.heap.size W W') : PT W0 W' h n b6 f A2 A3 p ma mb b15 A5 := by
  obtain ⟨d, hd⟩ := hs.ps.hh
  exact hs.grown (grown_of_below hb _) ⟨d, hd.below hb⟩
theorem PT.load {W0 W : World} {h n b6 f : Nat} {A2 A3 : Option Addr} {p : Nat} {ma mb : List Nat} {b15 : Nat} {A5 : Option Addr} (hs : PT W0 W h n b6 f A2 A3 p ma mb b15 A5) : (loadVar 36 ⟨b15, 0, none⟩).run Try.prog W = .ok (el 0) W := load_elP (blk_cell hs.zz 0) (blk_cell hs.zz 1)
theorem foldnilC (W : World) (h n f : Nat) (hn : n < top) (hf : f < top) (hh : ∃ d, HashAt W h n d) :
    Calls Try.prog 21 #[.pointer (some ⟨h, 0, none⟩), el f, .slice none 0 0] W fun en W' => en = .returned (el f) ∧ (∃ d, HashAt W' h n d) ∧ W.grownBy W' (some h) := by
  obtain ⟨d, hd⟩ := hh
  refine (fold_nil W h n f d hn hf hd).mono ?_
  rintro en W' ⟨rfl, h1, h2⟩
  exact ⟨rfl, ⟨_, h1⟩, h2⟩
theorem PS.load {W0 W : World} {h n b6 f : Nat} {A2 A3 : Option Addr} {p : Nat} {ma mb : List Nat} (hs : PS W0 W h n b6 f A2 A3 p ma mb) : (loadVar 36 ⟨b6, 0, none⟩).run Try.prog W = .ok (el f) W := load_elP (blk_cell hs.bb 0) (blk_cell hs.bb 1)
set_option maxRecDepth 100000 in
set_option maxHeartbeats 8000000 in
theorem parts_good (W : World) (A0 : Option Addr) (c0 n f : Nat) (hn : n < top) (hf : f < top) (hC0 : Kd.C (Kd.int .u8) W A0 16 (bytesN n)) (hc0 : 16 ≤ c0) (ma mb : List Nat) (hma : ∀ b ∈ ma, b < top) (hmb : ∀ b ∈ mb, b < top) (p j : Nat) (hpa : p = ma.length) (hpb : p = mb.length) (hp30 : p ≤ 30) (hj : j ≤ p)
    (A2 : Option Addr) (c2 : Nat) (hC2 : Kd.C k36 W A2 p (ma.map toS)) (hc2 : p ≤ c2) (A3 : Option Addr) (c3 : Nat) (hC3 : Kd.C k36 W A3 p (mb.map toS)) (hc3 : p ≤ c3) :
    Calls Try.prog 5 #[.slice A0 16 c0, el f, .slice A2 p c2, .slice A3 p c3, .int .i64 (j : Int)] W fun en W' => en = .returned (.bool true) ∧ Below W.heap.size W W' := by
  have HN := Aside0.mk hn
  have HF := Aside0.mk hf
  have HC0 := Aside0.mk hC0
  have HL0 := Aside0.mk hc0
  have HMA := Aside0.mk hma
  have HMB := Aside0.mk hmb
  have HPA := Aside0.mk hpa
  have HPB := Aside0.mk hpb
  have HC2 := Aside0.mk hC2
  have HL2 := Aside0.mk hc2
  have HC3 := Aside0.mk hC3
  have HL3 := Aside0.mk hc3
  have HP := Aside0.mk hp30
  have HJ := Aside0.mk hj
  have q1 : ¬ (30 : Int) < (p : Int) := by omega
  have q2 : ¬ (j : Int) < 0 := by omega
  have q3 : ¬ (p : Int) < (j : Int) := by omega
  clear hn hf hC0 hc0 hma hmb hpa hpb hC2 hc2 hC3 hc3 hp30 hj
  go_enter Try.func5, Try.ntmps5
  go_wp2_with fail
  obtain ⟨b6, hb6⟩ : ∃ b6, b6 = W.heap.size := ⟨_, rfl⟩
  obtain ⟨w1, hw1⟩ : ∃ w1, w1 = W.alloc (.cells #[.int .u64 (E f).1, .int .u64 (E f).2] 36) := ⟨_, rfl⟩
  rw [← hw1, ← hb6]
  have hbe : Below W.heap.size W w1 := by rw [hw1]; exact below_alloc (Below.refl _ _) _
  have H6 := Aside0.mk (show w1.heap[b6]? = some (.cells #[.int .u64 (E f).1, .int .u64 (E f).2] 36 (0, 0)) by rw [hw1, hb6]; exact blk_new W _)
  have HB6 := Aside0.mk hb6
  have HB1 := Aside0.mk hbe
  clear hw1 hb6 hbe
  (with_reducible refine (alive_calls _).mono ?_)
  rintro en w2 ⟨rfl, hb2⟩
  have H6 := Aside0.mk (blk_below H6.out hb2)
  have HB2 := Aside0.mk (HB1.out.trans (hb2.mono HB1.out.size))
  clear hb2 HB1
  go_wp2_with fail
  (with_reducible refine (new16_calls n HN.out A0 c0 w2 (Kd.C_below HC0.out HB2.out) HL0.out).mono ?_)
  rintro en w3 ⟨h, rfl, hh3, hl3, hb3⟩
  have hb03 := HB2.out.trans (hb3.mono HB2.out.size)
  have hWh : W.heap.size ≤ h := Nat.le_trans HB2.out.size hl3
  have HNH := Aside0.mk (show b6 ≠ h by have h1 := blk_lt H6.out; omega)
  have HPS := Aside0.mk (show PS W w3 h n b6 f A2 A3 p ma mb from ⟨blk_below H6.out hb3, ⟨_, hh3⟩, by have h1 := HC2.out; rw [HPA.out] at h1 ⊢; exact rows_F h1 w3 hb03, by have h1 := HC3.out; rw [HPB.out] at h1 ⊢; exact rows_F h1 w3 hb03, hb03, HNH.out, hWh⟩)
  clear hh3 hl3 hb3 hb03 hWh H6 HB2
  obtain ⟨i_, hi_, hz_⟩ := Option.map_eq_some_iff.1 M.info36
  simp only [Prod.mk.injEq] at hz_
  have hcut1 := cut_to (P := Try.prog) 29 36 .i64 Try.underlying29 hi_ A2 p c2 (j : Int) (by omega) (by omega) HL2.out
  have hcut2 := cut_from (P := Try.prog) 29 36 .i64 Try.underlying29 hi_ 2 hz_.2.1 A2 p c2 (j : Int) (by omega) (by omega)
  rw [Int.toNat_natCast] at hcut1 hcut2
  obtain ⟨A4, hA4⟩ : ∃ A4 : Option Addr, A4 = (if c2 = j then A2 else A2.map (·.add (j * 2))) := ⟨_, rfl⟩
  rw [← hA4] at hcut2
  have HA4 := Aside0.mk hA4
  clear hA4
  clear hi_ hz_
  go_wp2_with fail
  have HSS := Aside0.mk (HPS.out.below (below_drew (Below.refl _ _)))
  clear HPS
  refine Held.wp_region_G (S := (fun W1 : World => PS W W1 h n b6 f A2 A3 p ma mb)) (by kernel_rfl) ?_
  change Held.wpAnyG _ _ _ _ _ 16 _ _ _
  refine Held.wpAnyG_take (i := 0) (v := (.pointer (some ⟨h, 0, none⟩))) rfl (by kernel_rfl) (by kernel_rfl) (by kernel_rfl) (fun _ _ _ h => h) HSS.out (by first | (with_reducible rfl) | (simp [Region.wanted, yielded, Act.put]; done) | rfl) (fun W1 h1 => by go_simp) (some 54) rfl #[true, false, false, false, false, false, false, false, false, false, false, false, false, false, false, false] (by kernel_rfl) ?_
  simp only [Act.put, List.setIfInBounds_toArray, List.set_cons_zero, List.set_cons_succ]
  refine Held.wpAnyG_take (i := 1) (v := (el f)) rfl (by kernel_rfl) (by kernel_rfl) (by kernel_rfl) (fun _ _ _ h => h) HSS.out (by first | (with_reducible rfl) | (simp [Region.wanted, yielded, Act.put]; done) | rfl) (fun W1 hs => Held.run_load_of 36 (.tmp 6) rfl ⟨b6, 0, none⟩ rfl (PS.load hs)) (some 55) rfl #[true, true, false, false, false, false, false, false, false, false, false, false, false, false, false, false] (by kernel_rfl) ?_
  simp only [Act.put, List.setIfInBounds_toArray, List.set_cons_zero, List.set_cons_succ]
  refine Held.wpAnyG_take (i := 2) (v := (.slice A2 p c2)) rfl (by kernel_rfl) (by kernel_rfl) (by kernel_rfl) (fun _ _ _ h => h) HSS.out (by first | (with_reducible rfl) | (simp [Region.wanted, yielded, Act.put]; done) | rfl) (fun W1 h1 => by go_simp) (some 56) rfl #[true, true, true, false, false, false, false, false, false, false, false, false, false, false, false, false] (by kernel_rfl) ?_
  simp only [Act.put, List.setIfInBounds_toArray, List.set_cons_zero, List.set_cons_succ]
  refine Held.wpAnyG_take (i := 4) (v := (.pointer (some ⟨h, 0, none⟩))) rfl (by kernel_rfl) (by kernel_rfl) (by kernel_rfl) (fun _ _ _ h => h) HSS.out (by first | (with_reducible rfl) | (simp [Region.wanted, yielded, Act.put]; done) | rfl) (fun W1 h1 => by go_simp) (some 58) rfl #[true, true, true, false, true, false, false, false, false, false, false, false, false, false, false, false] (by kernel_rfl) ?_
  simp only [Act.put, List.setIfInBounds_toArray, List.set_cons_zero, List.set_cons_succ]
  refine Held.wpAnyG_take (i := 5) (v := (.pointer (some ⟨h, 0, none⟩))) rfl (by kernel_rfl) (by kernel_rfl) (by kernel_rfl) (fun _ _ _ h => h) HSS.out (by first | (with_reducible rfl) | (simp [Region.wanted, yielded, Act.put]; done) | rfl) (fun W1 h1 => by go_simp) (some 59) rfl #[true, true, true, false, true, true, false, false, false, false, false, false, false, false, false, false] (by kernel_rfl) ?_
  simp only [Act.put, List.setIfInBounds_toArray, List.set_cons_zero, List.set_cons_succ]
  refine Held.wpAnyG_take (i := 6) (v := (el f)) rfl (by kernel_rfl) (by kernel_rfl) (by kernel_rfl) (fun _ _ _ h => h) HSS.out (by first | (with_reducible rfl) | (simp [Region.wanted, yielded, Act.put]; done) | rfl) (fun W1 hs => Held.run_load_of 36 (.tmp 6) rfl ⟨b6, 0, none⟩ rfl (PS.load hs)) (some 60) rfl #[true, true, true, false, true, true, true, false, false, false, false, false, false, false, false, false] (by kernel_rfl) ?_
  simp only [Act.put, List.setIfInBounds_toArray, List.set_cons_zero, List.set_cons_succ]
  refine Held.wpAnyG_take (i := 7) (v := (.slice A2 p c2)) rfl (by kernel_rfl) (by kernel_rfl) (by kernel_rfl) (fun _ _ _ h => h) HSS.out (by first | (with_reducible rfl) | (simp [Region.wanted, yielded, Act.put]; done) | rfl) (fun W1 h1 => by go_simp) (some 61) rfl #[true, true, true, false, true, true, true, true, false, false, false, false, false, false, false, false] (by kernel_rfl) ?_
  simp only [Act.put, List.setIfInBounds_toArray, List.set_cons_zero, List.set_cons_succ]
  refine Held.wpAnyG_take (i := 8) (v := (.int .i64 (j : Int))) rfl (by kernel_rfl) (by kernel_rfl) (by kernel_rfl) (fun _ _ _ h => h) HSS.out (by first | (with_reducible rfl) | (simp [Region.wanted, yielded, Act.put]; done) | rfl) (fun W1 h1 => by go_simp) (some 62) rfl #[true, true, true, false, true, true, true, true, true, false, false, false, false, false, false, false] (by kernel_rfl) ?_
  simp only [Act.put, List.setIfInBounds_toArray, List.set_cons_zero, List.set_cons_succ]
  refine Held.wpAnyG_take (i := 9) (v := (.slice A2 j c2)) rfl (by kernel_rfl) (by kernel_rfl) (by kernel_rfl) (fun _ _ _ h => h) HSS.out (by first | (with_reducible rfl) | (simp [Region.wanted, yielded, Act.put]; done) | rfl) (fun W1 h1 => by go_simp) (some 63) rfl #[true, true, true, false, true, true, true, true, true, true, false, false, false, false, false, false] (by kernel_rfl) ?_
  simp only [Act.put, List.setIfInBounds_toArray, List.set_cons_zero, List.set_cons_succ]
  refine Held.wpAnyG_take (i := 11) (v := (.slice A2 p c2)) rfl (by kernel_rfl) (by kernel_rfl) (by kernel_rfl) (fun _ _ _ h => h) HSS.out (by first | (with_reducible rfl) | (simp [Region.wanted, yielded, Act.put]; done) | rfl) (fun W1 h1 => by go_simp) (some 65) rfl #[true, true, true, false, true, true, true, true, true, true, false, true, false, false, false, false] (by kernel_rfl) ?_
  simp only [Act.put, List.setIfInBounds_toArray, List.set_cons_zero, List.set_cons_succ]
  refine Held.wpAnyG_take (i := 12) (v := (.int .i64 (j : Int))) rfl (by kernel_rfl) (by kernel_rfl) (by kernel_rfl) (fun _ _ _ h => h) HSS.out (by first | (with_reducible rfl) | (simp [Region.wanted, yielded, Act.put]; done) | rfl) (fun W1 h1 => by go_simp) (some 66) rfl #[true, true, true, false, true, true, true, true, true, true, false, true, true, false, false, false] (by kernel_rfl) ?_
  simp only [Act.put, List.setIfInBounds_toArray, List.set_cons_zero, List.set_cons_succ]
  refine Held.wpAnyG_take (i := 13) (v := (.slice A4 (p - j) (c2 - j))) rfl (by kernel_rfl) (by kernel_rfl) (by kernel_rfl) (fun _ _ _ h => h) HSS.out (by first | (with_reducible rfl) | (simp [Region.wanted, yielded, Act.put]; done) | rfl) (fun W1 h1 => by go_simp) (some 67) rfl #[true, true, true, false, true, true, true, true, true, true, false, true, true, true, false, false] (by kernel_rfl) ?_
  simp only [Act.put, List.setIfInBounds_toArray, List.set_cons_zero, List.set_cons_succ]
  refine Held.wpAnyG_one 3 (by kernel_rfl) rfl #[true, true, true, true, true, true, true, true, true, true, false, true, true, true, false, false] (by kernel_rfl) (fun K hK => ?_)
  go_wp2_with fail
  (with_reducible refine (foldC _ h n f ma p HPA.out HN.out HF.out HMA.out A2 c2 HSS.out.hh HSS.out.fa HL2.out).mono ?_)
  rintro en w4 ⟨rfl, hh_, hg_⟩
  have n1_ := Aside0.mk (HSS.out.grown hg_ hh_)
  clear HSS
  have HSS := n1_
  clear n1_
  go_wp2_with fail
  refine hK _ _ HSS.out ?_
  clear hK K
  refine Held.wpAnyG_one 10 (by kernel_rfl) rfl #[true, true, true, true, true, true, true, true, true, true, true, true, true, true, false, false] (by kernel_rfl) (fun K hK => ?_)
  go_wp2_with fail
  (with_reducible refine (foldC _ h n f (ma.take j) j (by rw [List.length_take]; have h1 := HPA.out; have h2 := HJ.out; omega) HN.out HF.out (fun b hb => HMA.out b (List.mem_of_mem_take hb)) A2 c2 HSS.out.hh (by have h1 := HSS.out.fa; rw [show p = (ma.map toS).length by rw [List.length_map, HPA.out]] at h1; have h2 := Kd.F_take (m := j) h1 (by rw [List.length_map]; have h3 := HPA.out; have h4 := HJ.out; omega); rw [← List.map_take, List.length_map, List.length_take, Nat.min_eq_left (by have h3 := HPA.out; have h4 := HJ.out; omega)] at h2; exact h2) (Nat.le_trans HJ.out HL2.out)).mono ?_)
  rintro en w5 ⟨rfl, hh_, hg_⟩
  have n1_ := Aside0.mk (HSS.out.grown hg_ hh_)
  clear HSS
  have HSS := n1_
  clear n1_
  go_wp2_with fail
  refine hK _ _ HSS.out ?_
  clear hK K
  refine Held.wpAnyG_one 14 (by kernel_rfl) rfl #[true, true, true, true, true, true, true, true, true, true, true, true, true, true, true, false] (by kernel_rfl) (fun K hK => ?_)
  go_wp2_with fail
  (with_reducible refine (foldC _ h n (foldN n (ma.take j) f) (ma.drop j) (p - j) (by rw [List.length_drop, HPA.out]) HN.out (foldN_lt HN.out _ HF.out) (fun b hb => HMA.out b (List.mem_of_mem_drop hb)) A4 (c2 - j) HSS.out.hh (by have h1 := HSS.out.fa; rw [show p = (ma.map toS).length by rw [List.length_map, HPA.out]] at h1; have h2 := Kd.F_cut (m := j) (c := c2) h1 (by rw [List.length_map]; have h3 := HPA.out; have h4 := HJ.out; omega) (by rw [List.length_map]; have h3 := HPA.out; have h4 := HL2.out; omega); rw [← List.map_drop, List.length_map, List.length_drop, ← HPA.out] at h2; have h5 : k36.sz = 2 := rfl; rw [h5] at h2; rw [HA4.out]; exact h2) (Nat.sub_le_sub_right HL2.out j)).mono ?_)
  rintro en w6 ⟨rfl, hh_, hg_⟩
  rw [← foldN_append, List.take_append_drop]
  have n1_ := Aside0.mk (HSS.out.grown hg_ hh_)
  clear HSS
  have HSS := n1_
  clear n1_
  go_wp2_with fail
  refine hK _ _ HSS.out ?_
  clear hK K
  refine Held.wpAnyG_take (i := 15) (v := (.bool false)) rfl (by kernel_rfl) (by kernel_rfl) (by kernel_rfl) (fun _ _ _ h => h) HSS.out (by first | (with_reducible rfl) | (simp [Region.wanted, yielded, Act.put]; done) | rfl) (fun W1 h1 => by go_simp) (some 69) rfl #[true, true, true, true, true, true, true, true, true, true, true, true, true, true, true, true] (by kernel_rfl) ?_
  simp only [Act.put, List.setIfInBounds_toArray, List.set_cons_zero, List.set_cons_succ]
  refine Held.wpAnyG_done (by kernel_rfl) ?_ _
  clear hcut1 hcut2
  go_wp2_with fail
  obtain ⟨B0, hB0⟩ : ∃ B0, B0 = w6.heap.size := ⟨_, rfl⟩
  obtain ⟨w7, hw7⟩ : ∃ w7, w7 = w6.alloc (.cells #[] 36) := ⟨_, rfl⟩
  rw [← hw7, ← hB0]
  have HR7 := Aside0.mk (show Kd.R k36 36 w7 B0 (fun _ => True) (.slice (some ⟨B0, 0, none⟩) 0 0) (((xorL ma mb).take 0).map toS) by rw [hw7, hB0]; exact R_empty w6 _ (Nat.le_refl _))
  have HPS := Aside0.mk (show PS W w7 h n b6 f A2 A3 p ma mb from HSS.out.below (by rw [hw7]; exact below_alloc (Below.refl _ _) _))
  have HNB := Aside0.mk (show h < B0 ∧ b6 < B0 ∧ W.heap.size ≤ B0 by rw [hB0]; obtain ⟨d, hd⟩ := HSS.out.hh; exact ⟨hd.lt, blk_lt HSS.out.bb, HSS.out.ww.size⟩)
  have HB7 := Aside0.mk (show B0 ≤ w7.heap.size by rw [hw7, hB0]; simp)
  clear hB0 hw7 HSS
  go_loopw [13, 14] (fun v13 v14 wr => ∃ (k : Nat) (A5 : Option Addr) (c5 : Nat), k ≤ p ∧ v14 = .int .i64 k ∧ v13 = .slice A5 k c5 ∧ Aside0 (Kd.R k36 36 wr B0 (fun _ => True) (.slice A5 k c5) (((xorL ma mb).take k).map toS)) ∧ Aside0 (PS W wr h n b6 f A2 A3 p ma mb) ∧ Aside0 (B0 ≤ wr.heap.size)) (fun _ v14 _ => p - (intOf v14).toNat)
  case atStart => exact ⟨0, _, _, Nat.zero_le _, rfl, rfl, HR7, HPS, HB7⟩
  case round =>
    clear HR7 HPS HB7
    obtain ⟨k, A5, c5, hk, rfl, rfl, HR, HPS, HBZ⟩ := hrel
    by_cases hlt : k < p
    · have HKL := Aside0.mk hlt
      obtain ⟨ad2, hA2, _⟩ := (Kd.F_now HPS.out.ra).2.2 (Nat.lt_of_le_of_lt (Nat.zero_le _) hlt)
      obtain ⟨ad3, hA3, _⟩ := (Kd.F_now HPS.out.rb).2.2 (Nat.lt_of_le_of_lt (Nat.zero_le _) hlt)
      subst hA2
      subst hA3
      obtain ⟨a, ha⟩ : ∃ a, a = ma.getD k 0 := ⟨_, rfl⟩
      obtain ⟨b, hb⟩ : ∃ b, b = mb.getD k 0 := ⟨_, rfl⟩
      have HAL := Aside0.mk (show a < top by rw [ha, List.getD_eq_getElem?_getD, List.getElem?_eq_getElem (by have := HPA.out; omega)]; exact HMA.out _ (List.getElem_mem _))
      have HBL := Aside0.mk (show b < top by rw [hb, List.getD_eq_getElem?_getD, List.getElem?_eq_getElem (by have := HPB.out; omega)]; exact HMB.out _ (List.getElem_mem _))
      have HA := Aside0.mk ha
      have HB := Aside0.mk hb
      have e1 : (0 : Int) ≤ (k : Int) ∧ (k : Int) < (p : Int) := by omega
      have e2 : (k : Int) < (p : Int) := by omega
      clear ha hb hlt hk
      go_upto_region 14 with (fail)
      have HSS := Aside0.mk (HPS.out.below (below_drew (Below.refl _ _)))
      have HR := Aside0.mk (Kd.R_drew HR.out)
      clear HPS
      refine Held.wp_region_G (S := (fun W1 : World => PS W W1 h n b6 f (some ad2) (some ad3) p ma mb)) (by kernel_rfl) ?_
      change Held.wpAnyG _ _ _ _ _ 14 _ _ _
      refine Held.wpAnyG_take (i := 0) (v := (.slice A5 k c5)) rfl (by kernel_rfl) (by kernel_rfl) (by kernel_rfl) (fun _ _ _ h => h) HSS.out (by first | (with_reducible rfl) | (simp [Region.wanted, yielded, Act.put]; done) | rfl) (fun W1 h1 => by go_simp) (some 77) rfl #[true, false, false, false, false, false, false, false, false, false, false, false, false, false] (by kernel_rfl) ?_
      simp only [Act.put, List.setIfInBounds_toArray, List.set_cons_zero, List.set_cons_succ]
      refine Held.wpAnyG_take (i := 1) (v := (.slice (some ad2) p c2)) rfl (by kernel_rfl) (by kernel_rfl) (by kernel_rfl) (fun _ _ _ h => h) HSS.out (by first | (with_reducible rfl) | (simp [Region.wanted, yielded, Act.put]; done) | rfl) (fun W1 h1 => by go_simp) (some 78) rfl #[true, true, false, false, false, false, false, false, false, false, false, false, false, false] (by kernel_rfl) ?_
      simp only [Act.put, List.setIfInBounds_toArray, List.set_cons_zero, List.set_cons_succ]
      refine Held.wpAnyG_take (i := 2) (v := (.int .i64 (k : Int))) rfl (by kernel_rfl) (by kernel_rfl) (by kernel_rfl) (fun _ _ _ h => h) HSS.out (by first | (with_reducible rfl) | (simp [Region.wanted, yielded, Act.put]; done) | rfl) (fun W1 h1 => by go_simp) (some 79) rfl #[true, true, true, false, false, false, false, false, false, false, false, false, false, false] (by kernel_rfl) ?_
      simp only [Act.put, List.setIfInBounds_toArray, List.set_cons_zero, List.set_cons_succ]
      refine Held.wpAnyG_take (i := 3) (v := (.pointer (some (ad2.add (k * 2))))) rfl (by kernel_rfl) (by kernel_rfl) (by kernel_rfl) (fun _ _ _ h => h) HSS.out (by first | (with_reducible rfl) | (simp [Region.wanted, yielded, Act.put]; done) | rfl) (fun W1 h1 => by go_simp) (some 80) rfl #[true, true, true, true, false, false, false, false, false, false, false, false, false, false] (by kernel_rfl) ?_
      simp only [Act.put, List.setIfInBounds_toArray, List.set_cons_zero, List.set_cons_succ]
      refine Held.wpAnyG_take (i := 4) (v := (el a)) rfl (by kernel_rfl) (by kernel_rfl) (by kernel_rfl) (fun _ _ _ h => h) HSS.out (by first | (with_reducible rfl) | (simp [Region.wanted, yielded, Act.put]; done) | rfl) (fun W1 hs => by rw [HA.out]; have h1 := hs.ra; rw [HPA.out] at h1; exact Held.run_load_of 36 (.tmp 80) rfl (ad2.add (k * 2)) rfl (load_row h1 (by have h2 := HKL.out; have h3 := HPA.out; omega))) (some 81) rfl #[true, true, true, true, true, false, false, false, false, false, false, false, false, false] (by kernel_rfl) ?_
      simp only [Act.put, List.setIfInBounds_toArray, List.set_cons_zero, List.set_cons_succ]
      refine Held.wpAnyG_take (i := 5) (v := (.slice (some ad3) p c3)) rfl (by kernel_rfl) (by kernel_rfl) (by kernel_rfl) (fun _ _ _ h => h) HSS.out (by first | (with_reducible rfl) | (simp [Region.wanted, yielded, Act.put]; done) | rfl) (fun W1 h1 => by go_simp) (some 82) rfl #[true, true, true, true, true, true, false, false, false, false, false, false, false, false] (by kernel_rfl) ?_
      simp only [Act.put, List.setIfInBounds_toArray, List.set_cons_zero, List.set_cons_succ]
      refine Held.wpAnyG_take (i := 6) (v := (.int .i64 (k : Int))) rfl (by kernel_rfl) (by kernel_rfl) (by kernel_rfl) (fun _ _ _ h => h) HSS.out (by first | (with_reducible rfl) | (simp [Region.wanted, yielded, Act.put]; done) | rfl) (fun W1 h1 => by go_simp) (some 83) rfl #[true, true, true, true, true, true, true, false, false, false, false, false, false, false] (by kernel_rfl) ?_
      simp only [Act.put, List.setIfInBounds_toArray, List.set_cons_zero, List.set_cons_succ]
      refine Held.wpAnyG_take (i := 7) (v := (.pointer (some (ad3.add (k * 2))))) rfl (by kernel_rfl) (by kernel_rfl) (by kernel_rfl) (fun _ _ _ h => h) HSS.out (by first | (with_reducible rfl) | (simp [Region.wanted, yielded, Act.put]; done) | rfl) (fun W1 h1 => by go_simp) (some 84) rfl #[true, true, true, true, true, true, true, true, false, false, false, false, false, false] (by kernel_rfl) ?_
      simp only [Act.put, List.setIfInBounds_toArray, List.set_cons_zero, List.set_cons_succ]
      refine Held.wpAnyG_take (i := 8) (v := (el b)) rfl (by kernel_rfl) (by kernel_rfl) (by kernel_rfl) (fun _ _ _ h => h) HSS.out (by first | (with_reducible rfl) | (simp [Region.wanted, yielded, Act.put]; done) | rfl) (fun W1 hs => by rw [HB.out]; have h1 := hs.rb; rw [HPB.out] at h1; exact Held.run_load_of 36 (.tmp 84) rfl (ad3.add (k * 2)) rfl (load_row h1 (by have h2 := HKL.out; have h3 := HPB.out; omega))) (some 85) rfl #[true, true, true, true, true, true, true, true, true, false, false, false, false, false] (by kernel_rfl) ?_
      simp only [Act.put, List.setIfInBounds_toArray, List.set_cons_zero, List.set_cons_succ]
      refine Held.wpAnyG_one 9 (by kernel_rfl) rfl #[true, true, true, true, true, true, true, true, true, true, false, false, false, false] (by kernel_rfl) (fun K hK => ?_)
      go_wp2_with fail
      obtain ⟨w8, hw8⟩ : ∃ w8, w8 = (wr.alloc (.cells #[.int .u64 (E a).1, .int .u64 (E a).2, .int .u64 (E b).1, .int .u64 (E b).2] 36)).drew := ⟨_, rfl⟩
      have HW8 := Aside0.mk hw8
      have hbe : Below wr.drew.heap.size wr.drew w8 := by rw [hw8]; exact below_alloc (Below.refl wr.drew.heap.size wr.drew) _
      have H8 := Aside0.mk (show w8.heap[wr.heap.size]? = some (.cells #[.int .u64 (E a).1, .int .u64 (E a).2, .int .u64 (E b).1, .int .u64 (E b).2] 36 (0, 0)) by rw [hw8]; exact blk_new wr.drew _)
      have HR8 := Aside0.mk (Kd.R_below HR.out hbe)
      have HZ8 := Aside0.mk (Nat.le_trans HBZ.out hbe.size)
      have n1_ := Aside0.mk (HSS.out.below hbe)
      rw [← hw8]
      clear HSS HR HBZ hbe hw8 HW8
      have HSS := n1_
      clear n1_
      refine hK _ _ HSS.out ?_
      clear hK K
      refine Held.wpAnyG_one 10 (by kernel_rfl) rfl #[true, true, true, true, true, true, true, true, true, true, true, false, false, false] (by kernel_rfl) (fun K hK => ?_)
      go_wp2_with fail
      (with_reducible refine (sum_calls a b HAL.out HBL.out w8 _ 36 H8.out).mono ?_)
      rintro en w9 ⟨rfl, hb9⟩
      have HR9 := Aside0.mk (Kd.R_below HR8.out hb9)
      have HZ9 := Aside0.mk (Nat.le_trans HZ8.out hb9.size)
      have n1_ := Aside0.mk (HSS.out.below hb9)
      clear HSS HR8 HZ8 hb9 H8
      have HSS := n1_
      clear n1_
      go_wp2_with fail
      refine hK _ _ HSS.out ?_
      clear hK K
      refine Held.wpAnyG_one 11 (by kernel_rfl) rfl #[true, true, true, true, true, true, true, true, true, true, true, true, false, false] (by kernel_rfl) (fun K hK => ?_)
      go_wp2_with fail
      have HS9 := HSS
      clear HSS
      have HSS := Aside0.mk (HS9.out.below (below_alloc (Below.refl w9.heap.size w9) (.cells #[.int .u64 (E (a ^^^ b)).1, .int .u64 (E (a ^^^ b)).2] 36)))
      refine hK _ _ HSS.out ?_
      clear hK K
      refine Held.wpAnyG_one 12 (by kernel_rfl) rfl #[true, true, true, true, true, true, true, true, true, true, true, true, true, false] (by kernel_rfl) (fun K hK => ?_)
      refine append_el_list rfl (.tmp 77) (.tmp 88) rfl rfl w9 B0 w9.heap.size (.slice A5 k c5) _ (a ^^^ b) rfl rfl rfl HR9.out HZ9.out (by rw [List.length_map, List.length_take]; have h1 := HP.out; have h2 := HKL.out; omega) ?_
      intro v10 w10 hr10 hg10
      obtain ⟨A6, c6, rfl⟩ := Kd.R_slice hr10
      have hl6 : (((xorL ma mb).take k).map toS ++ [toS (a ^^^ b)]).length = k + 1 := by rw [List.length_append, List.length_map, List.length_take, xorL_length HPA.out HPB.out, Nat.min_eq_left (Nat.le_of_lt HKL.out)]; rfl
      rw [hl6] at hr10 ⊢
      have hx6 : ((xorL ma mb).take k).map toS ++ [toS (a ^^^ b)] = ((xorL ma mb).take (k + 1)).map toS := by rw [xorL_take HPA.out HPB.out HKL.out, List.map_append, ← HA.out, ← HB.out]; rfl
      rw [hx6] at hr10
      have HR := Aside0.mk hr10
      have HBZ := Aside0.mk (Nat.le_trans HZ9.out hg10.size)
      clear HSS
      have HSS := Aside0.mk (HS9.out.new hg10 (fun q hq => by have h1 := Kd.R_base HR9.out q hq; have h2 := HNB.out; omega))
      clear HS9 HR9 HZ9 hl6 hx6 hr10 hg10
      go_wp2_with fail
      refine hK _ _ HSS.out ?_
      clear hK K
      refine Held.wpAnyG_last 13 (by kernel_rfl) rfl (by kernel_rfl) (by kernel_rfl) ?_
      go_wp2_with fail
      go_roundw
      case measure => have h2 := HKL.out; simp [intOf]; omega
      case rel => exact ⟨k + 1, A6, c6, HKL.out, by go_num, rfl, HR, HSS, HBZ⟩
    · obtain rfl : k = p := by omega
      obtain ⟨b15, hb15⟩ : ∃ b15, b15 = wr.heap.size := ⟨_, rfl⟩
      go_upto_region 16 with (fail)
      rw [← hb15]
      have hr := HR.out
      rw [List.take_of_length_le (Nat.le_of_eq (xorL_length HPA.out HPB.out))] at hr
      have hr2 := Kd.R_reads' hr
      have HL5 := Aside0.mk (show k ≤ c5 from hr2.2.1)
      have hbe := below_drew (below_alloc (Below.refl wr.heap.size wr) (.cells #[.int .u64 0, .int .u64 0] 36))
      have e0 : (#[.int .u64 0, .int .u64 0] : Array Value) = #[.int .u64 (E 0).1, .int .u64 (E 0).2] := by rw [show E 0 = (0, 0) by decide]
      have HSS := Aside0.mk (show PT W (wr.alloc (.cells #[.int .u64 0, .int .u64 0] 36)).drew h n b6 f A2 A3 k ma mb b15 A5 from ⟨HPS.out.below hbe, by rw [hb15, e0]; exact blk_drew (blk_new wr _), Kd.F_below (Kd.F_mono (Kd.R_F (Kd.R_bound hr)) (fun q hq => by have h1 := hq.2.1; have h2 := HNB.out; omega)) hbe, by rw [hb15]; have h1 := HBZ.out; have h2 := HNB.out; omega⟩)
      have HX := Aside0.mk (show foldN n ma 0 ^^^ foldN n mb 0 = foldN n (xorL ma mb) 0 by rw [← foldN_xor n ma mb 0 0 (HPA.out.symm.trans HPB.out), Nat.xor_self])
      clear hr hr2 hbe e0 HR HPS HBZ hb15
      refine Held.wp_region_G (S := (fun W1 : World => PT W W1 h n b6 f A2 A3 k ma mb b15 A5)) (by kernel_rfl) ?_
      change Held.wpAnyG _ _ _ _ _ 23 _ _ _
      refine Held.wpAnyG_take (i := 0) (v := (.pointer (some ⟨h, 0, none⟩))) rfl (by kernel_rfl) (by kernel_rfl) (by kernel_rfl) (fun _ _ _ h => h) HSS.out (by first | (with_reducible rfl) | (simp [Region.wanted, yielded, Act.put]; done) | rfl) (fun W1 h1 => by go_simp) (some 91) rfl #[true, false, false, false, false, false, false, false, false, false, false, false, false, false, false, false, false, false, false, false, false, false, false] (by kernel_rfl) ?_
      simp only [Act.put, List.setIfInBounds_toArray, List.set_cons_zero, List.set_cons_succ]
      refine Held.wpAnyG_take (i := 1) (v := (el 0)) rfl (by kernel_rfl) (by kernel_rfl) (by kernel_rfl) (fun _ _ _ h => h) HSS.out (by first | (with_reducible rfl) | (simp [Region.wanted, yielded, Act.put]; done) | rfl) (fun W1 hs => Held.run_load_of 36 (.tmp 15) rfl ⟨b15, 0, none⟩ rfl (PT.load hs)) (some 92) rfl #[true, true, false, false, false, false, false, false, false, false, false, false, false, false, false, false, false, false, false, false, false, false, false] (by kernel_rfl) ?_
      simp only [Act.put, List.setIfInBounds_toArray, List.set_cons_zero, List.set_cons_succ]
      refine Held.wpAnyG_take (i := 2) (v := (.slice A5 k c5)) rfl (by kernel_rfl) (by kernel_rfl) (by kernel_rfl) (fun _ _ _ h => h) HSS.out (by first | (with_reducible rfl) | (simp [Region.wanted, yielded, Act.put]; done) | rfl) (fun W1 h1 => by go_simp) (some 93) rfl #[true, true, true, false, false, false, false, false, false, false, false, false, false, false, false, false, false, false, false, false, false, false, false] (by kernel_rfl) ?_
      simp only [Act.put, List.setIfInBounds_toArray, List.set_cons_zero, List.set_cons_succ]
      refine Held.wpAnyG_take (i := 4) (v := (.pointer (some ⟨h, 0, none⟩))) rfl (by kernel_rfl) (by kernel_rfl) (by kernel_rfl) (fun _ _ _ h => h) HSS.out (by first | (with_reducible rfl) | (simp [Region.wanted, yielded, Act.put]; done) | rfl) (fun W1 h1 => by go_simp) (some 95) rfl #[true, true, true, false, true, false, false, false, false, false, false, false, false, false, false, false, false, false, false, false, false, false, false] (by kernel_rfl) ?_
      simp only [Act.put, List.setIfInBounds_toArray, List.set_cons_zero, List.set_cons_succ]
      refine Held.wpAnyG_take (i := 5) (v := (el 0)) rfl (by kernel_rfl) (by kernel_rfl) (by kernel_rfl) (fun _ _ _ h => h) HSS.out (by first | (with_reducible rfl) | (simp [Region.wanted, yielded, Act.put]; done) | rfl) (fun W1 hs => Held.run_load_of 36 (.tmp 15) rfl ⟨b15, 0, none⟩ rfl (PT.load hs)) (some 96) rfl #[true, true, true, false, true, true, false, false, false, false, false, false, false, false, false, false, false, false, false, false, false, false, false] (by kernel_rfl) ?_
      simp only [Act.put, List.setIfInBounds_toArray, List.set_cons_zero, List.set_cons_succ]
      refine Held.wpAnyG_take (i := 6) (v := (.slice A2 k c2)) rfl (by kernel_rfl) (by kernel_rfl) (by kernel_rfl) (fun _ _ _ h => h) HSS.out (by first | (with_reducible rfl) | (simp [Region.wanted, yielded, Act.put]; done) | rfl) (fun W1 h1 => by go_simp) (some 97) rfl #[true, true, true, false, true, true, true, false, false, false, false, false, false, false, false, false, false, false, false, false, false, false, false] (by kernel_rfl) ?_
      simp only [Act.put, List.setIfInBounds_toArray, List.set_cons_zero, List.set_cons_succ]
      refine Held.wpAnyG_take (i := 8) (v := (.pointer (some ⟨h, 0, none⟩))) rfl (by kernel_rfl) (by kernel_rfl) (by kernel_rfl) (fun _ _ _ h => h) HSS.out (by first | (with_reducible rfl) | (simp [Region.wanted, yielded, Act.put]; done) | rfl) (fun W1 h1 => by go_simp) (some 99) rfl #[true, true, true, false, true, true, true, false, true, false, false, false, false, false, false, false, false, false, false, false, false, false, false] (by kernel_rfl) ?_
      simp only [Act.put, List.setIfInBounds_toArray, List.set_cons_zero, List.set_cons_succ]
      refine Held.wpAnyG_take (i := 9) (v := (el 0)) rfl (by kernel_rfl) (by kernel_rfl) (by kernel_rfl) (fun _ _ _ h => h) HSS.out (by first | (with_reducible rfl) | (simp [Region.wanted, yielded, Act.put]; done) | rfl) (fun W1 hs => Held.run_load_of 36 (.tmp 15) rfl ⟨b15, 0, none⟩ rfl (PT.load hs)) (some 100) rfl #[true, true, true, false, true, true, true, false, true, true, false, false, false, false, false, false, false, false, false, false, false, false, false] (by kernel_rfl) ?_
      simp only [Act.put, List.setIfInBounds_toArray, List.set_cons_zero, List.set_cons_succ]
      refine Held.wpAnyG_take (i := 10) (v := (.slice A3 k c3)) rfl (by kernel_rfl) (by kernel_rfl) (by kernel_rfl) (fun _ _ _ h => h) HSS.out (by first | (with_reducible rfl) | (simp [Region.wanted, yielded, Act.put]; done) | rfl) (fun W1 h1 => by go_simp) (some 101) rfl #[true, true, true, false, true, true, true, false, true, true, true, false, false, false, false, false, false, false, false, false, false, false, false] (by kernel_rfl) ?_
      simp only [Act.put, List.setIfInBounds_toArray, List.set_cons_zero, List.set_cons_succ]
      refine Held.wpAnyG_one 3 (by kernel_rfl) rfl #[true, true, true, true, true, true, true, false, true, true, true, false, false, false, false, false, false, false, false, false, false, false, false] (by kernel_rfl) (fun K hK => ?_)
      go_wp2_with fail
      (with_reducible refine (foldC _ h n 0 (xorL ma mb) k (xorL_length HPA.out HPB.out).symm HN.out (by decide) (xorL_lt HMA.out HMB.out) A5 c5 HSS.out.ps.hh HSS.out.rs HL5.out).mono ?_)
      rintro en w21 ⟨rfl, hh_, hg_⟩
      have n1_ := Aside0.mk (HSS.out.grown hg_ hh_)
      clear HSS
      have HSS := n1_
      clear n1_
      go_wp2_with fail
      refine hK _ _ HSS.out ?_
      clear hK K
      refine Held.wpAnyG_one 7 (by kernel_rfl) rfl #[true, true, true, true, true, true, true, true, true, true, true, false, false, false, false, false, false, false, false, false, false, false, false] (by kernel_rfl) (fun K hK => ?_)
      go_wp2_with fail
      (with_reducible refine (foldC _ h n 0 ma k HPA.out HN.out (by decide) HMA.out A2 c2 HSS.out.ps.hh HSS.out.ps.fa HL2.out).mono ?_)
      rintro en w22 ⟨rfl, hh_, hg_⟩
      have n1_ := Aside0.mk (HSS.out.grown hg_ hh_)
      clear HSS
      have HSS := n1_
      clear n1_
      go_wp2_with fail
      refine hK _ _ HSS.out ?_
      clear hK K
      refine Held.wpAnyG_one 11 (by kernel_rfl) rfl #[true, true, true, true, true, true, true, true, true, true, true, true, false, false, false, false, false, false, false, false, false, false, false] (by kernel_rfl) (fun K hK => ?_)
      go_wp2_with fail
      (with_reducible refine (foldC _ h n 0 mb k HPB.out HN.out (by decide) HMB.out A3 c3 HSS.out.ps.hh HSS.out.ps.fb HL3.out).mono ?_)
      rintro en w23 ⟨rfl, hh_, hg_⟩
      have n1_ := Aside0.mk (HSS.out.grown hg_ hh_)
      clear HSS
      have HSS := n1_
      clear n1_
      go_wp2_with fail
      refine hK _ _ HSS.out ?_
      clear hK K
      refine Held.wpAnyG_one 12 (by kernel_rfl) rfl #[true, true, true, true, true, true, true, true, true, true, true, true, true, false, false, false, false, false, false, false, false, false, false] (by kernel_rfl) (fun K hK => ?_)
      go_wp2_with fail
      have n1_ := Aside0.mk (HSS.out.below (below_alloc (Below.refl w23.heap.size w23) (.cells #[.int .u64 (E (foldN n ma 0)).1, .int .u64 (E (foldN n ma 0)).2, .int .u64 (E (foldN n mb 0)).1, .int .u64 (E (foldN n mb 0)).2] 36)))
      clear HSS
      have HSS := n1_
      clear n1_
      refine hK _ _ HSS.out ?_
      clear hK K
      refine Held.wpAnyG_one 13 (by kernel_rfl) rfl #[true, true, true, true, true, true, true, true, true, true, true, true, true, true, false, false, false, false, false, false, false, false, false] (by kernel_rfl) (fun K hK => ?_)
      go_wp2_with fail
      (with_reducible refine (sum_calls (foldN n ma 0) (foldN n mb 0) (foldN_lt HN.out _ (by decide)) (foldN_lt HN.out _ (by decide)) _ _ 36 (blk_new w23 (.cells #[.int .u64 (E (foldN n ma 0)).1, .int .u64 (E (foldN n ma 0)).2, .int .u64 (E (foldN n mb 0)).1, .int .u64 (E (foldN n mb 0)).2] 36))).mono ?_)
      rintro en w24 ⟨rfl, hb_⟩
      rw [HX.out]
      have n1_ := Aside0.mk (HSS.out.below hb_)
      clear HSS
      have HSS := n1_
      clear n1_
      go_wp2_with fail
      refine hK _ _ HSS.out ?_
      clear hK K
      refine Held.wpAnyG_take (i := 14) (v := (.bool true)) rfl (by kernel_rfl) (by kernel_rfl) (by kernel_rfl) (fun _ _ _ h => h) HSS.out (by first | (with_reducible rfl) | (simp [Region.wanted, yielded, Act.put]; done) | rfl) (fun W1 h1 => by go_simp) (some 105) rfl #[true, true, true, true, true, true, true, true, true, true, true, true, true, true, true, false, false, false, false, false, false, false, false] (by kernel_rfl) ?_
      simp only [Act.put, List.setIfInBounds_toArray, List.set_cons_zero, List.set_cons_succ]
      refine Held.wpAnyG_take (i := 15) (v := (.bool true)) rfl (by kernel_rfl) (by kernel_rfl) (by kernel_rfl) (fun _ _ _ h => h) HSS.out (by first | (with_reducible rfl) | (simp [Region.wanted, yielded, Act.put]; done) | rfl) (fun W1 h1 => by go_simp) (some 106) rfl #[true, true, true, true, true, true, true, true, true, true, true, true, true, true, true, true, false, false, false, false, false, false, false] (by kernel_rfl) ?_
      simp only [Act.put, List.setIfInBounds_toArray, List.set_cons_zero, List.set_cons_succ]
      refine Held.wpAnyG_take (i := 16) (v := (.pointer (some ⟨h, 0, none⟩))) rfl (by kernel_rfl) (by kernel_rfl) (by kernel_rfl) (fun _ _ _ h => h) HSS.out (by first | (with_reducible rfl) | (simp [Region.wanted, yielded, Act.put]; done) | rfl) (fun W1 h1 => by go_simp) (some 107) rfl #[true, true, true, true, true, true, true, true, true, true, true, true, true, true, true, true, true, false, false, false, false, false, false] (by kernel_rfl) ?_
      simp only [Act.put, List.setIfInBounds_toArray, List.set_cons_zero, List.set_cons_succ]
      refine Held.wpAnyG_take (i := 17) (v := (el f)) rfl (by kernel_rfl) (by kernel_rfl) (by kernel_rfl) (fun _ _ _ h => h) HSS.out (by first | (with_reducible rfl) | (simp [Region.wanted, yielded, Act.put]; done) | rfl) (fun W1 hs => Held.run_load_of 36 (.tmp 6) rfl ⟨b6, 0, none⟩ rfl (PS.load hs.ps)) (some 108) rfl #[true, true, true, true, true, true, true, true, true, true, true, true, true, true, true, true, true, true, false, false, false, false, false] (by kernel_rfl) ?_
      simp only [Act.put, List.setIfInBounds_toArray, List.set_cons_zero, List.set_cons_succ]
      refine Held.wpAnyG_take (i := 19) (v := (el f)) rfl (by kernel_rfl) (by kernel_rfl) (by kernel_rfl) (fun _ _ _ h => h) HSS.out (by first | (with_reducible rfl) | (simp [Region.wanted, yielded, Act.put]; done) | rfl) (fun W1 hs => Held.run_load_of 36 (.tmp 6) rfl ⟨b6, 0, none⟩ rfl (PS.load hs.ps)) (some 110) rfl #[true, true, true, true, true, true, true, true, true, true, true, true, true, true, true, true, true, true, false, true, false, false, false] (by kernel_rfl) ?_
      simp only [Act.put, List.setIfInBounds_toArray, List.set_cons_zero, List.set_cons_succ]
      refine Held.wpAnyG_one 18 (by kernel_rfl) rfl #[true, true, true, true, true, true, true, true, true, true, true, true, true, true, true, true, true, true, true, true, false, false, false] (by kernel_rfl) (fun K hK => ?_)
      go_wp2_with fail
      (with_reducible refine (foldnilC _ h n f HN.out HF.out HSS.out.ps.hh).mono ?_)
      rintro en w25 ⟨rfl, hh_, hg_⟩
      have n1_ := Aside0.mk (HSS.out.grown hg_ hh_)
      clear HSS
      have HSS := n1_
      clear n1_
      go_wp2_with fail
      refine hK _ _ HSS.out ?_
      clear hK K
      refine Held.wpAnyG_take (i := 20) (v := (.bool true)) rfl (by kernel_rfl) (by kernel_rfl) (by kernel_rfl) (fun _ _ _ h => h) HSS.out (by first | (with_reducible rfl) | (simp [Region.wanted, yielded, Act.put]; done) | rfl) (fun W1 h1 => by go_simp) (some 111) rfl #[true, true, true, true, true, true, true, true, true, true, true, true, true, true, true, true, true, true, true, true, true, false, false] (by kernel_rfl) ?_
      simp only [Act.put, List.setIfInBounds_toArray, List.set_cons_zero, List.set_cons_succ]
      refine Held.wpAnyG_take (i := 21) (v := (.bool true)) rfl (by kernel_rfl) (by kernel_rfl) (by kernel_rfl) (fun _ _ _ h => h) HSS.out (by first | (with_reducible rfl) | (simp [Region.wanted, yielded, Act.put]; done) | rfl) (fun W1 h1 => by go_simp) (some 112) rfl #[true, true, true, true, true, true, true, true, true, true, true, true, true, true, true, true, true, true, true, true, true, true, false] (by kernel_rfl) ?_
      simp only [Act.put, List.setIfInBounds_toArray, List.set_cons_zero, List.set_cons_succ]
      refine Held.wpAnyG_last 22 (by kernel_rfl) rfl (by kernel_rfl) (by kernel_rfl) ?_
      go_wp2_with fail
      go_ret
      exact ⟨rfl, HSS.out.ps.ww⟩
theorem parts_calls (W : World) (l0 : List Int) (g0 : ∀ x ∈ l0, 0 ≤ x ∧ x < 256) (A0 : Option Addr) (c0 : Nat) (hC0 : Kd.C (Kd.int .u8) W A0 l0.length l0) (hc0 : l0.length ≤ c0) (x y : Int) (hf : fineS ⟨x, y⟩) (l2 l3 : List S36) (g2 : ∀ s ∈ l2, fineS s) (g3 : ∀ s ∈ l3, fineS s)
    (A2 : Option Addr) (c2 : Nat) (hC2 : Kd.C k36 W A2 l2.length l2) (hc2 : l2.length ≤ c2) (A3 : Option Addr) (c3 : Nat) (hC3 : Kd.C k36 W A3 l3.length l3) (hc3 : l3.length ≤ c3) (cut : Int) :
    Calls Try.prog 5 #[.slice A0 l0.length c0, .agg #[.int .u64 x, .int .u64 y], .slice A2 l2.length c2, .slice A3 l3.length c3, .int .i64 cut] W fun en W' => en = .returned (.bool true) ∧ Below W.heap.size W W' := by
  obtain ⟨f, hf2, ef, _⟩ := el_of hf
  rw [ef]
  by_cases hg : l0.length = 16 ∧ l2.length ≤ 30 ∧ l3.length = l2.length ∧ 0 ≤ cut ∧ cut ≤ l2.length
  · obtain ⟨n, hn, rfl⟩ := bytes_all l0 g0 hg.1
    obtain ⟨ma, hma, rfl⟩ := rows_of l2 g2
    obtain ⟨mb, hmb, rfl⟩ := rows_of l3 g3
    obtain ⟨j, rfl⟩ := Int.eq_ofNat_of_zero_le hg.2.2.2.1
    simp only [List.length_map] at hg hC2 hc2 hC3 hc3 ⊢
    rw [bytesN_length] at hC0 hc0 ⊢
    have hab := hg.2.2.1
    rw [hab] at hC3 hc3 ⊢
    exact parts_good W A0 c0 n f hn hf2 hC0 hc0 ma mb hma hmb ma.length j rfl hab.symm hg.2.1 (by have := hg.2.2.2.2; omega) A2 c2 hC2 hc2 A3 c3 hC3 hc3
  · exact parts_bad W A0 l0.length c0 f A2 l2.length c2 A3 l3.length c3 cut hg
end Go.Proofs.Ytmhmmmkpijbbiab.Gh
