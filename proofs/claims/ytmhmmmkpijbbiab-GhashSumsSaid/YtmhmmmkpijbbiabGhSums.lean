/- ghash: the law GhashSums walked. Written by wip/gen/ghsums.py. -/
import Derived.Test.YtmhmmmkpijbbiabGhRsum
namespace Go.Proofs.Ytmhmmmkpijbbiab.Gh
open Go.RowKit Go.Proofs.YtmhmmmkpijbbiabW.PrintWords Go.Proofs.YtmhmmmkpijbbiabW.PrintLast Go.Proofs.YtmhmmmkpijbbiabW.PrintMore Go.Proofs.Ytmhmmmkpijbbiab.X Go.Proofs.Ytmhmmmkpijbbiab.M Go.Proofs.Ytmhmmmkpijbbiab.Bv Go.Proofs.Ytmhmmmkpijbbiab.Gf Go.Proofs.Ytmhmmmkpijbbiab.Arr Go.Proofs.Ytmhmmmkpijbbiab.ArrX Go.Proofs.Ytmhmmmkpijbbiab.PuLib Go.Proofs.Ytmhmmmkpijbbiab.PuCat
attribute [local go_sem] max2_int min2_int max_two min_two max_three min_three max_four min_four
set_option linter.unusedVariables false
set_option linter.unusedSimpArgs false
theorem sameN_ (l : List Int) (m : Nat) (hm : m = l.length) (hl : m ≤ 1000000) (A : Option Addr) (c : Nat) (A' : Option Addr) (c' : Nat) (w : World) (hC : Kd.C (Kd.int .u8) w A m l) (hc : m ≤ c) (hC' : Kd.C (Kd.int .u8) w A' m l) (hc' : m ≤ c') :
    Calls Try.prog 13 #[.slice A m c, .slice A' m c'] w fun e w' => e = .returned (.bool true) ∧ Drawn0 w w' := by
  subst hm
  obtain ⟨k, hk⟩ := Ev.rounds (same_ev l l (by omega))
  rw [show decide (l = l) = true from decide_eq_true rfl] at hk
  exact crosswayref00_SameBytes.calls k A c l A' c' l true w hC hc hC' hc' hk
theorem copyN (l : List Int) (m : Nat) (hm : m = l.length) (hl : m ≤ 1000000) (A : Option Addr) (c : Nat) (w : World) (hC : Kd.C (Kd.int .u8) w A m l) (hc : m ≤ c) :
    Calls Try.prog 8 #[.slice A m c] w fun e w' => ∃ A' c', e = .returned (.slice A' m c') ∧ m ≤ c' ∧ Kd.R (Kd.int .u8) 5 w' w.heap.size (fun _ => True) (.slice A' m c') l ∧ Below w.heap.size w w' := by
  subst hm
  refine (crosswayref00_CopyBytes.calls A c l l w hC hc (copy_eq l (by omega))).mono ?_
  rintro e w' ⟨v, rfl, hr, hb⟩
  obtain ⟨A', c', rfl⟩ := Kd.R_slice hr
  exact ⟨A', c', rfl, (Kd.R_reads' hr).2.1, hr, hb⟩
set_option maxRecDepth 100000 in
set_option maxHeartbeats 4000000 in
theorem sums_bad (W : World) (A0 : Option Addr) (p0 c0 : Nat) (A1 : Option Addr) (p1 c1 : Nat) (A2 : Option Addr) (p2 c2 : Nat) (hbad : ¬ (p0 ≤ 100 ∧ p1 ≤ 300 ∧ p2 ≤ 300)) :
    Calls Try.prog 3 #[.slice A0 p0 c0, .slice A1 p1 c1, .slice A2 p2 c2] W fun en W' => en = .returned (.bool true) ∧ Below W.heap.size W W' := by
  have HBAD := Aside0.mk hbad
  clear hbad
  go_enter Try.func3, Try.ntmps3
  go_wp2_with fail
  (with_reducible refine (alive_calls _).mono ?_)
  rintro en w2 ⟨rfl, hb2⟩
  have HB2 := Aside0.mk hb2
  clear hb2
  by_cases h1 : (100 : Int) < (p0 : Int)
  · go_wp2_with fail
    go_ret
    exact ⟨rfl, HB2.out⟩
  · by_cases h2 : (300 : Int) < (p1 : Int)
    · go_wp2_with fail
      go_ret
      exact ⟨rfl, HB2.out⟩
    · have h3 : (300 : Int) < (p2 : Int) := by have := HBAD.out; omega
      go_wp2_with fail
      go_ret
      exact ⟨rfl, HB2.out⟩
set_option maxRecDepth 100000 in
set_option maxHeartbeats 4000000 in
theorem sums_not (W : World) (A0 : Option Addr) (p0 c0 : Nat) (A1 : Option Addr) (p1 c1 : Nat) (A2 : Option Addr) (p2 c2 : Nat) (k0 : p0 ≤ 100) (k1 : p1 ≤ 300) (k2 : p2 ≤ 300) (l0 : List Int) (hp0 : p0 = l0.length) (hn : ¬ p0 = 16) (hC0 : Kd.C (Kd.int .u8) W A0 p0 l0) (hc0 : p0 ≤ c0) :
    Calls Try.prog 3 #[.slice A0 p0 c0, .slice A1 p1 c1, .slice A2 p2 c2] W fun en W' => en = .returned (.bool true) ∧ Below W.heap.size W W' := by
  have HP0 := Aside0.mk hp0
  have HK0 := Aside0.mk k0
  have HC0 := Aside0.mk hC0
  have HL0 := Aside0.mk hc0
  have HNN := Aside0.mk hn
  have q0 : ¬ (100 : Int) < (p0 : Int) := by omega
  have q1 : ¬ (300 : Int) < (p1 : Int) := by omega
  have q2 : ¬ (300 : Int) < (p2 : Int) := by omega
  have q3 : ¬ (p0 : Int) = 16 := by omega
  clear hp0 k0 hC0 hc0 hn k1 k2
  go_enter Try.func3, Try.ntmps3
  go_wp2_with fail
  (with_reducible refine (alive_calls _).mono ?_)
  rintro en w2 ⟨rfl, hb2⟩
  have HB2 := Aside0.mk hb2
  clear hb2
  go_wp2_with fail
  (with_reducible refine (copyN l0 p0 HP0.out (Nat.le_trans HK0.out (by decide)) A0 c0 w2 (Kd.C_below HC0.out HB2.out) HL0.out).mono ?_)
  rintro en w3 ⟨Bo, co, rfl, hco, hr, hb⟩
  have hr3 := Kd.R_reads' hr
  have HRO := Aside0.mk (show Kd.C (Kd.int .u8) w3 Bo l0.length l0 from hr3.2.2)
  have HCO := Aside0.mk hco
  have HB3 := Aside0.mk (HB2.out.trans (hb.mono HB2.out.size))
  clear hr hr3 hb hco HB2
  go_wp2_with fail
  rw [HP0.out]
  (with_reducible refine (newbad_calls l0 (by rw [← HP0.out]; exact HNN.out) Bo co w3 HRO.out (by rw [← HP0.out]; exact HCO.out)).mono ?_)
  rintro en w4 ⟨rfl, hb⟩
  rw [← HP0.out]
  have HB4 := Aside0.mk (HB3.out.trans (hb.mono HB3.out.size))
  clear hb
  go_wp2_with fail
  go_ret
  exact ⟨rfl, HB4.out⟩
/-- What stays while a hash is used. -/
structure SU (W0 W : World) (h n : Nat) (A0 A1 A2 : Option Addr) (l0 l1 l2 : List Int) (d : Bool) : Prop where
  hh : HashAt W h n d
  r0 : Kd.F (Kd.int .u8) W (fun k => k < W0.heap.size) A0 l0.length l0
  r1 : Kd.F (Kd.int .u8) W (fun k => k < W0.heap.size) A1 l1.length l1
  r2 : Kd.F (Kd.int .u8) W (fun k => k < W0.heap.size) A2 l2.length l2
  ww : Below W0.heap.size W0 W
  nn : W0.heap.size ≤ h
theorem SU.new {W0 W W' : World} {h n : Nat} {A0 A1 A2 : Option Addr} {l0 l1 l2 : List Int} {d : Bool} {row : Option Nat} (hs : SU W0 W h n A0 A1 A2 l0 l1 l2 d) (hg : W.grownBy W' row) (hr : ∀ k, row = some k → k ≠ h ∧ W0.heap.size ≤ k) : SU W0 W' h n A0 A1 A2 l0 l1 l2 d :=
  ⟨hs.hh.same (hg.block h hs.hh.lt (fun e => (hr h e.symm).1 rfl)), Kd.F_grown hs.r0 hg (fun k hk e => by have := (hr k e.symm).2; omega), Kd.F_grown hs.r1 hg (fun k hk e => by have := (hr k e.symm).2; omega), Kd.F_grown hs.r2 hg (fun k hk e => by have := (hr k e.symm).2; omega), hs.ww.grown hg hs.ww.size (fun k e => (hr k e).2), hs.nn⟩
theorem SU.grown {W0 W W' : World} {h n : Nat} {A0 A1 A2 : Option Addr} {l0 l1 l2 : List Int} {d : Bool} {d' : Bool} (hs : SU W0 W h n A0 A1 A2 l0 l1 l2 d) (hg : W.grownBy W' (some h)) (hh : HashAt W' h n d') : SU W0 W' h n A0 A1 A2 l0 l1 l2 d' :=
  ⟨hh, Kd.F_grown hs.r0 hg (fun k hk e => by have := hs.nn; injection e with e; omega), Kd.F_grown hs.r1 hg (fun k hk e => by have := hs.nn; injection e with e; omega), Kd.F_grown hs.r2 hg (fun k hk e => by have := hs.nn; injection e with e; omega), hs.ww.grown hg hs.ww.size (fun k e => by cases e; exact hs.nn), hs.nn⟩
theorem SU.below {W0 W W' : World} {h n : Nat} {A0 A1 A2 : Option Addr} {l0 l1 l2 : List Int} {d : Bool} (hs : SU W0 W h n A0 A1 A2 l0 l1 l2 d) (hb : Below W.heap.size W W') : SU W0 W' h n A0 A1 A2 l0 l1 l2 d := hs.new (grown_of_below hb none) (fun k e => by cases e)
set_option maxRecDepth 100000 in
set_option maxHeartbeats 8000000 in
theorem sums_good (W : World) (n : Nat) (hn : n < top) (A0 : Option Addr) (c0 : Nat) (A1 : Option Addr) (p1 c1 : Nat) (A2 : Option Addr) (p2 c2 : Nat) (l1 l2 : List Int) (hp1 : p1 = l1.length) (hp2 : p2 = l2.length) (k1 : p1 ≤ 300) (k2 : p2 ≤ 300) (g1 : ∀ x ∈ l1, 0 ≤ x ∧ x < 256) (g2 : ∀ x ∈ l2, 0 ≤ x ∧ x < 256) (hC0 : Kd.C (Kd.int .u8) W A0 16 (bytesN n)) (hc0 : 16 ≤ c0) (hC1 : Kd.C (Kd.int .u8) W A1 p1 l1) (hc1 : p1 ≤ c1) (hC2 : Kd.C (Kd.int .u8) W A2 p2 l2) (hc2 : p2 ≤ c2) :
    Calls Try.prog 3 #[.slice A0 16 c0, .slice A1 p1 c1, .slice A2 p2 c2] W fun en W' => en = .returned (.bool true) ∧ Below W.heap.size W W' := by
  have HN := Aside0.mk hn
  have HP1 := Aside0.mk hp1
  have HP2 := Aside0.mk hp2
  have HK1 := Aside0.mk k1
  have HK2 := Aside0.mk k2
  have HG1 := Aside0.mk g1
  have HG2 := Aside0.mk g2
  have HC0 := Aside0.mk hC0
  have HL0 := Aside0.mk hc0
  have HC1 := Aside0.mk hC1
  have HL1 := Aside0.mk hc1
  have HC2 := Aside0.mk hC2
  have HL2 := Aside0.mk hc2
  have q1 : ¬ (300 : Int) < (p1 : Int) := by omega
  have q2 : ¬ (300 : Int) < (p2 : Int) := by omega
  clear hn hp1 hp2 k1 k2 g1 g2 hC0 hc0 hC1 hc1 hC2 hc2
  go_enter Try.func3, Try.ntmps3
  go_wp2_with fail
  (with_reducible refine (alive_calls _).mono ?_)
  rintro en w2 ⟨rfl, hb2⟩
  have HB2 := Aside0.mk hb2
  clear hb2
  go_wp2_with fail
  (with_reducible refine (copyN (bytesN n) 16 (bytesN_length n).symm (by decide) A0 c0 w2 (Kd.C_below HC0.out HB2.out) HL0.out).mono ?_)
  rintro en w3 ⟨Bo, co, rfl, hco, hr, hb⟩
  obtain ⟨go, co2, ego, hgo1, hgo2, _⟩ := Kd.R_form hr (by rw [bytesN_length]; decide)
  obtain ⟨rfl, hx16, rfl⟩ := Value.slice.inj ego
  clear hx16
  have HRO := Aside0.mk (show Kd.C (Kd.int .u8) w3 (some ⟨go, 0, none⟩) 16 (bytesN n) by have h1 := (Kd.R_reads' hr).2.2; rw [bytesN_length] at h1; exact h1)
  have HR3 := Aside0.mk hr
  have HCO := Aside0.mk hco
  have HGO := Aside0.mk (show W.heap.size ≤ go ∧ go < w3.heap.size from ⟨Nat.le_trans HB2.out.size hgo1, hgo2⟩)
  have HB3 := Aside0.mk (HB2.out.trans (hb.mono HB2.out.size))
  clear hr hb hco HB2 ego hgo1 hgo2
  go_wp2_with fail
  (with_reducible refine (new16_calls n HN.out (some ⟨go, 0, none⟩) co w3 HRO.out HCO.out).mono ?_)
  rintro en w4 ⟨h, rfl, hh4, hl4, hb4⟩
  have hb04 := HB3.out.trans (hb4.mono HB3.out.size)
  have HSU := Aside0.mk (show SU W w4 h n A0 A1 A2 (bytesN n) l1 l2 false from ⟨hh4, by rw [bytesN_length]; exact Kd.F_below (Kd.C_F (Kd.heap_int _) HC0.out) hb04, by have h1 := HC1.out; rw [HP1.out] at h1; exact Kd.F_below (Kd.C_F (Kd.heap_int _) h1) hb04, by have h1 := HC2.out; rw [HP2.out] at h1; exact Kd.F_below (Kd.C_F (Kd.heap_int _) h1) hb04, hb04, Nat.le_trans HB3.out.size hl4⟩)
  have HNG := Aside0.mk (show go ≠ h by have h1 := HGO.out; omega)
  have hcl := byte_at (j := 0) (Kd.C_below HRO.out hb4) (by decide)
  rw [show (⟨go, 0, none⟩ : Addr).add 0 = ⟨go, 0, none⟩ from rfl] at hcl
  have hfz : w4.frozen? ⟨go, 0, none⟩ = false := by
    obtain ⟨cells, hc⟩ := Kd.R_typed (Kd.R_below HR3.out hb4) go rfl
    exact blk_frozen hc 0
  obtain ⟨x0, hx0⟩ : ∃ x0, x0 = (bytesN n).getD 0 0 := ⟨_, rfl⟩
  rw [← hx0] at hcl
  clear hh4 hl4 hb4 hb04 hx0 HB3 HRO HR3 HCO
  go_wp2_with fail
  obtain ⟨w5, hw5⟩ : ∃ w5, w5 = w4.setCell ⟨go, 0, none⟩ (.int .u8 ((x0 + 1) % 256)) := ⟨_, rfl⟩
  rw [← hw5]
  have HS5 := Aside0.mk (show SU W w5 h n A0 A1 A2 (bytesN n) l1 l2 false from HSU.out.new (show w4.grownBy w5 (some go) by rw [hw5]; exact setCell_grown w4 go 0 _) (fun k e => by injection e with e; have h1 := HGO.out; have h2 := HNG.out; omega))
  have HLP1 := Aside0.mk (show l1.length = p1 from HP1.out.symm)
  clear hw5 hcl hfz HSU
  (with_reducible refine (rblocks_calls l1 p1 HP1.out HG1.out (Nat.le_trans HK1.out (by decide)) A1 c1 w5 (by have h1 := Kd.F_now HS5.out.r1; rw [HLP1.out] at h1; exact h1) HL1.out).mono ?_)
  rintro en w6 ⟨v, rfl, hr, hb⟩
  obtain ⟨B6, d6, rfl⟩ := Kd.R_slice hr
  obtain ⟨m, hm⟩ : ∃ m, m = (blocksN l1).length := ⟨_, rfl⟩
  rw [← hm] at hr ⊢
  have hr6 := Kd.R_reads' hr
  have HC6 := Aside0.mk (show Kd.C kP w6 B6 m (blocksN l1) by have h1 := hr6.2.2; rw [← hr6.1] at h1; exact h1)
  have HD6 := Aside0.mk hr6.2.1
  have HM := Aside0.mk (show m = (blocksN l1).length ∧ m ≤ 20 from ⟨hm, by rw [hm, blocksN_length]; have h1 := HK1.out; have h2 := HP1.out; omega⟩)
  have HS6 := Aside0.mk (HS5.out.below hb)
  clear hr hr6 hb hm HS5
  go_wp2_with fail
  (with_reducible refine (elems_calls (blocksN l1) m HM.out.1 (blocksN_lt HG1.out) (Nat.le_trans HM.out.2 (by decide)) B6 d6 w6 HC6.out HD6.out).mono ?_)
  rintro en w7 ⟨v, rfl, hr, hb⟩
  obtain ⟨B7, d7, rfl⟩ := Kd.R_slice hr
  rw [List.length_map, ← HM.out.1] at hr ⊢
  have HF7 := Aside0.mk (show Kd.F k36 w7 (fun _ => True) B7 m ((blocksN l1).map toS) from Kd.R_F hr)
  have HS7 := Aside0.mk (HS6.out.below hb)
  clear hr hb HC6 HS6
  go_wp2_with fail
  rw [HP1.out]
  (with_reducible refine (blocks_calls l1 HG1.out A1 c1 w7 (Kd.F_now HS7.out.r1) (by rw [← HP1.out]; exact HL1.out) (by rw [← HP1.out]; exact Nat.le_trans HK1.out (by decide))).mono ?_)
  rintro en w8 ⟨v, rfl, hr, hb⟩
  rw [← HP1.out]
  obtain ⟨B8, d8, rfl⟩ := Kd.R_slice hr
  rw [List.length_map, ← HM.out.1] at hr ⊢
  have HF8 := Aside0.mk (show Kd.F k36 w8 (fun _ => True) B8 m ((blocksN l1).map toS) from Kd.R_F hr)
  have HF7 := Aside0.mk (Kd.F_below HF7.out hb)
  have HS8 := Aside0.mk (HS7.out.below hb)
  clear hr hb HS7
  go_wp2_with fail
  go_loopw [12] (fun v12 wr => ∃ k : Nat, k ≤ m ∧ v12 = .int .i64 k ∧ Aside0 (Below w8.heap.size w8 wr)) (fun v12 _ => m - (intOf v12).toNat)
  case atStart => exact ⟨0, Nat.zero_le _, rfl, ⟨Below.refl _ _⟩⟩
  case round =>
    obtain ⟨k, hk, rfl, HB⟩ := hrel
    by_cases hlt : k < m
    · have HKL := Aside0.mk hlt
      obtain ⟨ad7, hA7, _⟩ := (Kd.F_now HF7.out).2.2 (Nat.lt_of_le_of_lt (Nat.zero_le _) hlt)
      obtain ⟨ad8, hA8, _⟩ := (Kd.F_now HF8.out).2.2 (Nat.lt_of_le_of_lt (Nat.zero_le _) hlt)
      subst hA7
      subst hA8
      obtain ⟨b, hb⟩ : ∃ b, b = (blocksN l1).getD k 0 := ⟨_, rfl⟩
      have HBK := Aside0.mk hb
      have HL7 := Aside0.mk (show ∀ W1, Below w8.heap.size w8 W1 → (loadVar 36 (ad7.add (k * 2))).run Try.prog W1 = .ok (el b) W1 from fun W1 h1 => by
        rw [hb]
        have h2 := Kd.F_below HF7.out h1
        rw [HM.out.1] at h2
        exact load_row h2 (by have h3 := HM.out; omega))
      have HL8 := Aside0.mk (show ∀ W1, Below w8.heap.size w8 W1 → (loadVar 36 (ad8.add (k * 2))).run Try.prog W1 = .ok (el b) W1 from fun W1 h1 => by
        rw [hb]
        have h2 := Kd.F_below HF8.out h1
        rw [HM.out.1] at h2
        exact load_row h2 (by have h3 := HM.out; omega))
      have e1 : (0 : Int) ≤ (k : Int) ∧ (k : Int) < (m : Int) := by omega
      have e2 : (k : Int) < (m : Int) := by omega
      have e3 : (m : Int) ≤ 20 := by have h1 := HM.out.2; omega
      clear hb hlt hk
      go_upto_region 19 with (fail)
      have HSS := Aside0.mk (below_drew HB.out)
      clear HB
      refine Held.wp_region_G (S := (fun W1 : World => Below w8.heap.size w8 W1)) (by kernel_rfl) ?_
      change Held.wpAnyG _ _ _ _ _ 9 _ _ _
      refine Held.wpAnyG_take (i := 0) (v := (.slice (some ad7) m d7)) rfl (by kernel_rfl) (by kernel_rfl) (by kernel_rfl) (fun _ _ _ h => h) HSS.out (by first | (with_reducible rfl) | (simp [Region.wanted, yielded, Act.put]; done) | rfl) (fun W1 h1 => by go_simp) (some 73) rfl #[true, false, false, false, false, false, false, false, false] (by kernel_rfl) ?_
      simp only [Act.put, List.setIfInBounds_toArray, List.set_cons_zero, List.set_cons_succ]
      refine Held.wpAnyG_take (i := 1) (v := (.int .i64 (k : Int))) rfl (by kernel_rfl) (by kernel_rfl) (by kernel_rfl) (fun _ _ _ h => h) HSS.out (by first | (with_reducible rfl) | (simp [Region.wanted, yielded, Act.put]; done) | rfl) (fun W1 h1 => by go_simp) (some 74) rfl #[true, true, false, false, false, false, false, false, false] (by kernel_rfl) ?_
      simp only [Act.put, List.setIfInBounds_toArray, List.set_cons_zero, List.set_cons_succ]
      refine Held.wpAnyG_take (i := 2) (v := (.pointer (some (ad7.add (k * 2))))) rfl (by kernel_rfl) (by kernel_rfl) (by kernel_rfl) (fun _ _ _ h => h) HSS.out (by first | (with_reducible rfl) | (simp [Region.wanted, yielded, Act.put]; done) | rfl) (fun W1 h1 => by go_simp) (some 75) rfl #[true, true, true, false, false, false, false, false, false] (by kernel_rfl) ?_
      simp only [Act.put, List.setIfInBounds_toArray, List.set_cons_zero, List.set_cons_succ]
      refine Held.wpAnyG_take (i := 3) (v := (el b)) rfl (by kernel_rfl) (by kernel_rfl) (by kernel_rfl) (fun _ _ _ h => h) HSS.out (by first | (with_reducible rfl) | (simp [Region.wanted, yielded, Act.put]; done) | rfl) (fun W1 hs => Held.run_load_of 36 (.tmp 75) rfl (ad7.add (k * 2)) rfl (HL7.out W1 hs)) (some 76) rfl #[true, true, true, true, false, false, false, false, false] (by kernel_rfl) ?_
      simp only [Act.put, List.setIfInBounds_toArray, List.set_cons_zero, List.set_cons_succ]
      refine Held.wpAnyG_take (i := 4) (v := (.slice (some ad8) m d8)) rfl (by kernel_rfl) (by kernel_rfl) (by kernel_rfl) (fun _ _ _ h => h) HSS.out (by first | (with_reducible rfl) | (simp [Region.wanted, yielded, Act.put]; done) | rfl) (fun W1 h1 => by go_simp) (some 77) rfl #[true, true, true, true, true, false, false, false, false] (by kernel_rfl) ?_
      simp only [Act.put, List.setIfInBounds_toArray, List.set_cons_zero, List.set_cons_succ]
      refine Held.wpAnyG_take (i := 5) (v := (.int .i64 (k : Int))) rfl (by kernel_rfl) (by kernel_rfl) (by kernel_rfl) (fun _ _ _ h => h) HSS.out (by first | (with_reducible rfl) | (simp [Region.wanted, yielded, Act.put]; done) | rfl) (fun W1 h1 => by go_simp) (some 78) rfl #[true, true, true, true, true, true, false, false, false] (by kernel_rfl) ?_
      simp only [Act.put, List.setIfInBounds_toArray, List.set_cons_zero, List.set_cons_succ]
      refine Held.wpAnyG_take (i := 6) (v := (.pointer (some (ad8.add (k * 2))))) rfl (by kernel_rfl) (by kernel_rfl) (by kernel_rfl) (fun _ _ _ h => h) HSS.out (by first | (with_reducible rfl) | (simp [Region.wanted, yielded, Act.put]; done) | rfl) (fun W1 h1 => by go_simp) (some 79) rfl #[true, true, true, true, true, true, true, false, false] (by kernel_rfl) ?_
      simp only [Act.put, List.setIfInBounds_toArray, List.set_cons_zero, List.set_cons_succ]
      refine Held.wpAnyG_take (i := 7) (v := (el b)) rfl (by kernel_rfl) (by kernel_rfl) (by kernel_rfl) (fun _ _ _ h => h) HSS.out (by first | (with_reducible rfl) | (simp [Region.wanted, yielded, Act.put]; done) | rfl) (fun W1 hs => Held.run_load_of 36 (.tmp 79) rfl (ad8.add (k * 2)) rfl (HL8.out W1 hs)) (some 80) rfl #[true, true, true, true, true, true, true, true, false] (by kernel_rfl) ?_
      simp only [Act.put, List.setIfInBounds_toArray, List.set_cons_zero, List.set_cons_succ]
      refine Held.wpAnyG_take (i := 8) (v := (.bool false)) rfl (by kernel_rfl) (by kernel_rfl) (by kernel_rfl) (fun _ _ _ h => h) HSS.out (by first | (with_reducible rfl) | (simp [Region.wanted, yielded, Act.put]; done) | rfl) (fun W1 h1 => by go_simp) (some 81) rfl #[true, true, true, true, true, true, true, true, true] (by kernel_rfl) ?_
      simp only [Act.put, List.setIfInBounds_toArray, List.set_cons_zero, List.set_cons_succ]
      refine Held.wpAnyG_done (by kernel_rfl) ?_ _
      go_wp2_with fail
      go_roundw
      case measure => simp [intOf]; omega
      case rel => exact ⟨k + 1, HKL.out, by go_num, HSS⟩
    · obtain rfl : k = m := by omega
      have HS9 := Aside0.mk (HS8.out.below HB.out)
      have HZ9 := Aside0.mk (show h < wr.heap.size from HS9.out.hh.lt)
      clear HB hlt hk
      go_wp2_with fail
      (with_reducible refine (copyN l1 p1 HP1.out (Nat.le_trans HK1.out (by decide)) A1 c1 wr (by have h1 := Kd.F_now HS9.out.r1; rw [HLP1.out] at h1; exact h1) HL1.out).mono ?_)
      rintro en w10 ⟨Bx, dx, rfl, hdx, hr, hb⟩
      have HDX := Aside0.mk hdx
      have HFX := Aside0.mk (show Kd.F (Kd.int .u8) w10 (fun i => i ≠ h) Bx p1 l1 from Kd.F_mono (Kd.R_F (Kd.R_bound hr)) (fun i hi => by have h1 := hi.2.1; have h2 := HZ9.out; omega))
      have HS10 := Aside0.mk (HS9.out.below hb)
      have HZ10 := Aside0.mk (Nat.lt_of_lt_of_le HZ9.out hb.size)
      clear hdx hr hb HS9
      go_wp2_with fail
      (with_reducible refine (copyN l2 p2 HP2.out (Nat.le_trans HK2.out (by decide)) A2 c2 w10 (by have h1 := Kd.F_now HS10.out.r2; rw [← HP2.out] at h1; exact h1) HL2.out).mono ?_)
      rintro en w11 ⟨By, dy, rfl, hdy, hr, hb⟩
      have HDY := Aside0.mk hdy
      have HFY := Aside0.mk (show Kd.F (Kd.int .u8) w11 (fun i => i ≠ h) By p2 l2 from Kd.F_mono (Kd.R_F (Kd.R_bound hr)) (fun i hi => by have h1 := hi.2.1; have h2 := HZ10.out; omega))
      have HFX := Aside0.mk (Kd.F_below HFX.out hb)
      have HS11 := Aside0.mk (HS10.out.below hb)
      clear hdy hr hb HS10
      go_wp2_with fail
      rw [HP1.out, HP2.out]
      (with_reducible refine (gsum_calls w11 h n false HN.out HS11.out.hh l1 l2 HG1.out HG2.out Bx dx (by have h1 := Kd.F_now HFX.out; rw [HP1.out] at h1; exact h1) (by rw [← HP1.out]; exact HDX.out) By dy (by have h1 := Kd.F_now HFY.out; rw [HP2.out] at h1; exact h1) (by rw [← HP2.out]; exact HDY.out) (by rw [← HP1.out]; exact Nat.le_trans HK1.out (by decide)) (by rw [← HP2.out]; exact Nat.le_trans HK2.out (by decide))).mono ?_)
      rintro en w12 ⟨v, rfl, hr, hh, hg⟩
      rw [← HP1.out, ← HP2.out]
      obtain ⟨B12, d12, rfl⟩ := Kd.R_slice hr
      rw [bytesN_length] at hr ⊢
      obtain ⟨s, hs⟩ : ∃ s, s = foldN n (sumB l1 l2) 0 := ⟨_, rfl⟩
      have HSE := Aside0.mk hs
      rw [← hs] at hr
      have hr12 := Kd.R_reads' hr
      have HC12 := Aside0.mk (show Kd.C (Kd.int .u8) w12 B12 16 (bytesN s) by have h1 := hr12.2.2; rw [bytesN_length] at h1; exact h1)
      have HD12 := Aside0.mk (show 16 ≤ d12 from hr12.2.1)
      have HFX := Aside0.mk (Kd.F_grown HFX.out hg (fun i hi e => hi (Option.some.inj e)))
      have HFY := Aside0.mk (Kd.F_grown HFY.out hg (fun i hi e => hi (Option.some.inj e)))
      have HS12 := Aside0.mk (HS11.out.grown hg hh)
      clear hr hh hg hs hr12 HS11
      go_wp2_with fail
      (with_reducible refine (rsum_calls n HN.out l1 l2 p1 p2 HP1.out HP2.out HK1.out HK2.out HG1.out HG2.out A0 c0 A1 c1 A2 c2 w12 (by have h1 := Kd.F_now HS12.out.r0; rw [bytesN_length] at h1; exact h1) (by have h1 := Kd.F_now HS12.out.r1; rw [← HP1.out] at h1; exact h1) HL1.out (by have h1 := Kd.F_now HS12.out.r2; rw [← HP2.out] at h1; exact h1) HL2.out).mono ?_)
      rintro en w13 ⟨v, rfl, hr, hb⟩
      obtain ⟨B13, d13, rfl⟩ := Kd.R_slice hr
      rw [bytesN_length] at hr ⊢
      rw [← HSE.out] at hr
      have hr13 := Kd.R_reads' hr
      have HC13 := Aside0.mk (show Kd.C (Kd.int .u8) w13 B13 16 (bytesN s) by have h1 := hr13.2.2; rw [bytesN_length] at h1; exact h1)
      have HD13 := Aside0.mk (show 16 ≤ d13 from hr13.2.1)
      have HC12 := Aside0.mk (Kd.C_below HC12.out hb)
      have HFX := Aside0.mk (Kd.F_below HFX.out hb)
      have HFY := Aside0.mk (Kd.F_below HFY.out hb)
      have HS13 := Aside0.mk (HS12.out.below hb)
      clear hr hb hr13 HS12
      go_wp2_with fail
      (with_reducible refine (sameN_ (bytesN s) 16 (bytesN_length s).symm (by decide) B12 d12 B13 d13 w13 HC12.out HD12.out HC13.out HD13.out).mono ?_)
      rintro en w14 ⟨rfl, hd⟩
      have HFX := Aside0.mk (Kd.F_below HFX.out hd.below)
      have HFY := Aside0.mk (Kd.F_below HFY.out hd.below)
      have HS14 := Aside0.mk (HS13.out.below hd.below)
      clear hd HS13
      go_wp2_with fail
      (with_reducible refine (sameN_ l1 p1 HP1.out (Nat.le_trans HK1.out (by decide)) Bx dx A1 c1 w14 (Kd.F_now HFX.out) HDX.out (by have h1 := Kd.F_now HS14.out.r1; rw [← HP1.out] at h1; exact h1) HL1.out).mono ?_)
      rintro en w15 ⟨rfl, hd⟩
      have HFY := Aside0.mk (Kd.F_below HFY.out hd.below)
      have HS15 := Aside0.mk (HS14.out.below hd.below)
      clear hd HS14
      go_wp2_with fail
      (with_reducible refine (sameN_ l2 p2 HP2.out (Nat.le_trans HK2.out (by decide)) By dy A2 c2 w15 (Kd.F_now HFY.out) HDY.out (by have h1 := Kd.F_now HS15.out.r2; rw [← HP2.out] at h1; exact h1) HL2.out).mono ?_)
      rintro en w16 ⟨rfl, hd⟩
      have HS16 := Aside0.mk (HS15.out.below hd.below)
      clear hd HS15
      go_wp2_with fail
      (with_reducible refine (madeT_calls w16 h n HS16.out.hh).mono ?_)
      rintro en w17 ⟨rfl, rfl⟩
      go_wp2_with fail
      go_ret
      exact ⟨rfl, HS16.out.ww⟩
theorem sums_calls (W : World) (l0 l1 l2 : List Int) (g0 : ∀ x ∈ l0, 0 ≤ x ∧ x < 256) (g1 : ∀ x ∈ l1, 0 ≤ x ∧ x < 256) (g2 : ∀ x ∈ l2, 0 ≤ x ∧ x < 256) (A0 : Option Addr) (c0 : Nat) (hC0 : Kd.C (Kd.int .u8) W A0 l0.length l0) (hc0 : l0.length ≤ c0) (A1 : Option Addr) (c1 : Nat) (hC1 : Kd.C (Kd.int .u8) W A1 l1.length l1) (hc1 : l1.length ≤ c1) (A2 : Option Addr) (c2 : Nat) (hC2 : Kd.C (Kd.int .u8) W A2 l2.length l2) (hc2 : l2.length ≤ c2) :
    Calls Try.prog 3 #[.slice A0 l0.length c0, .slice A1 l1.length c1, .slice A2 l2.length c2] W fun en W' => en = .returned (.bool true) ∧ Below W.heap.size W W' := by
  by_cases h : l0.length ≤ 100 ∧ l1.length ≤ 300 ∧ l2.length ≤ 300
  · by_cases h16 : l0.length = 16
    · obtain ⟨n, hn, rfl⟩ := bytes_all l0 g0 h16
      rw [bytesN_length] at hC0 hc0 ⊢
      exact sums_good W n hn A0 c0 A1 l1.length c1 A2 l2.length c2 l1 l2 rfl rfl h.2.1 h.2.2 g1 g2 hC0 hc0 hC1 hc1 hC2 hc2
    · exact sums_not W A0 l0.length c0 A1 l1.length c1 A2 l2.length c2 h.1 h.2.1 h.2.2 l0 rfl h16 hC0 hc0
  · exact sums_bad W A0 l0.length c0 A1 l1.length c1 A2 l2.length c2 h
end Go.Proofs.Ytmhmmmkpijbbiab.Gh
