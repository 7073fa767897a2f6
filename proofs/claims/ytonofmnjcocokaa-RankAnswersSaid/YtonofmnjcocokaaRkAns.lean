/- rank: RankAnswers. Written by wip/gen/rkans.py. -/
import Derived.Test.YtonofmnjcocokaaRkAnsL
namespace Go.Proofs.Ytonofmnjcocokaa.Rk
open Go.RowKit Go.Proofs.YtonofmnjcocokaaW.PrintWords Go.Proofs.YtonofmnjcocokaaW.PrintLast Go.Proofs.YtonofmnjcocokaaW.PrintMore Go.Proofs.Ytonofmnjcocokaa.X Go.Proofs.Ytonofmnjcocokaa.M Go.Proofs.Ytonofmnjcocokaa.Bv Go.Proofs.Ytonofmnjcocokaa.PuLib Go.Proofs.Ytonofmnjcocokaa.PuMix
attribute [local go_sem] max2_int min2_int max_two min_two max_three min_three max_four min_four
set_option linter.unusedVariables false
set_option linter.unusedSimpArgs false
/-- The counts. -/
def ctF (cs : List Int) (j : Nat) : Value := .int .i64 (cs.count (j : Int) : Nat)
theorem ctF_snoc (cs : List Int) (n : Nat) : (fun j => if j = n then Value.int .i64 (((cs.count (n : Int) : Nat) : Int) + 1) else ctF cs j) = ctF (cs ++ [(n : Int)]) := by
  funext j
  unfold ctF
  rw [List.count_append]
  by_cases h : j = n
  · subst h
    rw [if_pos rfl, List.count_singleton_self]
    rfl
  · rw [if_neg h, List.count_singleton, if_neg (by simpa using fun h2 : (n : Int) = (j : Int) => h (by omega))]
    rfl
theorem orderS_le (seed : Int) (key : List Int) (l : List S25) : (orderS seed key l).length ≤ l.length := by
  unfold orderS
  rw [List.length_map, sortedS_length]
  exact allS_length ..
set_option maxRecDepth 100000 in
set_option maxHeartbeats 16000000 in
theorem answers_calls (seed : Int) (keys : List (List Int)) (pk : Nat) (hpk : pk = keys.length) (e0 e1 : Int) (l : List S25) (p : Nat) (hp : p = l.length) (A : Option Addr) (c : Nat) (B : Option Addr) (d : Nat) (w : World) (hK : Kd.C (Kd.slice 5 (Kd.int .u8)) w A pk keys) (hkc : pk ≤ c) (hC : Kd.C k25 w B p l) (hc : p ≤ d) :
    Calls Try.prog 3 #[.int .u64 seed, .slice A pk c, .agg #[.int .i64 e0, .int .i64 e1], .slice B p d] w fun e w' => e = .returned (.bool true) ∧ Below w.heap.size w w' := by
  have HPK := Aside0.mk hpk
  have HP := Aside0.mk hp
  have HK := Aside0.mk hK
  have HC := Aside0.mk hC
  have HKC := Aside0.mk hkc
  have HD := Aside0.mk hc
  clear hpk hp hK hkc hC hc
  go_enter Try.func3, Try.ntmps3
  go_wp2_with fail
  obtain ⟨w0, hw0⟩ : ∃ w0, w0 = w.alloc (.cells #[.int .i64 e0, .int .i64 e1] 25) := ⟨_, rfl⟩
  rw [← hw0]
  have HB0 := Aside0.mk (show Below w.heap.size w w0 by rw [hw0]; exact below_alloc (Below.refl _ _) _)
  have HX0 := Aside0.mk (show w0.heap[w.heap.size]? = some (.cells #[.int .i64 e0, .int .i64 e1] 25 (0, 0)) by rw [hw0]; exact blk_new w _)
  clear hw0
  (with_reducible refine (alive_calls _).mono ?_)
  rintro en w1 ⟨rfl, hb1⟩
  have HB1 := Aside0.mk (HB0.out.trans (hb1.mono HB0.out.size))
  have HX1 := Aside0.mk (blk_below HX0.out hb1)
  clear hb1 HB0 HX0
  go_wp2_with fail
  (with_reducible refine (great_calls keys pk HPK.out l p HP.out A c B d w1 (Kd.C_below HK.out HB1.out) HKC.out (Kd.C_below HC.out HB1.out) HD.out).mono ?_)
  rintro en w2 ⟨r, rfl, hr, hd2⟩
  have HB2 := Aside0.mk (HB1.out.trans (hd2.below.mono HB1.out.size))
  have HX2 := Aside0.mk (blk_below HX1.out hd2.below)
  clear hd2 HB1 HX1
  cases r with
  | true =>
    clear hr
    go_wp2_with fail
    go_ret
    exact ⟨rfl, HB2.out⟩
  | false =>
  have HQ := Aside0.mk (hr rfl)
  clear hr
  have HC2 := Aside0.mk (Kd.C_below HC.out HB2.out)
  obtain ⟨raws, hraw, hrk⟩ := raw_of (Kd.C_below HK.out HB2.out)
  have HRAW := Aside0.mk hraw
  have HRK := Aside0.mk hrk
  have HK2 := Aside0.mk (Kd.C_below HK.out HB2.out)
  clear hraw hrk HC HK
  have hz := zeroI64
  have hss := store_same (P := Try.prog) (W := w2) rfl (arrV 64 fun _ => .int .i64 0) 29 (arrV_one _ _ fun _ => rfl)
  go_wp2_with (refine wpList_build_of rfl 29 rfl (buildI64 _) ?_)
  clear hss hz
  have HI0 : Aside0 ((w2.alloc (.cells (arrV 64 fun _ => .int .i64 0) 29)).heap[w2.heap.size]? = some (.cells (arrV 64 (ctF (idsS seed (keys.take 0) l))) 29 (0, 0)) ∧ Below w2.heap.size w2 (w2.alloc (.cells (arrV 64 fun _ => .int .i64 0) 29))) := ⟨blk_new w2 _, below_alloc (Below.refl _ _) _⟩
  go_loopw [10, 11] (fun v10 v11 wr => ∃ i : Nat, i ≤ pk ∧ i ≤ 20 ∧ v11 = .int .i64 i ∧ v10 = .int .i64 ((idsS seed (keys.take i) l).length : Nat) ∧ Aside0 (wr.heap[w2.heap.size]? = some (.cells (arrV 64 (ctF (idsS seed (keys.take i) l))) 29 (0, 0)) ∧ Below w2.heap.size w2 wr)) (fun _ v11 _ => 20 - (intOf v11).toNat)
  case atStart => exact ⟨0, Nat.zero_le _, Nat.zero_le _, rfl, rfl, HI0⟩
  case round =>
    clear HI0
    obtain ⟨i, hip, hi20, rfl, rfl, HI⟩ := hrel
    obtain ⟨w3, hw3⟩ : ∃ w3, w3 = wr := ⟨_, rfl⟩
    subst hw3
    obtain ⟨cs, hcs⟩ : ∃ cs, cs = idsS seed (keys.take i) l := ⟨_, rfl⟩
    have HCS := Aside0.mk hcs
    have HCL := Aside0.mk (show cs.length ≤ 20 by rw [hcs]; have h1 := idsS_length seed (keys.take i) l; rw [List.length_take] at h1; omega)
    have HCR := Aside0.mk (show ∀ x ∈ cs, 0 ≤ x ∧ x < 64 by rw [hcs]; exact idsS_range seed _ l)
    rw [← hcs] at HI ⊢
    clear hcs
    by_cases hlt : i < pk
    · by_cases hl20 : i < 20
      · have HIP := Aside0.mk (And.intro hlt hl20)
        have hik : i < keys.length := by have h1 := HPK.out; omega
        obtain ⟨key, hkey⟩ : ∃ key, key = keys.getD i [] := ⟨_, rfl⟩
        have hkg : keys[i]? = some key := by rw [hkey, List.getD_eq_getElem?_getD, List.getElem?_eq_getElem hik]; rfl
        have HSTEP := Aside0.mk (idsS_take seed keys l (k := i) hik)
        rw [← hkey, ← HCS.out] at HSTEP
        have hil : i < raws.length := by rw [HRK.out.1]; exact hik
        obtain ⟨⟨KA, kn, kc⟩, hsl⟩ : ∃ sl, raws[i]? = some sl := ⟨_, List.getElem?_eq_getElem hil⟩
        obtain ⟨hkn0, hkc, _⟩ := HRK.out.2 i _ key hsl hkg
        have hkn : kn = key.length := hkn0
        clear hkn0
        have HKN := Aside0.mk hkn
        have HKK := Aside0.mk (show kn ≤ kc by rw [hkn]; exact hkc)
        obtain ⟨ad, rfl, _⟩ := HRAW.out.2.2 (by omega)
        have HFK := Aside0.mk (fun (W : World) (hb : Below w2.heap.size w2 W) => And.intro (at_SL (Kd.C_below HRAW.out hb) hsl) (show Kd.C (Kd.int .u8) W KA kn key by rw [hkn]; exact ((HRK.out.below hb).2 i _ key hsl hkg).2.2))
        obtain ⟨⟨s, ok⟩, hsc⟩ : ∃ y, y = scoreS seed key e0 e1 := ⟨_, rfl⟩
        have HSC := Aside0.mk hsc.symm
        have HFR := Aside0.mk (firstS_range seed key l)
        obtain ⟨⟨n, had⟩, hfs⟩ : ∃ y, y = firstS seed key l := ⟨_, rfl⟩
        have HFS := Aside0.mk hfs.symm
        rw [← hfs] at HSTEP HFR
        have e4 : ((0 : Int) ≤ (i : Int)) = True := eq_true (by omega)
        have e5 : ((i : Int) < (pk : Int)) = True := eq_true (by omega)
        have e5b : (i : Int) < (pk : Int) := by omega
        have e6 : (i : Int) < 20 := by omega
        obtain ⟨w4, hw4⟩ : ∃ w4, w4 = w3.alloc (.cells #[] 25) := ⟨_, rfl⟩
        have HW4 := Aside0.mk hw4
        have HBX4 := Aside0.mk (show Below w3.heap.size w3 w4 by rw [hw4]; exact below_alloc (Below.refl _ _) _)
        have HR4 := Aside0.mk (show Kd.R k25 25 w4 w3.heap.size (fun _ => True) (.slice (some ⟨w3.heap.size, 0, none⟩) 0 0) [] by rw [hw4]; exact R_emptyE w3 _ (Nat.le_refl _))
        have HB34 := Aside0.mk (HI.out.2.trans (HBX4.out.mono HI.out.2.size))
        clear hip hi20 hlt hl20 hik hkey hkg hil hsl hkn hkc hsc hfs hw4
        go_wp2_with ((with_reducible refine gate_builtin (b := .append) (xs := #[.tmp 42, .tmp 43]) rfl ?_); at_builtin; rw [← HW4.out]; refine app_E (w0 := w4) w3.heap.size rfl (.tmp 42) (.tmp 43) rfl (.slice (some ⟨w3.heap.size, 0, none⟩) 0 0) [] l B p d rfl rfl HR4.out (Kd.C_below HC2.out HB34.out) (Below.refl _ _) HBX4.out.size (by have h1 := HQ.out.2.2; rw [List.length_nil]; omega) ?_)
        intro A12 n12 c12 w5 hn12 hr5 hb5
        obtain rfl : n12 = p := by rw [hn12, HP.out]
        have HBX5 := Aside0.mk (HBX4.out.trans hb5)
        have HB5 := Aside0.mk (HI.out.2.trans (HBX5.out.mono HI.out.2.size))
        have HX5 := Aside0.mk (blk_below HI.out.1 HBX5.out)
        have HOW := Aside0.mk (show Kd.C k25 w5 A12 n12 l ∧ n12 ≤ c12 from ⟨HP.out ▸ (Kd.R_reads' hr5).2.2, (Kd.R_reads' hr5).2.1⟩)
        have HTO := Aside0.mk (fun (W : World) (hb : Below w5.heap.size w5 W) => HB5.out.trans (hb.mono HB5.out.size))
        clear hn12 hr5 hb5 HR4 HW4 HBX4 HB34
        go_wp2_with fail
        have HSS := Aside0.mk (below_drew (Below.refl w5.heap.size w5))
        refine Held.wp_region_G (S := (fun W : World => Below w5.heap.size w5 W)) (by kernel_rfl) ?_
        change Held.wpAnyG _ _ _ _ _ 12 _ _ _
        refine Held.wpAnyG_take (i := 0) (v := (.int .u64 seed)) rfl (by kernel_rfl) (by kernel_rfl) (by kernel_rfl) (fun _ _ _ h => h) HSS.out (by first | (with_reducible rfl) | (simp [Region.wanted, yielded, Act.put]; done) | rfl) (fun W h => by go_simp) (some 46) rfl #[true, false, false, false, false, false, false, false, false, false, false, false] (by kernel_rfl) ?_
        simp only [Act.put, List.setIfInBounds_toArray, List.set_cons_zero, List.set_cons_succ]
        refine Held.wpAnyG_take (i := 1) (v := (.slice (some ad) pk c)) rfl (by kernel_rfl) (by kernel_rfl) (by kernel_rfl) (fun _ _ _ h => h) HSS.out (by first | (with_reducible rfl) | (simp [Region.wanted, yielded, Act.put]; done) | rfl) (fun W h => by go_simp) (some 47) rfl #[true, true, false, false, false, false, false, false, false, false, false, false] (by kernel_rfl) ?_
        simp only [Act.put, List.setIfInBounds_toArray, List.set_cons_zero, List.set_cons_succ]
        refine Held.wpAnyG_take (i := 2) (v := (.int .i64 (i : Int))) rfl (by kernel_rfl) (by kernel_rfl) (by kernel_rfl) (fun _ _ _ h => h) HSS.out (by first | (with_reducible rfl) | (simp [Region.wanted, yielded, Act.put]; done) | rfl) (fun W h => by go_simp) (some 48) rfl #[true, true, true, false, false, false, false, false, false, false, false, false] (by kernel_rfl) ?_
        simp only [Act.put, List.setIfInBounds_toArray, List.set_cons_zero, List.set_cons_succ]
        refine Held.wpAnyG_take (i := 3) (v := (.pointer (some (ad.add i)))) rfl (by kernel_rfl) (by kernel_rfl) (by kernel_rfl) (fun _ _ _ h => h) HSS.out (by first | (with_reducible rfl) | (simp [Region.wanted, yielded, Act.put]; done) | rfl) (fun W hs => by go_simp) (some 49) rfl #[true, true, true, true, false, false, false, false, false, false, false, false] (by kernel_rfl) ?_
        simp only [Act.put, List.setIfInBounds_toArray, List.set_cons_zero, List.set_cons_succ]
        refine Held.wpAnyG_take (i := 4) (v := (.slice KA kn kc)) rfl (by kernel_rfl) (by kernel_rfl) (by kernel_rfl) (fun _ _ _ h => h) HSS.out (by first | (with_reducible rfl) | (simp [Region.wanted, yielded, Act.put]; done) | rfl) (fun W hs => by have hx1 := (HFK.out W (HTO.out W hs)).1; go_simp) (some 50) rfl #[true, true, true, true, true, false, false, false, false, false, false, false] (by kernel_rfl) ?_
        simp only [Act.put, List.setIfInBounds_toArray, List.set_cons_zero, List.set_cons_succ]
        refine Held.wpAnyG_take (i := 5) (v := (.agg #[.int .i64 e0, .int .i64 e1])) rfl (by kernel_rfl) (by kernel_rfl) (by kernel_rfl) (fun _ _ _ h => h) HSS.out (by first | (with_reducible rfl) | (simp [Region.wanted, yielded, Act.put]; done) | rfl) (fun W hs => Held.run_load_of 25 (.tmp 6) rfl ⟨w.heap.size, 0, none⟩ rfl (load_box (blk_below HX2.out (HTO.out W hs)))) (some 51) rfl #[true, true, true, true, true, true, false, false, false, false, false, false] (by kernel_rfl) ?_
        simp only [Act.put, List.setIfInBounds_toArray, List.set_cons_zero, List.set_cons_succ]
        refine Held.wpAnyG_one 6 (by kernel_rfl) rfl #[true, true, true, true, true, true, true, false, false, false, false, false] (by kernel_rfl) (fun K hK => ?_)
        go_wp2_with fail
        (with_reducible refine (score_calls seed key kn HKN.out e0 e1 KA kc _ _ (Kd.C_F (Kd.heap_int .u8) (HFK.out _ (HTO.out _ HSS.out)).2) HKK.out).mono ?_)
        rintro en wa ⟨rfl, hbN⟩
        rw [HSC.out]
        have n1_ := Aside0.mk (HSS.out.trans (hbN.mono HSS.out.size))
        clear hbN HSS
        have HSS := n1_
        clear n1_
        go_wp2_with fail
        refine hK _ _ HSS.out ?_
        clear hK K
        refine Held.wpAnyG_take (i := 7) (v := (.tuple #[.int .u64 s, .bool ok])) rfl (by kernel_rfl) (by kernel_rfl) (by kernel_rfl) (fun _ _ _ h => h) HSS.out (by first | (with_reducible rfl) | (simp [Region.wanted, yielded, Act.put]; done) | rfl) (fun W h => by go_simp) (some 45) rfl #[true, true, true, true, true, true, true, true, false, false, false, false] (by kernel_rfl) ?_
        simp only [Act.put, List.setIfInBounds_toArray, List.set_cons_zero, List.set_cons_succ]
        refine Held.wpAnyG_take (i := 8) (v := (.int .u64 s)) rfl (by kernel_rfl) (by kernel_rfl) (by kernel_rfl) (fun _ _ _ h => h) HSS.out (by first | (with_reducible rfl) | (simp [Region.wanted, yielded, Act.put]; done) | rfl) (fun W hs => by go_simp) (some 53) rfl #[true, true, true, true, true, true, true, true, true, false, false, false] (by kernel_rfl) ?_
        simp only [Act.put, List.setIfInBounds_toArray, List.set_cons_zero, List.set_cons_succ]
        refine Held.wpAnyG_take (i := 9) (v := (.bool ok)) rfl (by kernel_rfl) (by kernel_rfl) (by kernel_rfl) (fun _ _ _ h => h) HSS.out (by first | (with_reducible rfl) | (simp [Region.wanted, yielded, Act.put]; done) | rfl) (fun W hs => by go_simp) (some 54) rfl #[true, true, true, true, true, true, true, true, true, true, false, false] (by kernel_rfl) ?_
        simp only [Act.put, List.setIfInBounds_toArray, List.set_cons_zero, List.set_cons_succ]
        refine Held.wpAnyG_one 10 (by kernel_rfl) rfl #[true, true, true, true, true, true, true, true, true, true, true, false] (by kernel_rfl) (fun K hK => ?_)
        go_wp2_with fail
        refine hK _ _ HSS.out ?_
        clear hK K
        refine Held.wpAnyG_last 11 (by kernel_rfl) rfl (by kernel_rfl) (by kernel_rfl) ?_
        go_wp2_with fail
        have n1_ := Aside0.mk (below_drew HSS.out)
        clear HSS
        have HSS := n1_
        clear n1_
        refine Held.wp_region_G (S := (fun W : World => Below w5.heap.size w5 W)) (by kernel_rfl) ?_
        change Held.wpAnyG _ _ _ _ _ 16 _ _ _
        refine Held.wpAnyG_take (i := 0) (v := (.int .u64 seed)) rfl (by kernel_rfl) (by kernel_rfl) (by kernel_rfl) (fun _ _ _ h => h) HSS.out (by first | (with_reducible rfl) | (simp [Region.wanted, yielded, Act.put]; done) | rfl) (fun W h => by go_simp) (some 56) rfl #[true, false, false, false, false, false, false, false, false, false, false, false, false, false, false, false] (by kernel_rfl) ?_
        simp only [Act.put, List.setIfInBounds_toArray, List.set_cons_zero, List.set_cons_succ]
        refine Held.wpAnyG_take (i := 1) (v := (.slice (some ad) pk c)) rfl (by kernel_rfl) (by kernel_rfl) (by kernel_rfl) (fun _ _ _ h => h) HSS.out (by first | (with_reducible rfl) | (simp [Region.wanted, yielded, Act.put]; done) | rfl) (fun W h => by go_simp) (some 57) rfl #[true, true, false, false, false, false, false, false, false, false, false, false, false, false, false, false] (by kernel_rfl) ?_
        simp only [Act.put, List.setIfInBounds_toArray, List.set_cons_zero, List.set_cons_succ]
        refine Held.wpAnyG_take (i := 2) (v := (.int .i64 (i : Int))) rfl (by kernel_rfl) (by kernel_rfl) (by kernel_rfl) (fun _ _ _ h => h) HSS.out (by first | (with_reducible rfl) | (simp [Region.wanted, yielded, Act.put]; done) | rfl) (fun W h => by go_simp) (some 58) rfl #[true, true, true, false, false, false, false, false, false, false, false, false, false, false, false, false] (by kernel_rfl) ?_
        simp only [Act.put, List.setIfInBounds_toArray, List.set_cons_zero, List.set_cons_succ]
        refine Held.wpAnyG_take (i := 3) (v := (.pointer (some (ad.add i)))) rfl (by kernel_rfl) (by kernel_rfl) (by kernel_rfl) (fun _ _ _ h => h) HSS.out (by first | (with_reducible rfl) | (simp [Region.wanted, yielded, Act.put]; done) | rfl) (fun W hs => by go_simp) (some 59) rfl #[true, true, true, true, false, false, false, false, false, false, false, false, false, false, false, false] (by kernel_rfl) ?_
        simp only [Act.put, List.setIfInBounds_toArray, List.set_cons_zero, List.set_cons_succ]
        refine Held.wpAnyG_take (i := 4) (v := (.slice KA kn kc)) rfl (by kernel_rfl) (by kernel_rfl) (by kernel_rfl) (fun _ _ _ h => h) HSS.out (by first | (with_reducible rfl) | (simp [Region.wanted, yielded, Act.put]; done) | rfl) (fun W hs => by have hx1 := (HFK.out W (HTO.out W hs)).1; go_simp) (some 60) rfl #[true, true, true, true, true, false, false, false, false, false, false, false, false, false, false, false] (by kernel_rfl) ?_
        simp only [Act.put, List.setIfInBounds_toArray, List.set_cons_zero, List.set_cons_succ]
        refine Held.wpAnyG_take (i := 5) (v := (.pointer (some ⟨w.heap.size, 0, none⟩))) rfl (by kernel_rfl) (by kernel_rfl) (by kernel_rfl) (fun _ _ _ h => h) HSS.out (by first | (with_reducible rfl) | (simp [Region.wanted, yielded, Act.put]; done) | rfl) (fun W hs => by go_simp) (some 61) rfl #[true, true, true, true, true, true, false, false, false, false, false, false, false, false, false, false] (by kernel_rfl) ?_
        simp only [Act.put, List.setIfInBounds_toArray, List.set_cons_zero, List.set_cons_succ]
        refine Held.wpAnyG_take (i := 6) (v := (.int .i64 e0)) rfl (by kernel_rfl) (by kernel_rfl) (by kernel_rfl) (fun _ _ _ h => h) HSS.out (by first | (with_reducible rfl) | (simp [Region.wanted, yielded, Act.put]; done) | rfl) (fun W hs => by have hc := blk_cell (blk_below HX2.out (HTO.out W hs)) 0; simp at hc; go_simp) (some 62) rfl #[true, true, true, true, true, true, true, false, false, false, false, false, false, false, false, false] (by kernel_rfl) ?_
        simp only [Act.put, List.setIfInBounds_toArray, List.set_cons_zero, List.set_cons_succ]
        refine Held.wpAnyG_take (i := 7) (v := (.pointer (some ⟨w.heap.size, 1, none⟩))) rfl (by kernel_rfl) (by kernel_rfl) (by kernel_rfl) (fun _ _ _ h => h) HSS.out (by first | (with_reducible rfl) | (simp [Region.wanted, yielded, Act.put]; done) | rfl) (fun W hs => by go_simp) (some 63) rfl #[true, true, true, true, true, true, true, true, false, false, false, false, false, false, false, false] (by kernel_rfl) ?_
        simp only [Act.put, List.setIfInBounds_toArray, List.set_cons_zero, List.set_cons_succ]
        refine Held.wpAnyG_take (i := 8) (v := (.int .i64 e1)) rfl (by kernel_rfl) (by kernel_rfl) (by kernel_rfl) (fun _ _ _ h => h) HSS.out (by first | (with_reducible rfl) | (simp [Region.wanted, yielded, Act.put]; done) | rfl) (fun W hs => by have hc := blk_cell (blk_below HX2.out (HTO.out W hs)) 1; simp at hc; go_simp) (some 64) rfl #[true, true, true, true, true, true, true, true, true, false, false, false, false, false, false, false] (by kernel_rfl) ?_
        simp only [Act.put, List.setIfInBounds_toArray, List.set_cons_zero, List.set_cons_succ]
        refine Held.wpAnyG_take (i := 9) (v := (.agg #[.int .i64 e0, .int .i64 e1])) rfl (by kernel_rfl) (by kernel_rfl) (by kernel_rfl) (fun _ _ _ h => h) HSS.out (by first | (with_reducible rfl) | (simp [Region.wanted, yielded, Act.put]; done) | rfl) (fun W hs => by go_simp) (some 65) rfl #[true, true, true, true, true, true, true, true, true, true, false, false, false, false, false, false] (by kernel_rfl) ?_
        simp only [Act.put, List.setIfInBounds_toArray, List.set_cons_zero, List.set_cons_succ]
        refine Held.wpAnyG_one 10 (by kernel_rfl) rfl #[true, true, true, true, true, true, true, true, true, true, true, false, false, false, false, false] (by kernel_rfl) (fun K hK => ?_)
        go_wp2_with fail
        (with_reducible refine (rscore_calls seed key kn HKN.out e0 e1 KA kc _ _ (Kd.C_F (Kd.heap_int .u8) (HFK.out _ (HTO.out _ HSS.out)).2) HKK.out).mono ?_)
        rintro en wa ⟨rfl, hbN⟩
        rw [HSC.out]
        have n1_ := Aside0.mk (HSS.out.trans (hbN.mono HSS.out.size))
        clear hbN HSS
        have HSS := n1_
        clear n1_
        go_wp2_with fail
        refine hK _ _ HSS.out ?_
        clear hK K
        refine Held.wpAnyG_take (i := 11) (v := (.tuple #[.int .u64 s, .bool ok])) rfl (by kernel_rfl) (by kernel_rfl) (by kernel_rfl) (fun _ _ _ h => h) HSS.out (by first | (with_reducible rfl) | (simp [Region.wanted, yielded, Act.put]; done) | rfl) (fun W h => by go_simp) (some 55) rfl #[true, true, true, true, true, true, true, true, true, true, true, true, false, false, false, false] (by kernel_rfl) ?_
        simp only [Act.put, List.setIfInBounds_toArray, List.set_cons_zero, List.set_cons_succ]
        refine Held.wpAnyG_take (i := 12) (v := (.int .u64 s)) rfl (by kernel_rfl) (by kernel_rfl) (by kernel_rfl) (fun _ _ _ h => h) HSS.out (by first | (with_reducible rfl) | (simp [Region.wanted, yielded, Act.put]; done) | rfl) (fun W hs => by go_simp) (some 67) rfl #[true, true, true, true, true, true, true, true, true, true, true, true, true, false, false, false] (by kernel_rfl) ?_
        simp only [Act.put, List.setIfInBounds_toArray, List.set_cons_zero, List.set_cons_succ]
        refine Held.wpAnyG_take (i := 13) (v := (.bool ok)) rfl (by kernel_rfl) (by kernel_rfl) (by kernel_rfl) (fun _ _ _ h => h) HSS.out (by first | (with_reducible rfl) | (simp [Region.wanted, yielded, Act.put]; done) | rfl) (fun W hs => by go_simp) (some 68) rfl #[true, true, true, true, true, true, true, true, true, true, true, true, true, true, false, false] (by kernel_rfl) ?_
        simp only [Act.put, List.setIfInBounds_toArray, List.set_cons_zero, List.set_cons_succ]
        refine Held.wpAnyG_one 14 (by kernel_rfl) rfl #[true, true, true, true, true, true, true, true, true, true, true, true, true, true, true, false] (by kernel_rfl) (fun K hK => ?_)
        go_wp2_with fail
        refine hK _ _ HSS.out ?_
        clear hK K
        refine Held.wpAnyG_last 15 (by kernel_rfl) rfl (by kernel_rfl) (by kernel_rfl) ?_
        have hx1 := (HFK.out _ (HTO.out _ HSS.out)).1
        go_wp2_with fail
        (with_reducible refine (first_calls seed key kn HKN.out l n12 HP.out (by have h1 := HQ.out.2.2; omega) KA kc A12 c12 _ (HFK.out _ (HTO.out _ HSS.out)).2 HKK.out (Kd.C_below HOW.out.1 HSS.out) HOW.out.2).mono ?_)
        rintro en wa ⟨rfl, hbN⟩
        rw [HFS.out]
        have n1_ := Aside0.mk (HSS.out.trans (hbN.mono HSS.out.size))
        clear hbN HSS hx1
        have HSS := n1_
        clear n1_
        go_wp2_with fail
        have n1_ := Aside0.mk (below_drew HSS.out)
        clear HSS
        have HSS := n1_
        clear n1_
        refine Held.wp_region_G (S := (fun W : World => Below w5.heap.size w5 W)) (by kernel_rfl) ?_
        change Held.wpAnyG _ _ _ _ _ 13 _ _ _
        refine Held.wpAnyG_take (i := 0) (v := (.int .u64 seed)) rfl (by kernel_rfl) (by kernel_rfl) (by kernel_rfl) (fun _ _ _ h => h) HSS.out (by first | (with_reducible rfl) | (simp [Region.wanted, yielded, Act.put]; done) | rfl) (fun W h => by go_simp) (some 80) rfl #[true, false, false, false, false, false, false, false, false, false, false, false, false] (by kernel_rfl) ?_
        simp only [Act.put, List.setIfInBounds_toArray, List.set_cons_zero, List.set_cons_succ]
        refine Held.wpAnyG_take (i := 1) (v := (.slice (some ad) pk c)) rfl (by kernel_rfl) (by kernel_rfl) (by kernel_rfl) (fun _ _ _ h => h) HSS.out (by first | (with_reducible rfl) | (simp [Region.wanted, yielded, Act.put]; done) | rfl) (fun W h => by go_simp) (some 81) rfl #[true, true, false, false, false, false, false, false, false, false, false, false, false] (by kernel_rfl) ?_
        simp only [Act.put, List.setIfInBounds_toArray, List.set_cons_zero, List.set_cons_succ]
        refine Held.wpAnyG_take (i := 2) (v := (.int .i64 (i : Int))) rfl (by kernel_rfl) (by kernel_rfl) (by kernel_rfl) (fun _ _ _ h => h) HSS.out (by first | (with_reducible rfl) | (simp [Region.wanted, yielded, Act.put]; done) | rfl) (fun W h => by go_simp) (some 82) rfl #[true, true, true, false, false, false, false, false, false, false, false, false, false] (by kernel_rfl) ?_
        simp only [Act.put, List.setIfInBounds_toArray, List.set_cons_zero, List.set_cons_succ]
        refine Held.wpAnyG_take (i := 3) (v := (.pointer (some (ad.add i)))) rfl (by kernel_rfl) (by kernel_rfl) (by kernel_rfl) (fun _ _ _ h => h) HSS.out (by first | (with_reducible rfl) | (simp [Region.wanted, yielded, Act.put]; done) | rfl) (fun W hs => by go_simp) (some 83) rfl #[true, true, true, true, false, false, false, false, false, false, false, false, false] (by kernel_rfl) ?_
        simp only [Act.put, List.setIfInBounds_toArray, List.set_cons_zero, List.set_cons_succ]
        refine Held.wpAnyG_take (i := 4) (v := (.slice KA kn kc)) rfl (by kernel_rfl) (by kernel_rfl) (by kernel_rfl) (fun _ _ _ h => h) HSS.out (by first | (with_reducible rfl) | (simp [Region.wanted, yielded, Act.put]; done) | rfl) (fun W hs => by have hx1 := (HFK.out W (HTO.out W hs)).1; go_simp) (some 84) rfl #[true, true, true, true, true, false, false, false, false, false, false, false, false] (by kernel_rfl) ?_
        simp only [Act.put, List.setIfInBounds_toArray, List.set_cons_zero, List.set_cons_succ]
        refine Held.wpAnyG_take (i := 5) (v := (.slice B n12 d)) rfl (by kernel_rfl) (by kernel_rfl) (by kernel_rfl) (fun _ _ _ h => h) HSS.out (by first | (with_reducible rfl) | (simp [Region.wanted, yielded, Act.put]; done) | rfl) (fun W h => by go_simp) (some 85) rfl #[true, true, true, true, true, true, false, false, false, false, false, false, false] (by kernel_rfl) ?_
        simp only [Act.put, List.setIfInBounds_toArray, List.set_cons_zero, List.set_cons_succ]
        refine Held.wpAnyG_one 6 (by kernel_rfl) rfl #[true, true, true, true, true, true, true, false, false, false, false, false, false] (by kernel_rfl) (fun K hK => ?_)
        go_wp2_with fail
        (with_reducible refine (of_calls l n12 HP.out (by have h1 := HQ.out.2.2; omega) B d _ (Kd.C_below HC2.out (HTO.out _ HSS.out)) HD.out).mono ?_)
        rintro en wa ⟨Ar, cr, rfl, hCr, hdr, hbN⟩
        have HRC := Aside0.mk hCr
        have HRD := Aside0.mk hdr
        clear hCr hdr
        have n1_ := Aside0.mk (HSS.out.trans (hbN.mono HSS.out.size))
        clear hbN HSS
        have HSS := n1_
        clear n1_
        go_wp2_with fail
        refine hK _ _ HSS.out ?_
        clear hK K
        refine Held.wpAnyG_one 7 (by kernel_rfl) rfl #[true, true, true, true, true, true, true, true, false, false, false, false, false] (by kernel_rfl) (fun K hK => ?_)
        go_wp2_with fail
        (with_reducible refine (rfirst_calls seed key kn HKN.out l n12 HP.out (by have h1 := HQ.out.2.2; omega) KA kc Ar cr _ (HFK.out _ (HTO.out _ HSS.out)).2 HKK.out HRC.out HRD.out).mono ?_)
        rintro en wb ⟨rfl, hbN⟩
        rw [HFS.out]
        clear HRC HRD
        have n1_ := Aside0.mk (HSS.out.trans (hbN.mono HSS.out.size))
        clear hbN HSS
        have HSS := n1_
        clear n1_
        go_wp2_with fail
        refine hK _ _ HSS.out ?_
        clear hK K
        refine Held.wpAnyG_take (i := 8) (v := (.tuple #[.int .i64 n, .bool had])) rfl (by kernel_rfl) (by kernel_rfl) (by kernel_rfl) (fun _ _ _ h => h) HSS.out (by first | (with_reducible rfl) | (simp [Region.wanted, yielded, Act.put]; done) | rfl) (fun W h => by go_simp) (some 79) rfl #[true, true, true, true, true, true, true, true, true, false, false, false, false] (by kernel_rfl) ?_
        simp only [Act.put, List.setIfInBounds_toArray, List.set_cons_zero, List.set_cons_succ]
        refine Held.wpAnyG_take (i := 9) (v := (.int .i64 n)) rfl (by kernel_rfl) (by kernel_rfl) (by kernel_rfl) (fun _ _ _ h => h) HSS.out (by first | (with_reducible rfl) | (simp [Region.wanted, yielded, Act.put]; done) | rfl) (fun W hs => by go_simp) (some 88) rfl #[true, true, true, true, true, true, true, true, true, true, false, false, false] (by kernel_rfl) ?_
        simp only [Act.put, List.setIfInBounds_toArray, List.set_cons_zero, List.set_cons_succ]
        refine Held.wpAnyG_take (i := 10) (v := (.bool had)) rfl (by kernel_rfl) (by kernel_rfl) (by kernel_rfl) (fun _ _ _ h => h) HSS.out (by first | (with_reducible rfl) | (simp [Region.wanted, yielded, Act.put]; done) | rfl) (fun W hs => by go_simp) (some 89) rfl #[true, true, true, true, true, true, true, true, true, true, true, false, false] (by kernel_rfl) ?_
        simp only [Act.put, List.setIfInBounds_toArray, List.set_cons_zero, List.set_cons_succ]
        refine Held.wpAnyG_one 11 (by kernel_rfl) rfl #[true, true, true, true, true, true, true, true, true, true, true, true, false] (by kernel_rfl) (fun K hK => ?_)
        go_wp2_with fail
        refine hK _ _ HSS.out ?_
        clear hK K
        refine Held.wpAnyG_last 12 (by kernel_rfl) rfl (by kernel_rfl) (by kernel_rfl) ?_
        go_wp2_with fail
        have n1_ := Aside0.mk (below_drew HSS.out)
        clear HSS
        have HSS := n1_
        clear n1_
        refine Held.wp_region_G (S := (fun W : World => Below w5.heap.size w5 W)) (by kernel_rfl) ?_
        change Held.wpAnyG _ _ _ _ _ 37 _ _ _
        refine Held.wpAnyG_take (i := 0) (v := (.int .u64 s)) rfl (by kernel_rfl) (by kernel_rfl) (by kernel_rfl) (fun _ _ _ h => h) HSS.out (by first | (with_reducible rfl) | (simp [Region.wanted, yielded, Act.put]; done) | rfl) (fun W h => by go_simp) (some 90) rfl #[true, false, false, false, false, false, false, false, false, false, false, false, false, false, false, false, false, false, false, false, false, false, false, false, false, false, false, false, false, false, false, false, false, false, false, false, false] (by kernel_rfl) ?_
        simp only [Act.put, List.setIfInBounds_toArray, List.set_cons_zero, List.set_cons_succ]
        refine Held.wpAnyG_take (i := 1) (v := (.int .u64 s)) rfl (by kernel_rfl) (by kernel_rfl) (by kernel_rfl) (fun _ _ _ h => h) HSS.out (by first | (with_reducible rfl) | (simp [Region.wanted, yielded, Act.put]; done) | rfl) (fun W h => by go_simp) (some 91) rfl #[true, true, false, false, false, false, false, false, false, false, false, false, false, false, false, false, false, false, false, false, false, false, false, false, false, false, false, false, false, false, false, false, false, false, false, false, false] (by kernel_rfl) ?_
        simp only [Act.put, List.setIfInBounds_toArray, List.set_cons_zero, List.set_cons_succ]
        refine Held.wpAnyG_take (i := 2) (v := (.bool false)) rfl (by kernel_rfl) (by kernel_rfl) (by kernel_rfl) (fun _ _ _ h => h) HSS.out (by first | (with_reducible rfl) | (simp [Region.wanted, yielded, Act.put]; done) | rfl) (fun W hs => by go_simp) (some 92) rfl #[true, true, true, false, false, false, false, false, false, false, false, false, false, false, false, false, false, false, false, false, false, false, false, false, false, false, false, false, false, false, false, false, false, false, false, false, false] (by kernel_rfl) ?_
        simp only [Act.put, List.setIfInBounds_toArray, List.set_cons_zero, List.set_cons_succ]
        refine Held.wpAnyG_take (i := 3) (v := (.bool false)) rfl (by kernel_rfl) (by kernel_rfl) (by kernel_rfl) (fun _ _ _ h => h) HSS.out (by first | (with_reducible rfl) | (simp [Region.wanted, yielded, Act.put]; done) | rfl) (fun W h => by go_simp) (some 93) rfl #[true, true, true, true, false, false, false, false, false, false, false, false, false, false, false, false, false, false, false, false, false, false, false, false, false, false, false, false, false, false, false, false, false, false, false, false, false] (by kernel_rfl) ?_
        simp only [Act.put, List.setIfInBounds_toArray, List.set_cons_zero, List.set_cons_succ]
        refine Held.wpAnyG_take (i := 4) (v := (.bool ok)) rfl (by kernel_rfl) (by kernel_rfl) (by kernel_rfl) (fun _ _ _ h => h) HSS.out (by first | (with_reducible rfl) | (simp [Region.wanted, yielded, Act.put]; done) | rfl) (fun W h => by go_simp) (some 94) rfl #[true, true, true, true, true, false, false, false, false, false, false, false, false, false, false, false, false, false, false, false, false, false, false, false, false, false, false, false, false, false, false, false, false, false, false, false, false] (by kernel_rfl) ?_
        simp only [Act.put, List.setIfInBounds_toArray, List.set_cons_zero, List.set_cons_succ]
        refine Held.wpAnyG_take (i := 5) (v := (.bool ok)) rfl (by kernel_rfl) (by kernel_rfl) (by kernel_rfl) (fun _ _ _ h => h) HSS.out (by first | (with_reducible rfl) | (simp [Region.wanted, yielded, Act.put]; done) | rfl) (fun W h => by go_simp) (some 95) rfl #[true, true, true, true, true, true, false, false, false, false, false, false, false, false, false, false, false, false, false, false, false, false, false, false, false, false, false, false, false, false, false, false, false, false, false, false, false] (by kernel_rfl) ?_
        simp only [Act.put, List.setIfInBounds_toArray, List.set_cons_zero, List.set_cons_succ]
        refine Held.wpAnyG_take (i := 6) (v := (.bool false)) rfl (by kernel_rfl) (by kernel_rfl) (by kernel_rfl) (fun _ _ _ h => h) HSS.out (by first | (with_reducible rfl) | (simp [Region.wanted, yielded, Act.put]; done) | rfl) (fun W hs => by go_simp) (some 96) rfl #[true, true, true, true, true, true, true, false, false, false, false, false, false, false, false, false, false, false, false, false, false, false, false, false, false, false, false, false, false, false, false, false, false, false, false, false, false] (by kernel_rfl) ?_
        simp only [Act.put, List.setIfInBounds_toArray, List.set_cons_zero, List.set_cons_succ]
        refine Held.wpAnyG_take (i := 7) (v := (.bool false)) rfl (by kernel_rfl) (by kernel_rfl) (by kernel_rfl) (fun _ _ _ h => h) HSS.out (by first | (with_reducible rfl) | (simp [Region.wanted, yielded, Act.put]; done) | rfl) (fun W hs => by go_simp) (some 97) rfl #[true, true, true, true, true, true, true, true, false, false, false, false, false, false, false, false, false, false, false, false, false, false, false, false, false, false, false, false, false, false, false, false, false, false, false, false, false] (by kernel_rfl) ?_
        simp only [Act.put, List.setIfInBounds_toArray, List.set_cons_zero, List.set_cons_succ]
        refine Held.wpAnyG_take (i := 8) (v := (.bool false)) rfl (by kernel_rfl) (by kernel_rfl) (by kernel_rfl) (fun _ _ _ h => h) HSS.out (by first | (with_reducible rfl) | (simp [Region.wanted, yielded, Act.put]; done) | rfl) (fun W h => by go_simp) (some 98) rfl #[true, true, true, true, true, true, true, true, true, false, false, false, false, false, false, false, false, false, false, false, false, false, false, false, false, false, false, false, false, false, false, false, false, false, false, false, false] (by kernel_rfl) ?_
        simp only [Act.put, List.setIfInBounds_toArray, List.set_cons_zero, List.set_cons_succ]
        refine Held.wpAnyG_take (i := 9) (v := (.int .i64 n)) rfl (by kernel_rfl) (by kernel_rfl) (by kernel_rfl) (fun _ _ _ h => h) HSS.out (by first | (with_reducible rfl) | (simp [Region.wanted, yielded, Act.put]; done) | rfl) (fun W h => by go_simp) (some 99) rfl #[true, true, true, true, true, true, true, true, true, true, false, false, false, false, false, false, false, false, false, false, false, false, false, false, false, false, false, false, false, false, false, false, false, false, false, false, false] (by kernel_rfl) ?_
        simp only [Act.put, List.setIfInBounds_toArray, List.set_cons_zero, List.set_cons_succ]
        refine Held.wpAnyG_take (i := 10) (v := (.int .i64 n)) rfl (by kernel_rfl) (by kernel_rfl) (by kernel_rfl) (fun _ _ _ h => h) HSS.out (by first | (with_reducible rfl) | (simp [Region.wanted, yielded, Act.put]; done) | rfl) (fun W h => by go_simp) (some 100) rfl #[true, true, true, true, true, true, true, true, true, true, true, false, false, false, false, false, false, false, false, false, false, false, false, false, false, false, false, false, false, false, false, false, false, false, false, false, false] (by kernel_rfl) ?_
        simp only [Act.put, List.setIfInBounds_toArray, List.set_cons_zero, List.set_cons_succ]
        refine Held.wpAnyG_take (i := 11) (v := (.bool false)) rfl (by kernel_rfl) (by kernel_rfl) (by kernel_rfl) (fun _ _ _ h => h) HSS.out (by first | (with_reducible rfl) | (simp [Region.wanted, yielded, Act.put]; done) | rfl) (fun W hs => by go_simp) (some 101) rfl #[true, true, true, true, true, true, true, true, true, true, true, true, false, false, false, false, false, false, false, false, false, false, false, false, false, false, false, false, false, false, false, false, false, false, false, false, false] (by kernel_rfl) ?_
        simp only [Act.put, List.setIfInBounds_toArray, List.set_cons_zero, List.set_cons_succ]
        refine Held.wpAnyG_take (i := 12) (v := (.bool false)) rfl (by kernel_rfl) (by kernel_rfl) (by kernel_rfl) (fun _ _ _ h => h) HSS.out (by first | (with_reducible rfl) | (simp [Region.wanted, yielded, Act.put]; done) | rfl) (fun W hs => by go_simp) (some 102) rfl #[true, true, true, true, true, true, true, true, true, true, true, true, true, false, false, false, false, false, false, false, false, false, false, false, false, false, false, false, false, false, false, false, false, false, false, false, false] (by kernel_rfl) ?_
        simp only [Act.put, List.setIfInBounds_toArray, List.set_cons_zero, List.set_cons_succ]
        refine Held.wpAnyG_take (i := 13) (v := (.bool false)) rfl (by kernel_rfl) (by kernel_rfl) (by kernel_rfl) (fun _ _ _ h => h) HSS.out (by first | (with_reducible rfl) | (simp [Region.wanted, yielded, Act.put]; done) | rfl) (fun W h => by go_simp) (some 103) rfl #[true, true, true, true, true, true, true, true, true, true, true, true, true, true, false, false, false, false, false, false, false, false, false, false, false, false, false, false, false, false, false, false, false, false, false, false, false] (by kernel_rfl) ?_
        simp only [Act.put, List.setIfInBounds_toArray, List.set_cons_zero, List.set_cons_succ]
        refine Held.wpAnyG_take (i := 14) (v := (.bool had)) rfl (by kernel_rfl) (by kernel_rfl) (by kernel_rfl) (fun _ _ _ h => h) HSS.out (by first | (with_reducible rfl) | (simp [Region.wanted, yielded, Act.put]; done) | rfl) (fun W h => by go_simp) (some 104) rfl #[true, true, true, true, true, true, true, true, true, true, true, true, true, true, true, false, false, false, false, false, false, false, false, false, false, false, false, false, false, false, false, false, false, false, false, false, false] (by kernel_rfl) ?_
        simp only [Act.put, List.setIfInBounds_toArray, List.set_cons_zero, List.set_cons_succ]
        refine Held.wpAnyG_take (i := 15) (v := (.bool had)) rfl (by kernel_rfl) (by kernel_rfl) (by kernel_rfl) (fun _ _ _ h => h) HSS.out (by first | (with_reducible rfl) | (simp [Region.wanted, yielded, Act.put]; done) | rfl) (fun W h => by go_simp) (some 105) rfl #[true, true, true, true, true, true, true, true, true, true, true, true, true, true, true, true, false, false, false, false, false, false, false, false, false, false, false, false, false, false, false, false, false, false, false, false, false] (by kernel_rfl) ?_
        simp only [Act.put, List.setIfInBounds_toArray, List.set_cons_zero, List.set_cons_succ]
        refine Held.wpAnyG_take (i := 16) (v := (.bool false)) rfl (by kernel_rfl) (by kernel_rfl) (by kernel_rfl) (fun _ _ _ h => h) HSS.out (by first | (with_reducible rfl) | (simp [Region.wanted, yielded, Act.put]; done) | rfl) (fun W hs => by go_simp) (some 106) rfl #[true, true, true, true, true, true, true, true, true, true, true, true, true, true, true, true, true, false, false, false, false, false, false, false, false, false, false, false, false, false, false, false, false, false, false, false, false] (by kernel_rfl) ?_
        simp only [Act.put, List.setIfInBounds_toArray, List.set_cons_zero, List.set_cons_succ]
        refine Held.wpAnyG_take (i := 17) (v := (.bool false)) rfl (by kernel_rfl) (by kernel_rfl) (by kernel_rfl) (fun _ _ _ h => h) HSS.out (by first | (with_reducible rfl) | (simp [Region.wanted, yielded, Act.put]; done) | rfl) (fun W hs => by go_simp) (some 107) rfl #[true, true, true, true, true, true, true, true, true, true, true, true, true, true, true, true, true, true, false, false, false, false, false, false, false, false, false, false, false, false, false, false, false, false, false, false, false] (by kernel_rfl) ?_
        simp only [Act.put, List.setIfInBounds_toArray, List.set_cons_zero, List.set_cons_succ]
        refine Held.wpAnyG_take (i := 18) (v := (.bool false)) rfl (by kernel_rfl) (by kernel_rfl) (by kernel_rfl) (fun _ _ _ h => h) HSS.out (by first | (with_reducible rfl) | (simp [Region.wanted, yielded, Act.put]; done) | rfl) (fun W h => by go_simp) (some 108) rfl #[true, true, true, true, true, true, true, true, true, true, true, true, true, true, true, true, true, true, true, false, false, false, false, false, false, false, false, false, false, false, false, false, false, false, false, false, false] (by kernel_rfl) ?_
        simp only [Act.put, List.setIfInBounds_toArray, List.set_cons_zero, List.set_cons_succ]
        refine Held.wpAnyG_take (i := 19) (v := (.int .u64 seed)) rfl (by kernel_rfl) (by kernel_rfl) (by kernel_rfl) (fun _ _ _ h => h) HSS.out (by first | (with_reducible rfl) | (simp [Region.wanted, yielded, Act.put]; done) | rfl) (fun W h => by go_simp) (some 109) rfl #[true, true, true, true, true, true, true, true, true, true, true, true, true, true, true, true, true, true, true, true, false, false, false, false, false, false, false, false, false, false, false, false, false, false, false, false, false] (by kernel_rfl) ?_
        simp only [Act.put, List.setIfInBounds_toArray, List.set_cons_zero, List.set_cons_succ]
        refine Held.wpAnyG_take (i := 20) (v := (.slice (some ad) pk c)) rfl (by kernel_rfl) (by kernel_rfl) (by kernel_rfl) (fun _ _ _ h => h) HSS.out (by first | (with_reducible rfl) | (simp [Region.wanted, yielded, Act.put]; done) | rfl) (fun W h => by go_simp) (some 110) rfl #[true, true, true, true, true, true, true, true, true, true, true, true, true, true, true, true, true, true, true, true, true, false, false, false, false, false, false, false, false, false, false, false, false, false, false, false, false] (by kernel_rfl) ?_
        simp only [Act.put, List.setIfInBounds_toArray, List.set_cons_zero, List.set_cons_succ]
        refine Held.wpAnyG_take (i := 21) (v := (.int .i64 (i : Int))) rfl (by kernel_rfl) (by kernel_rfl) (by kernel_rfl) (fun _ _ _ h => h) HSS.out (by first | (with_reducible rfl) | (simp [Region.wanted, yielded, Act.put]; done) | rfl) (fun W h => by go_simp) (some 111) rfl #[true, true, true, true, true, true, true, true, true, true, true, true, true, true, true, true, true, true, true, true, true, true, false, false, false, false, false, false, false, false, false, false, false, false, false, false, false] (by kernel_rfl) ?_
        simp only [Act.put, List.setIfInBounds_toArray, List.set_cons_zero, List.set_cons_succ]
        refine Held.wpAnyG_take (i := 22) (v := (.pointer (some (ad.add i)))) rfl (by kernel_rfl) (by kernel_rfl) (by kernel_rfl) (fun _ _ _ h => h) HSS.out (by first | (with_reducible rfl) | (simp [Region.wanted, yielded, Act.put]; done) | rfl) (fun W hs => by go_simp) (some 112) rfl #[true, true, true, true, true, true, true, true, true, true, true, true, true, true, true, true, true, true, true, true, true, true, true, false, false, false, false, false, false, false, false, false, false, false, false, false, false] (by kernel_rfl) ?_
        simp only [Act.put, List.setIfInBounds_toArray, List.set_cons_zero, List.set_cons_succ]
        refine Held.wpAnyG_take (i := 23) (v := (.slice KA kn kc)) rfl (by kernel_rfl) (by kernel_rfl) (by kernel_rfl) (fun _ _ _ h => h) HSS.out (by first | (with_reducible rfl) | (simp [Region.wanted, yielded, Act.put]; done) | rfl) (fun W hs => by have hx1 := (HFK.out W (HTO.out W hs)).1; go_simp) (some 113) rfl #[true, true, true, true, true, true, true, true, true, true, true, true, true, true, true, true, true, true, true, true, true, true, true, true, false, false, false, false, false, false, false, false, false, false, false, false, false] (by kernel_rfl) ?_
        simp only [Act.put, List.setIfInBounds_toArray, List.set_cons_zero, List.set_cons_succ]
        refine Held.wpAnyG_take (i := 24) (v := (.slice A12 n12 c12)) rfl (by kernel_rfl) (by kernel_rfl) (by kernel_rfl) (fun _ _ _ h => h) HSS.out (by first | (with_reducible rfl) | (simp [Region.wanted, yielded, Act.put]; done) | rfl) (fun W h => by go_simp) (some 114) rfl #[true, true, true, true, true, true, true, true, true, true, true, true, true, true, true, true, true, true, true, true, true, true, true, true, true, false, false, false, false, false, false, false, false, false, false, false, false] (by kernel_rfl) ?_
        simp only [Act.put, List.setIfInBounds_toArray, List.set_cons_zero, List.set_cons_succ]
        refine Held.wpAnyG_take (i := 26) (v := (.int .u64 seed)) rfl (by kernel_rfl) (by kernel_rfl) (by kernel_rfl) (fun _ _ _ h => h) HSS.out (by first | (with_reducible rfl) | (simp [Region.wanted, yielded, Act.put]; done) | rfl) (fun W h => by go_simp) (some 116) rfl #[true, true, true, true, true, true, true, true, true, true, true, true, true, true, true, true, true, true, true, true, true, true, true, true, true, false, true, false, false, false, false, false, false, false, false, false, false] (by kernel_rfl) ?_
        simp only [Act.put, List.setIfInBounds_toArray, List.set_cons_zero, List.set_cons_succ]
        refine Held.wpAnyG_take (i := 27) (v := (.slice (some ad) pk c)) rfl (by kernel_rfl) (by kernel_rfl) (by kernel_rfl) (fun _ _ _ h => h) HSS.out (by first | (with_reducible rfl) | (simp [Region.wanted, yielded, Act.put]; done) | rfl) (fun W h => by go_simp) (some 117) rfl #[true, true, true, true, true, true, true, true, true, true, true, true, true, true, true, true, true, true, true, true, true, true, true, true, true, false, true, true, false, false, false, false, false, false, false, false, false] (by kernel_rfl) ?_
        simp only [Act.put, List.setIfInBounds_toArray, List.set_cons_zero, List.set_cons_succ]
        refine Held.wpAnyG_take (i := 28) (v := (.int .i64 (i : Int))) rfl (by kernel_rfl) (by kernel_rfl) (by kernel_rfl) (fun _ _ _ h => h) HSS.out (by first | (with_reducible rfl) | (simp [Region.wanted, yielded, Act.put]; done) | rfl) (fun W h => by go_simp) (some 118) rfl #[true, true, true, true, true, true, true, true, true, true, true, true, true, true, true, true, true, true, true, true, true, true, true, true, true, false, true, true, true, false, false, false, false, false, false, false, false] (by kernel_rfl) ?_
        simp only [Act.put, List.setIfInBounds_toArray, List.set_cons_zero, List.set_cons_succ]
        refine Held.wpAnyG_take (i := 29) (v := (.pointer (some (ad.add i)))) rfl (by kernel_rfl) (by kernel_rfl) (by kernel_rfl) (fun _ _ _ h => h) HSS.out (by first | (with_reducible rfl) | (simp [Region.wanted, yielded, Act.put]; done) | rfl) (fun W hs => by go_simp) (some 119) rfl #[true, true, true, true, true, true, true, true, true, true, true, true, true, true, true, true, true, true, true, true, true, true, true, true, true, false, true, true, true, true, false, false, false, false, false, false, false] (by kernel_rfl) ?_
        simp only [Act.put, List.setIfInBounds_toArray, List.set_cons_zero, List.set_cons_succ]
        refine Held.wpAnyG_take (i := 30) (v := (.slice KA kn kc)) rfl (by kernel_rfl) (by kernel_rfl) (by kernel_rfl) (fun _ _ _ h => h) HSS.out (by first | (with_reducible rfl) | (simp [Region.wanted, yielded, Act.put]; done) | rfl) (fun W hs => by have hx1 := (HFK.out W (HTO.out W hs)).1; go_simp) (some 120) rfl #[true, true, true, true, true, true, true, true, true, true, true, true, true, true, true, true, true, true, true, true, true, true, true, true, true, false, true, true, true, true, true, false, false, false, false, false, false] (by kernel_rfl) ?_
        simp only [Act.put, List.setIfInBounds_toArray, List.set_cons_zero, List.set_cons_succ]
        refine Held.wpAnyG_take (i := 31) (v := (.slice B n12 d)) rfl (by kernel_rfl) (by kernel_rfl) (by kernel_rfl) (fun _ _ _ h => h) HSS.out (by first | (with_reducible rfl) | (simp [Region.wanted, yielded, Act.put]; done) | rfl) (fun W h => by go_simp) (some 121) rfl #[true, true, true, true, true, true, true, true, true, true, true, true, true, true, true, true, true, true, true, true, true, true, true, true, true, false, true, true, true, true, true, true, false, false, false, false, false] (by kernel_rfl) ?_
        simp only [Act.put, List.setIfInBounds_toArray, List.set_cons_zero, List.set_cons_succ]
        refine Held.wpAnyG_one 25 (by kernel_rfl) rfl #[true, true, true, true, true, true, true, true, true, true, true, true, true, true, true, true, true, true, true, true, true, true, true, true, true, true, true, true, true, true, true, true, false, false, false, false, false] (by kernel_rfl) (fun K hK => ?_)
        go_wp2_with fail
        (with_reducible refine (ranked_calls seed key kn HKN.out l n12 HP.out (by have h1 := HQ.out.2.2; omega) KA kc A12 c12 _ (HFK.out _ (HTO.out _ HSS.out)).2 HKK.out (Kd.C_below HOW.out.1 HSS.out) HOW.out.2).mono ?_)
        rintro en wa ⟨Ao, qo, co, rfl, hqo, hro, hbN⟩
        have HOL := Aside0.mk hqo
        have hro2 := Kd.R_reads' hro
        rw [← hqo] at hro2
        have HO1 := Aside0.mk hro2.2.2
        have HO2 := Aside0.mk hro2.2.1
        clear hqo hro hro2
        have n1_ := Aside0.mk (HSS.out.trans (hbN.mono HSS.out.size))
        clear hbN HSS
        have HSS := n1_
        clear n1_
        go_wp2_with fail
        refine hK _ _ HSS.out ?_
        clear hK K
        refine Held.wpAnyG_one 32 (by kernel_rfl) rfl #[true, true, true, true, true, true, true, true, true, true, true, true, true, true, true, true, true, true, true, true, true, true, true, true, true, true, true, true, true, true, true, true, true, false, false, false, false] (by kernel_rfl) (fun K hK => ?_)
        go_wp2_with fail
        (with_reducible refine (of_calls l n12 HP.out (by have h1 := HQ.out.2.2; omega) B d _ (Kd.C_below HC2.out (HTO.out _ HSS.out)) HD.out).mono ?_)
        rintro en wb ⟨Ar, cr, rfl, hCr, hdr, hbN⟩
        have HRC := Aside0.mk hCr
        have HRD := Aside0.mk hdr
        have n2_ := Aside0.mk (Kd.C_below HO1.out hbN)
        clear hCr hdr HO1
        have HO1 := n2_
        have n1_ := Aside0.mk (HSS.out.trans (hbN.mono HSS.out.size))
        clear hbN HSS n2_
        have HSS := n1_
        clear n1_
        go_wp2_with fail
        refine hK _ _ HSS.out ?_
        clear hK K
        refine Held.wpAnyG_one 33 (by kernel_rfl) rfl #[true, true, true, true, true, true, true, true, true, true, true, true, true, true, true, true, true, true, true, true, true, true, true, true, true, true, true, true, true, true, true, true, true, true, false, false, false] (by kernel_rfl) (fun K hK => ?_)
        go_wp2_with fail
        (with_reducible refine (rorder_calls seed key kn HKN.out l n12 HP.out (by have h1 := HQ.out.2.2; omega) KA kc Ar cr _ (HFK.out _ (HTO.out _ HSS.out)).2 HKK.out HRC.out HRD.out).mono ?_)
        rintro en wc ⟨Aq, qq, cq, rfl, hqq, hrq, hbN⟩
        rw [← HOL.out] at hqq
        subst qq
        have hrq2 := Kd.R_reads' hrq
        rw [← HOL.out] at hrq2
        have HQ1 := Aside0.mk hrq2.2.2
        have HQ2 := Aside0.mk hrq2.2.1
        have n2_ := Aside0.mk (Kd.C_below HO1.out hbN)
        clear hrq hrq2 HO1 HRC HRD
        have HO1 := n2_
        have n1_ := Aside0.mk (HSS.out.trans (hbN.mono HSS.out.size))
        clear hbN HSS n2_
        have HSS := n1_
        clear n1_
        go_wp2_with fail
        refine hK _ _ HSS.out ?_
        clear hK K
        refine Held.wpAnyG_one 34 (by kernel_rfl) rfl #[true, true, true, true, true, true, true, true, true, true, true, true, true, true, true, true, true, true, true, true, true, true, true, true, true, true, true, true, true, true, true, true, true, true, true, false, false] (by kernel_rfl) (fun K hK => ?_)
        go_wp2_with fail
        (with_reducible refine (sameI_calls _ qo HOL.out (by have h1 := HQ.out.2.2; have h2 := orderS_le seed key l; have h4 := HOL.out; have h5 := HP.out; omega) Ao co Aq cq _ HO1.out HO2.out HQ1.out HQ2.out).mono ?_)
        rintro en wd ⟨rfl, hds⟩
        have hbN := hds.below
        clear hds HO1 HO2 HQ1 HQ2 HOL
        have n1_ := Aside0.mk (HSS.out.trans (hbN.mono HSS.out.size))
        clear hbN HSS
        have HSS := n1_
        clear n1_
        go_wp2_with fail
        refine hK _ _ HSS.out ?_
        clear hK K
        refine Held.wpAnyG_take (i := 35) (v := (.bool false)) rfl (by kernel_rfl) (by kernel_rfl) (by kernel_rfl) (fun _ _ _ h => h) HSS.out (by first | (with_reducible rfl) | (simp [Region.wanted, yielded, Act.put]; done) | rfl) (fun W hs => by go_simp) (some 125) rfl #[true, true, true, true, true, true, true, true, true, true, true, true, true, true, true, true, true, true, true, true, true, true, true, true, true, true, true, true, true, true, true, true, true, true, true, true, false] (by kernel_rfl) ?_
        simp only [Act.put, List.setIfInBounds_toArray, List.set_cons_zero, List.set_cons_succ]
        refine Held.wpAnyG_take (i := 36) (v := (.bool false)) rfl (by kernel_rfl) (by kernel_rfl) (by kernel_rfl) (fun _ _ _ h => h) HSS.out (by first | (with_reducible rfl) | (simp [Region.wanted, yielded, Act.put]; done) | rfl) (fun W hs => by go_simp) (some 126) rfl #[true, true, true, true, true, true, true, true, true, true, true, true, true, true, true, true, true, true, true, true, true, true, true, true, true, true, true, true, true, true, true, true, true, true, true, true, true] (by kernel_rfl) ?_
        simp only [Act.put, List.setIfInBounds_toArray, List.set_cons_zero, List.set_cons_succ]
        refine Held.wpAnyG_done (by kernel_rfl) ?_ _
        go_wp2_with fail
        have HSS6 := HSS
        clear HSS HSC
        go_loopw [21] (fun v21 wr => ∃ k : Nat, k ≤ n12 ∧ v21 = .int .i64 k ∧ Aside0 (Below w5.heap.size w5 wr)) (fun v21 _ => n12 - (intOf v21).toNat)
        case atStart => exact ⟨0, Nat.zero_le _, rfl, HSS6⟩
        case round =>
          clear HSS6
          obtain ⟨k, hk, rfl, HSS⟩ := hrel
          by_cases hlt : k < n12
          · have HKL := Aside0.mk hlt
            have hkl : k < l.length := by have h1 := HP.out; omega
            obtain ⟨ad1, rfl, _⟩ := HOW.out.1.2.2 (by omega)
            obtain ⟨ad2, rfl, _⟩ := HC2.out.2.2 (by omega)
            obtain ⟨x, hx⟩ : ∃ x, x = l.getD k z25 := ⟨_, rfl⟩
            have HL1 := Aside0.mk (fun (W : World) (hb : Below w5.heap.size w5 W) => show (loadVar 25 (ad1.add (k * 2))).run Try.prog W = .ok (svE x) W by rw [hx]; exact load_rowE (Kd.C_F heapE (Kd.C_below HOW.out.1 hb)) hkl)
            have HL2 := Aside0.mk (fun (W : World) (hb : Below w5.heap.size w5 W) => show (loadVar 25 (ad2.add (k * 2))).run Try.prog W = .ok (svE x) W by rw [hx]; exact load_rowE (Kd.C_F heapE (Kd.C_below HC2.out (HTO.out W hb))) hkl)
            obtain ⟨x0, x1⟩ := x
            have f4 : ((0 : Int) ≤ (k : Int)) = True := eq_true (by omega)
            have f5 : ((k : Int) < (n12 : Int)) = True := eq_true (by omega)
            have f5b : (k : Int) < (n12 : Int) := by omega
            have f6 : (n12 : Int) ≤ 80 := by have h1 := HQ.out.2.2; omega
            clear hx hkl hlt hk
            go_wp2_with fail
            have n1_ := Aside0.mk (below_drew HSS.out)
            clear HSS
            have HSS := n1_
            clear n1_
            refine Held.wp_region_G (S := (fun W : World => Below w5.heap.size w5 W)) (by kernel_rfl) ?_
            change Held.wpAnyG _ _ _ _ _ 9 _ _ _
            refine Held.wpAnyG_take (i := 0) (v := (.slice (some ad1) n12 c12)) rfl (by kernel_rfl) (by kernel_rfl) (by kernel_rfl) (fun _ _ _ h => h) HSS.out (by first | (with_reducible rfl) | (simp [Region.wanted, yielded, Act.put]; done) | rfl) (fun W h => by go_simp) (some 133) rfl #[true, false, false, false, false, false, false, false, false] (by kernel_rfl) ?_
            simp only [Act.put, List.setIfInBounds_toArray, List.set_cons_zero, List.set_cons_succ]
            refine Held.wpAnyG_take (i := 1) (v := (.int .i64 (k : Int))) rfl (by kernel_rfl) (by kernel_rfl) (by kernel_rfl) (fun _ _ _ h => h) HSS.out (by first | (with_reducible rfl) | (simp [Region.wanted, yielded, Act.put]; done) | rfl) (fun W h => by go_simp) (some 134) rfl #[true, true, false, false, false, false, false, false, false] (by kernel_rfl) ?_
            simp only [Act.put, List.setIfInBounds_toArray, List.set_cons_zero, List.set_cons_succ]
            refine Held.wpAnyG_take (i := 2) (v := (.pointer (some (ad1.add (k * 2))))) rfl (by kernel_rfl) (by kernel_rfl) (by kernel_rfl) (fun _ _ _ h => h) HSS.out (by first | (with_reducible rfl) | (simp [Region.wanted, yielded, Act.put]; done) | rfl) (fun W hs => by go_simp) (some 135) rfl #[true, true, true, false, false, false, false, false, false] (by kernel_rfl) ?_
            simp only [Act.put, List.setIfInBounds_toArray, List.set_cons_zero, List.set_cons_succ]
            refine Held.wpAnyG_take (i := 3) (v := (.agg #[.int .i64 x0, .int .i64 x1])) rfl (by kernel_rfl) (by kernel_rfl) (by kernel_rfl) (fun _ _ _ h => h) HSS.out (by first | (with_reducible rfl) | (simp [Region.wanted, yielded, Act.put]; done) | rfl) (fun W hs => Held.run_load_of 25 (.tmp 135) rfl (ad1.add (k * 2)) rfl (HL1.out W hs)) (some 136) rfl #[true, true, true, true, false, false, false, false, false] (by kernel_rfl) ?_
            simp only [Act.put, List.setIfInBounds_toArray, List.set_cons_zero, List.set_cons_succ]
            refine Held.wpAnyG_take (i := 4) (v := (.slice (some ad2) n12 d)) rfl (by kernel_rfl) (by kernel_rfl) (by kernel_rfl) (fun _ _ _ h => h) HSS.out (by first | (with_reducible rfl) | (simp [Region.wanted, yielded, Act.put]; done) | rfl) (fun W h => by go_simp) (some 137) rfl #[true, true, true, true, true, false, false, false, false] (by kernel_rfl) ?_
            simp only [Act.put, List.setIfInBounds_toArray, List.set_cons_zero, List.set_cons_succ]
            refine Held.wpAnyG_take (i := 5) (v := (.int .i64 (k : Int))) rfl (by kernel_rfl) (by kernel_rfl) (by kernel_rfl) (fun _ _ _ h => h) HSS.out (by first | (with_reducible rfl) | (simp [Region.wanted, yielded, Act.put]; done) | rfl) (fun W h => by go_simp) (some 138) rfl #[true, true, true, true, true, true, false, false, false] (by kernel_rfl) ?_
            simp only [Act.put, List.setIfInBounds_toArray, List.set_cons_zero, List.set_cons_succ]
            refine Held.wpAnyG_take (i := 6) (v := (.pointer (some (ad2.add (k * 2))))) rfl (by kernel_rfl) (by kernel_rfl) (by kernel_rfl) (fun _ _ _ h => h) HSS.out (by first | (with_reducible rfl) | (simp [Region.wanted, yielded, Act.put]; done) | rfl) (fun W hs => by go_simp) (some 139) rfl #[true, true, true, true, true, true, true, false, false] (by kernel_rfl) ?_
            simp only [Act.put, List.setIfInBounds_toArray, List.set_cons_zero, List.set_cons_succ]
            refine Held.wpAnyG_take (i := 7) (v := (.agg #[.int .i64 x0, .int .i64 x1])) rfl (by kernel_rfl) (by kernel_rfl) (by kernel_rfl) (fun _ _ _ h => h) HSS.out (by first | (with_reducible rfl) | (simp [Region.wanted, yielded, Act.put]; done) | rfl) (fun W hs => Held.run_load_of 25 (.tmp 139) rfl (ad2.add (k * 2)) rfl (HL2.out W hs)) (some 140) rfl #[true, true, true, true, true, true, true, true, false] (by kernel_rfl) ?_
            simp only [Act.put, List.setIfInBounds_toArray, List.set_cons_zero, List.set_cons_succ]
            refine Held.wpAnyG_take (i := 8) (v := (.bool false)) rfl (by kernel_rfl) (by kernel_rfl) (by kernel_rfl) (fun _ _ _ h => h) HSS.out (by first | (with_reducible rfl) | (simp [Region.wanted, yielded, Act.put]; done) | rfl) (fun W hs => run_neqE (.tmp 136) (.tmp 140) rfl x0 x1 rfl rfl W) (some 141) rfl #[true, true, true, true, true, true, true, true, true] (by kernel_rfl) ?_
            simp only [Act.put, List.setIfInBounds_toArray, List.set_cons_zero, List.set_cons_succ]
            refine Held.wpAnyG_done (by kernel_rfl) ?_ _
            go_wp2_with fail
            go_roundw
            case measure => simp [intOf]; omega
            case rel => exact ⟨k + 1, by have h1 := HKL.out; omega, by go_num, HSS⟩
          · have hkp : k = n12 := by omega
            subst k
            have HBR := Aside0.mk (HTO.out _ HSS.out)
            have HXR := Aside0.mk (blk_below HX5.out HSS.out)
            clear hlt
            cases had with
            | false =>
              go_wp2_with fail
              go_roundw
              case measure => simp [intOf]; have h1 := HIP.out; omega
              case rel => exact ⟨i + 1, by have h1 := HIP.out; omega, by have h1 := HIP.out; omega, by go_num, by rw [HSTEP.out, if_neg (by simp)], ⟨by rw [HSTEP.out, if_neg (by simp)]; exact HXR.out, HBR.out⟩⟩
            | true =>
              obtain ⟨j, rfl⟩ := Int.eq_ofNat_of_zero_le (show 0 ≤ n from HFR.out.1)
              have hj : j < 64 := by have h1 : (j : Int) < 64 := HFR.out.2; omega
              have hc1 := arrV_cell HXR.out hj
              have hfr := blk_frozen HXR.out j
              unfold ctF at hc1
              have hct : cs.count (j : Int) ≤ cs.length := List.count_le_length
              obtain ⟨c1, hc1b⟩ : ∃ c1 : Int, c1 = (cs.count (j : Int) : Nat) := ⟨_, rfl⟩
              have HC1 := Aside0.mk hc1b
              rw [← hc1b] at hc1
              have g1 : wrap64 (c1 + 1) = c1 + 1 := w64_in _ (by omega) (by have h1 := HCL.out; omega)
              have HG := Aside0.mk g1
              clear g1
              obtain ⟨t1, ht1⟩ : ∃ t1 : Int, t1 = (cs.length : Nat) := ⟨_, rfl⟩
              have HT1 := Aside0.mk ht1
              have HG2 := Aside0.mk (show wrap64 (t1 + 1) = t1 + 1 from w64_in _ (by omega) (by have h1 := HCL.out; omega))
              rw [← ht1]
              have g4 : ((0 : Int) ≤ (j : Int)) = True := eq_true (by omega)
              have g5 : ((j : Int) < 64) = True := eq_true (by omega)
              clear hct hc1b ht1
              have g1 := HG.out
              have g2 := HG2.out
              go_wp2_with fail
              go_roundw
              case measure => clear g1 g2; simp [intOf]; have h1 := HIP.out; omega
              case rel =>
                clear g1 g2
                refine ⟨i + 1, by have h1 := HIP.out; omega, by have h1 := HIP.out; omega, by go_num, ?_, ⟨?_, ?_⟩⟩
                · rw [HSTEP.out, if_pos rfl, List.length_append, List.length_singleton]
                  show Value.int .i64 (wrap64 (t1 + 1)) = _
                  rw [HG2.out, HT1.out]
                  rfl
                · rw [HSTEP.out, if_pos rfl]
                  have h5 := arrV_put (i := j) HXR.out (.int .i64 (((cs.count (j : Int) : Nat) : Int) + 1))
                  rw [ctF_snoc] at h5
                  rw [HC1.out]
                  exact h5
                · exact HBR.out.setCell (p := ⟨w2.heap.size, j, none⟩) (Nat.le_refl _) _
      · have hi : i = 20 := by omega
        subst i
        have HB3 := Aside0.mk (HB2.out.trans (HI.out.2.mono HB2.out.size))
        have f1 : ((20 : Nat) : Int) < (pk : Int) := by omega
        have f2 : (20 : Int) < (pk : Int) := by omega
        clear HCS hip hi20 hl20 hlt
        go_wp2_with fail
        go_ret
        exact ⟨rfl, HB3.out⟩
    · have hi : i = pk := by omega
      subst i
      have HB3 := Aside0.mk (HB2.out.trans (HI.out.2.mono HB2.out.size))
      have HX3 := Aside0.mk HI.out.1
      have HBW := Aside0.mk HI.out.2
      have HP20 := Aside0.mk hi20
      have f2 : ¬ (20 : Int) < (pk : Int) := by omega
      have HCS2 := Aside0.mk (show cs = idsS seed keys l by rw [HCS.out, List.take_of_length_le (Nat.le_of_eq HPK.out.symm)])
      clear HCS HI hip hi20 hlt
      go_wp2_with fail
      (with_reducible refine (chosen_calls seed keys pk HPK.out (by have h1 := HP20.out; omega) l p HP.out (by have h1 := HQ.out.2.2; omega) A c B d w3 (Kd.C_below HK2.out HBW.out) HKC.out (Kd.C_below HC2.out HBW.out) HD.out).mono ?_)
      rintro en w7 ⟨b, rfl, hle, hch, hb⟩
      rw [← HCS2.out] at hch
      have HCH := Aside0.mk hch
      have HB7 := Aside0.mk (HB3.out.trans (hb.mono HB3.out.size))
      have HX7 := Aside0.mk (blk_below HX3.out hb)
      clear hle hch hb HBW HB3 HX3
      go_wp2_with fail
      go_loopw [10, 23] (fun v10 v23 wr => ∃ k : Nat, k ≤ 64 ∧ v23 = .int .i64 k ∧ v10 = .int .i64 ((cs.length : Int) - (sumC cs k : Nat)) ∧ wr = w7) (fun _ v23 _ => 64 - (intOf v23).toNat)
      case atStart => exact ⟨0, by omega, rfl, by show _ = Value.int .i64 ((cs.length : Int) - ((0 : Nat) : Int)); rw [Int.natCast_zero, Int.sub_zero], rfl⟩
      case round =>
        obtain ⟨k, hk, rfl, rfl, rfl⟩ := hrel
        by_cases hlt : k < 64
        · have hl2 := HCH.out.look2 (k : Int) (by omega)
          have hc2 := arrV_cell HX7.out hlt
          unfold ctF at hc2
          have hsu : sumC cs (k + 1) = sumC cs k + cs.count (k : Int) := rfl
          have hsl := sumC_le cs HCR.out (k + 1)
          obtain ⟨c1, hc1⟩ : ∃ c1 : Int, c1 = (cs.count (k : Int) : Nat) := ⟨_, rfl⟩
          have hd : decide (0 < cs.count (k : Int)) = decide (0 < c1) := by
            rw [hc1]
            congr 1
            exact propext ⟨fun h => by omega, fun h => by omega⟩
          rw [hd, ← hc1] at hl2
          rw [← hc1] at hc2
          obtain ⟨t0, ht0⟩ : ∃ t0 : Int, t0 = (cs.length : Int) - (sumC cs k : Nat) := ⟨_, rfl⟩
          rw [← ht0]
          have hw1 : wrap64 (t0 - c1) = t0 - c1 := w64_in _ (by have h1 := HCL.out; omega) (by have h1 := HCL.out; omega)
          have hn1 : (cs.length : Int) - (sumC cs (k + 1) : Nat) = t0 - c1 := by clear hw1; omega
          have HW1 := Aside0.mk hw1
          have HN1 := Aside0.mk hn1
          have HKL := Aside0.mk hlt
          have f4 : ((0 : Int) ≤ (k : Int)) = True := eq_true (by omega)
          have f5 : ((k : Int) < 64) = True := eq_true (by clear hw1; omega)
          have f5b : (k : Int) < 64 := by clear hw1; omega
          clear hsu hsl hc1 hd ht0 hk hlt hw1 hn1
          go_wp2_with fail
          go_roundw
          case measure => simp [intOf]; have h1 := HKL.out; omega
          case rel => exact ⟨k + 1, by have h1 := HKL.out; omega, by go_num, by rw [HN1.out, HW1.out], trivial⟩
        · have hk64 : k = 64 := by omega
          subst k
          rw [sumC_all cs HCR.out, Int.sub_self]
          clear hk hlt
          go_wp2_with fail
          go_ret
          exact ⟨rfl, HB7.out⟩
end Go.Proofs.Ytonofmnjcocokaa.Rk
