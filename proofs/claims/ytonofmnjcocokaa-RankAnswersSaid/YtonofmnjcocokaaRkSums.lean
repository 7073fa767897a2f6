/- rank: RankSums. Written by wip/gen/rksums.py. -/
import Derived.Test.YtonofmnjcocokaaRkLib
namespace Go.Proofs.Ytonofmnjcocokaa.Rk
open Go.RowKit Go.Proofs.YtonofmnjcocokaaW.PrintWords Go.Proofs.YtonofmnjcocokaaW.PrintLast Go.Proofs.YtonofmnjcocokaaW.PrintMore Go.Proofs.Ytonofmnjcocokaa.X Go.Proofs.Ytonofmnjcocokaa.M Go.Proofs.Ytonofmnjcocokaa.Bv Go.Proofs.Ytonofmnjcocokaa.PuLib Go.Proofs.Ytonofmnjcocokaa.PuMix
attribute [local go_sem] max2_int min2_int max_two min_two max_three min_three max_four min_four
set_option linter.unusedVariables false
set_option linter.unusedSimpArgs false
/-- The Ids of all. -/
theorem allS_ids (seed seed' : Int) (key key' : List Int) (l : List S25) : (allS seed key l).map (·.1) = (allS seed' key' l).map (·.1) := by
  have h : ∀ (l : List S25) (a b : List (Int × Int)), a.map (·.1) = b.map (·.1) → (l.foldl (stA seed key) a).map (·.1) = (l.foldl (stA seed' key') b).map (·.1) := by
    intro l
    induction l with
    | nil => intro a b h; exact h
    | cons e r ih =>
      intro a b h
      rw [List.foldl_cons, List.foldl_cons]
      refine ih _ _ ?_
      have hany : a.any (fun x => x.1 == e.f0) = b.any (fun x => x.1 == e.f0) := by
        have h1 : ∀ c : List (Int × Int), c.any (fun x => x.1 == e.f0) = (c.map (·.1)).any (fun i => i == e.f0) := fun c => by rw [List.any_map]; rfl
        rw [h1, h1, h]
      unfold stA
      rw [hany]
      split
      · rw [List.map_append, List.map_append, h, List.map_cons, List.map_cons, List.map_nil]
      · exact h
  unfold allS
  exact h l [] [] (by rw [List.map_nil])
theorem firstS_ok (seed : Int) (key key' : List Int) (l : List S25) : (firstS seed key l).2 = (firstS seed key' l).2 := by
  have h := allS_ids seed seed key key' l
  unfold firstS
  cases h1 : allS seed key l with
  | nil =>
    rw [h1] at h
    have h2 : allS seed key' l = [] := List.map_eq_nil_iff.1 h.symm
    rw [h2]
  | cons x r =>
    cases h2 : allS seed key' l with
    | nil => rw [h1, h2] at h; cases h
    | cons y q => rfl
theorem idsS_none (seed : Int) (keys : List (List Int)) (l : List S25) (key : List Int) (h : (firstS seed key l).2 = false) : idsS seed keys l = [] := by
  unfold idsS
  rw [List.filterMap_eq_nil_iff]
  intro k _
  rw [firstS_ok seed k key l, h]
  rfl
theorem idsS_all (seed : Int) (keys : List (List Int)) (l : List S25) (key : List Int) (h : (firstS seed key l).2 = true) : (idsS seed keys l).length = keys.length := by
  unfold idsS
  induction keys with
  | nil => rfl
  | cons k r ih =>
    rw [List.filterMap_cons, firstS_ok seed k key l, h, if_pos rfl, List.length_cons, ih, List.length_cons]
theorem idsS_append (seed : Int) (k1 k2 : List (List Int)) (l : List S25) : idsS seed (k1 ++ k2) l = idsS seed k1 l ++ idsS seed k2 l := List.filterMap_append ..
theorem idsS_range (seed : Int) (keys : List (List Int)) (l : List S25) : ∀ x ∈ idsS seed keys l, 0 ≤ x ∧ x < 64 := by
  intro x hx
  unfold idsS at hx
  obtain ⟨k, _, hk⟩ := List.mem_filterMap.1 hx
  split at hk
  · obtain rfl := Option.some.inj hk
    exact firstS_range seed k l
  · cases hk
/-- The counts of 0 to k - 1, summed. -/
def sumC (cs : List Int) : Nat → Nat
  | 0 => 0
  | k + 1 => sumC cs k + cs.count (k : Int)
theorem sumC_cons (x : Int) (cs : List Int) (hx : 0 ≤ x) : ∀ k, sumC (x :: cs) k = sumC cs k + if x < k then 1 else 0
  | 0 => by rw [if_neg (by omega)]; rfl
  | k + 1 => by
    unfold sumC
    rw [sumC_cons x cs hx k, List.count_cons]
    by_cases h1 : x = (k : Int)
    · subst h1
      rw [if_neg (by omega), if_pos (by simp), if_pos (by omega)]
      omega
    · rw [if_neg (show ¬ (x == (k : Int)) = true by simpa using h1)]
      by_cases h2 : x < (k : Int)
      · rw [if_pos h2, if_pos (by omega)]; omega
      · rw [if_neg h2, if_neg (by omega)]; omega
theorem sumC_all (cs : List Int) (h : ∀ x ∈ cs, 0 ≤ x ∧ x < 64) : sumC cs 64 = cs.length := by
  induction cs with
  | nil => decide
  | cons x r ih =>
    have hx := h x List.mem_cons_self
    rw [sumC_cons x r hx.1, ih (fun y hy => h y (List.mem_cons_of_mem _ hy)), if_pos (by omega), List.length_cons]
theorem sumC_le (cs : List Int) (h : ∀ x ∈ cs, 0 ≤ x ∧ x < 64) : ∀ k, sumC cs k ≤ cs.length := by
  intro k
  induction cs with
  | nil =>
    have h0 : ∀ k, sumC [] k = 0 := by
      intro k
      induction k with
      | zero => rfl
      | succ k ih => unfold sumC; rw [ih]; rfl
    rw [h0]; exact Nat.zero_le _
  | cons x r ih =>
    have hx := h x List.mem_cons_self
    have h1 := ih (fun y hy => h y (List.mem_cons_of_mem _ hy))
    rw [sumC_cons x r hx.1, List.length_cons]
    split <;> omega
theorem R_emptyL (W : World) (base : Nat) (hb : base ≤ W.heap.size) : Kd.R kSl 32 (W.alloc (.cells #[] 32)) base (fun _ => True) (.slice (some ⟨W.heap.size, 0, none⟩) 0 0) [] :=
  ⟨fun _ _ => trivial, [], ⟨rfl, .inr ⟨W.heap.size, 0, #[], rfl, hb, blk_new W _, Nat.le_refl 0, by decide, rfl, rfl⟩⟩, Reps.none _ _⟩
set_option maxRecDepth 100000 in
set_option maxHeartbeats 8000000 in
theorem sums_calls (seed : Int) (keys : List (List Int)) (pk : Nat) (hpk : pk = keys.length) (l : List S25) (p : Nat) (hp : p = l.length) (A : Option Addr) (c : Nat) (B : Option Addr) (d : Nat) (w : World) (hK : Kd.C (Kd.slice 5 (Kd.int .u8)) w A pk keys) (hkc : pk ≤ c) (hC : Kd.C k25 w B p l) (hc : p ≤ d) :
    Calls Try.prog 6 #[.int .u64 seed, .slice A pk c, .slice B p d] w fun e w' => e = .returned (.bool true) ∧ Below w.heap.size w w' := by
  have HPK := Aside0.mk hpk
  have HP := Aside0.mk hp
  have HK := Aside0.mk hK
  have HC := Aside0.mk hC
  have HKC := Aside0.mk hkc
  have HD := Aside0.mk hc
  clear hpk hp hK hkc hC hc
  go_enter Try.func6, Try.ntmps6
  go_wp2_with fail
  (with_reducible refine (alive_calls _).mono ?_)
  rintro en w1 ⟨rfl, hb1⟩
  have HB1 := Aside0.mk hb1
  clear hb1
  go_wp2_with fail
  (with_reducible refine (great_calls keys pk HPK.out l p HP.out A c B d w1 (Kd.C_below HK.out HB1.out) HKC.out (Kd.C_below HC.out HB1.out) HD.out).mono ?_)
  rintro en w2 ⟨r, rfl, hr, hd2⟩
  have HB2 := Aside0.mk (HB1.out.trans (hd2.below.mono HB1.out.size))
  clear hd2 HB1
  cases r
  · have hr := hr rfl
    by_cases h20 : (pk : Int) > 20
    · have h20b : (20 : Int) < (pk : Int) := h20
      clear hr
      go_wp2_with fail
      go_ret
      exact ⟨rfl, HB2.out⟩
    · have h20b : ¬ (20 : Int) < (pk : Int) := h20
      have HQ := Aside0.mk (show pk ≤ 20 ∧ p ≤ 80 from ⟨by omega, hr.2.2⟩)
      clear hr
      go_wp2_with fail
      clear h20 h20b
      (with_reducible refine (chosen_calls seed keys pk HPK.out (by have h1 := HQ.out; omega) l p HP.out (by have h1 := HQ.out; omega) A c B d w2 (Kd.C_below HK.out HB2.out) HKC.out (Kd.C_below HC.out HB2.out) HD.out).mono ?_)
      rintro en w3 ⟨b1, rfl, hle1, hch1, hb3⟩
      have HB3 := Aside0.mk (HB2.out.trans (hb3.mono HB2.out.size))
      have HCH1 := Aside0.mk hch1
      clear hle1 hch1 hb3 HB2
      obtain ⟨raws, hraw, hrk⟩ := raw_of HK.out
      have HRAW := Aside0.mk hraw
      have HRK := Aside0.mk hrk
      have hrl : raws.length = pk := hraw.1
      have HRL := Aside0.mk hrl
      clear hraw hrk hrl
      obtain ⟨w4, hw4⟩ : ∃ w4, w4 = w3.alloc (.cells #[] 32) := ⟨_, rfl⟩
      have HW4 := Aside0.mk hw4
      have HB4 := Aside0.mk (show Below w.heap.size w w4 by rw [hw4]; exact below_alloc HB3.out _)
      have HR4 := Aside0.mk (show Kd.R kSl 32 w4 w3.heap.size (fun _ => True) (.slice (some ⟨w3.heap.size, 0, none⟩) 0 0) [] by rw [hw4]; exact R_emptyL w3 _ (Nat.le_refl _))
      have HS4 := Aside0.mk (show w3.heap.size ≤ w4.heap.size by rw [hw4]; exact (below_alloc (Below.refl _ _) _).size)
      clear hw4
      go_wp2_with ((with_reducible refine gate_builtin (b := .append) (xs := #[.tmp 28, .tmp 29]) rfl ?_); at_builtin; rw [← HW4.out]; refine Kd.R_append_rows kSl (w0 := w4) w3.heap.size rfl (.tmp 28) (.tmp 29) 23 32 (.slice none 0 0) 24 rfl Try.underlying23 infoL rfl (by decide) (by omega) (.slice (some ⟨w3.heap.size, 0, none⟩) 0 0) [] raws A pk c (fun _ => True) (fun _ => False) rfl rfl HR4.out (Kd.C_below HRAW.out HB4.out) (fun _ _ h => h) (fun _ h => h.elim) (fun _ _ => trivial) (Below.refl _ _) HS4.out (by have h1 := HQ.out; rw [List.length_nil]; omega) ?_)
      intro v5 w5 ho hb5 hg5 _
      obtain ⟨A5, c5, rfl⟩ := Kd.R_slice ho
      rw [HRL.out] at ho ⊢
      have HR5 := Aside0.mk ho
      have HB5 := Aside0.mk (show Below w.heap.size w w5 from HB4.out.trans (hb5.mono HB3.out.size))
      have HB35 := Aside0.mk (show Below w3.heap.size w3 w5 from Below.trans (by rw [HW4.out]; exact below_alloc (Below.refl _ _) _) hb5)
      clear ho hb5 hg5
      go_wp2_with ((with_reducible refine gate_builtin (b := .append) (xs := #[.tmp 30, .tmp 31]) rfl ?_); at_builtin; refine Kd.R_append_rows kSl (w0 := w5) w3.heap.size rfl (.tmp 30) (.tmp 31) 23 32 (.slice none 0 0) 24 rfl Try.underlying23 infoL rfl (by decide) (by omega) (.slice A5 pk c5) raws raws A pk c (fun _ => True) (fun _ => False) rfl rfl HR5.out (Kd.C_below HRAW.out HB5.out) (fun _ _ h => h) (fun _ h => h.elim) (fun _ _ => trivial) (Below.refl _ _) HB35.out.size (by have h1 := HQ.out; rw [HRL.out]; omega) ?_)
      intro v6 w6 ho hb6 hg6 _
      obtain ⟨A6, c6, rfl⟩ := Kd.R_slice ho
      obtain ⟨pk2, hpk2⟩ : ∃ pk2, pk2 = (raws ++ raws).length := ⟨_, rfl⟩
      rw [← hpk2] at ho ⊢
      have HB36 := Aside0.mk (show Below w3.heap.size w3 w6 from HB35.out.trans hb6)
      have HB6 := Aside0.mk (HB3.out.trans (HB36.out.mono HB3.out.size))
      have hrd := Kd.R_reads' ho
      have hc6 := hrd.2.2
      rw [← hpk2] at hc6
      have hpk3 : pk2 = (keys ++ keys).length := by rw [hpk2, List.length_append, List.length_append, HRL.out, HPK.out]
      have HKK := Aside0.mk (of_raw hc6 ((HRK.out.append HRK.out).below HB6.out))
      have HCC6 := Aside0.mk (show pk2 ≤ c6 from hrd.2.1)
      have HPK3 := Aside0.mk hpk3
      have hpk40 : pk2 ≤ 40 := by rw [hpk3, List.length_append, ← HPK.out]; have h1 := HQ.out; omega
      have HPK40 := Aside0.mk hpk40
      clear ho hb6 hg6 hrd hc6 hpk2 hpk3 hpk40 HR4 HR5 HB4 HB5 HB35
      go_wp2_with fail
      (with_reducible refine (chosen_calls seed (keys ++ keys) pk2 HPK3.out (by have h1 := HPK40.out; omega) l p HP.out (by have h1 := HQ.out; omega) A6 c6 B d w6 HKK.out HCC6.out (Kd.C_below HC.out HB6.out) HD.out).mono ?_)
      rintro en w7 ⟨b2, rfl, hle2, hch2, hb7⟩
      have HB7 := Aside0.mk (HB6.out.trans (hb7.mono HB6.out.size))
      obtain ⟨cs, hcs⟩ : ∃ cs, cs = idsS seed keys l := ⟨_, rfl⟩
      rw [idsS_append, ← hcs] at hch2
      rw [← hcs] at HCH1
      have hch1 := (HCH1.out.below HB36.out HCH1.out.lt).below hb7 (Nat.lt_of_lt_of_le HCH1.out.lt HB36.out.size)
      have HCS := Aside0.mk hcs
      have HC1 := Aside0.mk hch1
      have HC2 := Aside0.mk hch2
      have HRG := Aside0.mk (show ∀ x ∈ cs, 0 ≤ x ∧ x < 64 by rw [hcs]; exact idsS_range seed keys l)
      have HCL := Aside0.mk (show cs.length ≤ 20 by have h1 := idsS_length seed keys l; rw [hcs]; have h2 := HQ.out; have h3 := HPK.out; omega)
      clear hle2 hb7 hch1 hch2 hcs HCH1
      go_wp2_with fail
      go_loopw [9, 10] (fun v9 v10 wr => ∃ k : Nat, k ≤ 64 ∧ v9 = .int .i64 (sumC cs k : Nat) ∧ v10 = .int .i64 k ∧ wr = w7) (fun _ v10 _ => 64 - (intOf v10).toNat)
      case atStart => exact ⟨0, by omega, rfl, rfl, rfl⟩
      case round =>
        obtain ⟨k, hk, rfl, rfl, rfl⟩ := hrel
        by_cases hlt : k < 64
        · have hl1 := HC1.out.look (k : Int) (by omega)
          have hl2 := HC2.out.look (k : Int) (by omega)
          have hsu : sumC cs (k + 1) = sumC cs k + cs.count (k : Int) := rfl
          have hsl := sumC_le cs HRG.out (k + 1)
          rw [List.count_append] at hl2
          obtain ⟨s, hs⟩ : ∃ s : Int, s = (sumC cs k : Nat) := ⟨_, rfl⟩
          obtain ⟨c1, hc1⟩ : ∃ c1 : Int, c1 = (cs.count (k : Int) : Nat) := ⟨_, rfl⟩
          have h22 : (((cs.count (k : Int) + cs.count (k : Int) : Nat)) : Int) = 2 * c1 := by omega
          rw [h22] at hl2
          rw [← hc1] at hl1
          rw [← hs]
          have e1 : (0 : Int) ≤ c1 ∧ c1 ≤ 20 := by have h1 := HCL.out; omega
          have e2 : wrap64 (2 * c1) = 2 * c1 := by unfold wrap64; omega
          have e3 : wrap64 (s + c1) = s + c1 := by have h1 := HCL.out; unfold wrap64; omega
          have e4 : ¬ c1 < 0 := by omega
          have e5 : (k : Int) < 64 := by omega
          have e6 : (((sumC cs (k + 1) : Nat)) : Int) = s + c1 := by omega
          have HE6 := Aside0.mk e6
          have HKL := Aside0.mk hlt
          clear h22 hs hc1 hsu hsl hk hlt e6
          go_wp2_with fail
          go_roundw
          case measure => simp [intOf]; have h1 := HKL.out; omega
          case rel => exact ⟨k + 1, by have h1 := HKL.out; omega, by rw [HE6.out, e3], by go_num, trivial⟩
        · obtain rfl : k = 64 := by omega
          rw [sumC_all cs HRG.out]
          obtain ⟨n, hn⟩ : ∃ n, n = cs.length := ⟨_, rfl⟩
          have HN := Aside0.mk hn
          rw [← hn]
          clear hn hk hlt
          go_wp2_with fail
          (with_reducible refine (first_calls seed [] 0 rfl l p HP.out (by have h1 := HQ.out; omega) none 0 B d _ (Kd.C_nil _ _) (Nat.le_refl _) (Kd.C_below HC.out HB7.out) HD.out).mono ?_)
          rintro en w8 ⟨rfl, hb8⟩
          have HB8 := Aside0.mk (HB7.out.trans (hb8.mono HB7.out.size))
          obtain ⟨m, hm, hm1, _⟩ := (HC1.out.below hb8 HC1.out.lt).len
          obtain ⟨y, hy⟩ : ∃ y, y = firstS seed [] l := ⟨_, rfl⟩
          have HY := Aside0.mk hy
          rw [← HN.out] at hm1
          rw [← hy]
          obtain ⟨id, ok⟩ := y
          clear hb8 hy
          cases ok with
          | false =>
            have h0 : cs = [] := by rw [HCS.out]; exact idsS_none seed keys l [] (by rw [← HY.out])
            have hn0 : n = 0 := by rw [HN.out, h0]; rfl
            obtain rfl : m = 0 := by omega
            clear h0 hm1
            subst hn0
            go_wp2_with fail
            go_ret
            exact ⟨rfl, HB8.out⟩
          | true =>
            have h0 : cs.length = keys.length := by rw [HCS.out]; exact idsS_all seed keys l [] (by rw [← HY.out])
            obtain rfl : n = pk := by rw [HN.out, h0, HPK.out]
            have e7 : (m : Int) ≤ (n : Int) := by omega
            clear h0 hm1
            go_wp2_with fail
            go_ret
            exact ⟨rfl, HB8.out⟩
  · clear hr
    go_wp2_with fail
    go_ret
    exact ⟨rfl, HB2.out⟩
end Go.Proofs.Ytonofmnjcocokaa.Rk
