/- rank: RankFew. Written by wip/gen/rkfew.py. -/
import Derived.Test.YtonofmnjcocokaaRkApp
namespace Go.Proofs.Ytonofmnjcocokaa.Rk
open Go.RowKit Go.Proofs.YtonofmnjcocokaaW.PrintWords Go.Proofs.YtonofmnjcocokaaW.PrintLast Go.Proofs.YtonofmnjcocokaaW.PrintMore Go.Proofs.Ytonofmnjcocokaa.X Go.Proofs.Ytonofmnjcocokaa.M Go.Proofs.Ytonofmnjcocokaa.Bv Go.Proofs.Ytonofmnjcocokaa.PuLib Go.Proofs.Ytonofmnjcocokaa.PuMix
attribute [local go_sem] max2_int min2_int max_two min_two max_three min_three max_four min_four
set_option linter.unusedVariables false
set_option linter.unusedSimpArgs false
set_option maxRecDepth 100000 in
set_option maxHeartbeats 8000000 in
theorem few_calls (seed : Int) (key : List Int) (pk : Nat) (hpk : pk = key.length) (l : List S25) (p : Nat) (hp : p = l.length) (at_ wt : Int) (A : Option Addr) (c : Nat) (B : Option Addr) (d : Nat) (w : World) (hK : Kd.C (Kd.int .u8) w A pk key) (hkc : pk ≤ c) (hC : Kd.C k25 w B p l) (hc : p ≤ d) :
    Calls Try.prog 4 #[.int .u64 seed, .slice A pk c, .slice B p d, .int .i64 at_, .int .i64 wt] w fun e w' => e = .returned (.bool true) ∧ Below w.heap.size w w' := by
  have HPK := Aside0.mk hpk
  have HP := Aside0.mk hp
  have HK := Aside0.mk hK
  have HC := Aside0.mk hC
  have HKC := Aside0.mk hkc
  have HD := Aside0.mk hc
  clear hpk hp hK hkc hC hc
  go_enter Try.func4, Try.ntmps4
  go_wp2_with fail
  (with_reducible refine (alive_calls _).mono ?_)
  rintro en w1 ⟨rfl, hb1⟩
  have HB1 := Aside0.mk hb1
  have HOK := Aside0.mk (rowK (t := 5) (u := 32) HPK.out (Kd.C_below HK.out hb1) HKC.out)
  clear hb1
  go_wp2_with fail
  (with_reducible refine (great_calls [key] 1 rfl l p HP.out (some ⟨w1.heap.size, 0, none⟩) 1 B d _ HOK.out (Nat.le_refl 1) (Kd.C_below HC.out (below_alloc HB1.out _)) HD.out).mono ?_)
  rintro en w2 ⟨r, rfl, hr, hd2⟩
  have HB2 := Aside0.mk ((below_alloc HB1.out _).trans (hd2.below.mono (below_alloc HB1.out _).size))
  clear hd2 HB1 HOK
  cases r with
  | true =>
    clear hr
    go_wp2_with fail
    go_ret
    exact ⟨rfl, HB2.out⟩
  | false =>
  have hr := hr rfl
  have HQ := Aside0.mk (show p ≤ 80 from hr.2.2)
  clear hr
  go_wp2_with fail
  (with_reducible refine (unlike_calls l p HP.out (by have h1 := HQ.out; omega) B d w2 (Kd.C_below HC.out HB2.out) HD.out).mono ?_)
  rintro en w3 (⟨rfl, hb⟩ | ⟨rfl, hfine, hb⟩)
  · have HB3 := Aside0.mk (HB2.out.trans (hb.mono HB2.out.size))
    clear hb HB2
    go_wp2_with fail
    go_ret
    exact ⟨rfl, HB3.out⟩
  have HB3 := Aside0.mk (HB2.out.trans (hb.mono HB2.out.size))
  have HFI := Aside0.mk hfine
  clear hb HB2 hfine
  by_cases h1 : at_ < 0
  · go_wp2_with fail
    go_ret
    exact ⟨rfl, HB3.out⟩
  obtain ⟨i, rfl⟩ := Int.eq_ofNat_of_zero_le (show 0 ≤ at_ by omega)
  by_cases h2 : (p : Int) ≤ (i : Int)
  · go_wp2_with fail
    go_ret
    exact ⟨rfl, HB3.out⟩
  have hil : i < l.length := by have h3 := HP.out; omega
  obtain ⟨x, hx⟩ : ∃ x, l[i] = x := ⟨_, rfl⟩
  have HX := Aside0.mk hx
  have HI := Aside0.mk (show i < p by omega)
  obtain ⟨ad, rfl, _⟩ := HC.out.2.2 (by omega)
  have HAT := Aside0.mk (fun (W : World) (h : Kd.C k25 W (some ad) p l) => at_E2 h HP.out (show i < p from HI.out) HX.out)
  clear hx
  have hat := HAT.out w3 (Kd.C_below HC.out HB3.out)
  obtain ⟨hd0, hd1⟩ := hat
  have i1 : ((0 : Int) ≤ (i : Int)) = True := eq_true (by omega)
  have i2 : ((i : Int) < (p : Int)) = True := eq_true (by omega)
  by_cases h3 : wt < x.f1
  · go_wp2_with fail
    go_ret
    exact ⟨rfl, HB3.out⟩
  by_cases h4 : 16 < wt
  · go_wp2_with fail
    go_ret
    exact ⟨rfl, HB3.out⟩
  have HL := Aside0.mk (fun key => few_law seed key HFI.out (HP.out ▸ HI.out) HX.out (show x.f1 ≤ wt by omega) (show wt ≤ 16 by omega))
  go_wp2_with fail
  clear hd0 hd1 h1 h2 h3 h4
  (with_reducible refine (first_calls seed key pk HPK.out l p HP.out (by have h1 := HQ.out; omega) A c (some ad) d w3 (Kd.C_below HK.out HB3.out) HKC.out (Kd.C_below HC.out HB3.out) HD.out).mono ?_)
  rintro en w4 ⟨rfl, hb⟩
  have HB4 := Aside0.mk (HB3.out.trans (hb.mono HB3.out.size))
  obtain ⟨⟨id1, ok1⟩, hx1⟩ : ∃ y, y = firstS seed key l := ⟨_, rfl⟩
  have hlaw := HL.out key
  rw [← hx1] at hlaw ⊢
  obtain ⟨rfl, hlaw⟩ : ok1 = true ∧ _ := hlaw
  have HLAW := Aside0.mk hlaw
  clear hb hx1 hlaw HB3 HL
  go_wp2_with fail
  obtain ⟨wd, hwd⟩ : ∃ wd, wd = w4.drew := ⟨_, rfl⟩
  have HWD := Aside0.mk (show Below w.heap.size w wd by rw [hwd]; exact below_drew HB4.out)
  obtain ⟨i0, hi0, _, hsz, _⟩ := info_parts infoE
  have hcut1 := fun W => cut_to (P := Try.prog) 26 25 .i64 Try.underlying26 hi0 (some ad) p d (i : Int) (by omega) (by have h1 := HI.out; omega) HD.out W
  have hcut2 := fun W => cut_from (P := Try.prog) 26 25 .i64 Try.underlying26 hi0 2 hsz (some ad) p d ((i : Int) + 1) (by omega) (by have h1 := HI.out; omega) W
  obtain ⟨t1, ht1⟩ : ∃ t1, t1 = l.take i := ⟨_, rfl⟩
  obtain ⟨dr, hdr⟩ : ∃ dr, dr = l.drop (i + 1) := ⟨_, rfl⟩
  have HTD := Aside0.mk (show t1.length = i ∧ dr.length = p - (i + 1) by rw [ht1, hdr, List.length_take, List.length_drop, HP.out]; have h1 := HI.out; have h2 := HP.out; omega)
  have HCI := Aside0.mk (cutsE HP.out HI.out HC.out HD.out)
  rw [← ht1, ← hdr] at HCI HLAW
  rw [show ((i : Int) + 1).toNat = i + 1 by omega] at hcut2
  rw [Int.toNat_natCast] at hcut1
  obtain ⟨A8, hA8⟩ : ∃ A8 : Option Addr, A8 = (if d = i + 1 then some ad else (some ad).map (·.add ((i + 1) * 2))) := ⟨_, rfl⟩
  obtain ⟨n8, hn8⟩ : ∃ n8, n8 = p - (i + 1) := ⟨_, rfl⟩
  obtain ⟨c8, hc8⟩ : ∃ c8, c8 = d - (i + 1) := ⟨_, rfl⟩
  rw [← hA8, ← hn8] at HCI
  rw [← hA8, ← hn8, ← hc8] at hcut2
  have HN8 := Aside0.mk (show i + n8 ≤ 80 by have h1 := HI.out; have h2 := HQ.out; omega)
  have ew : wrap64 ((i : Int) + 1) = (i : Int) + 1 := w64_up i (by have h1 := HI.out; have h2 := HQ.out; omega)
  have HSS : Aside0 True := ⟨trivial⟩
  clear ht1 hdr hA8 hn8 hc8 hi0 hsz
  refine Held.wp_region_G (S := (fun _ : World => True)) (by kernel_rfl) ?_
  change Held.wpAnyG _ _ _ _ _ 11 _ _ _
  rw [← hwd]
  clear hwd
  refine Held.wpAnyG_take (i := 1) (v := (.slice (some ad) p d)) rfl (by kernel_rfl) (by kernel_rfl) (by kernel_rfl) (fun _ _ _ h => h) HSS.out (by first | (with_reducible rfl) | (simp [Region.wanted, yielded, Act.put]; done) | rfl) (fun W h => by go_simp) (some 61) rfl #[false, true, false, false, false, false, false, false, false, false, false] (by kernel_rfl) ?_
  simp only [Act.put, List.setIfInBounds_toArray, List.set_cons_zero, List.set_cons_succ]
  refine Held.wpAnyG_take (i := 2) (v := (.int .i64 (i : Int))) rfl (by kernel_rfl) (by kernel_rfl) (by kernel_rfl) (fun _ _ _ h => h) HSS.out (by first | (with_reducible rfl) | (simp [Region.wanted, yielded, Act.put]; done) | rfl) (fun W h => by go_simp) (some 62) rfl #[false, true, true, false, false, false, false, false, false, false, false] (by kernel_rfl) ?_
  simp only [Act.put, List.setIfInBounds_toArray, List.set_cons_zero, List.set_cons_succ]
  refine Held.wpAnyG_take (i := 3) (v := (.slice (some ad) i d)) rfl (by kernel_rfl) (by kernel_rfl) (by kernel_rfl) (fun _ _ _ h => h) HSS.out (by first | (with_reducible rfl) | (simp [Region.wanted, yielded, Act.put]; done) | rfl) (fun W h => by have hq := hcut1 W; go_simp) (some 63) rfl #[false, true, true, true, false, false, false, false, false, false, false] (by kernel_rfl) ?_
  simp only [Act.put, List.setIfInBounds_toArray, List.set_cons_zero, List.set_cons_succ]
  refine Held.wpAnyG_take (i := 5) (v := (.slice (some ad) p d)) rfl (by kernel_rfl) (by kernel_rfl) (by kernel_rfl) (fun _ _ _ h => h) HSS.out (by first | (with_reducible rfl) | (simp [Region.wanted, yielded, Act.put]; done) | rfl) (fun W h => by go_simp) (some 65) rfl #[false, true, true, true, false, true, false, false, false, false, false] (by kernel_rfl) ?_
  simp only [Act.put, List.setIfInBounds_toArray, List.set_cons_zero, List.set_cons_succ]
  refine Held.wpAnyG_take (i := 6) (v := (.int .i64 (i : Int))) rfl (by kernel_rfl) (by kernel_rfl) (by kernel_rfl) (fun _ _ _ h => h) HSS.out (by first | (with_reducible rfl) | (simp [Region.wanted, yielded, Act.put]; done) | rfl) (fun W h => by go_simp) (some 66) rfl #[false, true, true, true, false, true, true, false, false, false, false] (by kernel_rfl) ?_
  simp only [Act.put, List.setIfInBounds_toArray, List.set_cons_zero, List.set_cons_succ]
  refine Held.wpAnyG_take (i := 7) (v := (.int .i64 ((i : Int) + 1))) rfl (by kernel_rfl) (by kernel_rfl) (by kernel_rfl) (fun _ _ _ h => h) HSS.out (by first | (with_reducible rfl) | (simp [Region.wanted, yielded, Act.put]; done) | rfl) (fun W h => by go_simp; rw [i64_w]; exact ew) (some 67) rfl #[false, true, true, true, false, true, true, true, false, false, false] (by kernel_rfl) ?_
  simp only [Act.put, List.setIfInBounds_toArray, List.set_cons_zero, List.set_cons_succ]
  refine Held.wpAnyG_take (i := 8) (v := (.slice A8 n8 c8)) rfl (by kernel_rfl) (by kernel_rfl) (by kernel_rfl) (fun _ _ _ h => h) HSS.out (by first | (with_reducible rfl) | (simp [Region.wanted, yielded, Act.put]; done) | rfl) (fun W h => by have hq := hcut2 W; go_simp) (some 68) rfl #[false, true, true, true, false, true, true, true, true, false, false] (by kernel_rfl) ?_
  simp only [Act.put, List.setIfInBounds_toArray, List.set_cons_zero, List.set_cons_succ]
  refine Held.wpAnyG_one 0 (by kernel_rfl) rfl #[true, true, true, true, false, true, true, true, true, false, false] (by kernel_rfl) (fun K hK => ?_)
  go_wp2_with fail
  obtain ⟨w5, hw5⟩ : ∃ w5, w5 = wd.alloc (.cells #[] 25) := ⟨_, rfl⟩
  have HB5 := Aside0.mk (show Below w.heap.size w w5 by rw [hw5]; exact below_alloc HWD.out _)
  have HBX5 := Aside0.mk (show Below wd.heap.size wd w5 by rw [hw5]; exact below_alloc (Below.refl _ _) _)
  have HR5 := Aside0.mk (show Kd.R k25 25 w5 wd.heap.size (fun _ => True) (.slice (some ⟨wd.heap.size, 0, none⟩) 0 0) [] by rw [hw5]; exact R_emptyE wd _ (Nat.le_refl _))
  rw [← hw5]
  clear hw5
  refine hK _ _ trivial ?_
  clear hK K
  refine Held.wpAnyG_one 4 (by kernel_rfl) rfl #[true, true, true, true, true, true, true, true, true, false, false] (by kernel_rfl) (fun K hK => ?_)
  simp only [List.getElem_toArray, List.getElem_cons_succ, List.getElem_cons_zero]
  refine app_E (w0 := w5) wd.heap.size rfl (.tmp 60) (.tmp 63) rfl (.slice (some ⟨wd.heap.size, 0, none⟩) 0 0) [] t1 (some ad) i d rfl rfl HR5.out (HCI.out _ HB5.out).1 (Below.refl _ _) HBX5.out.size (by have h1 := HN8.out; rw [List.length_nil]; omega) ?_
  intro A6 n6 c6 w6 hn6 hr6 hb6
  rw [List.nil_append] at hn6 hr6
  have HN6 := Aside0.mk hn6
  have HR6 := Aside0.mk hr6
  have HBX6 := Aside0.mk (HBX5.out.trans hb6)
  have HB6 := Aside0.mk (HWD.out.trans (HBX6.out.mono HWD.out.size))
  clear hr6 hb6 hn6 HR5
  go_wp2_with fail
  refine hK _ _ trivial ?_
  clear hK K
  refine Held.wpAnyG_one 9 (by kernel_rfl) rfl #[true, true, true, true, true, true, true, true, true, true, false] (by kernel_rfl) (fun K hK => ?_)
  simp only [List.getElem_toArray, List.getElem_cons_succ, List.getElem_cons_zero]
  refine app_E (w0 := w6) wd.heap.size rfl (.tmp 64) (.tmp 68) rfl (.slice A6 n6 c6) t1 dr A8 n8 c8 rfl rfl HR6.out (HCI.out _ HB6.out).2 (Below.refl _ _) HBX6.out.size (by have h1 := HN8.out; have h2 := HTD.out; omega) ?_
  intro A7 n7 c7 w7 hn7 hr7 hb7
  have HN7 := Aside0.mk hn7
  have HR7 := Aside0.mk hr7
  have HBX7 := Aside0.mk (HBX6.out.trans hb7)
  have HB7 := Aside0.mk (HWD.out.trans (HBX7.out.mono HWD.out.size))
  clear hr7 hb7 hn7 HR6 HN6
  go_wp2_with fail
  refine hK _ _ trivial ?_
  clear hK K
  refine Held.wpAnyG_last 10 (by kernel_rfl) rfl (by kernel_rfl) (by kernel_rfl) ?_
  go_wp2_with fail
  obtain ⟨o, ho⟩ : ∃ o, o = t1 ++ dr := ⟨_, rfl⟩
  rw [← ho] at HN7 HR7 HLAW
  have HLO := Aside0.mk (show o.length ≤ 80 by rw [ho, List.length_append]; have h1 := HTD.out; have h2 := HQ.out; have h3 := HI.out; omega)
  clear ho HTD hcut1 hcut2
  (with_reducible refine (first_calls seed key pk HPK.out o n7 HN7.out (by rw [HN7.out]; have h1 := HLO.out; omega) A c A7 c7 w7 (Kd.C_below HK.out HB7.out) HKC.out (HN7.out ▸ (Kd.R_reads' HR7.out).2.2) (HN7.out ▸ (Kd.R_reads' HR7.out).2.1)).mono ?_)
  rintro en w8 ⟨rfl, hb⟩
  have HB8 := Aside0.mk (HB7.out.trans (hb.mono HB7.out.size))
  obtain ⟨⟨id2, ok2⟩, hx2⟩ : ∃ y, y = firstS seed key o := ⟨_, rfl⟩
  rw [← hx2] at HLAW ⊢
  obtain ⟨hk2, hne, hlaw⟩ := HLAW.out
  rw [← HN7.out] at hk2
  obtain rfl : ok2 = decide (0 < (n7 : Int)) := hk2
  have HLAW3 := Aside0.mk hlaw
  have HNE := Aside0.mk hne
  obtain ⟨hd0, hd1⟩ := HAT.out w8 (Kd.C_below HC.out HB8.out)
  clear hb hx2 hne hlaw HLAW HN7 HR7 HLO HCI HN8 HBX7 HB7 HWD ew
  have i3 : (i : Int) < (p : Int) := by have h1 := HI.out; omega
  by_cases he : id1 = x.f0
  · have HE := Aside0.mk he
    obtain ⟨w9, hw9⟩ : ∃ w9, w9 = w8.alloc (.cells #[] 25) := ⟨_, rfl⟩
    have HW9 := Aside0.mk hw9
    have HB9 := Aside0.mk (show Below w.heap.size w w9 by rw [hw9]; exact below_alloc HB8.out _)
    have HBX9 := Aside0.mk (show Below w8.heap.size w8 w9 by rw [hw9]; exact below_alloc (Below.refl _ _) _)
    have HR9 := Aside0.mk (show Kd.R k25 25 w9 w8.heap.size (fun _ => True) (.slice (some ⟨w8.heap.size, 0, none⟩) 0 0) [] by rw [hw9]; exact R_emptyE w8 _ (Nat.le_refl _))
    clear hw9
    go_wp2_with ((with_reducible refine gate_builtin (b := .append) (xs := #[.tmp 100, .tmp 101]) rfl ?_); at_builtin; rw [← HW9.out]; refine app_E (w0 := w9) w8.heap.size rfl (.tmp 100) (.tmp 101) rfl (.slice (some ⟨w8.heap.size, 0, none⟩) 0 0) [] l (some ad) p d rfl rfl HR9.out (Kd.C_below HC.out HB9.out) (Below.refl _ _) HBX9.out.size (by have h1 := HQ.out; rw [List.length_nil]; omega) ?_)
    intro A10 n10 c10 w10 hn10 hr10 hb10
    obtain ⟨g, c10b, hg, _⟩ := Kd.R_form hr10 (by omega)
    injection hg with hg1 hg2 hg3
    subst hg1 hg3
    obtain rfl : n10 = p := by rw [hg2, HP.out]
    have HBX10 := Aside0.mk (HBX9.out.trans hb10)
    have HR10 := Aside0.mk hr10
    clear hn10 hr10 hb10 hg2 HR9 HW9 hd0 hd1 HBX9 HB9 HP
    go_wp2_with (refine store_W (w0 := w10) w8.heap.size rfl rfl (.tmp 107) (.tmp 105) rfl i l hil x HX.out wt rfl rfl HR10.out (Below.refl _ _) ?_)
    intro w11 hr11 hb11
    have HB11 := Aside0.mk (HB8.out.trans ((HBX10.out.trans hb11).mono HB8.out.size))
    obtain ⟨hv, hhv⟩ : ∃ hv, hv = l.set i ⟨x.f0, wt⟩ := ⟨_, rfl⟩
    rw [← hhv] at hr11 HLAW3
    have HRR := Aside0.mk (Kd.R_reads' hr11)
    have HHL := Aside0.mk HRR.out.1
    clear hr11 hb11 hhv HR10 HBX10
    go_wp2_with fail
    (with_reducible refine (first_calls seed key pk HPK.out hv n10 HHL.out (by have h1 := HQ.out; omega) A c (some ⟨g, 0, none⟩) c10 w11 (Kd.C_below HK.out HB11.out) HKC.out (HHL.out ▸ HRR.out.2.2) HRR.out.2.1).mono ?_)
    rintro en w12 ⟨rfl, hb⟩
    have HB12 := Aside0.mk (HB11.out.trans (hb.mono HB11.out.size))
    obtain ⟨⟨id3, ok3⟩, hx3⟩ : ∃ y, y = firstS seed key hv := ⟨_, rfl⟩
    have hlaw := HLAW3.out
    rw [← hx3] at hlaw ⊢
    obtain ⟨rfl, hlaw⟩ : ok3 = true ∧ (id3 = _ ∨ id3 = _) := hlaw
    obtain ⟨hd0, hd1⟩ := HAT.out w12 (Kd.C_below HC.out HB12.out)
    clear hb hx3 HLAW3 HHL HRR
    by_cases h5 : id3 = id1
    · go_wp2_with fail
      go_ret
      exact ⟨by rfl, HB12.out⟩
    · obtain rfl : id3 = x.f0 := hlaw.resolve_left h5
      go_wp2_with fail
      go_ret
      exact ⟨by rfl, HB12.out⟩
  · obtain rfl : id2 = id1 := HNE.out he
    obtain ⟨w9, hw9⟩ : ∃ w9, w9 = w8.alloc (.cells #[] 25) := ⟨_, rfl⟩
    have HW9 := Aside0.mk hw9
    have HB9 := Aside0.mk (show Below w.heap.size w w9 by rw [hw9]; exact below_alloc HB8.out _)
    have HBX9 := Aside0.mk (show Below w8.heap.size w8 w9 by rw [hw9]; exact below_alloc (Below.refl _ _) _)
    have HR9 := Aside0.mk (show Kd.R k25 25 w9 w8.heap.size (fun _ => True) (.slice (some ⟨w8.heap.size, 0, none⟩) 0 0) [] by rw [hw9]; exact R_emptyE w8 _ (Nat.le_refl _))
    clear hw9
    go_wp2_with ((with_reducible refine gate_builtin (b := .append) (xs := #[.tmp 100, .tmp 101]) rfl ?_); at_builtin; rw [← HW9.out]; refine app_E (w0 := w9) w8.heap.size rfl (.tmp 100) (.tmp 101) rfl (.slice (some ⟨w8.heap.size, 0, none⟩) 0 0) [] l (some ad) p d rfl rfl HR9.out (Kd.C_below HC.out HB9.out) (Below.refl _ _) HBX9.out.size (by have h1 := HQ.out; rw [List.length_nil]; omega) ?_)
    intro A10 n10 c10 w10 hn10 hr10 hb10
    obtain ⟨g, c10b, hg, _⟩ := Kd.R_form hr10 (by omega)
    injection hg with hg1 hg2 hg3
    subst hg1 hg3
    obtain rfl : n10 = p := by rw [hg2, HP.out]
    have HBX10 := Aside0.mk (HBX9.out.trans hb10)
    have HR10 := Aside0.mk hr10
    clear hn10 hr10 hb10 hg2 HR9 HW9 hd0 hd1 HBX9 HB9 HP
    go_wp2_with (refine store_W (w0 := w10) w8.heap.size rfl rfl (.tmp 107) (.tmp 105) rfl i l hil x HX.out wt rfl rfl HR10.out (Below.refl _ _) ?_)
    intro w11 hr11 hb11
    have HB11 := Aside0.mk (HB8.out.trans ((HBX10.out.trans hb11).mono HB8.out.size))
    obtain ⟨hv, hhv⟩ : ∃ hv, hv = l.set i ⟨x.f0, wt⟩ := ⟨_, rfl⟩
    rw [← hhv] at hr11 HLAW3
    have HRR := Aside0.mk (Kd.R_reads' hr11)
    have HHL := Aside0.mk HRR.out.1
    clear hr11 hb11 hhv HR10 HBX10
    go_wp2_with fail
    (with_reducible refine (first_calls seed key pk HPK.out hv n10 HHL.out (by have h1 := HQ.out; omega) A c (some ⟨g, 0, none⟩) c10 w11 (Kd.C_below HK.out HB11.out) HKC.out (HHL.out ▸ HRR.out.2.2) HRR.out.2.1).mono ?_)
    rintro en w12 ⟨rfl, hb⟩
    have HB12 := Aside0.mk (HB11.out.trans (hb.mono HB11.out.size))
    obtain ⟨⟨id3, ok3⟩, hx3⟩ : ∃ y, y = firstS seed key hv := ⟨_, rfl⟩
    have hlaw := HLAW3.out
    rw [← hx3] at hlaw ⊢
    obtain ⟨rfl, hlaw⟩ : ok3 = true ∧ (id3 = _ ∨ id3 = _) := hlaw
    obtain ⟨hd0, hd1⟩ := HAT.out w12 (Kd.C_below HC.out HB12.out)
    clear hb hx3 HLAW3 HHL HRR
    by_cases h5 : id3 = id2
    · go_wp2_with fail
      go_ret
      exact ⟨by rfl, HB12.out⟩
    · obtain rfl : id3 = x.f0 := hlaw.resolve_left h5
      go_wp2_with fail
      go_ret
      exact ⟨by rfl, HB12.out⟩
end Go.Proofs.Ytonofmnjcocokaa.Rk
