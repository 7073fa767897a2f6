/- rank: RankTurns. Written by wip/gen/rkturn.py. -/
import Derived.Test.YtonofmnjcocokaaRkTurnM
namespace Go.Proofs.Ytonofmnjcocokaa.Rk
open Go.RowKit Go.Proofs.YtonofmnjcocokaaW.PrintWords Go.Proofs.YtonofmnjcocokaaW.PrintLast Go.Proofs.YtonofmnjcocokaaW.PrintMore Go.Proofs.Ytonofmnjcocokaa.X Go.Proofs.Ytonofmnjcocokaa.M Go.Proofs.Ytonofmnjcocokaa.Bv Go.Proofs.Ytonofmnjcocokaa.PuLib Go.Proofs.Ytonofmnjcocokaa.PuMix
attribute [local go_sem] max2_int min2_int max_two min_two max_three min_three max_four min_four
set_option linter.unusedVariables false
set_option linter.unusedSimpArgs false
theorem buildI64 : ∀ w : World, (Instr.build 29 #[]).run Try.prog w = .ok (.agg (arrV 64 fun _ => .int .i64 0)) w := fun w => by kernel_rfl
theorem zeroI64 : ∀ w : World, (zeroValue 29).run Try.prog w = .ok (.agg (arrV 64 fun _ => .int .i64 0)) w := fun w => by kernel_rfl
theorem at_I2 {w : World} {ad : Addr} {n : Nat} {l : List Int} (h : Kd.C (Kd.int .i64) w (some ad) n l) {k : Nat} {v : Int} (hv : l[k]? = some v) : w.cell? (ad.add k) = some (.int .i64 v) := by
  have hk := (List.getElem?_eq_some_iff.1 hv).1
  have hn : l.length = n := h.1
  obtain ⟨ad2, e, hc⟩ := h.2.2 (by omega)
  obtain rfl := Option.some.inj e
  obtain ⟨cs, _, hK, hcell⟩ := hc k v hv
  have hK' : cs = [.int .i64 v] := hK
  subst hK'
  have h1 := hcell 0 _ rfl
  have hsz : (Kd.int .i64).sz = 1 := rfl
  rw [hsz, Nat.mul_one, Nat.add_zero] at h1
  exact h1
theorem cutsB {w : World} {B : Option Addr} {p d : Nat} {l : List S25} (hp : p = l.length) {i : Nat} (hi : i ≤ p) (h : Kd.C k25 w B p l) (hd : p ≤ d) : ∀ W, Below w.heap.size w W → Kd.C k25 W B i (l.take i) ∧ Kd.C k25 W (if d = i then B else B.map (·.add (i * 2))) (p - i) (l.drop i) := by
  subst hp
  intro W hb
  have h1 := Kd.C_below h hb
  have h2 := Kd.C_take (m := i) h1 (by omega)
  have h3 := Kd.C_drop (m := i) (c := d) h1 (by omega) hd
  rw [List.length_take, Nat.min_eq_left (by omega)] at h2
  rw [List.length_drop] at h3
  exact ⟨h2, h3⟩
set_option maxRecDepth 100000 in
set_option maxHeartbeats 8000000 in
theorem turns_calls (seed : Int) (key : List Int) (pk : Nat) (hpk : pk = key.length) (l : List S25) (p : Nat) (hp : p = l.length) (tn : Int) (A : Option Addr) (c : Nat) (B : Option Addr) (d : Nat) (w : World) (hK : Kd.C (Kd.int .u8) w A pk key) (hkc : pk ≤ c) (hC : Kd.C k25 w B p l) (hc : p ≤ d) :
    Calls Try.prog 5 #[.int .u64 seed, .slice A pk c, .slice B p d, .int .i64 tn] w fun e w' => e = .returned (.bool true) ∧ Below w.heap.size w w' := by
  have HPK := Aside0.mk hpk
  have HP := Aside0.mk hp
  have HK := Aside0.mk hK
  have HC := Aside0.mk hC
  have HKC := Aside0.mk hkc
  have HD := Aside0.mk hc
  clear hpk hp hK hkc hC hc
  go_enter Try.func5, Try.ntmps5
  go_wp2_with fail
  (with_reducible refine (alive_calls _).mono ?_)
  rintro en w1 ⟨rfl, hb1⟩
  have HB1 := Aside0.mk hb1
  have HOK := Aside0.mk (rowK (t := 5) (u := 32) HPK.out (Kd.C_below HK.out hb1) HKC.out)
  clear hb1
  go_wp2_with fail
  (with_reducible refine (great_calls [key] 1 rfl l p HP.out (some ⟨w1.heap.size, 0, none⟩) 1 B d _ HOK.out (Nat.le_refl 1) (Kd.C_below HC.out (below_alloc HB1.out _)) HD.out).mono ?_)
  rintro en w2 ⟨r, rfl, hr, hd2⟩
  have HB2 := Aside0.mk ((below_alloc HB1.out _).trans (hd2.below.mono (below_alloc HB1.out _).size))
  clear hd2 HB1 HOK
  cases r with
  | true =>
    clear hr
    go_wp2_with fail
    go_ret
    exact ⟨rfl, HB2.out⟩
  | false =>
  have HQ := Aside0.mk (show p ≤ 80 from (hr rfl).2.2)
  clear hr
  go_wp2_with fail
  (with_reducible refine (unlike_calls l p HP.out (by have h1 := HQ.out; omega) B d w2 (Kd.C_below HC.out HB2.out) HD.out).mono ?_)
  rintro en w3 (⟨rfl, hb⟩ | ⟨rfl, hfine, hb⟩)
  · have HB3 := Aside0.mk (HB2.out.trans (hb.mono HB2.out.size))
    clear hb HB2
    go_wp2_with fail
    go_ret
    exact ⟨rfl, HB3.out⟩
  have HB3 := Aside0.mk (HB2.out.trans (hb.mono HB2.out.size))
  have HFI := Aside0.mk hfine
  clear hb HB2 hfine
  by_cases h1 : tn < 0
  · go_wp2_with fail
    go_ret
    exact ⟨rfl, HB3.out⟩
  obtain ⟨i, rfl⟩ := Int.eq_ofNat_of_zero_le (show 0 ≤ tn by omega)
  by_cases h2 : (p : Int) < (i : Int)
  · go_wp2_with fail
    go_ret
    exact ⟨rfl, HB3.out⟩
  have HI := Aside0.mk (show i ≤ p by omega)
  go_wp2_with fail
  clear h1 h2
  (with_reducible refine (ranked_calls seed key pk HPK.out l p HP.out (by have h1 := HQ.out; omega) A c B d w3 (Kd.C_below HK.out HB3.out) HKC.out (Kd.C_below HC.out HB3.out) HD.out).mono ?_)
  rintro en w4 ⟨A4, q, c4, rfl, hq, hr4, hb⟩
  obtain rfl : q = p := by rw [hq, orderS_length seed key HFI.out, HP.out]
  have HB4 := Aside0.mk (HB3.out.trans (hb.mono HB3.out.size))
  obtain ⟨od, hod⟩ : ∃ od, od = orderS seed key l := ⟨_, rfl⟩
  rw [← hod] at hr4 hq
  have HOD := Aside0.mk hod
  have HQO := Aside0.mk hq
  have HRO := Aside0.mk (show Kd.C (Kd.int .i64) w4 A4 q od ∧ q ≤ c4 from ⟨by have h1 := (Kd.R_reads' hr4).2.2; rw [← hq] at h1; exact h1, (Kd.R_reads' hr4).2.1⟩)
  clear hb hr4 hod hq HB3
  go_wp2_with fail
  obtain ⟨wd, hwd⟩ : ∃ wd, wd = w4.drew := ⟨_, rfl⟩
  have HBX := Aside0.mk (show Below w4.heap.size w4 wd by rw [hwd]; exact below_drew (Below.refl _ _))
  have HWD := Aside0.mk (show Below w.heap.size w wd from HB4.out.trans (HBX.out.mono HB4.out.size))
  obtain ⟨i0, hi0, _, hsz, _⟩ := info_parts infoE
  have hcut1 := fun W => cut_to (P := Try.prog) 26 25 .i64 Try.underlying26 hi0 B q d (i : Int) (by omega) (by have h1 := HI.out; omega) HD.out W
  have hcut2 := fun W => cut_from (P := Try.prog) 26 25 .i64 Try.underlying26 hi0 2 hsz B q d (i : Int) (by omega) (by have h1 := HI.out; omega) W
  obtain ⟨t1, ht1⟩ : ∃ t1, t1 = l.take i := ⟨_, rfl⟩
  obtain ⟨dr, hdr⟩ : ∃ dr, dr = l.drop i := ⟨_, rfl⟩
  have HTD := Aside0.mk (show t1.length = i ∧ dr.length = q - i by rw [ht1, hdr, List.length_take, List.length_drop, HP.out]; have h1 := HI.out; have h2 := HP.out; omega)
  have HPM := Aside0.mk (show (dr ++ t1).Perm l by rw [ht1, hdr]; exact List.perm_append_comm.trans (by rw [List.take_append_drop]))
  have HCI := Aside0.mk (cutsB HP.out HI.out HC.out HD.out)
  rw [← ht1, ← hdr] at HCI
  rw [Int.toNat_natCast] at hcut1 hcut2
  obtain ⟨A8, hA8⟩ : ∃ A8 : Option Addr, A8 = (if d = i then B else B.map (·.add (i * 2))) := ⟨_, rfl⟩
  obtain ⟨n8, hn8⟩ : ∃ n8, n8 = q - i := ⟨_, rfl⟩
  obtain ⟨c8, hc8⟩ : ∃ c8, c8 = d - i := ⟨_, rfl⟩
  rw [← hA8, ← hn8] at HCI
  rw [← hA8, ← hn8, ← hc8] at hcut2
  have HN8 := Aside0.mk (show i + n8 ≤ 80 ∧ n8 ≤ 80 by have h1 := HI.out; have h2 := HQ.out; omega)
  have HSS : Aside0 True := ⟨trivial⟩
  clear ht1 hdr hA8 hn8 hc8 hi0 hsz
  refine Held.wp_region_G (S := (fun _ : World => True)) (by kernel_rfl) ?_
  change Held.wpAnyG _ _ _ _ _ 13 _ _ _
  rw [← hwd]
  clear hwd
  refine Held.wpAnyG_take (i := 0) (v := (.int .u64 seed)) rfl (by kernel_rfl) (by kernel_rfl) (by kernel_rfl) (fun _ _ _ h => h) HSS.out (by first | (with_reducible rfl) | (simp [Region.wanted, yielded, Act.put]; done) | rfl) (fun W h => by go_simp) (some 44) rfl #[true, false, false, false, false, false, false, false, false, false, false, false, false] (by kernel_rfl) ?_
  simp only [Act.put, List.setIfInBounds_toArray, List.set_cons_zero, List.set_cons_succ]
  refine Held.wpAnyG_take (i := 1) (v := (.slice A pk c)) rfl (by kernel_rfl) (by kernel_rfl) (by kernel_rfl) (fun _ _ _ h => h) HSS.out (by first | (with_reducible rfl) | (simp [Region.wanted, yielded, Act.put]; done) | rfl) (fun W h => by go_simp) (some 45) rfl #[true, true, false, false, false, false, false, false, false, false, false, false, false] (by kernel_rfl) ?_
  simp only [Act.put, List.setIfInBounds_toArray, List.set_cons_zero, List.set_cons_succ]
  refine Held.wpAnyG_take (i := 3) (v := (.slice B q d)) rfl (by kernel_rfl) (by kernel_rfl) (by kernel_rfl) (fun _ _ _ h => h) HSS.out (by first | (with_reducible rfl) | (simp [Region.wanted, yielded, Act.put]; done) | rfl) (fun W h => by go_simp) (some 47) rfl #[true, true, false, true, false, false, false, false, false, false, false, false, false] (by kernel_rfl) ?_
  simp only [Act.put, List.setIfInBounds_toArray, List.set_cons_zero, List.set_cons_succ]
  refine Held.wpAnyG_take (i := 4) (v := (.int .i64 (i : Int))) rfl (by kernel_rfl) (by kernel_rfl) (by kernel_rfl) (fun _ _ _ h => h) HSS.out (by first | (with_reducible rfl) | (simp [Region.wanted, yielded, Act.put]; done) | rfl) (fun W h => by go_simp) (some 48) rfl #[true, true, false, true, true, false, false, false, false, false, false, false, false] (by kernel_rfl) ?_
  simp only [Act.put, List.setIfInBounds_toArray, List.set_cons_zero, List.set_cons_succ]
  refine Held.wpAnyG_take (i := 5) (v := (.slice A8 n8 c8)) rfl (by kernel_rfl) (by kernel_rfl) (by kernel_rfl) (fun _ _ _ h => h) HSS.out (by first | (with_reducible rfl) | (simp [Region.wanted, yielded, Act.put]; done) | rfl) (fun W h => by have hq := hcut2 W; go_simp) (some 49) rfl #[true, true, false, true, true, true, false, false, false, false, false, false, false] (by kernel_rfl) ?_
  simp only [Act.put, List.setIfInBounds_toArray, List.set_cons_zero, List.set_cons_succ]
  refine Held.wpAnyG_take (i := 7) (v := (.slice B q d)) rfl (by kernel_rfl) (by kernel_rfl) (by kernel_rfl) (fun _ _ _ h => h) HSS.out (by first | (with_reducible rfl) | (simp [Region.wanted, yielded, Act.put]; done) | rfl) (fun W h => by go_simp) (some 51) rfl #[true, true, false, true, true, true, false, true, false, false, false, false, false] (by kernel_rfl) ?_
  simp only [Act.put, List.setIfInBounds_toArray, List.set_cons_zero, List.set_cons_succ]
  refine Held.wpAnyG_take (i := 8) (v := (.int .i64 (i : Int))) rfl (by kernel_rfl) (by kernel_rfl) (by kernel_rfl) (fun _ _ _ h => h) HSS.out (by first | (with_reducible rfl) | (simp [Region.wanted, yielded, Act.put]; done) | rfl) (fun W h => by go_simp) (some 52) rfl #[true, true, false, true, true, true, false, true, true, false, false, false, false] (by kernel_rfl) ?_
  simp only [Act.put, List.setIfInBounds_toArray, List.set_cons_zero, List.set_cons_succ]
  refine Held.wpAnyG_take (i := 9) (v := (.slice B i d)) rfl (by kernel_rfl) (by kernel_rfl) (by kernel_rfl) (fun _ _ _ h => h) HSS.out (by first | (with_reducible rfl) | (simp [Region.wanted, yielded, Act.put]; done) | rfl) (fun W h => by have hq := hcut1 W; go_simp) (some 53) rfl #[true, true, false, true, true, true, false, true, true, true, false, false, false] (by kernel_rfl) ?_
  simp only [Act.put, List.setIfInBounds_toArray, List.set_cons_zero, List.set_cons_succ]
  refine Held.wpAnyG_one 2 (by kernel_rfl) rfl #[true, true, true, true, true, true, false, true, true, true, false, false, false] (by kernel_rfl) (fun K hK => ?_)
  go_wp2_with fail
  obtain ⟨w5, hw5⟩ : ∃ w5, w5 = wd.alloc (.cells #[] 25) := ⟨_, rfl⟩
  have HB5 := Aside0.mk (show Below w.heap.size w w5 by rw [hw5]; exact below_alloc HWD.out _)
  have HBX5 := Aside0.mk (show Below wd.heap.size wd w5 by rw [hw5]; exact below_alloc (Below.refl _ _) _)
  have HR5 := Aside0.mk (show Kd.R k25 25 w5 wd.heap.size (fun _ => True) (.slice (some ⟨wd.heap.size, 0, none⟩) 0 0) [] by rw [hw5]; exact R_emptyE wd _ (Nat.le_refl _))
  rw [← hw5]
  clear hw5
  refine hK _ _ trivial ?_
  clear hK K
  refine Held.wpAnyG_one 6 (by kernel_rfl) rfl #[true, true, true, true, true, true, true, true, true, true, false, false, false] (by kernel_rfl) (fun K hK => ?_)
  simp only [List.getElem_toArray, List.getElem_cons_succ, List.getElem_cons_zero]
  refine app_E (w0 := w5) wd.heap.size rfl (.tmp 46) (.tmp 49) rfl (.slice (some ⟨wd.heap.size, 0, none⟩) 0 0) [] dr A8 n8 c8 rfl rfl HR5.out (HCI.out _ HB5.out).2 (Below.refl _ _) HBX5.out.size (by have h1 := HN8.out; rw [List.length_nil]; omega) ?_
  intro A6 n6 c6 w6 hn6 hr6 hb6
  rw [List.nil_append] at hn6 hr6
  have HR6 := Aside0.mk hr6
  have HBX6 := Aside0.mk (HBX5.out.trans hb6)
  have HB6 := Aside0.mk (HWD.out.trans (HBX6.out.mono HWD.out.size))
  clear hr6 hb6 hn6 HR5
  go_wp2_with fail
  refine hK _ _ trivial ?_
  clear hK K
  refine Held.wpAnyG_one 10 (by kernel_rfl) rfl #[true, true, true, true, true, true, true, true, true, true, true, false, false] (by kernel_rfl) (fun K hK => ?_)
  simp only [List.getElem_toArray, List.getElem_cons_succ, List.getElem_cons_zero]
  refine app_E (w0 := w6) wd.heap.size rfl (.tmp 50) (.tmp 53) rfl (.slice A6 n6 c6) dr t1 B i d rfl rfl HR6.out (HCI.out _ HB6.out).1 (Below.refl _ _) HBX6.out.size (by have h1 := HN8.out; have h2 := HTD.out; have h3 := HQ.out; have h4 := HI.out; omega) ?_
  intro A7 n7 c7 w7 hn7 hr7 hb7
  have HN7 := Aside0.mk hn7
  have HR7 := Aside0.mk hr7
  have HBX7 := Aside0.mk (HBX6.out.trans hb7)
  have HB7 := Aside0.mk (HWD.out.trans (HBX7.out.mono HWD.out.size))
  clear hr7 hb7 hn7 HR6
  go_wp2_with fail
  refine hK _ _ trivial ?_
  clear hK K
  refine Held.wpAnyG_one 11 (by kernel_rfl) rfl #[true, true, true, true, true, true, true, true, true, true, true, true, false] (by kernel_rfl) (fun K hK => ?_)
  obtain ⟨o, ho⟩ : ∃ o, o = dr ++ t1 := ⟨_, rfl⟩
  rw [← ho] at HN7 HR7 HPM
  have HLO := Aside0.mk (show o.length = q by rw [HPM.out.length_eq, HP.out])
  clear ho
  go_wp2_with fail
  (with_reducible refine (ranked_calls seed key pk HPK.out o n7 HN7.out (by rw [HN7.out, HLO.out]; have h1 := HQ.out; omega) A c A7 c7 w7 (Kd.C_below HK.out HB7.out) HKC.out (HN7.out ▸ (Kd.R_reads' HR7.out).2.2) (HN7.out ▸ (Kd.R_reads' HR7.out).2.1)).mono ?_)
  rintro en w9 ⟨A9, q9, c9, rfl, hq9, hr9, hb⟩
  rw [orderS_perm seed key HFI.out HPM.out, ← HOD.out] at hq9 hr9
  rw [← HQO.out] at hq9
  subst q9
  have HBX9 := Aside0.mk (HBX.out.trans ((HBX7.out.trans (hb.mono HBX7.out.size)).mono HBX.out.size))
  have HB9 := Aside0.mk (HB4.out.trans (HBX9.out.mono HB4.out.size))
  have HR9 := Aside0.mk (show Kd.C (Kd.int .i64) w9 A9 q od ∧ q ≤ c9 from ⟨by have h1 := (Kd.R_reads' hr9).2.2; rw [← HQO.out] at h1; exact h1, (Kd.R_reads' hr9).2.1⟩)
  clear hb hr9 HN7 HR7 HPM HLO HBX7 HB7 HWD HN8 HCI HTD hcut1 hcut2
  go_wp2_with fail
  refine hK _ _ trivial ?_
  clear hK K
  refine Held.wpAnyG_last 12 (by kernel_rfl) rfl (by kernel_rfl) (by kernel_rfl) ?_
  go_wp2_with fail
  (with_reducible refine (sameI_calls od q HQO.out (by have h1 := HQ.out; omega) A4 c4 A9 c9 w9 (Kd.C_below HRO.out.1 HBX9.out) HRO.out.2 HR9.out.1 HR9.out.2).mono ?_)
  rintro en ws ⟨rfl, hds⟩
  have HBS := Aside0.mk (HB9.out.trans (hds.below.mono HB9.out.size))
  have HOS := Aside0.mk (Kd.C_below HRO.out.1 (HBX9.out.trans (hds.below.mono HBX9.out.size)))
  have HCS := Aside0.mk (Kd.C_below HC.out HBS.out)
  have HKS := Aside0.mk (Kd.C_below HK.out HBS.out)
  have HC4 := Aside0.mk HRO.out.2
  clear hds HBX9 HRO HR9 HB4 HB9
  have hz := zeroI64
  have hss := store_same (P := Try.prog) (W := ws) rfl (arrV 64 fun _ => .int .i64 0) 29 (arrV_one _ _ fun _ => rfl)
  go_wp2_with (refine wpList_build_of rfl 29 rfl (buildI64 _) ?_)
  clear hss hz
  have HI0 : Aside0 ((ws.alloc (.cells (arrV 64 fun _ => .int .i64 0) 29)).heap[ws.heap.size]? = some (.cells (arrV 64 fun j => .int .i64 (wtF (l.take 0) j)) 29 (0, 0)) ∧ Below ws.heap.size ws (ws.alloc (.cells (arrV 64 fun _ => .int .i64 0) 29))) := ⟨blk_new ws _, below_alloc (Below.refl _ _) _⟩
  go_loopw [12] (fun v12 wr => ∃ k : Nat, k ≤ q ∧ v12 = .int .i64 k ∧ Aside0 (wr.heap[ws.heap.size]? = some (.cells (arrV 64 fun j => .int .i64 (wtF (l.take k) j)) 29 (0, 0)) ∧ Below ws.heap.size ws wr)) (fun v12 _ => q - (intOf v12).toNat)
  case atStart => exact ⟨0, Nat.zero_le _, rfl, HI0⟩
  case round =>
    clear HI0
    obtain ⟨k, hk, rfl, HI1⟩ := hrel
    by_cases hlt : k < q
    · have HKL := Aside0.mk hlt
      have hkl : k < l.length := by have h1 := HP.out; omega
      obtain ⟨x, hx⟩ : ∃ x, l[k] = x := ⟨_, rfl⟩
      have HX := Aside0.mk hx
      have HTK := Aside0.mk (show l.take (k + 1) = l.take k ++ [x] by rw [List.take_succ_eq_append_getElem hkl, hx])
      have hrt := of_decide_eq_true (HFI.out.1 x (hx ▸ List.getElem_mem hkl))
      obtain ⟨ad, rfl, _⟩ := HCS.out.2.2 (by omega)
      obtain ⟨hd0, hd1⟩ := at_E2 (Kd.C_below HCS.out HI1.out.2) HP.out hlt hx
      obtain ⟨f0, f1⟩ := x
      dsimp only at hd0 hd1 hrt
      obtain ⟨j, rfl⟩ := Int.eq_ofNat_of_zero_le hrt.1
      have hj : j < 64 := by omega
      have hfr := blk_frozen HI1.out.1 j
      have hse := arrV_cell HI1.out.1 hj
      have e1 : ((0 : Int) ≤ (k : Int)) = True := eq_true (by omega)
      have e2 : ((k : Int) < (q : Int)) = True := eq_true (by omega)
      have e4 : ((0 : Int) ≤ (j : Int)) = True := eq_true (by omega)
      have e5 : ((j : Int) < 64) = True := eq_true (by omega)
      have e3 : (q : Int) ≤ 80 := by have h1 := HQ.out; omega
      have e2b : (k : Int) < (q : Int) := by omega
      clear HX hx hlt hkl hrt hk
      go_wp2_with fail
      go_still_tail 10, (by kernel_rfl)
      change wpList _ _ _ _ _ wr.drew
      go_wp2_with fail
      go_roundw
      case measure => simp [intOf]; have h1 := HKL.out; omega
      case rel =>
        refine ⟨k + 1, by have h1 := HKL.out; omega, by go_num, ⟨?_, ?_⟩⟩
        · have h5 := arrV_put (i := j) HI1.out.1 (.int .i64 f1)
          rw [HTK.out, wtF_snoc]
          have hf : (fun j2 : Nat => Value.int .i64 ((fun j1 : Nat => if (j1 : Int) = (j : Int) then f1 else wtF (l.take k) j1) j2)) = (fun j2 => if j2 = j then Value.int .i64 f1 else .int .i64 (wtF (l.take k) j2)) := by
            funext j2
            dsimp only
            by_cases h : j2 = j
            · subst h; rw [if_pos rfl, if_pos rfl]
            · rw [if_neg (by omega), if_neg h]
          show (wr.drew.setCell _ _).heap[ws.heap.size]? = some (.cells (arrV 64 (fun j2 : Nat => Value.int .i64 ((fun j1 : Nat => if (j1 : Int) = (j : Int) then f1 else wtF (l.take k) j1) j2))) 29 (0, 0))
          rw [hf]
          exact h5
        · exact below_drew (HI1.out.2.setCell (p := ⟨ws.heap.size, j, none⟩) (Nat.le_refl _) _)
    · have hkq : k = q := by omega
      subst k
      have HW0 := Aside0.mk (show wr.heap[ws.heap.size]? = some (.cells (arrV 64 fun j => .int .i64 (wlF l (od.take 0) j)) 29 (0, 0)) by
        have h1 := HI1.out.1
        rw [List.take_of_length_le (Nat.le_of_eq HP.out.symm)] at h1
        exact h1)
      have HBR := Aside0.mk HI1.out.2
      clear HI1 hlt
      go_wp2_with fail
      clear HCS
      have HI0 : Aside0 (wr.heap[ws.heap.size]? = some (.cells (arrV 64 fun j => .int .i64 (wlF l (od.take 0) j)) 29 (0, 0)) ∧ Below ws.heap.size ws wr) := ⟨HW0.out, HBR.out⟩
      go_loopw [13, 14] (fun v13 v14 wr => ∃ k : Nat, k ≤ q ∧ v14 = .int .i64 k ∧ v13 = .int .u64 (lastF seed key l k) ∧ Aside0 (wr.heap[ws.heap.size]? = some (.cells (arrV 64 fun j => .int .i64 (wlF l (od.take k) j)) 29 (0, 0)) ∧ Below ws.heap.size ws wr)) (fun _ v14 _ => q - (intOf v14).toNat)
      case atStart => exact ⟨0, Nat.zero_le _, rfl, rfl, HI0⟩
      case round =>
        clear HI0 HW0 HBR
        obtain ⟨k, hk, rfl, rfl, HI2⟩ := hrel
        by_cases hlt : k < q
        · have HKL := Aside0.mk hlt
          obtain ⟨e, hel, hran, hode, htk, hnin⟩ := ran_at seed key HFI.out (show k < l.length by have h1 := HP.out; omega)
          rw [← HOD.out] at hode htk hnin
          obtain ⟨hla, hlb⟩ := last_le seed key hran
          have hrt := of_decide_eq_true (HFI.out.1 e hel)
          have HRT := Aside0.mk (HFI.out.1 e hel)
          have hwm := fun (j : Nat) (hj : (j : Int) = e.f0) => wtF_mem HFI.out hel hj
          obtain ⟨f0, f1⟩ := e
          dsimp only at hode htk hnin hrt HRT hwm
          obtain ⟨j, rfl⟩ := Int.eq_ofNat_of_zero_le hrt.1
          have hj : j < 64 := by omega
          obtain ⟨ad, rfl, _⟩ := HOS.out.2.2 (by omega)
          have hc1 := at_I2 (Kd.C_below HOS.out HI2.out.2) hode
          have hc2 := arrV_cell HI2.out.1 hj
          have hw1 : wlF l (od.take k) j = f1 := by unfold wlF; rw [if_neg hnin, hwm j rfl]
          rw [hw1] at hc2
          have hfr := blk_frozen HI2.out.1 j
          obtain ⟨sc, hsc⟩ : ∃ sc, sc = (enS seed key ⟨(j : Int), f1⟩).2 := ⟨_, rfl⟩
          rw [← hsc] at hla hlb
          have HSC := Aside0.mk (show scoreS seed key j f1 = (sc, true) by
            rw [hsc]
            unfold enS scoreS
            dsimp only
            rw [if_pos HRT.out])
          have HLB := Aside0.mk hlb
          have HTK := Aside0.mk htk
          obtain ⟨la, hla2⟩ : ∃ la, la = lastF seed key l k := ⟨_, rfl⟩
          rw [← hla2] at hla ⊢
          have HHC := Aside0.mk (And.intro hc1 hc2)
          have HODE := Aside0.mk hode
          have HW1 := Aside0.mk hw1
          have e1 : ((0 : Int) ≤ (k : Int)) = True := eq_true (by omega)
          have e2 : ((k : Int) < (q : Int)) = True := eq_true (by omega)
          have e4 : ((0 : Int) ≤ (j : Int)) = True := eq_true (by omega)
          have e5 : ((j : Int) < 64) = True := eq_true (by omega)
          have e6 : ¬ 63 < (j : Int) := by omega
          have e7 : (f1 == 0) = false := beq_eq_false_iff_ne.2 (by omega)
          have e8 : ¬ f1 = 0 := by omega
          have e9 : ¬ (j : Int) < 0 := by omega
          have e2b : (k : Int) < (q : Int) := by omega
          have e3 : (q : Int) ≤ 80 := by have h1 := HQ.out; omega
          have e10 : ¬ la < sc := by omega
          clear hel hran hode htk hnin hrt hwm hw1 hsc hlb hla2 hla hlt hk
          go_wp2_with fail
          clear hc1 hc2 hfr
          have HSS := Aside0.mk (show wr.drew.cell? (ad.add k) = some (.int .i64 (j : Int)) ∧ wr.drew.cell? ⟨ws.heap.size, j, none⟩ = some (.int .i64 f1) from HHC.out)
          refine Held.wp_region_G (S := (fun W : World => W.cell? (ad.add k) = some (.int .i64 (j : Int)) ∧ W.cell? ⟨ws.heap.size, j, none⟩ = some (.int .i64 f1))) (by kernel_rfl) ?_
          change Held.wpAnyG _ _ _ _ _ 19 _ _ _
          refine Held.wpAnyG_take (i := 0) (v := (.int .u64 seed)) rfl (by kernel_rfl) (by kernel_rfl) (by kernel_rfl) (fun _ _ _ h => h) HSS.out (by first | (with_reducible rfl) | (simp [Region.wanted, yielded, Act.put]; done) | rfl) (fun W h => by go_simp) (some 113) rfl #[true, false, false, false, false, false, false, false, false, false, false, false, false, false, false, false, false, false, false] (by kernel_rfl) ?_
          simp only [Act.put, List.setIfInBounds_toArray, List.set_cons_zero, List.set_cons_succ]
          refine Held.wpAnyG_take (i := 1) (v := (.slice A pk c)) rfl (by kernel_rfl) (by kernel_rfl) (by kernel_rfl) (fun _ _ _ h => h) HSS.out (by first | (with_reducible rfl) | (simp [Region.wanted, yielded, Act.put]; done) | rfl) (fun W h => by go_simp) (some 114) rfl #[true, true, false, false, false, false, false, false, false, false, false, false, false, false, false, false, false, false, false] (by kernel_rfl) ?_
          simp only [Act.put, List.setIfInBounds_toArray, List.set_cons_zero, List.set_cons_succ]
          refine Held.wpAnyG_take (i := 2) (v := (.slice (some ad) q c4)) rfl (by kernel_rfl) (by kernel_rfl) (by kernel_rfl) (fun _ _ _ h => h) HSS.out (by first | (with_reducible rfl) | (simp [Region.wanted, yielded, Act.put]; done) | rfl) (fun W h => by go_simp) (some 115) rfl #[true, true, true, false, false, false, false, false, false, false, false, false, false, false, false, false, false, false, false] (by kernel_rfl) ?_
          simp only [Act.put, List.setIfInBounds_toArray, List.set_cons_zero, List.set_cons_succ]
          refine Held.wpAnyG_take (i := 3) (v := (.int .i64 (k : Int))) rfl (by kernel_rfl) (by kernel_rfl) (by kernel_rfl) (fun _ _ _ h => h) HSS.out (by first | (with_reducible rfl) | (simp [Region.wanted, yielded, Act.put]; done) | rfl) (fun W h => by go_simp) (some 116) rfl #[true, true, true, true, false, false, false, false, false, false, false, false, false, false, false, false, false, false, false] (by kernel_rfl) ?_
          simp only [Act.put, List.setIfInBounds_toArray, List.set_cons_zero, List.set_cons_succ]
          refine Held.wpAnyG_take (i := 4) (v := (.pointer (some (ad.add k)))) rfl (by kernel_rfl) (by kernel_rfl) (by kernel_rfl) (fun _ _ _ h => h) HSS.out (by first | (with_reducible rfl) | (simp [Region.wanted, yielded, Act.put]; done) | rfl) (fun W h => by go_simp) (some 117) rfl #[true, true, true, true, true, false, false, false, false, false, false, false, false, false, false, false, false, false, false] (by kernel_rfl) ?_
          simp only [Act.put, List.setIfInBounds_toArray, List.set_cons_zero, List.set_cons_succ]
          refine Held.wpAnyG_take (i := 5) (v := (.int .i64 (j : Int))) rfl (by kernel_rfl) (by kernel_rfl) (by kernel_rfl) (fun _ _ _ h => h) HSS.out (by first | (with_reducible rfl) | (simp [Region.wanted, yielded, Act.put]; done) | rfl) (fun W1 hs => by have hx1 := hs.1; have hx2 := hs.2; go_simp) (some 118) rfl #[true, true, true, true, true, true, false, false, false, false, false, false, false, false, false, false, false, false, false] (by kernel_rfl) ?_
          simp only [Act.put, List.setIfInBounds_toArray, List.set_cons_zero, List.set_cons_succ]
          refine Held.wpAnyG_take (i := 6) (v := (.slice (some ad) q c4)) rfl (by kernel_rfl) (by kernel_rfl) (by kernel_rfl) (fun _ _ _ h => h) HSS.out (by first | (with_reducible rfl) | (simp [Region.wanted, yielded, Act.put]; done) | rfl) (fun W h => by go_simp) (some 119) rfl #[true, true, true, true, true, true, true, false, false, false, false, false, false, false, false, false, false, false, false] (by kernel_rfl) ?_
          simp only [Act.put, List.setIfInBounds_toArray, List.set_cons_zero, List.set_cons_succ]
          refine Held.wpAnyG_take (i := 7) (v := (.int .i64 (k : Int))) rfl (by kernel_rfl) (by kernel_rfl) (by kernel_rfl) (fun _ _ _ h => h) HSS.out (by first | (with_reducible rfl) | (simp [Region.wanted, yielded, Act.put]; done) | rfl) (fun W h => by go_simp) (some 120) rfl #[true, true, true, true, true, true, true, true, false, false, false, false, false, false, false, false, false, false, false] (by kernel_rfl) ?_
          simp only [Act.put, List.setIfInBounds_toArray, List.set_cons_zero, List.set_cons_succ]
          refine Held.wpAnyG_take (i := 8) (v := (.pointer (some (ad.add k)))) rfl (by kernel_rfl) (by kernel_rfl) (by kernel_rfl) (fun _ _ _ h => h) HSS.out (by first | (with_reducible rfl) | (simp [Region.wanted, yielded, Act.put]; done) | rfl) (fun W h => by go_simp) (some 121) rfl #[true, true, true, true, true, true, true, true, true, false, false, false, false, false, false, false, false, false, false] (by kernel_rfl) ?_
          simp only [Act.put, List.setIfInBounds_toArray, List.set_cons_zero, List.set_cons_succ]
          refine Held.wpAnyG_take (i := 9) (v := (.int .i64 (j : Int))) rfl (by kernel_rfl) (by kernel_rfl) (by kernel_rfl) (fun _ _ _ h => h) HSS.out (by first | (with_reducible rfl) | (simp [Region.wanted, yielded, Act.put]; done) | rfl) (fun W1 hs => by have hx1 := hs.1; have hx2 := hs.2; go_simp) (some 122) rfl #[true, true, true, true, true, true, true, true, true, true, false, false, false, false, false, false, false, false, false] (by kernel_rfl) ?_
          simp only [Act.put, List.setIfInBounds_toArray, List.set_cons_zero, List.set_cons_succ]
          refine Held.wpAnyG_take (i := 10) (v := (.pointer (some ⟨ws.heap.size, j, none⟩))) rfl (by kernel_rfl) (by kernel_rfl) (by kernel_rfl) (fun _ _ _ h => h) HSS.out (by first | (with_reducible rfl) | (simp [Region.wanted, yielded, Act.put]; done) | rfl) (fun W h => by go_simp) (some 123) rfl #[true, true, true, true, true, true, true, true, true, true, true, false, false, false, false, false, false, false, false] (by kernel_rfl) ?_
          simp only [Act.put, List.setIfInBounds_toArray, List.set_cons_zero, List.set_cons_succ]
          refine Held.wpAnyG_take (i := 11) (v := (.int .i64 f1)) rfl (by kernel_rfl) (by kernel_rfl) (by kernel_rfl) (fun _ _ _ h => h) HSS.out (by first | (with_reducible rfl) | (simp [Region.wanted, yielded, Act.put]; done) | rfl) (fun W1 hs => by have hx1 := hs.1; have hx2 := hs.2; go_simp) (some 124) rfl #[true, true, true, true, true, true, true, true, true, true, true, true, false, false, false, false, false, false, false] (by kernel_rfl) ?_
          simp only [Act.put, List.setIfInBounds_toArray, List.set_cons_zero, List.set_cons_succ]
          refine Held.wpAnyG_take (i := 12) (v := (.agg #[.int .i64 (j : Int), .int .i64 f1])) rfl (by kernel_rfl) (by kernel_rfl) (by kernel_rfl) (fun _ _ _ h => h) HSS.out (by first | (with_reducible rfl) | (simp [Region.wanted, yielded, Act.put]; done) | rfl) (fun W h => by go_simp) (some 125) rfl #[true, true, true, true, true, true, true, true, true, true, true, true, true, false, false, false, false, false, false] (by kernel_rfl) ?_
          simp only [Act.put, List.setIfInBounds_toArray, List.set_cons_zero, List.set_cons_succ]
          refine Held.wpAnyG_one 13 (by kernel_rfl) rfl #[true, true, true, true, true, true, true, true, true, true, true, true, true, true, false, false, false, false, false] (by kernel_rfl) (fun K hK => ?_)
          have HBK := Aside0.mk (below_drew (HI2.out.2))
          have HBW := Aside0.mk (HBS.out.trans (HBK.out.mono HBS.out.size))
          go_wp2_with fail
          (with_reducible refine (score_calls seed key pk HPK.out (j : Int) f1 A c _ _ (Kd.C_F (Kd.heap_int .u8) (Kd.C_below HK.out HBW.out)) HKC.out).mono ?_)
          rintro en wy ⟨rfl, hby⟩
          rw [HSC.out]
          have HHY := Aside0.mk (show wy.heap[ws.heap.size]? = some (.cells (arrV 64 fun j => .int .i64 (wlF l (od.take k) j)) 29 (0, 0)) from blk_below (blk_drew HI2.out.1) hby)
          have HBY := Aside0.mk (HBK.out.trans (hby.mono HBK.out.size))
          have HSS := Aside0.mk (And.intro (at_I2 (Kd.C_below HOS.out HBY.out) HODE.out) (show wy.cell? ⟨ws.heap.size, j, none⟩ = some (.int .i64 f1) by rw [← HW1.out]; exact arrV_cell HHY.out hj))
          clear hby HBK HBW
          go_wp2_with fail
          refine hK _ _ HSS.out ?_
          clear hK K
          refine Held.wpAnyG_take (i := 14) (v := (.tuple #[.int .u64 sc, .bool true])) rfl (by kernel_rfl) (by kernel_rfl) (by kernel_rfl) (fun _ _ _ h => h) HSS.out (by first | (with_reducible rfl) | (simp [Region.wanted, yielded, Act.put]; done) | rfl) (fun W h => by go_simp) (some 112) rfl #[true, true, true, true, true, true, true, true, true, true, true, true, true, true, true, false, false, false, false] (by kernel_rfl) ?_
          simp only [Act.put, List.setIfInBounds_toArray, List.set_cons_zero, List.set_cons_succ]
          refine Held.wpAnyG_take (i := 15) (v := (.int .u64 sc)) rfl (by kernel_rfl) (by kernel_rfl) (by kernel_rfl) (fun _ _ _ h => h) HSS.out (by first | (with_reducible rfl) | (simp [Region.wanted, yielded, Act.put]; done) | rfl) (fun W h => by go_simp) (some 127) rfl #[true, true, true, true, true, true, true, true, true, true, true, true, true, true, true, true, false, false, false] (by kernel_rfl) ?_
          simp only [Act.put, List.setIfInBounds_toArray, List.set_cons_zero, List.set_cons_succ]
          refine Held.wpAnyG_take (i := 16) (v := (.bool true)) rfl (by kernel_rfl) (by kernel_rfl) (by kernel_rfl) (fun _ _ _ h => h) HSS.out (by first | (with_reducible rfl) | (simp [Region.wanted, yielded, Act.put]; done) | rfl) (fun W h => by go_simp) (some 128) rfl #[true, true, true, true, true, true, true, true, true, true, true, true, true, true, true, true, true, false, false] (by kernel_rfl) ?_
          simp only [Act.put, List.setIfInBounds_toArray, List.set_cons_zero, List.set_cons_succ]
          refine Held.wpAnyG_one 17 (by kernel_rfl) rfl #[true, true, true, true, true, true, true, true, true, true, true, true, true, true, true, true, true, true, false] (by kernel_rfl) (fun K hK => ?_)
          go_wp2_with fail
          refine hK _ _ HSS.out ?_
          clear hK K
          refine Held.wpAnyG_last 18 (by kernel_rfl) rfl (by kernel_rfl) (by kernel_rfl) ?_
          have hc1 := HSS.out.1
          have hc2 := HSS.out.2
          have hfr := blk_frozen HHY.out j
          go_wp2_with fail
          go_roundw
          case measure => simp [intOf]; omega
          case rel =>
            refine ⟨k + 1, by have h1 := HKL.out; omega, by go_num, by rw [HLB.out], ⟨?_, ?_⟩⟩
            · have h5 := arrV_put (i := j) HHY.out (.int .i64 0)
              rw [HTK.out, ← wlF_snoc]
              have hf : (fun j2 : Nat => Value.int .i64 ((fun j1 : Nat => if j1 = j then (0 : Int) else wlF l (od.take k) j1) j2)) = (fun j2 => if j2 = j then Value.int .i64 0 else .int .i64 (wlF l (od.take k) j2)) := by
                funext j2
                dsimp only
                split <;> rfl
              show (wy.setCell _ _).heap[ws.heap.size]? = some (.cells (arrV 64 (fun j2 : Nat => Value.int .i64 ((fun j1 : Nat => if j1 = j then (0 : Int) else wlF l (od.take k) j1) j2))) 29 (0, 0))
              rw [hf]
              exact h5
            · exact HBY.out.setCell (p := ⟨ws.heap.size, j, none⟩) (Nat.le_refl _) _
        · have hkq : k = q := by omega
          subst k
          have HB := Aside0.mk (HBS.out.trans (HI2.out.2.mono HBS.out.size))
          have HO2 := Aside0.mk (Kd.C_below HOS.out HI2.out.2)
          clear HI2 hlt
          go_wp2_with fail
          (with_reducible refine (first_calls seed key pk HPK.out l q HP.out (by have h1 := HQ.out; omega) A c B d wr (Kd.C_below HK.out HB.out) HKC.out (Kd.C_below HC.out HB.out) HD.out).mono ?_)
          rintro en wz ⟨rfl, hbz⟩
          have HBZ := Aside0.mk (HB.out.trans (hbz.mono HB.out.size))
          obtain ⟨hfo1, hfo2⟩ := first_order seed key HFI.out
          rw [← HOD.out, ← HP.out] at hfo2
          rw [← HP.out] at hfo1
          obtain ⟨⟨id, ok⟩, hx⟩ : ∃ y, y = firstS seed key l := ⟨_, rfl⟩
          rw [← hx] at hfo1 hfo2 ⊢
          dsimp only at hfo1 hfo2
          by_cases h0 : 0 < q
          · obtain ⟨ad, rfl, _⟩ := HO2.out.2.2 h0
            have hc := at_I2 (Kd.C_below HO2.out hbz) (hfo2 h0)
            have e1 : (0 : Int) < (q : Int) := by omega
            rw [decide_eq_true e1] at hfo1
            subst hfo1
            clear hx hfo2 hbz
            rw [Addr.add_zero'] at hc
            go_wp2_with fail
            go_ret
            exact ⟨rfl, HBZ.out⟩
          · obtain rfl : q = 0 := by omega
            rw [decide_eq_false (by omega)] at hfo1
            subst hfo1
            clear hx hfo2 hbz
            go_wp2_with fail
            go_ret
            exact ⟨rfl, HBZ.out⟩
end Go.Proofs.Ytonofmnjcocokaa.Rk
