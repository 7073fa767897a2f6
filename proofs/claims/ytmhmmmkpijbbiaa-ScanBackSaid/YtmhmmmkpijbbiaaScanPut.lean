/- put of the law: one part to both writers; what was handed in is changed behind it. Written by wip/gen/scanput.py. -/
import Derived.Test.YtmhmmmkpijbbiaaScanPair
namespace Go.Proofs.Ytmhmmmkpijbbiaa.M
open Go.RowKit Go.Proofs.YtmhmmmkpijbbiaaW.PrintWords Go.Proofs.YtmhmmmkpijbbiaaW.PrintLast Go.Proofs.YtmhmmmkpijbbiaaW.PrintMore Go.Proofs.Ytmhmmmkpijbbiaa.X
attribute [local go_sem] max2_int min2_int max_two min_two max_three min_three max_four min_four
set_option linter.unusedVariables false
set_option linter.unusedSimpArgs false
/-- What a part leaves in both. -/
def putf (k : Nat) (e : Int) (l : List Int) (e' : Int) (l' : List Int) (w size v : Int) (bs : List Int) : Option ((Int × List Int) × (Int × List Int)) :=
  if w = 0 then (wrNum k e l v size).bind fun p => (wfNum k e' l' v size).bind fun q => some (p, q)
  else if w = 1 then (wrParts k e l [bs.take (bs.length / 2), bs.drop (bs.length / 2)]).bind fun p => if l'.length + bs.length ≤ 140737488355328 then some (p, putS2 e' 0 l' bs) else none
  else if w = 2 then (wrVars k e l [v, 7]).bind fun p => (wfVars k e' l' [v, 7]).bind fun q => some (p, q)
  else if w = 3 then (wrShortG k e l bs).bind fun p => (wfShort e' l' bs).bind fun q => some (p, q)
  else if w = 4 then (wrLongG k e l bs).bind fun p => (wfLong k e' l' bs).bind fun q => some (p, q)
  else some ((e, l), (e', l'))
set_option maxRecDepth 100000 in
set_option maxHeartbeats 4000000 in
theorem lput_calls (k : Nat) (W : World) (g s B : Nat) (e e' : Int) (l l' : List Int) (w size v : Int) (bs : List Int) (A3 : Option Addr) (c3 : Nat) (PB : Nat → Prop) (e2 f2 : Int) (m m' : List Int) (hP : Pair W g s B e l e' l') (hF : Kd.F (Kd.int .u8) W PB A3 bs.length bs) (hPB : ∀ i, PB i → i < B) (hc : bs.length ≤ c3) (hbl : bs.length < 140737488355328) (h : putf k e l e' l' w size v bs = some ((e2, m), (f2, m'))) :
    Calls Try.prog 10 #[.pointer (some ⟨g, 0, none⟩), .pointer (some ⟨s, 0, none⟩), .agg #[.int .i64 w, .int .i64 size, .int .u64 v, .slice A3 bs.length c3]] W fun en W' => en = .returned (.bool true) ∧ Pair W' g s B e2 m f2 m' ∧ Below B W W' ∧ KeepP W W' g s := by
  have hgl := hP.w.row_lt
  have hsl := hP.f.row_lt
  have hgB : B ≤ g := by obtain ⟨_, _, _, h⟩ := hP.w; exact h
  have hsB : B ≤ s := by obtain ⟨_, _, _, h⟩ := hP.f; exact h
  obtain ⟨w1, hw1⟩ : ∃ w1, w1 = W.alloc (.cells #[.int .i64 w, .int .i64 size, .int .u64 v, .slice A3 bs.length c3] 35) := ⟨_, rfl⟩
  have hb1 : Below W.heap.size W w1 := by rw [hw1]; exact below_alloc (Below.refl _ _) _
  obtain ⟨b, hb⟩ : ∃ b, b = W.heap.size := ⟨_, rfl⟩
  have hbk : w1.heap[b]? = some (.cells #[.int .i64 w, .int .i64 size, .int .u64 v, .slice A3 bs.length c3] 35 (0, 0)) := by rw [hw1, hb]; exact blk_new W _
  have HBW := Aside0.mk (show B ≤ W.heap.size from Nat.le_of_lt (Nat.lt_of_le_of_lt hgB hgl))
  obtain ⟨hP1, hK1⟩ := hP.below hb1
  have HXB := Aside0.mk (show ApartW w1 g b ∧ ApartF w1 s b from ⟨apart_new hP.w hb1 (by rw [hb]; exact Nat.le_refl _), apartF_new hP.f hb1 (by rw [hb]; exact Nat.le_refl _)⟩)
  have HF1 := Aside0.mk (Kd.F_below hF hb1)
  have HPB := Aside0.mk hPB
  have HC3 := Aside0.mk hc
  have HBL := Aside0.mk hbl
  have HP1 := Aside0.mk hP1
  have HK1 := Aside0.mk hK1
  have HB1 := Aside0.mk hb1
  have HGL := Aside0.mk hgl
  have HSL := Aside0.mk hsl
  have HBK := Aside0.mk hbk
  have hk0 := blk_cell hbk 0
  have hk1 := blk_cell hbk 1
  have hk2 := blk_cell hbk 2
  have hk3 := blk_cell hbk 3
  simp at hk0 hk1 hk2 hk3
  clear hP hF hPB hc hbl hP1 hK1 hb1 hgl hsl hbk hgB hsB
  unfold putf at h
  have hall : ∀ (w3 : World) (vo : Value) (x : World → Prop), True := fun _ _ _ => trivial
  clear hall
  go_enter Try.func10, Try.ntmps10
  go_upto_region 1 with (fail)
  rw [← hw1, ← hb]
  clear hw1 hb
  go_wp2_with fail
  (with_reducible refine (crosswayref00_CopyBytes.calls A3 c3 bs bs w1 (Kd.F_now HF1.out) HC3.out (by rw [crosswayref00_CopyBytes.f, Option.bind_some, if_pos (by have := HBL.out; simpa using this), List.nil_append])).mono ?_)
  rintro en w2 ⟨vo, rfl, hro, hb2⟩
  obtain ⟨Ao, co, rfl, hco, _⟩ := row_at hro
  obtain ⟨hP2, hK2⟩ := HP1.out.below hb2
  have HOX := Aside0.mk (show ∀ i, some i = (Value.slice Ao bs.length co).ownBlock → ApartW w2 g i ∧ ApartF w2 s i from fun i hi => ⟨apart_new HP1.out.w hb2 (Kd.R_base hro i hi.symm), apartF_new HP1.out.f hb2 (Kd.R_base hro i hi.symm)⟩)
  have HXB2 := Aside0.mk (hK2.2 b (blk_lt HBK.out) HXB.out.1 HXB.out.2).2
  have HBK2 := Aside0.mk (blk_below HBK.out hb2)
  have HRO := Aside0.mk hro
  have HCO := Aside0.mk hco
  have HP2 := Aside0.mk hP2
  have HK2 := Aside0.mk (HK1.out.trans hK2)
  have HBW2 := Aside0.mk ((HB1.out.trans (hb2.mono HB1.out.size)).mono HBW.out)
  have HF2 := Aside0.mk (Kd.F_below HF1.out hb2)
  have HBO := Aside0.mk (show W.heap.size ≤ w1.heap.size from HB1.out.size)
  clear hro hco hb2 hP2 hK2 hk0 hk1 hk2 hk3 HP1 HK1 HB1 HF1 HXB HBK
  have hk0 := blk_cell HBK2.out 0
  have hk1 := blk_cell HBK2.out 1
  have hk2 := blk_cell HBK2.out 2
  have hk3 := blk_cell HBK2.out 3
  simp at hk0 hk1 hk2 hk3
  by_cases hw0 : w = 0
  · subst hw0
    rw [if_pos rfl] at h
    obtain ⟨⟨p1, p2⟩, hp, h2⟩ := Option.bind_eq_some_iff.1 h
    clear h
    obtain ⟨⟨q1, q2⟩, hq, h3⟩ := Option.bind_eq_some_iff.1 h2
    clear h2
    simp only [Option.some.injEq, Prod.mk.injEq] at h3
    obtain ⟨⟨ha, hb⟩, ⟨hc, hd⟩⟩ := h3
    have ha := ha.symm
    have hb := hb.symm
    have hc := hc.symm
    have hd := hd.symm
    subst ha hb hc hd
    have HP := Aside0.mk hp
    have HQ := Aside0.mk hq
    clear hp hq
    go_wp2_with fail
    have HPQ := HP2
    have HKQ := HK2
    have HBQ := HBW2
    have HRQ := HRO
    have HOQX := HOX
    have HBKQ := HBK2
    have HXBQ := HXB2
    have HFQ := HF2
    clear HP2 HK2 HBW2 HRO HOX HBK2 HXB2 HF2
    refine (wnumG k _ g B e _ l _ v size HPQ.out.w HP.out).mono ?_
    rintro en w3 ⟨rfl, hw3, hb3, hkw3⟩
    obtain ⟨hP3, hKP3⟩ := HPQ.out.progress hw3 hkw3
    have HP3 := Aside0.mk hP3
    have HK3 := Aside0.mk (HKQ.out.trans hKP3)
    have HB3 := Aside0.mk (HBQ.out.trans hb3)
    have HR3 := Aside0.mk (hKP3.R HRQ.out HOQX.out)
    have HOX3 := Aside0.mk (show ∀ i, some i = (Value.slice Ao bs.length co).ownBlock → ApartW w3 g i ∧ ApartF w3 s i from fun i hi => (hKP3.2 i (Kd.R_lt HRQ.out i hi.symm) (HOQX.out i hi).1 (HOQX.out i hi).2).2)
    have HBK3 := Aside0.mk (hKP3.blk HBKQ.out HXBQ.out.1 HXBQ.out.2)
    have HF3 := Aside0.mk (Kd.F_step HFQ.out (fun i ho _ => hb3.block i (HPB.out i ho)))
    clear hw3 hb3 hkw3 hP3 hKP3 HPQ HKQ HBQ HRQ HOQX HBKQ HXBQ HFQ hk0 hk1 hk2 hk3
    have hk0 := blk_cell HBK3.out 0
    have hk1 := blk_cell HBK3.out 1
    have hk2 := blk_cell HBK3.out 2
    have hk3 := blk_cell HBK3.out 3
    simp at hk0 hk1 hk2 hk3
    have hpp := ptr_eql w3 ⟨g, 0, none⟩
    go_wp2_with fail
    clear hpp
    have HP4 := HP3
    have HK4 := HK3
    have HB4 := HB3
    have HR4 := HR3
    have HOX4 := HOX3
    clear HP3 HK3 HB3 HR3 HOX3
    refine (wfNum_calls k _ s B e' _ l' _ v size HP4.out.f HQ.out).mono ?_
    rintro en w5 ⟨rfl, hw5, hb5, hk5⟩
    obtain ⟨hP5, hKP5⟩ := HP4.out.document hw5 hk5
    have HP5 := Aside0.mk hP5
    have HK5 := Aside0.mk (HK4.out.trans hKP5)
    have HB5 := Aside0.mk (HB4.out.trans hb5)
    have HR5 := Aside0.mk (hKP5.R HR4.out HOX4.out)
    have HOX5 := Aside0.mk (show ∀ i, some i = (Value.slice Ao bs.length co).ownBlock → ApartW w5 g i ∧ ApartF w5 s i from fun i hi => (hKP5.2 i (Kd.R_lt HR4.out i hi.symm) (HOX4.out i hi).1 (HOX4.out i hi).2).2)
    clear hw5 hb5 hk5 hP5 hKP5 HP4 HK4 HB4 HR4 HOX4 hk0 hk1 hk2 hk3
    have hom := Kd.C_max (Kd.R_reads' HR5.out).2.2
    go_wp2_with fail
    go_loopw [10] (fun v10 wr => ∃ (i : Nat) (t2 : List Int), i ≤ bs.length ∧ v10 = .int .i64 i ∧ Aside0 ((Kd.int .u8).R 5 wr w1.heap.size (fun _ => True) (.slice Ao bs.length co) t2) ∧ Aside0 (Pair wr g s B e2 m f2 m') ∧ Aside0 (KeepP W wr g s) ∧ Aside0 (Below B W wr) ∧ Aside0 (∀ i, some i = (Value.slice Ao bs.length co).ownBlock → ApartW wr g i ∧ ApartF wr s i))
      (fun v10 _ => bs.length - (intOf v10).toNat)
    case atStart => exact ⟨0, bs, Nat.zero_le _, rfl, HR5, HP5, HK5, HB5, HOX5⟩
    case round =>
      clear HR5 HP5 HK5 HB5 HOX5
      obtain ⟨i, t2, hi, rfl, RTi, PTi, KTi, BTi, OTi⟩ := hrel
      by_cases hlt : i < bs.length
      · have htl : t2.length = bs.length := (Kd.R_reads' RTi.out).1.symm
        obtain ⟨q, cap, hv, hgb, hgl, cells, hcells⟩ := Kd.R_form RTi.out (by omega)
        simp only [Value.slice.injEq] at hv
        obtain ⟨hv, hvl, hv2⟩ := hv
        clear hvl
        subst hv2
        obtain ⟨ad, had⟩ : ∃ ad : Addr, ad = ⟨q, 0, none⟩ := ⟨_, rfl⟩
        rw [← had] at hv
        subst hv
        have RTg := Aside0.mk (by have h := RTi.out; rw [had] at h; exact h)
        obtain ⟨hc1, hf1⟩ := Kd.R_celln (0 : Int) RTg.out (i : Int) (by omega) (by omega)
        rw [Int.toNat_natCast] at hc1 hf1
        have had2 : (⟨q, i, none⟩ : Addr) = ad.add i := by rw [had]; simp [Addr.add]
        rw [had2] at hc1 hf1
        obtain ⟨b1, hb1⟩ : ∃ b1, b1 = rdOf (0 : Int) t2 (i : Int) := ⟨_, rfl⟩
        rw [← hb1] at hc1
        have HPT := Aside0.mk (fun q : Int => Kd.R_putg RTg.out (i : Int) q)
        have HGB := Aside0.mk hgb
        have HOQ := Aside0.mk (OTi.out q (by rw [had]; rfl))
        have p1 : ((0 : Int) ≤ (i : Int)) = True := eq_true (by omega)
        have p2 : ((i : Int) < (bs.length : Int)) = True := eq_true (by omega)
        have HAD := Aside0.mk had
        have HAD2 := Aside0.mk had2
        clear hb1 hcells hgl hgb had had2 htl
        go_wp2_with fail
        go_roundw
        case measure => simp [intOf]; omega
        case rel =>
          have hput := HPT.out ((b1 + 1) % 256)
          rw [Int.toNat_natCast, HAD2.out] at hput
          have hqg := hput.2
          refine ⟨i + 1, t2.set i ((b1 + 1) % 256), by omega, by go_num, ⟨?_⟩, ⟨PTi.out.grown hqg HOQ.out.1 HOQ.out.2⟩, ⟨KTi.out.grown hqg (Nat.le_trans HBO.out HGB.out) HGL.out HSL.out⟩, ⟨?_⟩, ⟨?_⟩⟩
          · have := hput.1
            rw [← HAD.out] at this
            exact this
          · rw [← HAD2.out]
            exact BTi.out.setCell (p := ⟨q, i, none⟩) (Nat.le_trans HBW.out (Nat.le_trans HBO.out HGB.out)) _
          · intro j hj
            have h1 := OTi.out j hj
            obtain ⟨vg, hvg, _⟩ := PTi.out.w
            obtain ⟨vs, hvs, _⟩ := PTi.out.f
            exact ⟨h1.1.same (hqg.block g (blk_lt hvg) (fun x => HOQ.out.1.1 (Option.some.inj x).symm)), h1.2.same (hqg.block s (blk_lt hvs) (fun x => HOQ.out.2.1 (Option.some.inj x).symm))⟩
      · obtain rfl : i = bs.length := by omega
        clear hlt hi
        go_wp2_with fail
        go_ret
        exact ⟨rfl, PTi.out, BTi.out, KTi.out⟩
  by_cases hw1 : w = 1
  · subst hw1
    rw [if_neg (show ¬ ((1 : Int) = 0) by decide)] at h
    rw [if_pos rfl] at h
    obtain ⟨⟨p1, p2⟩, hp, h2⟩ := Option.bind_eq_some_iff.1 h
    clear h
    by_cases hlq : l'.length + bs.length ≤ 140737488355328
    rotate_left
    · rw [if_neg hlq] at h2; cases h2
    rw [if_pos hlq] at h2
    simp only [Option.some.injEq, Prod.mk.injEq] at h2
    obtain ⟨⟨ha, hb⟩, hq⟩ := h2
    have ha := ha.symm
    have hb := hb.symm
    subst ha hb
    have HP := Aside0.mk hp
    have HQ := Aside0.mk hq
    have HLQ := Aside0.mk hlq
    clear hp hq hlq
    obtain ⟨i0, hi0, _, hsz, _⟩ := info_parts info5
    obtain ⟨n, hn⟩ : ∃ n : Nat, n = bs.length := ⟨_, rfl⟩
    obtain ⟨j, hj⟩ : ∃ j : Nat, j = n / 2 := ⟨_, rfl⟩
    have hjn : j ≤ n := by omega
    have hq1 : ((n : Int)).tdiv 2 = (j : Int) := by rw [hj]; exact Int.tdiv_eq_ediv_of_nonneg (by omega) |>.trans (by omega)
    have hq2 : ((n : Int)) / 2 = (j : Int) := by omega
    have hwj : wrap64 (j : Int) = (j : Int) := by have := HBL.out; unfold wrap64; omega
    have hcut := cut_to (P := Try.prog) 28 5 .i64 Try.underlying28 hi0 Ao n co (j : Int) (by omega) (by omega) (by have := HCO.out; omega)
    have hcut2 := cut_from (P := Try.prog) 28 5 .i64 Try.underlying28 hi0 1 hsz Ao n co (j : Int) (by omega) (by omega)
    rw [Int.toNat_natCast] at hcut hcut2
    have hFo := Kd.R_F (Kd.R_tight rfl HRO.out)
    have hFt := Kd.F_take (m := j) hFo (by omega)
    have hFd := Kd.F_cut (m := j) (c := co) hFo (by omega) HCO.out
    obtain ⟨xa, hxa⟩ : ∃ xa, xa = bs.take j := ⟨_, rfl⟩
    obtain ⟨xd, hxd⟩ : ∃ xd, xd = bs.drop j := ⟨_, rfl⟩
    obtain ⟨A2, hA2⟩ : ∃ A2 : Option Addr, A2 = (if co = j then Ao else Ao.map (·.add (j * 1))) := ⟨_, rfl⟩
    obtain ⟨c2, hc2⟩ : ∃ c2 : Nat, c2 = co - j := ⟨_, rfl⟩
    have hxal : xa.length = j := by rw [hxa, List.length_take]; omega
    have hxdl : xd.length = n - j := by rw [hxd, List.length_drop]; omega
    have HXA := Aside0.mk (show Kd.C (Kd.int .u8) w2 Ao xa.length xa by rw [hxa]; exact Kd.F_now hFt)
    have HXD := Aside0.mk (show Kd.C (Kd.int .u8) w2 A2 xd.length xd by rw [hxd, hA2]; exact Kd.F_now hFd)
    have HXAC := Aside0.mk (show xa.length ≤ co by have := HCO.out; omega)
    have HXDC := Aside0.mk (show xd.length ≤ c2 by have := HCO.out; omega)
    have hcut1 : ∀ W' : World, (Instr.slice 28 (.slice Ao n co) none (some (.int .i64 (j : Int))) none).run Try.prog W' = .ok (.slice Ao xa.length co) W' := fun W' => by rw [hxal]; exact hcut W'
    rw [← hA2, ← hxdl, ← hc2] at hcut2
    have HPX := Aside0.mk (show wrParts k e l [xa, xd] = some (e2, m) by rw [hxa, hxd, hj, hn]; exact HP.out)
    clear hcut hFo hFt hFd hxa hxd hA2 hc2 hxal hxdl hi0 hsz
    have HNN := Aside0.mk hn
    have HJ := Aside0.mk hj
    rw [← hn]
    clear hn hj
    go_upto_region 9 with (fail)
    have HSS : Aside0 True := ⟨trivial⟩
    refine Held.wp_region_G (S := (fun _ => True)) (by kernel_rfl) ?_
    change Held.wpAnyG _ _ _ _ _ 12 _ _ _
    refine Held.wpAnyG_take (i := 0) (v := (.pointer (some ⟨g, 0, none⟩))) rfl (by kernel_rfl) (by kernel_rfl) (by kernel_rfl) (fun _ _ _ h => h) HSS.out (by first | (with_reducible rfl) | (simp [Region.wanted, yielded, Act.put]; done) | rfl) (fun W h => by go_simp) (some 37) rfl #[true, false, false, false, false, false, false, false, false, false, false, false] (by kernel_rfl) ?_
    simp only [Act.put, List.setIfInBounds_toArray, List.set_cons_zero, List.set_cons_succ]
    refine Held.wpAnyG_take (i := 1) (v := (.slice Ao n co)) rfl (by kernel_rfl) (by kernel_rfl) (by kernel_rfl) (fun _ _ _ h => h) HSS.out (by first | (with_reducible rfl) | (simp [Region.wanted, yielded, Act.put]; done) | rfl) (fun W h => by go_simp) (some 38) rfl #[true, true, false, false, false, false, false, false, false, false, false, false] (by kernel_rfl) ?_
    simp only [Act.put, List.setIfInBounds_toArray, List.set_cons_zero, List.set_cons_succ]
    refine Held.wpAnyG_take (i := 2) (v := (.int .i64 (j : Int))) rfl (by kernel_rfl) (by kernel_rfl) (by kernel_rfl) (fun _ _ _ h => h) HSS.out (by first | (with_reducible rfl) | (simp [Region.wanted, yielded, Act.put]; done) | rfl) (fun W h => by go_simp) (some 39) rfl #[true, true, true, false, false, false, false, false, false, false, false, false] (by kernel_rfl) ?_
    simp only [Act.put, List.setIfInBounds_toArray, List.set_cons_zero, List.set_cons_succ]
    refine Held.wpAnyG_take (i := 3) (v := (.slice Ao xa.length co)) rfl (by kernel_rfl) (by kernel_rfl) (by kernel_rfl) (fun _ _ _ h => h) HSS.out (by first | (with_reducible rfl) | (simp [Region.wanted, yielded, Act.put]; done) | rfl) (fun W h => by go_simp) (some 40) rfl #[true, true, true, true, false, false, false, false, false, false, false, false] (by kernel_rfl) ?_
    simp only [Act.put, List.setIfInBounds_toArray, List.set_cons_zero, List.set_cons_succ]
    refine Held.wpAnyG_take (i := 4) (v := (.slice Ao n co)) rfl (by kernel_rfl) (by kernel_rfl) (by kernel_rfl) (fun _ _ _ h => h) HSS.out (by first | (with_reducible rfl) | (simp [Region.wanted, yielded, Act.put]; done) | rfl) (fun W h => by go_simp) (some 41) rfl #[true, true, true, true, true, false, false, false, false, false, false, false] (by kernel_rfl) ?_
    simp only [Act.put, List.setIfInBounds_toArray, List.set_cons_zero, List.set_cons_succ]
    refine Held.wpAnyG_take (i := 5) (v := (.int .i64 (j : Int))) rfl (by kernel_rfl) (by kernel_rfl) (by kernel_rfl) (fun _ _ _ h => h) HSS.out (by first | (with_reducible rfl) | (simp [Region.wanted, yielded, Act.put]; done) | rfl) (fun W h => by go_simp) (some 42) rfl #[true, true, true, true, true, true, false, false, false, false, false, false] (by kernel_rfl) ?_
    simp only [Act.put, List.setIfInBounds_toArray, List.set_cons_zero, List.set_cons_succ]
    refine Held.wpAnyG_take (i := 6) (v := (.slice A2 xd.length c2)) rfl (by kernel_rfl) (by kernel_rfl) (by kernel_rfl) (fun _ _ _ h => h) HSS.out (by first | (with_reducible rfl) | (simp [Region.wanted, yielded, Act.put]; done) | rfl) (fun W h => by go_simp) (some 43) rfl #[true, true, true, true, true, true, true, false, false, false, false, false] (by kernel_rfl) ?_
    simp only [Act.put, List.setIfInBounds_toArray, List.set_cons_zero, List.set_cons_succ]
    refine Held.wpAnyG_take (i := 9) (v := (.pointer (some ⟨g, 0, none⟩))) rfl (by kernel_rfl) (by kernel_rfl) (by kernel_rfl) (fun _ _ _ h => h) HSS.out (by first | (with_reducible rfl) | (simp [Region.wanted, yielded, Act.put]; done) | rfl) (fun W h => by go_simp) (some 46) rfl #[true, true, true, true, true, true, true, false, false, true, false, false] (by kernel_rfl) ?_
    simp only [Act.put, List.setIfInBounds_toArray, List.set_cons_zero, List.set_cons_succ]
    refine Held.wpAnyG_one 7 (by kernel_rfl) rfl #[true, true, true, true, true, true, true, true, false, true, false, false] (by kernel_rfl) (fun K hK => ?_)
    go_wp2_with fail
    refine hK _ _ trivial ?_
    clear hK K
    refine Held.wpAnyG_one 8 (by kernel_rfl) rfl #[true, true, true, true, true, true, true, true, true, true, false, false] (by kernel_rfl) (fun K hK => ?_)
    go_wp2_with fail
    have hbl_ := (below_drew (Below.refl w2.heap.size w2)).trans (below_alloc (Below.refl w2.drew.heap.size w2.drew) (.cells #[.slice Ao xa.length co, .slice A2 xd.length c2] 28))
    obtain ⟨hPb_, hKb_⟩ := HP2.out.below hbl_
    have HPQ := Aside0.mk hPb_
    have HKQ := Aside0.mk (HK2.out.trans hKb_)
    have HBQ := Aside0.mk (HBW2.out.trans (hbl_.mono (Nat.le_trans HBW.out HK2.out.1)))
    have HRQ := Aside0.mk (Kd.R_below HRO.out hbl_)
    have HOQX := Aside0.mk (show ∀ i, some i = (Value.slice Ao bs.length co).ownBlock → ApartW (w2.drew.alloc (.cells #[.slice Ao xa.length co, .slice A2 xd.length c2] 28)) g i ∧ ApartF (w2.drew.alloc (.cells #[.slice Ao xa.length co, .slice A2 xd.length c2] 28)) s i from fun i hi => (hKb_.2 i (Kd.R_lt HRO.out i hi.symm) (HOX.out i hi).1 (HOX.out i hi).2).2)
    have HBKQ := Aside0.mk (blk_below HBK2.out hbl_)
    have HXBQ := Aside0.mk (hKb_.2 b (blk_lt HBK2.out) HXB2.out.1 HXB2.out.2).2
    have HFQ := Aside0.mk (Kd.F_below HF2.out hbl_)
    clear hbl_ hPb_ hKb_ HP2 HK2 HBW2 HRO HOX HBK2 HXB2 HF2
    have hrow := two_rows (t := 5) (u := 28) (Kd.C_below HXA.out (below_drew (Below.refl w2.heap.size w2))) HXAC.out (Kd.C_below HXD.out (below_drew (Below.refl w2.heap.size w2))) HXDC.out
    refine (wpartsG k _ g B e _ l _ _ 2 [xa, xd] HPQ.out.w hrow (Nat.le_refl _) HPX.out).mono ?_
    clear hrow
    rintro en w3 ⟨rfl, hw3, hb3, hkw3⟩
    obtain ⟨hP3, hKP3⟩ := HPQ.out.progress hw3 hkw3
    have HP3 := Aside0.mk hP3
    have HK3 := Aside0.mk (HKQ.out.trans hKP3)
    have HB3 := Aside0.mk (HBQ.out.trans hb3)
    have HR3 := Aside0.mk (hKP3.R HRQ.out HOQX.out)
    have HOX3 := Aside0.mk (show ∀ i, some i = (Value.slice Ao bs.length co).ownBlock → ApartW w3 g i ∧ ApartF w3 s i from fun i hi => (hKP3.2 i (Kd.R_lt HRQ.out i hi.symm) (HOQX.out i hi).1 (HOQX.out i hi).2).2)
    have HBK3 := Aside0.mk (hKP3.blk HBKQ.out HXBQ.out.1 HXBQ.out.2)
    have HF3 := Aside0.mk (Kd.F_step HFQ.out (fun i ho _ => hb3.block i (HPB.out i ho)))
    clear hw3 hb3 hkw3 hP3 hKP3 HPQ HKQ HBQ HRQ HOQX HBKQ HXBQ HFQ hk0 hk1 hk2 hk3
    have hk0 := blk_cell HBK3.out 0
    have hk1 := blk_cell HBK3.out 1
    have hk2 := blk_cell HBK3.out 2
    have hk3 := blk_cell HBK3.out 3
    simp at hk0 hk1 hk2 hk3
    go_wp2_with fail
    refine hK _ _ trivial ?_
    clear hK K
    have hpp := ptr_eql w3 ⟨g, 0, none⟩
    refine Held.wpAnyG_one 10 (by kernel_rfl) rfl #[true, true, true, true, true, true, true, true, true, true, true, false] (by kernel_rfl) (fun K hK => ?_)
    go_wp2_with fail
    refine hK _ _ trivial ?_
    clear hK K hpp
    refine Held.wpAnyG_last 11 (by kernel_rfl) rfl (by kernel_rfl) (by kernel_rfl) ?_
    go_wp2_with fail
    have HP4 := HP3
    have HK4 := HK3
    have HB4 := HB3
    have HR4 := HR3
    have HOX4 := HOX3
    clear HP3 HK3 HB3 HR3 HOX3
    (try rw [HNN.out])
    refine (wfPut_calls _ s B e' 0 _ l' bs _ A3 c3 HP4.out.f (fun W2 hg2 => Kd.F_now (Kd.F_grown HF3.out hg2 (fun i hi x => by have := HPB.out i hi; have := Option.some.inj x; obtain ⟨_, _, _, hsB⟩ := HP4.out.f; omega))) HLQ.out (Prod.ext_iff.2 ⟨congrArg Prod.fst HQ.out, congrArg Prod.snd HQ.out⟩)).mono ?_
    rintro en w5 ⟨rfl, hw5, hb5, hk5⟩
    obtain ⟨hP5, hKP5⟩ := HP4.out.document hw5 hk5
    have HP5 := Aside0.mk hP5
    have HK5 := Aside0.mk (HK4.out.trans hKP5)
    have HB5 := Aside0.mk (HB4.out.trans hb5)
    have HR5 := Aside0.mk (hKP5.R HR4.out HOX4.out)
    have HOX5 := Aside0.mk (show ∀ i, some i = (Value.slice Ao bs.length co).ownBlock → ApartW w5 g i ∧ ApartF w5 s i from fun i hi => (hKP5.2 i (Kd.R_lt HR4.out i hi.symm) (HOX4.out i hi).1 (HOX4.out i hi).2).2)
    clear hw5 hb5 hk5 hP5 hKP5 HP4 HK4 HB4 HR4 HOX4 hk0 hk1 hk2 hk3
    have hom := Kd.C_max (Kd.R_reads' HR5.out).2.2
    go_wp2_with fail
    go_loopw [10] (fun v10 wr => ∃ (i : Nat) (t2 : List Int), i ≤ bs.length ∧ v10 = .int .i64 i ∧ Aside0 ((Kd.int .u8).R 5 wr w1.heap.size (fun _ => True) (.slice Ao bs.length co) t2) ∧ Aside0 (Pair wr g s B e2 m f2 m') ∧ Aside0 (KeepP W wr g s) ∧ Aside0 (Below B W wr) ∧ Aside0 (∀ i, some i = (Value.slice Ao bs.length co).ownBlock → ApartW wr g i ∧ ApartF wr s i))
      (fun v10 _ => bs.length - (intOf v10).toNat)
    case atStart => exact ⟨0, bs, Nat.zero_le _, rfl, HR5, HP5, HK5, HB5, HOX5⟩
    case round =>
      clear HR5 HP5 HK5 HB5 HOX5
      obtain ⟨i, t2, hi, rfl, RTi, PTi, KTi, BTi, OTi⟩ := hrel
      by_cases hlt : i < bs.length
      · have htl : t2.length = bs.length := (Kd.R_reads' RTi.out).1.symm
        obtain ⟨q, cap, hv, hgb, hgl, cells, hcells⟩ := Kd.R_form RTi.out (by omega)
        simp only [Value.slice.injEq] at hv
        obtain ⟨hv, hvl, hv2⟩ := hv
        clear hvl
        subst hv2
        obtain ⟨ad, had⟩ : ∃ ad : Addr, ad = ⟨q, 0, none⟩ := ⟨_, rfl⟩
        rw [← had] at hv
        subst hv
        have RTg := Aside0.mk (by have h := RTi.out; rw [had] at h; exact h)
        obtain ⟨hc1, hf1⟩ := Kd.R_celln (0 : Int) RTg.out (i : Int) (by omega) (by omega)
        rw [Int.toNat_natCast] at hc1 hf1
        have had2 : (⟨q, i, none⟩ : Addr) = ad.add i := by rw [had]; simp [Addr.add]
        rw [had2] at hc1 hf1
        obtain ⟨b1, hb1⟩ : ∃ b1, b1 = rdOf (0 : Int) t2 (i : Int) := ⟨_, rfl⟩
        rw [← hb1] at hc1
        have HPT := Aside0.mk (fun q : Int => Kd.R_putg RTg.out (i : Int) q)
        have HGB := Aside0.mk hgb
        have HOQ := Aside0.mk (OTi.out q (by rw [had]; rfl))
        have p1 : ((0 : Int) ≤ (i : Int)) = True := eq_true (by omega)
        have p2 : ((i : Int) < (bs.length : Int)) = True := eq_true (by omega)
        have HAD := Aside0.mk had
        have HAD2 := Aside0.mk had2
        clear hb1 hcells hgl hgb had had2 htl
        go_wp2_with fail
        go_roundw
        case measure => simp [intOf]; omega
        case rel =>
          have hput := HPT.out ((b1 + 1) % 256)
          rw [Int.toNat_natCast, HAD2.out] at hput
          have hqg := hput.2
          refine ⟨i + 1, t2.set i ((b1 + 1) % 256), by omega, by go_num, ⟨?_⟩, ⟨PTi.out.grown hqg HOQ.out.1 HOQ.out.2⟩, ⟨KTi.out.grown hqg (Nat.le_trans HBO.out HGB.out) HGL.out HSL.out⟩, ⟨?_⟩, ⟨?_⟩⟩
          · have := hput.1
            rw [← HAD.out] at this
            exact this
          · rw [← HAD2.out]
            exact BTi.out.setCell (p := ⟨q, i, none⟩) (Nat.le_trans HBW.out (Nat.le_trans HBO.out HGB.out)) _
          · intro j hj
            have h1 := OTi.out j hj
            obtain ⟨vg, hvg, _⟩ := PTi.out.w
            obtain ⟨vs, hvs, _⟩ := PTi.out.f
            exact ⟨h1.1.same (hqg.block g (blk_lt hvg) (fun x => HOQ.out.1.1 (Option.some.inj x).symm)), h1.2.same (hqg.block s (blk_lt hvs) (fun x => HOQ.out.2.1 (Option.some.inj x).symm))⟩
      · obtain rfl : i = bs.length := by omega
        clear hlt hi
        go_wp2_with fail
        go_ret
        exact ⟨rfl, PTi.out, BTi.out, KTi.out⟩
  by_cases hw2 : w = 2
  · subst hw2
    rw [if_neg (show ¬ ((2 : Int) = 0) by decide)] at h
    rw [if_neg (show ¬ ((2 : Int) = 1) by decide)] at h
    rw [if_pos rfl] at h
    obtain ⟨⟨p1, p2⟩, hp, h2⟩ := Option.bind_eq_some_iff.1 h
    clear h
    obtain ⟨⟨q1, q2⟩, hq, h3⟩ := Option.bind_eq_some_iff.1 h2
    clear h2
    simp only [Option.some.injEq, Prod.mk.injEq] at h3
    obtain ⟨⟨ha, hb⟩, ⟨hc, hd⟩⟩ := h3
    have ha := ha.symm
    have hb := hb.symm
    have hc := hc.symm
    have hd := hd.symm
    subst ha hb hc hd
    have HP := Aside0.mk hp
    have HQ := Aside0.mk hq
    clear hp hq
    go_wp2_with fail
    have hbl_ := below_alloc (Below.refl w2.heap.size w2) (.cells #[.int .u64 v, .int .u64 7] 33)
    obtain ⟨hPb_, hKb_⟩ := HP2.out.below hbl_
    have HPQ := Aside0.mk hPb_
    have HKQ := Aside0.mk (HK2.out.trans hKb_)
    have HBQ := Aside0.mk (HBW2.out.trans (hbl_.mono (Nat.le_trans HBW.out HK2.out.1)))
    have HRQ := Aside0.mk (Kd.R_below HRO.out hbl_)
    have HOQX := Aside0.mk (show ∀ i, some i = (Value.slice Ao bs.length co).ownBlock → ApartW (w2.alloc (.cells #[.int .u64 v, .int .u64 7] 33)) g i ∧ ApartF (w2.alloc (.cells #[.int .u64 v, .int .u64 7] 33)) s i from fun i hi => (hKb_.2 i (Kd.R_lt HRO.out i hi.symm) (HOX.out i hi).1 (HOX.out i hi).2).2)
    have HBKQ := Aside0.mk (blk_below HBK2.out hbl_)
    have HXBQ := Aside0.mk (hKb_.2 b (blk_lt HBK2.out) HXB2.out.1 HXB2.out.2).2
    have HFQ := Aside0.mk (Kd.F_below HF2.out hbl_)
    clear hbl_ hPb_ hKb_ HP2 HK2 HBW2 HRO HOX HBK2 HXB2 HF2
    have hlit := Kd.F_now (blk_F (k := .u64) [v, 7] (blk_new w2 (.cells #[.int .u64 v, .int .u64 7] 33)) rfl (by show 2 ≤ _; omega))
    refine (wvarsG k _ g B e _ l _ _ _ [v, 7] HPQ.out.w hlit (Nat.le_refl _) HP.out).mono ?_
    clear hlit
    rintro en w3 ⟨rfl, hw3, hb3, hkw3⟩
    obtain ⟨hP3, hKP3⟩ := HPQ.out.progress hw3 hkw3
    have HP3 := Aside0.mk hP3
    have HK3 := Aside0.mk (HKQ.out.trans hKP3)
    have HB3 := Aside0.mk (HBQ.out.trans hb3)
    have HR3 := Aside0.mk (hKP3.R HRQ.out HOQX.out)
    have HOX3 := Aside0.mk (show ∀ i, some i = (Value.slice Ao bs.length co).ownBlock → ApartW w3 g i ∧ ApartF w3 s i from fun i hi => (hKP3.2 i (Kd.R_lt HRQ.out i hi.symm) (HOQX.out i hi).1 (HOQX.out i hi).2).2)
    have HBK3 := Aside0.mk (hKP3.blk HBKQ.out HXBQ.out.1 HXBQ.out.2)
    have HF3 := Aside0.mk (Kd.F_step HFQ.out (fun i ho _ => hb3.block i (HPB.out i ho)))
    clear hw3 hb3 hkw3 hP3 hKP3 HPQ HKQ HBQ HRQ HOQX HBKQ HXBQ HFQ hk0 hk1 hk2 hk3
    have hk0 := blk_cell HBK3.out 0
    have hk1 := blk_cell HBK3.out 1
    have hk2 := blk_cell HBK3.out 2
    have hk3 := blk_cell HBK3.out 3
    simp at hk0 hk1 hk2 hk3
    have hpp := ptr_eql w3 ⟨g, 0, none⟩
    go_wp2_with fail
    clear hpp
    have hbl_ := below_alloc (Below.refl w3.heap.size w3) (.cells #[.int .u64 v, .int .u64 7] 33)
    obtain ⟨hPb_, hKb_⟩ := HP3.out.below hbl_
    have HP4 := Aside0.mk hPb_
    have HK4 := Aside0.mk (HK3.out.trans hKb_)
    have HB4 := Aside0.mk (HB3.out.trans (hbl_.mono (Nat.le_trans HBW.out HK3.out.1)))
    have HR4 := Aside0.mk (Kd.R_below HR3.out hbl_)
    have HOX4 := Aside0.mk (show ∀ i, some i = (Value.slice Ao bs.length co).ownBlock → ApartW (w3.alloc (.cells #[.int .u64 v, .int .u64 7] 33)) g i ∧ ApartF (w3.alloc (.cells #[.int .u64 v, .int .u64 7] 33)) s i from fun i hi => (hKb_.2 i (Kd.R_lt HR3.out i hi.symm) (HOX3.out i hi).1 (HOX3.out i hi).2).2)
    clear hbl_ hPb_ hKb_ HP3 HK3 HB3 HR3 HOX3
    have hlit := Kd.F_now (blk_F (k := .u64) [v, 7] (blk_new w3 (.cells #[.int .u64 v, .int .u64 7] 33)) rfl (by show 2 ≤ _; omega))
    refine (wfVars_calls k _ s B e' _ l' _ _ _ [v, 7] HP4.out.f hlit (Nat.le_refl _) HQ.out).mono ?_
    clear hlit
    rintro en w5 ⟨rfl, hw5, hb5, hk5⟩
    obtain ⟨hP5, hKP5⟩ := HP4.out.document hw5 hk5
    have HP5 := Aside0.mk hP5
    have HK5 := Aside0.mk (HK4.out.trans hKP5)
    have HB5 := Aside0.mk (HB4.out.trans hb5)
    have HR5 := Aside0.mk (hKP5.R HR4.out HOX4.out)
    have HOX5 := Aside0.mk (show ∀ i, some i = (Value.slice Ao bs.length co).ownBlock → ApartW w5 g i ∧ ApartF w5 s i from fun i hi => (hKP5.2 i (Kd.R_lt HR4.out i hi.symm) (HOX4.out i hi).1 (HOX4.out i hi).2).2)
    clear hw5 hb5 hk5 hP5 hKP5 HP4 HK4 HB4 HR4 HOX4 hk0 hk1 hk2 hk3
    have hom := Kd.C_max (Kd.R_reads' HR5.out).2.2
    go_wp2_with fail
    go_loopw [10] (fun v10 wr => ∃ (i : Nat) (t2 : List Int), i ≤ bs.length ∧ v10 = .int .i64 i ∧ Aside0 ((Kd.int .u8).R 5 wr w1.heap.size (fun _ => True) (.slice Ao bs.length co) t2) ∧ Aside0 (Pair wr g s B e2 m f2 m') ∧ Aside0 (KeepP W wr g s) ∧ Aside0 (Below B W wr) ∧ Aside0 (∀ i, some i = (Value.slice Ao bs.length co).ownBlock → ApartW wr g i ∧ ApartF wr s i))
      (fun v10 _ => bs.length - (intOf v10).toNat)
    case atStart => exact ⟨0, bs, Nat.zero_le _, rfl, HR5, HP5, HK5, HB5, HOX5⟩
    case round =>
      clear HR5 HP5 HK5 HB5 HOX5
      obtain ⟨i, t2, hi, rfl, RTi, PTi, KTi, BTi, OTi⟩ := hrel
      by_cases hlt : i < bs.length
      · have htl : t2.length = bs.length := (Kd.R_reads' RTi.out).1.symm
        obtain ⟨q, cap, hv, hgb, hgl, cells, hcells⟩ := Kd.R_form RTi.out (by omega)
        simp only [Value.slice.injEq] at hv
        obtain ⟨hv, hvl, hv2⟩ := hv
        clear hvl
        subst hv2
        obtain ⟨ad, had⟩ : ∃ ad : Addr, ad = ⟨q, 0, none⟩ := ⟨_, rfl⟩
        rw [← had] at hv
        subst hv
        have RTg := Aside0.mk (by have h := RTi.out; rw [had] at h; exact h)
        obtain ⟨hc1, hf1⟩ := Kd.R_celln (0 : Int) RTg.out (i : Int) (by omega) (by omega)
        rw [Int.toNat_natCast] at hc1 hf1
        have had2 : (⟨q, i, none⟩ : Addr) = ad.add i := by rw [had]; simp [Addr.add]
        rw [had2] at hc1 hf1
        obtain ⟨b1, hb1⟩ : ∃ b1, b1 = rdOf (0 : Int) t2 (i : Int) := ⟨_, rfl⟩
        rw [← hb1] at hc1
        have HPT := Aside0.mk (fun q : Int => Kd.R_putg RTg.out (i : Int) q)
        have HGB := Aside0.mk hgb
        have HOQ := Aside0.mk (OTi.out q (by rw [had]; rfl))
        have p1 : ((0 : Int) ≤ (i : Int)) = True := eq_true (by omega)
        have p2 : ((i : Int) < (bs.length : Int)) = True := eq_true (by omega)
        have HAD := Aside0.mk had
        have HAD2 := Aside0.mk had2
        clear hb1 hcells hgl hgb had had2 htl
        go_wp2_with fail
        go_roundw
        case measure => simp [intOf]; omega
        case rel =>
          have hput := HPT.out ((b1 + 1) % 256)
          rw [Int.toNat_natCast, HAD2.out] at hput
          have hqg := hput.2
          refine ⟨i + 1, t2.set i ((b1 + 1) % 256), by omega, by go_num, ⟨?_⟩, ⟨PTi.out.grown hqg HOQ.out.1 HOQ.out.2⟩, ⟨KTi.out.grown hqg (Nat.le_trans HBO.out HGB.out) HGL.out HSL.out⟩, ⟨?_⟩, ⟨?_⟩⟩
          · have := hput.1
            rw [← HAD.out] at this
            exact this
          · rw [← HAD2.out]
            exact BTi.out.setCell (p := ⟨q, i, none⟩) (Nat.le_trans HBW.out (Nat.le_trans HBO.out HGB.out)) _
          · intro j hj
            have h1 := OTi.out j hj
            obtain ⟨vg, hvg, _⟩ := PTi.out.w
            obtain ⟨vs, hvs, _⟩ := PTi.out.f
            exact ⟨h1.1.same (hqg.block g (blk_lt hvg) (fun x => HOQ.out.1.1 (Option.some.inj x).symm)), h1.2.same (hqg.block s (blk_lt hvs) (fun x => HOQ.out.2.1 (Option.some.inj x).symm))⟩
      · obtain rfl : i = bs.length := by omega
        clear hlt hi
        go_wp2_with fail
        go_ret
        exact ⟨rfl, PTi.out, BTi.out, KTi.out⟩
  by_cases hw3 : w = 3
  · subst hw3
    rw [if_neg (show ¬ ((3 : Int) = 0) by decide)] at h
    rw [if_neg (show ¬ ((3 : Int) = 1) by decide)] at h
    rw [if_neg (show ¬ ((3 : Int) = 2) by decide)] at h
    rw [if_pos rfl] at h
    obtain ⟨⟨p1, p2⟩, hp, h2⟩ := Option.bind_eq_some_iff.1 h
    clear h
    obtain ⟨⟨q1, q2⟩, hq, h3⟩ := Option.bind_eq_some_iff.1 h2
    clear h2
    simp only [Option.some.injEq, Prod.mk.injEq] at h3
    obtain ⟨⟨ha, hb⟩, ⟨hc, hd⟩⟩ := h3
    have ha := ha.symm
    have hb := hb.symm
    have hc := hc.symm
    have hd := hd.symm
    subst ha hb hc hd
    have HP := Aside0.mk hp
    have HQ := Aside0.mk hq
    clear hp hq
    go_wp2_with fail
    have HPQ := HP2
    have HKQ := HK2
    have HBQ := HBW2
    have HRQ := HRO
    have HOQX := HOX
    have HBKQ := HBK2
    have HXBQ := HXB2
    have HFQ := HF2
    clear HP2 HK2 HBW2 HRO HOX HBK2 HXB2 HF2
    refine (wshortG k _ g B e _ l _ bs Ao co HPQ.out.w (fun W2 hk => Kd.F_now (F_keepW (Kd.R_F (Kd.R_tight rfl HRQ.out)) hk (fun i hi => (HOQX.out i hi).1))) HCO.out HP.out).mono ?_
    rintro en w3 ⟨rfl, hw3, hb3, hkw3⟩
    obtain ⟨hP3, hKP3⟩ := HPQ.out.progress hw3 hkw3
    have HP3 := Aside0.mk hP3
    have HK3 := Aside0.mk (HKQ.out.trans hKP3)
    have HB3 := Aside0.mk (HBQ.out.trans hb3)
    have HR3 := Aside0.mk (hKP3.R HRQ.out HOQX.out)
    have HOX3 := Aside0.mk (show ∀ i, some i = (Value.slice Ao bs.length co).ownBlock → ApartW w3 g i ∧ ApartF w3 s i from fun i hi => (hKP3.2 i (Kd.R_lt HRQ.out i hi.symm) (HOQX.out i hi).1 (HOQX.out i hi).2).2)
    have HBK3 := Aside0.mk (hKP3.blk HBKQ.out HXBQ.out.1 HXBQ.out.2)
    have HF3 := Aside0.mk (Kd.F_step HFQ.out (fun i ho _ => hb3.block i (HPB.out i ho)))
    clear hw3 hb3 hkw3 hP3 hKP3 HPQ HKQ HBQ HRQ HOQX HBKQ HXBQ HFQ hk0 hk1 hk2 hk3
    have hk0 := blk_cell HBK3.out 0
    have hk1 := blk_cell HBK3.out 1
    have hk2 := blk_cell HBK3.out 2
    have hk3 := blk_cell HBK3.out 3
    simp at hk0 hk1 hk2 hk3
    have hpp := ptr_eql w3 ⟨g, 0, none⟩
    go_wp2_with fail
    clear hpp
    have HP4 := HP3
    have HK4 := HK3
    have HB4 := HB3
    have HR4 := HR3
    have HOX4 := HOX3
    clear HP3 HK3 HB3 HR3 HOX3
    refine (wfShort_calls _ s B e' _ l' _ bs A3 c3 HP4.out.f (Kd.F_now HF3.out) HC3.out HQ.out).mono ?_
    rintro en w5 ⟨rfl, hw5, hb5, hk5⟩
    obtain ⟨hP5, hKP5⟩ := HP4.out.document hw5 hk5
    have HP5 := Aside0.mk hP5
    have HK5 := Aside0.mk (HK4.out.trans hKP5)
    have HB5 := Aside0.mk (HB4.out.trans hb5)
    have HR5 := Aside0.mk (hKP5.R HR4.out HOX4.out)
    have HOX5 := Aside0.mk (show ∀ i, some i = (Value.slice Ao bs.length co).ownBlock → ApartW w5 g i ∧ ApartF w5 s i from fun i hi => (hKP5.2 i (Kd.R_lt HR4.out i hi.symm) (HOX4.out i hi).1 (HOX4.out i hi).2).2)
    clear hw5 hb5 hk5 hP5 hKP5 HP4 HK4 HB4 HR4 HOX4 hk0 hk1 hk2 hk3
    have hom := Kd.C_max (Kd.R_reads' HR5.out).2.2
    go_wp2_with fail
    go_loopw [10] (fun v10 wr => ∃ (i : Nat) (t2 : List Int), i ≤ bs.length ∧ v10 = .int .i64 i ∧ Aside0 ((Kd.int .u8).R 5 wr w1.heap.size (fun _ => True) (.slice Ao bs.length co) t2) ∧ Aside0 (Pair wr g s B e2 m f2 m') ∧ Aside0 (KeepP W wr g s) ∧ Aside0 (Below B W wr) ∧ Aside0 (∀ i, some i = (Value.slice Ao bs.length co).ownBlock → ApartW wr g i ∧ ApartF wr s i))
      (fun v10 _ => bs.length - (intOf v10).toNat)
    case atStart => exact ⟨0, bs, Nat.zero_le _, rfl, HR5, HP5, HK5, HB5, HOX5⟩
    case round =>
      clear HR5 HP5 HK5 HB5 HOX5
      obtain ⟨i, t2, hi, rfl, RTi, PTi, KTi, BTi, OTi⟩ := hrel
      by_cases hlt : i < bs.length
      · have htl : t2.length = bs.length := (Kd.R_reads' RTi.out).1.symm
        obtain ⟨q, cap, hv, hgb, hgl, cells, hcells⟩ := Kd.R_form RTi.out (by omega)
        simp only [Value.slice.injEq] at hv
        obtain ⟨hv, hvl, hv2⟩ := hv
        clear hvl
        subst hv2
        obtain ⟨ad, had⟩ : ∃ ad : Addr, ad = ⟨q, 0, none⟩ := ⟨_, rfl⟩
        rw [← had] at hv
        subst hv
        have RTg := Aside0.mk (by have h := RTi.out; rw [had] at h; exact h)
        obtain ⟨hc1, hf1⟩ := Kd.R_celln (0 : Int) RTg.out (i : Int) (by omega) (by omega)
        rw [Int.toNat_natCast] at hc1 hf1
        have had2 : (⟨q, i, none⟩ : Addr) = ad.add i := by rw [had]; simp [Addr.add]
        rw [had2] at hc1 hf1
        obtain ⟨b1, hb1⟩ : ∃ b1, b1 = rdOf (0 : Int) t2 (i : Int) := ⟨_, rfl⟩
        rw [← hb1] at hc1
        have HPT := Aside0.mk (fun q : Int => Kd.R_putg RTg.out (i : Int) q)
        have HGB := Aside0.mk hgb
        have HOQ := Aside0.mk (OTi.out q (by rw [had]; rfl))
        have p1 : ((0 : Int) ≤ (i : Int)) = True := eq_true (by omega)
        have p2 : ((i : Int) < (bs.length : Int)) = True := eq_true (by omega)
        have HAD := Aside0.mk had
        have HAD2 := Aside0.mk had2
        clear hb1 hcells hgl hgb had had2 htl
        go_wp2_with fail
        go_roundw
        case measure => simp [intOf]; omega
        case rel =>
          have hput := HPT.out ((b1 + 1) % 256)
          rw [Int.toNat_natCast, HAD2.out] at hput
          have hqg := hput.2
          refine ⟨i + 1, t2.set i ((b1 + 1) % 256), by omega, by go_num, ⟨?_⟩, ⟨PTi.out.grown hqg HOQ.out.1 HOQ.out.2⟩, ⟨KTi.out.grown hqg (Nat.le_trans HBO.out HGB.out) HGL.out HSL.out⟩, ⟨?_⟩, ⟨?_⟩⟩
          · have := hput.1
            rw [← HAD.out] at this
            exact this
          · rw [← HAD2.out]
            exact BTi.out.setCell (p := ⟨q, i, none⟩) (Nat.le_trans HBW.out (Nat.le_trans HBO.out HGB.out)) _
          · intro j hj
            have h1 := OTi.out j hj
            obtain ⟨vg, hvg, _⟩ := PTi.out.w
            obtain ⟨vs, hvs, _⟩ := PTi.out.f
            exact ⟨h1.1.same (hqg.block g (blk_lt hvg) (fun x => HOQ.out.1.1 (Option.some.inj x).symm)), h1.2.same (hqg.block s (blk_lt hvs) (fun x => HOQ.out.2.1 (Option.some.inj x).symm))⟩
      · obtain rfl : i = bs.length := by omega
        clear hlt hi
        go_wp2_with fail
        go_ret
        exact ⟨rfl, PTi.out, BTi.out, KTi.out⟩
  by_cases hw4 : w = 4
  · subst hw4
    rw [if_neg (show ¬ ((4 : Int) = 0) by decide)] at h
    rw [if_neg (show ¬ ((4 : Int) = 1) by decide)] at h
    rw [if_neg (show ¬ ((4 : Int) = 2) by decide)] at h
    rw [if_neg (show ¬ ((4 : Int) = 3) by decide)] at h
    rw [if_pos rfl] at h
    obtain ⟨⟨p1, p2⟩, hp, h2⟩ := Option.bind_eq_some_iff.1 h
    clear h
    obtain ⟨⟨q1, q2⟩, hq, h3⟩ := Option.bind_eq_some_iff.1 h2
    clear h2
    simp only [Option.some.injEq, Prod.mk.injEq] at h3
    obtain ⟨⟨ha, hb⟩, ⟨hc, hd⟩⟩ := h3
    have ha := ha.symm
    have hb := hb.symm
    have hc := hc.symm
    have hd := hd.symm
    subst ha hb hc hd
    have HP := Aside0.mk hp
    have HQ := Aside0.mk hq
    clear hp hq
    go_wp2_with fail
    have HPQ := HP2
    have HKQ := HK2
    have HBQ := HBW2
    have HRQ := HRO
    have HOQX := HOX
    have HBKQ := HBK2
    have HXBQ := HXB2
    have HFQ := HF2
    clear HP2 HK2 HBW2 HRO HOX HBK2 HXB2 HF2
    refine (wlongG k _ g B e _ l _ bs Ao co HPQ.out.w (fun W2 hk => Kd.F_now (F_keepW (Kd.R_F (Kd.R_tight rfl HRQ.out)) hk (fun i hi => (HOQX.out i hi).1))) HCO.out HP.out).mono ?_
    rintro en w3 ⟨rfl, hw3, hb3, hkw3⟩
    obtain ⟨hP3, hKP3⟩ := HPQ.out.progress hw3 hkw3
    have HP3 := Aside0.mk hP3
    have HK3 := Aside0.mk (HKQ.out.trans hKP3)
    have HB3 := Aside0.mk (HBQ.out.trans hb3)
    have HR3 := Aside0.mk (hKP3.R HRQ.out HOQX.out)
    have HOX3 := Aside0.mk (show ∀ i, some i = (Value.slice Ao bs.length co).ownBlock → ApartW w3 g i ∧ ApartF w3 s i from fun i hi => (hKP3.2 i (Kd.R_lt HRQ.out i hi.symm) (HOQX.out i hi).1 (HOQX.out i hi).2).2)
    have HBK3 := Aside0.mk (hKP3.blk HBKQ.out HXBQ.out.1 HXBQ.out.2)
    have HF3 := Aside0.mk (Kd.F_step HFQ.out (fun i ho _ => hb3.block i (HPB.out i ho)))
    clear hw3 hb3 hkw3 hP3 hKP3 HPQ HKQ HBQ HRQ HOQX HBKQ HXBQ HFQ hk0 hk1 hk2 hk3
    have hk0 := blk_cell HBK3.out 0
    have hk1 := blk_cell HBK3.out 1
    have hk2 := blk_cell HBK3.out 2
    have hk3 := blk_cell HBK3.out 3
    simp at hk0 hk1 hk2 hk3
    have hpp := ptr_eql w3 ⟨g, 0, none⟩
    go_wp2_with fail
    clear hpp
    have HP4 := HP3
    have HK4 := HK3
    have HB4 := HB3
    have HR4 := HR3
    have HOX4 := HOX3
    clear HP3 HK3 HB3 HR3 HOX3
    refine (wfLong_calls k _ s B e' _ l' _ bs A3 c3 HP4.out.f (Kd.F_now HF3.out) HC3.out HQ.out).mono ?_
    rintro en w5 ⟨rfl, hw5, hb5, hk5⟩
    obtain ⟨hP5, hKP5⟩ := HP4.out.document hw5 hk5
    have HP5 := Aside0.mk hP5
    have HK5 := Aside0.mk (HK4.out.trans hKP5)
    have HB5 := Aside0.mk (HB4.out.trans hb5)
    have HR5 := Aside0.mk (hKP5.R HR4.out HOX4.out)
    have HOX5 := Aside0.mk (show ∀ i, some i = (Value.slice Ao bs.length co).ownBlock → ApartW w5 g i ∧ ApartF w5 s i from fun i hi => (hKP5.2 i (Kd.R_lt HR4.out i hi.symm) (HOX4.out i hi).1 (HOX4.out i hi).2).2)
    clear hw5 hb5 hk5 hP5 hKP5 HP4 HK4 HB4 HR4 HOX4 hk0 hk1 hk2 hk3
    have hom := Kd.C_max (Kd.R_reads' HR5.out).2.2
    go_wp2_with fail
    go_loopw [10] (fun v10 wr => ∃ (i : Nat) (t2 : List Int), i ≤ bs.length ∧ v10 = .int .i64 i ∧ Aside0 ((Kd.int .u8).R 5 wr w1.heap.size (fun _ => True) (.slice Ao bs.length co) t2) ∧ Aside0 (Pair wr g s B e2 m f2 m') ∧ Aside0 (KeepP W wr g s) ∧ Aside0 (Below B W wr) ∧ Aside0 (∀ i, some i = (Value.slice Ao bs.length co).ownBlock → ApartW wr g i ∧ ApartF wr s i))
      (fun v10 _ => bs.length - (intOf v10).toNat)
    case atStart => exact ⟨0, bs, Nat.zero_le _, rfl, HR5, HP5, HK5, HB5, HOX5⟩
    case round =>
      clear HR5 HP5 HK5 HB5 HOX5
      obtain ⟨i, t2, hi, rfl, RTi, PTi, KTi, BTi, OTi⟩ := hrel
      by_cases hlt : i < bs.length
      · have htl : t2.length = bs.length := (Kd.R_reads' RTi.out).1.symm
        obtain ⟨q, cap, hv, hgb, hgl, cells, hcells⟩ := Kd.R_form RTi.out (by omega)
        simp only [Value.slice.injEq] at hv
        obtain ⟨hv, hvl, hv2⟩ := hv
        clear hvl
        subst hv2
        obtain ⟨ad, had⟩ : ∃ ad : Addr, ad = ⟨q, 0, none⟩ := ⟨_, rfl⟩
        rw [← had] at hv
        subst hv
        have RTg := Aside0.mk (by have h := RTi.out; rw [had] at h; exact h)
        obtain ⟨hc1, hf1⟩ := Kd.R_celln (0 : Int) RTg.out (i : Int) (by omega) (by omega)
        rw [Int.toNat_natCast] at hc1 hf1
        have had2 : (⟨q, i, none⟩ : Addr) = ad.add i := by rw [had]; simp [Addr.add]
        rw [had2] at hc1 hf1
        obtain ⟨b1, hb1⟩ : ∃ b1, b1 = rdOf (0 : Int) t2 (i : Int) := ⟨_, rfl⟩
        rw [← hb1] at hc1
        have HPT := Aside0.mk (fun q : Int => Kd.R_putg RTg.out (i : Int) q)
        have HGB := Aside0.mk hgb
        have HOQ := Aside0.mk (OTi.out q (by rw [had]; rfl))
        have p1 : ((0 : Int) ≤ (i : Int)) = True := eq_true (by omega)
        have p2 : ((i : Int) < (bs.length : Int)) = True := eq_true (by omega)
        have HAD := Aside0.mk had
        have HAD2 := Aside0.mk had2
        clear hb1 hcells hgl hgb had had2 htl
        go_wp2_with fail
        go_roundw
        case measure => simp [intOf]; omega
        case rel =>
          have hput := HPT.out ((b1 + 1) % 256)
          rw [Int.toNat_natCast, HAD2.out] at hput
          have hqg := hput.2
          refine ⟨i + 1, t2.set i ((b1 + 1) % 256), by omega, by go_num, ⟨?_⟩, ⟨PTi.out.grown hqg HOQ.out.1 HOQ.out.2⟩, ⟨KTi.out.grown hqg (Nat.le_trans HBO.out HGB.out) HGL.out HSL.out⟩, ⟨?_⟩, ⟨?_⟩⟩
          · have := hput.1
            rw [← HAD.out] at this
            exact this
          · rw [← HAD2.out]
            exact BTi.out.setCell (p := ⟨q, i, none⟩) (Nat.le_trans HBW.out (Nat.le_trans HBO.out HGB.out)) _
          · intro j hj
            have h1 := OTi.out j hj
            obtain ⟨vg, hvg, _⟩ := PTi.out.w
            obtain ⟨vs, hvs, _⟩ := PTi.out.f
            exact ⟨h1.1.same (hqg.block g (blk_lt hvg) (fun x => HOQ.out.1.1 (Option.some.inj x).symm)), h1.2.same (hqg.block s (blk_lt hvs) (fun x => HOQ.out.2.1 (Option.some.inj x).symm))⟩
      · obtain rfl : i = bs.length := by omega
        clear hlt hi
        go_wp2_with fail
        go_ret
        exact ⟨rfl, PTi.out, BTi.out, KTi.out⟩
  rw [if_neg hw0, if_neg hw1, if_neg hw2, if_neg hw3, if_neg hw4] at h
  simp only [Option.some.injEq, Prod.mk.injEq] at h
  obtain ⟨⟨ha, hb⟩, ⟨hc, hd⟩⟩ := h
  have ha := ha.symm
  have hb := hb.symm
  have hc := hc.symm
  have hd := hd.symm
  subst ha hb hc hd
  have hb0 : (w == 0) = false := beq_eq_false_iff_ne.mpr hw0
  have hb1 : (w == 1) = false := beq_eq_false_iff_ne.mpr hw1
  have hb2 : (w == 2) = false := beq_eq_false_iff_ne.mpr hw2
  have hb3 : (w == 3) = false := beq_eq_false_iff_ne.mpr hw3
  have hb4 : (w == 4) = false := beq_eq_false_iff_ne.mpr hw4
  clear hw0 hw1 hw2 hw3 hw4
  have HP5 := HP2
  have HK5 := HK2
  have HB5 := HBW2
  have HR5 := HRO
  have HOX5 := HOX
  clear HP2 HK2 HBW2 HRO HOX
  have hom := Kd.C_max (Kd.R_reads' HR5.out).2.2
  go_wp2_with fail
  go_loopw [10] (fun v10 wr => ∃ (i : Nat) (t2 : List Int), i ≤ bs.length ∧ v10 = .int .i64 i ∧ Aside0 ((Kd.int .u8).R 5 wr w1.heap.size (fun _ => True) (.slice Ao bs.length co) t2) ∧ Aside0 (Pair wr g s B e2 m f2 m') ∧ Aside0 (KeepP W wr g s) ∧ Aside0 (Below B W wr) ∧ Aside0 (∀ i, some i = (Value.slice Ao bs.length co).ownBlock → ApartW wr g i ∧ ApartF wr s i))
    (fun v10 _ => bs.length - (intOf v10).toNat)
  case atStart => exact ⟨0, bs, Nat.zero_le _, rfl, HR5, HP5, HK5, HB5, HOX5⟩
  case round =>
    clear HR5 HP5 HK5 HB5 HOX5
    obtain ⟨i, t2, hi, rfl, RTi, PTi, KTi, BTi, OTi⟩ := hrel
    by_cases hlt : i < bs.length
    · have htl : t2.length = bs.length := (Kd.R_reads' RTi.out).1.symm
      obtain ⟨q, cap, hv, hgb, hgl, cells, hcells⟩ := Kd.R_form RTi.out (by omega)
      simp only [Value.slice.injEq] at hv
      obtain ⟨hv, hvl, hv2⟩ := hv
      clear hvl
      subst hv2
      obtain ⟨ad, had⟩ : ∃ ad : Addr, ad = ⟨q, 0, none⟩ := ⟨_, rfl⟩
      rw [← had] at hv
      subst hv
      have RTg := Aside0.mk (by have h := RTi.out; rw [had] at h; exact h)
      obtain ⟨hc1, hf1⟩ := Kd.R_celln (0 : Int) RTg.out (i : Int) (by omega) (by omega)
      rw [Int.toNat_natCast] at hc1 hf1
      have had2 : (⟨q, i, none⟩ : Addr) = ad.add i := by rw [had]; simp [Addr.add]
      rw [had2] at hc1 hf1
      obtain ⟨b1, hb1⟩ : ∃ b1, b1 = rdOf (0 : Int) t2 (i : Int) := ⟨_, rfl⟩
      rw [← hb1] at hc1
      have HPT := Aside0.mk (fun q : Int => Kd.R_putg RTg.out (i : Int) q)
      have HGB := Aside0.mk hgb
      have HOQ := Aside0.mk (OTi.out q (by rw [had]; rfl))
      have p1 : ((0 : Int) ≤ (i : Int)) = True := eq_true (by omega)
      have p2 : ((i : Int) < (bs.length : Int)) = True := eq_true (by omega)
      have HAD := Aside0.mk had
      have HAD2 := Aside0.mk had2
      clear hb1 hcells hgl hgb had had2 htl
      go_wp2_with fail
      go_roundw
      case measure => simp [intOf]; omega
      case rel =>
        have hput := HPT.out ((b1 + 1) % 256)
        rw [Int.toNat_natCast, HAD2.out] at hput
        have hqg := hput.2
        refine ⟨i + 1, t2.set i ((b1 + 1) % 256), by omega, by go_num, ⟨?_⟩, ⟨PTi.out.grown hqg HOQ.out.1 HOQ.out.2⟩, ⟨KTi.out.grown hqg (Nat.le_trans HBO.out HGB.out) HGL.out HSL.out⟩, ⟨?_⟩, ⟨?_⟩⟩
        · have := hput.1
          rw [← HAD.out] at this
          exact this
        · rw [← HAD2.out]
          exact BTi.out.setCell (p := ⟨q, i, none⟩) (Nat.le_trans HBW.out (Nat.le_trans HBO.out HGB.out)) _
        · intro j hj
          have h1 := OTi.out j hj
          obtain ⟨vg, hvg, _⟩ := PTi.out.w
          obtain ⟨vs, hvs, _⟩ := PTi.out.f
          exact ⟨h1.1.same (hqg.block g (blk_lt hvg) (fun x => HOQ.out.1.1 (Option.some.inj x).symm)), h1.2.same (hqg.block s (blk_lt hvs) (fun x => HOQ.out.2.1 (Option.some.inj x).symm))⟩
    · obtain rfl : i = bs.length := by omega
      clear hlt hi
      go_wp2_with fail
      go_ret
      exact ⟨rfl, PTi.out, BTi.out, KTi.out⟩
end Go.Proofs.Ytmhmmmkpijbbiaa.M
