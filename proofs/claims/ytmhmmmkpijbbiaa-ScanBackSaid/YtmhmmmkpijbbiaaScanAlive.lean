/- The frame of the writer, and alive of the law. -/
import Derived.Test.YtmhmmmkpijbbiaaScanW
import Derived.Test.YtmhmmmkpijbbiaaScanAsk
import Derived.Lib.SlBytesConst
import Derived.LaidEqlPtr
namespace Go.Proofs.Ytmhmmmkpijbbiaa.M
open Go.RowKit Go.Proofs.YtmhmmmkpijbbiaaW.PrintWords Go.Proofs.YtmhmmmkpijbbiaaW.PrintLast Go.Proofs.YtmhmmmkpijbbiaaW.PrintMore Go.Proofs.Ytmhmmmkpijbbiaa.X
attribute [local go_sem] max2_int min2_int max_two min_two max_three min_three max_four min_four
set_option linter.unusedVariables false
set_option linter.unusedSimpArgs false
/-- A block that holds just a row of numbers is that row, and hangs on nothing else. -/
theorem blk_F {k : IntKind} {u x : Nat} {w : World} (xs : List Int) {cs : Array Value} {fr : Nat × Nat} (hb : w.heap[x]? = some (.cells cs u fr)) (hcs : cs = (xs.map (Value.int k)).toArray) (hl : xs.length ≤ 9223372036854775807) : Kd.F (Kd.int k) w (fun i => i = x) (some ⟨x, 0, none⟩) xs.length xs := by
  intro W' hW
  have hb' := (hW x rfl (blk_lt hb)).trans hb
  refine ⟨rfl, hl, fun _ => ⟨_, rfl, fun j p hj => ⟨[.int k p], rfl, rfl, fun i u hu => ?_⟩⟩⟩
  obtain ⟨hi, hv2⟩ := List.getElem?_eq_some_iff.1 hu
  obtain rfl : i = 0 := by simp at hi; omega
  simp only [List.getElem_cons_zero] at hv2
  subst hv2
  have h := cell_of_row W' x j cs u fr hb'
  rw [hcs] at h
  have he : (⟨x, 0, none⟩ : Addr).add (j * (Kd.int k).sz + 0) = ⟨x, j, none⟩ := by
    have hsz : (Kd.int k).sz = 1 := rfl
    rw [Addr.add_mid, hsz]
    congr 1
    omega
  rw [he, h]
  simp [hj]
/-- A pointer compared with itself. -/
theorem ptr_eql (w : World) (a : Addr) : (binOp .eql 25 (.pointer (some a)) (.pointer (some a))).run Try.prog w = .ok (.bool true) w := by
  obtain ⟨j, hj⟩ := Option.isSome_iff_exists.1 (by kernel_rfl : (Try.prog.info? 66).isSome = true)
  exact run_eql_ptr_same w a Try.underlying25 hj
theorem ptr_neq (w : World) (a : Addr) : (binOp .neq 25 (.pointer (some a)) (.pointer (some a))).run Try.prog w = .ok (.bool false) w := by
  obtain ⟨j, hj⟩ := Option.isSome_iff_exists.1 (by kernel_rfl : (Try.prog.info? 66).isSome = true)
  have h : ∀ d : Nat, (Op.equalIn (d + 1) 25 (.pointer (some a)) (.pointer (some a))).run Try.prog w = .ok true w := fun d => by
    simp [Op.equalIn, run_underlying Try.underlying25, sizeOf, typeInfo, hj, run_sameAddr_same]
  simp only [binOp]
  simp [Op.equal, Op.maxDepth, h 9999]
theorem WrAt.row_lt {W : World} {g B : Nat} {e : Int} {l : List Int} (hW : WrAt W g B e l) : g < W.heap.size := by
  obtain ⟨v, hb, _⟩ := hW; exact blk_lt hb
/-- What is new is apart from a writer that was there. -/
theorem apart_new {W W1 : World} {g B x : Nat} {e : Int} {l : List Int} (hW : WrAt W g B e l) (hb : Below W.heap.size W W1) (hx : W.heap.size ≤ x) : ApartW W1 g x := by
  obtain ⟨v, hv, hR, _⟩ := hW
  refine ⟨fun h => by have := blk_lt hv; omega, fun e' v' h' hq => ?_⟩
  have h9 := (blk_below hv hb).symm.trans h'
  simp only [Option.some.injEq, Obj.cells.injEq] at h9
  have h8 := h9.1
  simp at h8
  rw [← h8.2] at hq
  have := Kd.R_lt hR x hq.symm
  omega
theorem F_keepW {W W1 : World} {g n : Nat} {ok : Nat → Prop} {A : Option Addr} {xs : List Int} {k : IntKind} (h : Kd.F (Kd.int k) W ok A n xs) (hk : KeepW W W1 g) (ha : ∀ i, ok i → ApartW W g i) : Kd.F (Kd.int k) W1 ok A n xs :=
  Kd.F_step h (fun i ho hlt => (hk.2 i hlt (ha i ho)).1)
theorem ApartW.keep {W W1 : World} {g i : Nat} (h : ApartW W g i) (hk : KeepW W W1 g) (hi : i < W.heap.size) : ApartW W1 g i := (hk.2 i hi h).2
theorem ApartW.below {W W1 : World} {g i B : Nat} {e : Int} {l : List Int} (h : ApartW W g i) (hW : WrAt W g B e l) (hb : Below W.heap.size W W1) : ApartW W1 g i :=
  ⟨h.1, fun e v hv => h.2 e v ((hb.block g hW.row_lt).symm.trans hv)⟩
set_option maxRecDepth 100000 in
theorem err_calls (W : World) (g : Nat) (e : Int) (x : Value) (hb : W.heap[g]? = some (.cells #[.int .i64 e, x] 52 (0, 0))) : Calls Try.prog 17 #[.pointer (some ⟨g, 0, none⟩)] W fun en W' => en = .returned (.int .i64 e) ∧ W' = W := by
  have hc0 := blk_cell hb 0
  simp at hc0
  clear hb
  go_enter Try.func17, Try.ntmps17
  go_wp2
  go_ret
  exact ⟨rfl, rfl⟩
set_option maxRecDepth 100000 in
theorem left_calls (W : World) (g : Nat) (P : Nat → Prop) (e : Int) (l : List Int) (hR : RdAt W g P e l) :
    Calls Try.prog 18 #[.pointer (some ⟨g, 0, none⟩)] W fun en W' => en = .returned (.int .i64 (l.length : Int)) ∧ W' = W := by
  obtain ⟨A, c, hb, _, _, _⟩ := hR.opens
  have hc1 := blk_cell hb 1
  simp at hc1
  clear hb
  go_enter Try.func18, Try.ntmps18
  go_wp2
  go_ret
  exact ⟨rfl, rfl⟩
set_option maxRecDepth 100000 in
set_option maxHeartbeats 4000000 in
theorem alive_calls (W : World) : Calls Try.prog 7 #[] W fun en W' => en = .returned (.bool true) ∧ Below W.heap.size W W' := by
  have HV1 := Aside0.mk (show wrNum 60 0 [] 1 2 = some (0, [0, 1]) by kernel_rfl)
  have HV2 := Aside0.mk (show wrShortG 60 0 [0, 1] [97, 98] = some (0, [0, 1, 2, 97, 98]) by kernel_rfl)
  have HV3 := Aside0.mk (show wrVars 60 0 [0, 1, 2, 97, 98] [64] = some (0, [0, 1, 2, 97, 98, 64, 64]) by kernel_rfl)
  have HV4 := Aside0.mk (show wrLongG 60 0 [0, 1, 2, 97, 98, 64, 64] [99] = some (0, [0, 1, 2, 97, 98, 64, 64, 1, 99]) by kernel_rfl)
  have HV5 := Aside0.mk (show wrNum 60 0 [0, 1, 2, 97, 98, 64, 64, 1, 99] 256 1 = some (11, [0, 1, 2, 97, 98, 64, 64, 1, 99]) by kernel_rfl)
  have HV6 := Aside0.mk (show wrParts 60 11 [0, 1, 2, 97, 98, 64, 64, 1, 99] [[100]] = some (11, [0, 1, 2, 97, 98, 64, 64, 1, 99]) by kernel_rfl)
  have HV7 := Aside0.mk (show rdNum 60 0 [0, 1, 2, 97, 98, 64, 64] 2 = some (1, 0, [2, 97, 98, 64, 64]) by kernel_rfl)
  have HV8 := Aside0.mk (show rdShort 60 0 [2, 97, 98, 64, 64] = some ([97, 98], 0, [64, 64]) by kernel_rfl)
  have HV9 := Aside0.mk (show rdVari 60 0 [64, 64] = some (64, 0, []) by kernel_rfl)
  have HVA := Aside0.mk (show rdShort 60 0 [3, 1] = some ([], 12, [3, 1]) by kernel_rfl)
  have HVB := Aside0.mk (show rdBytes 12 [3, 1] (([3, 1] : List Int).length : Int) = ([], 12, [3, 1]) by kernel_rfl)
  have HS1 := Aside0.mk (show crosswayref00_SameBytes.f 60 [0, 1, 2, 97, 98, 64, 64] [0, 1, 2, 97, 98, 64, 64] = some true by kernel_rfl)
  have HS2 := Aside0.mk (show crosswayref00_SameBytes.f 60 [97, 98] [97, 98] = some true by kernel_rfl)
  go_enter Try.func7, Try.ntmps7
  go_wp2_with fail
  refine (write_calls _).mono ?_
  rintro en w1 ⟨rfl, hw1⟩
  obtain ⟨g, hg⟩ : ∃ g, g = W.heap.size := ⟨_, rfl⟩
  rw [← hg]
  have HB1 := Aside0.mk (show Below W.heap.size W w1 by rw [hw1]; exact below_alloc (Below.refl _ _) _)
  have HW1 := Aside0.mk (show WrAt w1 g W.heap.size 0 [] by rw [hw1, hg]; exact write_at W _ (Nat.le_refl _))
  clear hw1 hg
  go_wp2_with fail
  refine (wnumG 60 _ g _ 0 0 [] _ 1 2 HW1.out HV1.out).mono ?_
  rintro en w2 ⟨rfl, hw2, hb2, _⟩
  have HW2 := Aside0.mk hw2
  have HB2 := Aside0.mk (HB1.out.trans hb2)
  clear hw2 hb2 HW1 HB1
  have hcv := Go.Lib.run_convert_bytes_const (P := Try.prog) w2 28 5 #[.int .u8 97, .int .u8 98] 2 2 Try.underlying28 Try.underlying5
  simp only [List.size_toArray, List.length_cons, List.length_nil, Nat.zero_add, Nat.reduceAdd] at hcv
  go_wp2_with fail
  clear hcv
  have HA2 := Aside0.mk (below_alloc (Below.refl w2.heap.size w2) (.cells #[.int .u8 97, .int .u8 98] 5 (2, 3)))
  have HF2 := Aside0.mk (blk_F (k := .u8) [97, 98] (blk_new w2 (.cells #[.int .u8 97, .int .u8 98] 5 (2, 3))) rfl (by decide))
  have HX2 := Aside0.mk (apart_new HW2.out HA2.out (Nat.le_refl _))
  refine (wshortG 60 _ g _ 0 0 _ _ [97, 98] _ _ (HW2.out.below HA2.out) (fun W2 hk => Kd.F_now (F_keepW HF2.out hk (fun i hi => by rw [hi]; exact HX2.out))) (Nat.le_refl _) HV2.out).mono ?_
  rintro en w3 ⟨rfl, hw3, hb3, _⟩
  have HW3 := Aside0.mk hw3
  have HB3 := Aside0.mk ((HB2.out.trans (HA2.out.mono HB2.out.size)).trans hb3)
  clear hw3 hb3 HW2 HB2 HA2 HF2 HX2
  go_wp2_with fail
  have HA3 := Aside0.mk (below_alloc (Below.refl w3.heap.size w3) (.cells #[.int .u64 64] 33))
  have HF3 := Aside0.mk (Kd.F_now (blk_F (k := .u64) [64] (blk_new w3 (.cells #[.int .u64 64] 33)) rfl (by decide)))
  refine (wvarsG 60 _ g _ 0 0 _ _ _ _ [64] (HW3.out.below HA3.out) HF3.out (Nat.le_refl _) HV3.out).mono ?_
  rintro en w4 ⟨rfl, hw4, hb4, _⟩
  have HW4 := Aside0.mk hw4
  have HB4 := Aside0.mk ((HB3.out.trans (HA3.out.mono HB3.out.size)).trans hb4)
  clear hw4 hb4 HW3 HB3 HA3 HF3
  go_wp2_with fail
  refine (done_calls _ g _ 0 _ HW4.out (by decide)).mono ?_
  rintro en w5 ⟨v1, rfl, hr, hb5⟩
  rw [if_pos rfl] at hr
  obtain ⟨Ab, cb, rfl, hcb, _⟩ := row_at hr
  obtain ⟨O, hO⟩ : ∃ O : Nat → Prop, O = (fun k => some k = (Value.slice Ab ([0, 1, 2, 97, 98, 64, 64] : List Int).length cb).ownBlock) := ⟨_, rfl⟩
  have HCB := Aside0.mk hcb
  have HF := Aside0.mk (show Kd.F (Kd.int .u8) w5 O Ab 7 [0, 1, 2, 97, 98, 64, 64] by rw [hO]; exact Kd.R_F (Kd.R_tight rfl hr))
  have HOX := Aside0.mk (show ∀ i, O i → ApartW w5 g i ∧ i < w5.heap.size by
    rw [hO]
    exact fun i hi => ⟨apart_new HW4.out hb5 (Kd.R_base hr i hi.symm), Kd.R_lt hr i hi.symm⟩)
  have HW5 := Aside0.mk (HW4.out.below hb5)
  have HB5 := Aside0.mk (HB4.out.trans (hb5.mono HB4.out.size))
  clear hr hb5 HW4 HB4 hcb hO
  have hcv := Go.Lib.run_convert_bytes_const (P := Try.prog) w5 28 5 #[.int .u8 99] 1 1 Try.underlying28 Try.underlying5
  simp only [List.size_toArray, List.length_cons, List.length_nil, Nat.zero_add, Nat.reduceAdd] at hcv
  go_wp2_with fail
  clear hcv
  have HA5 := Aside0.mk (below_alloc (Below.refl w5.heap.size w5) (.cells #[.int .u8 99] 5 (1, 2)))
  have HF5 := Aside0.mk (blk_F (k := .u8) [99] (blk_new w5 (.cells #[.int .u8 99] 5 (1, 2))) rfl (by decide))
  have HX5 := Aside0.mk (apart_new HW5.out HA5.out (Nat.le_refl _))
  refine (wlongG 60 _ g _ 0 0 _ _ [99] _ _ (HW5.out.below HA5.out) (fun W2 hk => Kd.F_now (F_keepW HF5.out hk (fun i hi => by rw [hi]; exact HX5.out))) (Nat.le_refl _) HV4.out).mono ?_
  rintro en w6 ⟨rfl, hw6, hb6, hk6⟩
  have HW6 := Aside0.mk hw6
  have HB6 := Aside0.mk ((HB5.out.trans (HA5.out.mono HB5.out.size)).trans hb6)
  have HK6 := Aside0.mk ((KeepW.below HA5.out HW5.out.row_lt).trans hk6)
  clear hw6 hb6 hk6 HW5 HB5 HA5 HF5 HX5
  go_wp2_with fail
  refine (wnumG 60 _ g _ 0 11 _ _ 256 1 HW6.out HV5.out).mono ?_
  rintro en w7 ⟨rfl, hw7, hb7, hk7⟩
  have HW7 := Aside0.mk hw7
  have HB7 := Aside0.mk (HB6.out.trans hb7)
  have HK7 := Aside0.mk (HK6.out.trans hk7)
  clear hw7 hb7 hk7 HW6 HB6 HK6
  have hcv := Go.Lib.run_convert_bytes_const (P := Try.prog) w7 28 5 #[.int .u8 100] 1 1 Try.underlying28 Try.underlying5
  simp only [List.size_toArray, List.length_cons, List.length_nil, Nat.zero_add, Nat.reduceAdd] at hcv
  go_wp2_with fail
  clear hcv
  have HA7 := Aside0.mk (below_alloc (below_alloc (Below.refl w7.heap.size w7) (.cells #[.int .u8 100] 5 (1, 2))) (.cells #[.slice (some ⟨w7.heap.size, 0, none⟩) 1 1] 28))
  have hf7 := (one_row (t := 5) (u := 28) (c := 1) (Kd.F_now (blk_F (k := .u8) [100] (blk_new w7 (.cells #[.int .u8 100] 5 (1, 2))) rfl (by decide))) (Nat.le_refl _))
  rw [show (w7.alloc (.cells #[.int .u8 100] 5 (1, 2))).heap.size = w7.heap.size + 1 by simp] at hf7
  have HF7 := Aside0.mk hf7
  clear hf7
  refine (wpartsG 60 _ g _ 11 11 _ _ _ _ [[100]] (HW7.out.below HA7.out) HF7.out (Nat.le_refl _) HV6.out).mono ?_
  rintro en w8 ⟨rfl, hw8, hb8, hk8⟩
  have HW8 := Aside0.mk hw8
  have HB8 := Aside0.mk ((HB7.out.trans (HA7.out.mono HB7.out.size)).trans hb8)
  have HK8 := Aside0.mk ((HK7.out.trans (KeepW.below HA7.out HW7.out.row_lt)).trans hk8)
  clear hw8 hb8 hk8 HW7 HB7 HA7 HF7 HK7
  go_wp2_with fail
  refine (done_calls _ g _ 11 _ HW8.out (by decide)).mono ?_
  rintro en w9 ⟨v2, rfl, hr, hb9⟩
  obtain ⟨A2, c2, rfl, _, _⟩ := row_at hr
  have HF9 := Aside0.mk (Kd.F_below (F_keepW HF.out HK8.out (fun i hi => (HOX.out i hi).1)) hb9)
  have HO9 := Aside0.mk (show ∀ i, O i → i < w9.heap.size from fun i hi => Nat.lt_of_lt_of_le (HOX.out i hi).2 (Nat.le_trans HK8.out.1 hb9.size))
  have HB9 := Aside0.mk (HB8.out.trans (hb9.mono HB8.out.size))
  clear hr hb9 HW8 HB8 HK8 HF HOX
  go_wp2_with fail
  refine (read_calls _ Ab _ cb).mono ?_
  rintro en w10 ⟨rfl, hw⟩
  obtain ⟨r, hr⟩ : ∃ r, r = w9.heap.size := ⟨_, rfl⟩
  rw [← hr]
  have HR10 := Aside0.mk (show RdAt w10 r O 0 [0, 1, 2, 97, 98, 64, 64] by rw [hw, hr]; exact ⟨Ab, cb, heap_alloc_new w9 _, HCB.out, Kd.F_alloc HF9.out _, fun h => by have := HO9.out _ h; omega⟩)
  have HB10 := Aside0.mk (show Below W.heap.size W w10 by rw [hw]; exact HB9.out.alloc HB9.out.size _)
  have HF10 := Aside0.mk (show Kd.F (Kd.int .u8) w10 O Ab 7 [0, 1, 2, 97, 98, 64, 64] by rw [hw]; exact Kd.F_alloc HF9.out _)
  have HOr := Aside0.mk (show ∀ i, O i → i ≠ r from fun i hi e => by have := HO9.out i hi; omega)
  have HSZ := Aside0.mk (show w9.heap.size ≤ w10.heap.size by rw [hw]; simp)
  have HrW := Aside0.mk (show W.heap.size ≤ r by rw [hr]; exact HB9.out.size)
  clear hw hr HF9 HB9
  have hpp := ptr_neq w10 ⟨g, 0, none⟩
  go_wp2_with fail
  clear hpp
  refine (num_calls 60 _ r O 0 2 _ _ _ _ HR10.out (by decide) HV7.out).mono ?_
  rintro en w11 ⟨rfl, hr11, hg11⟩
  have HR11 := Aside0.mk hr11
  have HG11 := Aside0.mk hg11
  clear hr11 hg11 HR10
  go_wp2_with fail
  refine (short_calls 60 _ r O 0 _ _ _ _ HR11.out (by decide) HV8.out).mono ?_
  rintro en w12 ⟨vs, rfl, hvs, hr12, hg12⟩
  obtain ⟨As, cs, rfl, hcs, _⟩ := row_at hvs
  obtain ⟨OS, hOS⟩ : ∃ OS : Nat → Prop, OS = (fun k => some k = (Value.slice As ([97, 98] : List Int).length cs).ownBlock) := ⟨_, rfl⟩
  have HCS := Aside0.mk hcs
  have HFS := Aside0.mk (show Kd.F (Kd.int .u8) w12 OS As 2 [97, 98] by rw [hOS]; exact Kd.R_F (Kd.R_tight rfl hvs))
  have HOS := Aside0.mk (show ∀ i, OS i → i ≠ r ∧ i < w12.heap.size by
    rw [hOS]
    obtain ⟨_, _, hbr, _⟩ := hr12.opens
    exact fun i hi => ⟨fun e => Kd.R_ne hvs hbr (by decide) (by rw [← e]; exact hi), Kd.R_lt hvs i hi.symm⟩)
  have HR12 := Aside0.mk hr12
  have HG12 := Aside0.mk (HG11.out.trans hg12)
  clear hr12 hg12 hvs hcs hOS HR11 HG11
  go_wp2_with fail
  refine (vari_calls 60 _ r O 0 _ _ _ _ HR12.out (by decide) HV9.out).mono ?_
  rintro en w13 ⟨rfl, hr13, hg13⟩
  have HR13 := Aside0.mk hr13
  have HG13 := Aside0.mk hg13
  clear hr13 hg13 HR12
  go_wp2_with fail
  refine (end_calls _ r O 0 [] HR13.out).mono ?_
  rintro en w14 ⟨rfl, hr14, hg14⟩
  have HG14 := Aside0.mk (HG13.out.trans hg14)
  have HB14 := Aside0.mk (HB10.out.grown (HG12.out.trans HG14.out) HB10.out.size (fun k e => by cases e; exact HrW.out))
  have HF14 := Aside0.mk (Kd.F_grown HF10.out (HG12.out.trans HG14.out) (fun k hk e => HOr.out k hk (by cases e; rfl)))
  have HFS14 := Aside0.mk (Kd.F_grown HFS.out HG14.out (fun k hk e => (HOS.out k hk).1 (by cases e; rfl)))
  have HS14 := Aside0.mk HG14.out.size
  have HS10 := Aside0.mk (HG12.out.trans HG14.out).size
  clear hr14 hg14 HR13 HG13 HB10 HF10 HFS HG12
  rw [show rdEnd 0 [] = 0 from rfl]
  go_wp2_with fail
  have HF15 := Aside0.mk (blk_F (k := .u8) [3, 1] (blk_new w14 (.cells #[.int .u8 3, .int .u8 1] 5)) rfl (by decide))
  have HA15 := Aside0.mk (below_alloc (Below.refl w14.heap.size w14) (.cells #[.int .u8 3, .int .u8 1] 5))
  refine (read_calls _ (some ⟨w14.heap.size, 0, none⟩) 2 2).mono ?_
  rintro en w15 ⟨rfl, hw⟩
  obtain ⟨t, ht⟩ : ∃ t, t = (w14.alloc (.cells #[.int .u8 3, .int .u8 1] 5)).heap.size := ⟨_, rfl⟩
  rw [← ht]
  have htt : t = w14.heap.size + 1 := by rw [ht]; simp
  have HR15 := Aside0.mk (show RdAt w15 t (fun i => i = w14.heap.size) 0 [3, 1] by rw [hw, ht]; exact ⟨_, _, heap_alloc_new _ _, Nat.le_refl 2, Kd.F_alloc HF15.out _, by simp⟩)
  have HA152 := Aside0.mk (show Below w14.heap.size w14 w15 by rw [hw]; exact HA15.out.alloc HA15.out.size _)
  have HTT := Aside0.mk htt
  clear hw ht htt HF15 HA15
  go_wp2_with fail
  refine (short_calls 60 _ t (fun i => i = w14.heap.size) 0 _ _ _ _ HR15.out (by decide) HVA.out).mono ?_
  rintro en w16 ⟨vo, rfl, hvo, hr16, hg16⟩
  obtain ⟨Ao, co, rfl, hco, _⟩ := row_at hvo
  have HB16 := Aside0.mk ((HB14.out.trans (HA152.out.mono HB14.out.size)).grown hg16 (HB14.out.trans (HA152.out.mono HB14.out.size)).size (fun k e => by cases e; have := HTT.out; have := HB14.out.size; omega))
  have HFB := Aside0.mk (Kd.F_grown (Kd.F_below HF14.out HA152.out) hg16 (fun k hk e => by have e' := Option.some.inj e; have := HO9.out k hk; have := HTT.out; have := HS10.out; have := HSZ.out; omega))
  have HFC := Aside0.mk (Kd.F_grown (Kd.F_below HFS14.out HA152.out) hg16 (fun k hk e => by have e' := Option.some.inj e; have := (HOS.out k hk).2; have := HTT.out; have := HS14.out; omega))
  have HR16 := Aside0.mk hr16
  clear hr16 hg16 hvo hco HF14 HFS14 HR15
  go_wp2_with fail
  refine (crosswayref00_SameBytes.calls 60 _ _ [0, 1, 2, 97, 98, 64, 64] _ _ [0, 1, 2, 97, 98, 64, 64] true _ (Kd.F_now (Kd.F_alloc HFB.out _)) HCB.out (Kd.F_now (blk_F (k := .u8) [0, 1, 2, 97, 98, 64, 64] (blk_new w16 (.cells #[.int .u8 0, .int .u8 1, .int .u8 2, .int .u8 97, .int .u8 98, .int .u8 64, .int .u8 64] 5)) rfl (by decide))) (Nat.le_refl _) HS1.out).mono ?_
  rintro en w17 ⟨rfl, hd17⟩
  have HA17 := Aside0.mk ((below_alloc (Below.refl w16.heap.size w16) (.cells #[.int .u8 0, .int .u8 1, .int .u8 2, .int .u8 97, .int .u8 98, .int .u8 64, .int .u8 64] 5)).trans (hd17.below.mono (by simp)))
  have HB17 := Aside0.mk (HB16.out.trans (HA17.out.mono HB16.out.size))
  have HFC17 := Aside0.mk (Kd.F_below HFC.out HA17.out)
  have HR17 := Aside0.mk (HR16.out.below HA17.out)
  clear hd17 HFB HFC HR16 HB16 HA17
  have hcv := Go.Lib.run_convert_bytes_const (P := Try.prog) w17 28 5 #[.int .u8 97, .int .u8 98] 2 2 Try.underlying28 Try.underlying5
  simp only [List.size_toArray, List.length_cons, List.length_nil, Nat.zero_add, Nat.reduceAdd] at hcv
  go_wp2_with fail
  clear hcv
  refine (crosswayref00_SameBytes.calls 60 _ _ [97, 98] _ _ [97, 98] true _ (Kd.F_now (Kd.F_alloc HFC17.out _)) HCS.out (Kd.F_now (blk_F (k := .u8) [97, 98] (blk_new w17 (.cells #[.int .u8 97, .int .u8 98] 5 (2, 3))) rfl (by decide))) (Nat.le_refl _) HS2.out).mono ?_
  rintro en w18 ⟨rfl, hd18⟩
  have HA18 := Aside0.mk ((below_alloc (Below.refl w17.heap.size w17) (.cells #[.int .u8 97, .int .u8 98] 5 (2, 3))).trans (hd18.below.mono (by simp)))
  have HB18 := Aside0.mk (HB17.out.trans (HA18.out.mono HB17.out.size))
  have HR18 := Aside0.mk (HR17.out.below HA18.out)
  clear hd18 HFC17 HR17 HB17 HA18
  obtain ⟨At, ct, hbt, _⟩ := HR18.out.opens
  have HBT := Aside0.mk hbt
  clear hbt
  go_wp2_with fail
  refine (err_calls _ t 12 _ HBT.out).mono ?_
  rintro en w19 ⟨rfl, rfl⟩
  go_wp2_with fail
  refine (left_calls _ t _ 12 _ HR18.out).mono ?_
  rintro en w20 ⟨rfl, rfl⟩
  go_wp2_with fail
  refine (rest_calls _ t _ 12 _ _ _ _ HR18.out (by decide) HVB.out).mono ?_
  rintro en w21 ⟨vr, rfl, hvr, hr21, hg21⟩
  obtain ⟨Ar, cr, rfl, hcr, _⟩ := row_at hvr
  have HB21 := Aside0.mk (HB18.out.grown hg21 HB18.out.size (fun k e => by cases e; have := HTT.out; have := HB14.out.size; omega))
  clear hvr hr21 hg21 hcr
  go_wp2_with fail
  go_ret
  exact ⟨rfl, HB21.out⟩
end Go.Proofs.Ytmhmmmkpijbbiaa.M
