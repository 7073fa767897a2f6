/- ghash: the reference's Sum. Written by wip/gen/ghrsum.py. -/
import Derived.Test.YtmhmmmkpijbbiabGhRef
namespace Go.Proofs.Ytmhmmmkpijbbiab.Gh
open Go.RowKit Go.Proofs.YtmhmmmkpijbbiabW.PrintWords Go.Proofs.YtmhmmmkpijbbiabW.PrintLast Go.Proofs.YtmhmmmkpijbbiabW.PrintMore Go.Proofs.Ytmhmmmkpijbbiab.X Go.Proofs.Ytmhmmmkpijbbiab.M Go.Proofs.Ytmhmmmkpijbbiab.Bv Go.Proofs.Ytmhmmmkpijbbiab.Gf Go.Proofs.Ytmhmmmkpijbbiab.Arr Go.Proofs.Ytmhmmmkpijbbiab.ArrX Go.Proofs.Ytmhmmmkpijbbiab.PuLib Go.Proofs.Ytmhmmmkpijbbiab.PuCat
open Go.Proofs.Ytmhmmmkpijbbiab.ArrW (infoP_ zeroP byteAt)
attribute [local go_sem] max2_int min2_int max_two min_two max_three min_three max_four min_four
set_option linter.unusedVariables false
set_option linter.unusedSimpArgs false
theorem putL_snoc (n c : Nat) (hc : c < 8) : putL (n : Int) (c + 1) = putL ((n / 256 : Nat) : Int) c ++ [((n % 256 : Nat) : Int)] := by
  rw [putL_be _ _ (by omega), putL_be _ _ (by omega), List.range_succ, List.map_append, List.map_singleton]
  congr 1
  · apply List.map_congr_left
    intro j hj
    have hj' := List.mem_range.1 hj
    show byteAt (n : Int) (c + 1 - 1 - j) = byteAt ((n / 256 : Nat) : Int) (c - 1 - j)
    rw [byteAt_nat, byteAt_nat, Nat.div_div_eq_div_mul, show (256 : Nat) = 2 ^ 8 from rfl, ← Nat.pow_add, show 8 + 8 * (c - 1 - j) = 8 * (c + 1 - 1 - j) by omega]
  · show [byteAt (n : Int) (c + 1 - 1 - c)] = _
    rw [byteAt_nat, show c + 1 - 1 - c = 0 by omega]
    simp
theorem long_l0 : ∀ (c n : Nat) (T : List Int), c ≤ 8 → T.length + c = 8 → n ≤ 1000000 → Ev (fun k => crosswayref05_long.l0 k (n : Int) (List.replicate c 0 ++ T) ((c : Int) - 1)) (putL (n : Int) c ++ T) := by
  intro c
  induction c with
  | zero =>
    intro n T _ hT _
    exact Ev.step (f := fun _ => some T) (fun k => by simp only [crosswayref05_long.l0]; rw [if_neg (by omega)]; rfl) (Ev.now _)
  | succ c ih =>
    intro n T hc hT hn
    have hlen : (List.replicate (c + 1) (0 : Int) ++ T).length = 8 := by rw [List.length_append, List.length_replicate]; omega
    have e1 : ((c + 1 : Nat) : Int) - 1 = (c : Int) := by omega
    have e2 : wrap64 (Int.tdiv (n : Int) 256) = ((n / 256 : Nat) : Int) := by
      have h : Int.tdiv (n : Int) 256 = ((n / 256 : Nat) : Int) := rfl
      rw [h]
      unfold wrap64
      omega
    have e3 : Int.tmod (n : Int) 256 % 256 = ((n % 256 : Nat) : Int) := by
      have h : Int.tmod (n : Int) 256 = ((n % 256 : Nat) : Int) := rfl
      rw [h]
      omega
    have e4 : wrap64 ((c : Int) - 1) = (c : Int) - 1 := by unfold wrap64; omega
    have e5 : (List.replicate (c + 1) (0 : Int) ++ T).set ((c : Int)).toNat ((n % 256 : Nat) : Int) = List.replicate c 0 ++ (((n % 256 : Nat) : Int) :: T) := by
      rw [Int.toNat_natCast, show List.replicate (c + 1) (0 : Int) = List.replicate c 0 ++ [0] from List.replicate_succ', List.append_assoc, List.set_append_right _ _ (by rw [List.length_replicate]; omega), List.length_replicate, Nat.sub_self]
      rfl
    refine Ev.step (f := fun k => crosswayref05_long.l0 k ((n / 256 : Nat) : Int) (List.replicate c 0 ++ (((n % 256 : Nat) : Int) :: T)) ((c : Int) - 1)) (fun k => by
      rw [e1]
      simp only [crosswayref05_long.l0]
      rw [if_pos (by omega), if_pos (by omega), if_pos (by rw [hlen]; omega), e2, e3, e4, e5]) ?_
    refine PuLib.ev_eq (ih (n / 256) (((n % 256 : Nat) : Int) :: T) (by omega) (by rw [List.length_cons]; omega) (by omega)) ?_
    rw [putL_snoc n c (by omega), List.append_assoc]
    rfl
theorem long_ev (a : Nat) (ha : a ≤ 3000) : Ev (fun k => crosswayref05_long.f k (a : Int)) (putL ((8 * a : Nat) : Int) 8) := by
  have e : wrap64 ((a : Int) * 8) = ((8 * a : Nat) : Int) := by unfold wrap64; omega
  have h := long_l0 8 (8 * a) [] (Nat.le_refl 8) rfl (by omega)
  rw [List.append_nil, List.append_nil] at h
  refine Ev.congr (fun k => ?_) h
  rw [crosswayref05_long.f, if_pos (by decide), e]
  rfl
theorem long_calls (a : Nat) (ha : a ≤ 3000) (w : World) : Calls Try.prog 33 #[.int .i64 (a : Int)] w fun e w' => ∃ v, e = .returned v ∧ Kd.R (Kd.int .u8) 5 w' w.heap.size (fun _ => True) v (putL ((8 * a : Nat) : Int) 8) ∧ Below w.heap.size w w' := by
  obtain ⟨k, hk⟩ := Ev.rounds (long_ev a ha)
  exact crosswayref05_long.calls k _ _ w hk
theorem len_bytes (a b : Nat) (hb : b ≤ 3000) : putL ((8 * a : Nat) : Int) 8 ++ putL ((8 * b : Nat) : Int) 8 = bytesN (lenN a b) := by
  rw [← bytes_E, lenN_E a b (by omega)]
theorem blocks_one (y : Nat) (hy : y < top) : blocksN (bytesN y) = [y] := by
  have h1 : parts (bytesN y).length = [0] := by rw [bytesN_length]; decide
  unfold blocksN
  rw [h1, List.map_singleton]
  unfold blk16
  have h2 : part (bytesN y) 0 = bytesN y := by unfold part; rw [List.drop_zero, List.take_of_length_le (by rw [bytesN_length]; omega)]
  have h3 : pad (bytesN y) = bytesN y := by unfold pad; rw [bytesN_length]; exact List.append_nil _
  rw [h2, h3, ofB_bytesN hy]
theorem zcP_ : Try.zeroCells43 = (arr 128 fun _ => false) := by kernel_rfl
theorem pv0 : pv 0 = .agg (arr 128 fun _ => false) := by
  show Value.agg (arr 128 (fb 0)) = _
  rw [arr_congr (g := fun _ => false) (fun i _ => by unfold fb; simp)]
theorem zcP : Value.agg Try.zeroCells43 = pv 0 := by
  rw [pv0]
  exact congrArg Value.agg zcP_
set_option maxRecDepth 100000 in
set_option maxHeartbeats 8000000 in
theorem rsum_calls (n : Nat) (hn : n < top) (l1 l2 : List Int) (p1 p2 : Nat) (hp1 : p1 = l1.length) (hp2 : p2 = l2.length) (k1 : p1 ≤ 300) (k2 : p2 ≤ 300) (g1 : ∀ x ∈ l1, 0 ≤ x ∧ x < 256) (g2 : ∀ x ∈ l2, 0 ≤ x ∧ x < 256) (A0 : Option Addr) (c0 : Nat) (A1 : Option Addr) (c1 : Nat) (A2 : Option Addr) (c2 : Nat) (w : World) (hC0 : Kd.C (Kd.int .u8) w A0 16 (bytesN n)) (hC1 : Kd.C (Kd.int .u8) w A1 p1 l1) (hc1 : p1 ≤ c1) (hC2 : Kd.C (Kd.int .u8) w A2 p2 l2) (hc2 : p2 ≤ c2) :
    Calls Try.prog 15 #[.slice A0 16 c0, .slice A1 p1 c1, .slice A2 p2 c2] w fun e w' => ∃ v, e = .returned v ∧ Kd.R (Kd.int .u8) 5 w' w.heap.size (fun _ => True) v (bytesN (foldN n (sumB l1 l2) 0)) ∧ Below w.heap.size w w' := by
  have HN := Aside0.mk hn
  have HP1 := Aside0.mk hp1
  have HP2 := Aside0.mk hp2
  have HK1 := Aside0.mk k1
  have HK2 := Aside0.mk k2
  have HG1 := Aside0.mk g1
  have HG2 := Aside0.mk g2
  have HC0 := Aside0.mk hC0
  have HC1 := Aside0.mk hC1
  have HL1 := Aside0.mk hc1
  have HC2 := Aside0.mk hC2
  have HL2 := Aside0.mk hc2
  clear hn hp1 hp2 k1 k2 g1 g2 hC0 hC1 hc1 hC2 hc2
  go_enter Try.func15, Try.ntmps15
  go_wp2_with fail
  (with_reducible refine (rblocks_calls l1 p1 HP1.out HG1.out (Nat.le_trans HK1.out (by decide)) A1 c1 w HC1.out HL1.out).mono ?_)
  rintro en w1 ⟨v, rfl, hr, hb⟩
  obtain ⟨B1, d1, rfl⟩ := Kd.R_slice hr
  obtain ⟨m1, hm1⟩ : ∃ m1, m1 = (blocksN l1).length := ⟨_, rfl⟩
  rw [← hm1] at hr ⊢
  have HR1 := Aside0.mk hr
  have HM1 := Aside0.mk (show m1 = (blocksN l1).length ∧ m1 ≤ 20 from ⟨hm1, by rw [hm1, blocksN_length]; have h1 := HK1.out; have h2 := HP1.out; omega⟩)
  have HB1 := Aside0.mk hb
  clear hr hb hm1
  go_wp2_with fail
  (with_reducible refine (rblocks_calls l2 p2 HP2.out HG2.out (Nat.le_trans HK2.out (by decide)) A2 c2 w1 (Kd.C_below HC2.out HB1.out) HL2.out).mono ?_)
  rintro en w2 ⟨v, rfl, hr, hb⟩
  obtain ⟨B2, d2, rfl⟩ := Kd.R_slice hr
  obtain ⟨m2, hm2⟩ : ∃ m2, m2 = (blocksN l2).length := ⟨_, rfl⟩
  rw [← hm2] at hr ⊢
  have hr2 := Kd.R_reads' hr
  have HR2 := Aside0.mk (show Kd.C kP w2 B2 m2 (blocksN l2) by have h1 := hr2.2.2; rw [← hr2.1] at h1; exact h1)
  have HM2 := Aside0.mk (show m2 = (blocksN l2).length ∧ m2 ≤ 20 from ⟨hm2, by rw [hm2, blocksN_length]; have h1 := HK2.out; have h2 := HP2.out; omega⟩)
  have HR1 := Aside0.mk (Kd.R_below HR1.out hb)
  have HB2 := Aside0.mk (HB1.out.trans (hb.mono HB1.out.size))
  clear hr hr2 hb hm2 HB1
  go_wp2_with ((with_reducible refine gate_builtin (b := .append) (xs := #[.tmp 9, .tmp 11]) rfl ?_); at_builtin; refine Kd.R_append_rows kP (w0 := w2) w.heap.size rfl (.tmp 9) (.tmp 11) 31 43 (.agg (arr 128 fun _ => false)) 128 rfl Try.underlying31 infoZ (arr_size 128 _) (by decide) (by omega) (.slice B1 m1 d1) (blocksN l1) (blocksN l2) B2 m2 d2 (fun _ => True) (fun _ => False) rfl rfl HR1.out HR2.out (fun _ _ h => h) (fun _ h => h.elim) (fun _ _ => trivial) (Below.mono (Below.refl w2.heap.size w2) (HB2.out.size)) (HB2.out.size) (by have h1 := HM1.out; have h2 := HM2.out; omega) ?_; intro v3 w3 ho hb hg hat; obtain ⟨B3, d3, rfl⟩ := Kd.R_slice ho; (have hl : (blocksN l1 ++ blocksN l2).length = m1 + m2 := by rw [List.length_append, ← HM1.out.1, ← HM2.out.1]); obtain ⟨m3, hm3⟩ : ∃ m3, m3 = m1 + m2 := ⟨_, rfl⟩; rw [hl, ← hm3] at ho ⊢; have HR3 := Aside0.mk ho; have HR3L := Aside0.mk (Kd.R_lt ho); have HM3 := Aside0.mk hm3; have HB3 := Aside0.mk (HB2.out.grown hg HB2.out.size (fun i hi => Kd.R_base HR1.out i hi)); clear ho hb hg hat hl hm3 HR1 HR2 HB2)
  (with_reducible refine (long_calls p1 (Nat.le_trans HK1.out (by decide)) w3).mono ?_)
  rintro en w4 ⟨v, rfl, hr, hb⟩
  obtain ⟨B4, d4, rfl⟩ := Kd.R_slice hr
  rw [putL_length] at hr ⊢
  have HR4 := Aside0.mk hr
  have HR3 := Aside0.mk (Kd.R_below HR3.out hb)
  have HB4 := Aside0.mk (HB3.out.trans (hb.mono HB3.out.size))
  have HZ4 := Aside0.mk HB3.out.size
  have HZ45 := Aside0.mk hb.size
  have HR3L := Aside0.mk (show ∀ i, (Value.slice B3 m3 d3).ownBlock = some i → i < w3.heap.size from fun i hi => HR3L.out i hi)
  clear hr hb HB3
  go_wp2_with fail
  (with_reducible refine (long_calls p2 (Nat.le_trans HK2.out (by decide)) w4).mono ?_)
  rintro en w5 ⟨v, rfl, hr, hb⟩
  obtain ⟨B5, d5, rfl⟩ := Kd.R_slice hr
  rw [putL_length] at hr ⊢
  have hr5 := Kd.R_reads' hr
  have HR5 := Aside0.mk (show Kd.C (Kd.int .u8) w5 B5 8 (putL ((8 * p2 : Nat) : Int) 8) by have h1 := hr5.2.2; rw [putL_length] at h1; exact h1)
  have HR4 := Aside0.mk (Kd.R_below HR4.out hb)
  have HR3 := Aside0.mk (Kd.R_below HR3.out hb)
  have HZ5 := Aside0.mk (Nat.le_trans HZ45.out hb.size)
  have HB5 := Aside0.mk (HB4.out.trans (hb.mono HB4.out.size))
  clear hr hr5 hb HB4
  go_wp2_with ((with_reducible refine gate_builtin (b := .append) (xs := #[.tmp 16, .tmp 19]) rfl ?_); at_builtin; refine Kd.R_append_rows (Kd.int .u8) (w0 := w5) w3.heap.size rfl (.tmp 16) (.tmp 19) 22 5 (.int .u8 0) 1 rfl Try.underlying22 M.info5 rfl (by decide) (by omega) (.slice B4 8 d4) (putL ((8 * p1 : Nat) : Int) 8) (putL ((8 * p2 : Nat) : Int) 8) B5 8 d5 (fun _ => True) (fun _ => False) rfl rfl HR4.out HR5.out (fun _ _ h => h) (fun _ h => h.elim) (fun _ _ => trivial) (Below.mono (Below.refl w5.heap.size w5) HZ5.out) HZ5.out (by rw [putL_length]; decide) ?_; intro v6 w6 ho hb hg hat; (have hq : putL ((8 * p1 : Nat) : Int) 8 ++ putL ((8 * p2 : Nat) : Int) 8 = bytesN (lenN p1 p2) := len_bytes p1 p2 (Nat.le_trans HK2.out (by decide))); rw [hq] at ho; obtain ⟨y, hy⟩ : ∃ y, y = lenN p1 p2 := ⟨_, rfl⟩; rw [← hy] at ho; obtain ⟨B6, d6, rfl⟩ := Kd.R_slice ho; rw [bytesN_length] at ho ⊢; have hr6 := Kd.R_reads' ho; have HC6 := Aside0.mk (show Kd.C (Kd.int .u8) w6 B6 16 (bytesN y) by have h1 := hr6.2.2; rw [bytesN_length] at h1; exact h1); have HD6 := Aside0.mk hr6.2.1; have HY := Aside0.mk hy; have HYL := Aside0.mk (show y < top by rw [hy]; exact lenN_lt _ _ (Nat.le_trans HK1.out (by decide)) (Nat.le_trans HK2.out (by decide))); have HR3 := Aside0.mk (Kd.R_grown2 HR3.out rfl hg (fun i e hi => by have h1 := Kd.R_base HR4.out i e; have h2 := HR3L.out i hi.symm; omega)); have HB6 := Aside0.mk (HB5.out.grown hg HB5.out.size (fun i hi => by have h1 := Kd.R_base HR4.out i hi; have h2 := HZ4.out; omega)); clear ho hb hg hat hq hy hr6 HR4 HR5 HB5)
  (with_reducible refine (rblocks_calls (bytesN y) 16 (bytesN_length y).symm (fun x hx => bytesN_mem hx) (by decide) B6 d6 w6 HC6.out HD6.out).mono ?_)
  rintro en w7 ⟨v, rfl, hr, hb⟩
  rw [blocks_one y HYL.out] at hr
  obtain ⟨B7, d7, rfl⟩ := Kd.R_slice hr
  have hr7 := Kd.R_reads' hr
  have HR7 := Aside0.mk (show Kd.C kP w7 B7 1 [y] from hr7.2.2)
  have HR3 := Aside0.mk (Kd.R_below HR3.out hb)
  have HB7 := Aside0.mk (HB6.out.trans (hb.mono HB6.out.size))
  rw [List.length_singleton]
  clear hr hr7 hb HB6 HC6
  go_wp2_with ((with_reducible refine gate_builtin (b := .append) (xs := #[.tmp 13, .tmp 21]) rfl ?_); at_builtin; refine Kd.R_append_rows kP (w0 := w7) w.heap.size rfl (.tmp 13) (.tmp 21) 31 43 (.agg (arr 128 fun _ => false)) 128 rfl Try.underlying31 infoZ (arr_size 128 _) (by decide) (by omega) (.slice B3 m3 d3) (blocksN l1 ++ blocksN l2) ([y]) B7 1 d7 (fun _ => True) (fun _ => False) rfl rfl HR3.out HR7.out (fun _ _ h => h) (fun _ h => h.elim) (fun _ _ => trivial) (Below.mono (Below.refl w7.heap.size w7) (HB7.out.size)) (HB7.out.size) (by rw [List.length_append, ← HM1.out.1, ← HM2.out.1]; have h1 := HM1.out; have h2 := HM2.out; omega) ?_; intro v8 w8 ho hb hg hat; obtain ⟨B8, d8, rfl⟩ := Kd.R_slice ho; (have hx : (blocksN l1 ++ blocksN l2) ++ [y] = sumB l1 l2 := by unfold sumB; rw [HY.out, HP1.out, HP2.out]); rw [hx] at ho ⊢; obtain ⟨m8, hm8⟩ : ∃ m8, m8 = (sumB l1 l2).length := ⟨_, rfl⟩; rw [← hm8] at ho ⊢; have hr8 := Kd.R_reads' ho; have HC8 := Aside0.mk (show Kd.C kP w8 B8 m8 (sumB l1 l2) by have h1 := hr8.2.2; rw [← hr8.1] at h1; exact h1); have HD8 := Aside0.mk hr8.2.1; have HM8 := Aside0.mk hm8; have HB8 := Aside0.mk (HB7.out.grown hg HB7.out.size (fun i hi => Kd.R_base HR3.out i hi)); clear ho hb hg hat hx hm8 hr8 HR3 HR7 HB7)
  (with_reducible refine (ofP_calls n A0 c0 w8 (Kd.C_below HC0.out HB8.out)).mono ?_)
  rintro en w9 ⟨rfl, hb⟩
  have HC9 := Aside0.mk (Kd.C_below HC8.out hb)
  have HB9 := Aside0.mk (HB8.out.trans (hb.mono HB8.out.size))
  clear hb HC8 HB8
  go_wp2_with fail
  rw [zcP]
  (with_reducible refine (rfold_calls n 0 (sumB l1 l2) m8 HM8.out HN.out (by rw [HM8.out]; unfold sumB; rw [List.length_append, List.length_append, ← HM1.out.1, ← HM2.out.1, List.length_singleton]; have h1 := HM1.out; have h2 := HM2.out; omega) B8 d8 w9 HC9.out HD8.out).mono ?_)
  rintro en w10 ⟨rfl, hb⟩
  have HB10 := Aside0.mk (HB9.out.trans (hb.mono HB9.out.size))
  clear hb HC9 HB9
  go_wp2_with fail
  (with_reducible refine (bytes_x (foldN n (sumB l1 l2) 0) w10).mono ?_)
  rintro en w11 ⟨v, rfl, hr, hb⟩
  obtain ⟨B11, d11, rfl⟩ := Kd.R_slice hr
  rw [bytesN_length] at hr ⊢
  have HR11 := Aside0.mk (Kd.R_lower hr HB10.out.size)
  have HB11 := Aside0.mk (HB10.out.trans (hb.mono HB10.out.size))
  clear hr hb
  go_wp2_with fail
  go_ret
  exact ⟨_, rfl, HR11.out, HB11.out⟩
end Go.Proofs.Ytmhmmmkpijbbiab.Gh
