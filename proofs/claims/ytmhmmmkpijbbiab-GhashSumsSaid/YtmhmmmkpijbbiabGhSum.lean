/- ghash: the sum of two texts. Written by wip/gen/ghsum.py. -/
import Derived.Test.YtmhmmmkpijbbiabGhBlocks
import Derived.Test.YtmhmmmkpijbbiabGhFold
namespace Go.Proofs.Ytmhmmmkpijbbiab.Gh
open Go.RowKit Go.Proofs.YtmhmmmkpijbbiabW.PrintWords Go.Proofs.YtmhmmmkpijbbiabW.PrintLast Go.Proofs.YtmhmmmkpijbbiabW.PrintMore Go.Proofs.Ytmhmmmkpijbbiab.X Go.Proofs.Ytmhmmmkpijbbiab.M Go.Proofs.Ytmhmmmkpijbbiab.Bv Go.Proofs.Ytmhmmmkpijbbiab.Gf Go.Proofs.Ytmhmmmkpijbbiab.Arr Go.Proofs.Ytmhmmmkpijbbiab.ArrX Go.Proofs.Ytmhmmmkpijbbiab.PuLib Go.Proofs.Ytmhmmmkpijbbiab.PuCat
attribute [local go_sem] max2_int min2_int max_two min_two max_three min_three max_four min_four
set_option linter.unusedVariables false
set_option linter.unusedSimpArgs false
/-! ### rows of elements behind one another -/
theorem drop_rdE (l : List (List S36)) (i : Nat) (h : i < l.length) : l.drop i = rd_L4 l (i : Int) :: l.drop (i + 1) := by
  show l.drop i = l.getD i [] :: l.drop (i + 1)
  rw [List.drop_eq_getElem_cons h, List.getD_eq_getElem?_getD, List.getElem?_eq_getElem h]
  rfl
theorem rdE_mem (l : List (List S36)) (i : Nat) (h : i < l.length) : rd_L4 l (i : Int) ∈ l := by
  show l.getD i [] ∈ l
  rw [List.getD_eq_getElem?_getD, List.getElem?_eq_getElem h]
  exact List.getElem_mem h
theorem ecat_l1 (ls : List (List S36)) (hn : ls.length ≤ 100) (hr : ∀ r ∈ ls, r.length ≤ 3000) : ∀ d i (acc : List S36), i + d = ls.length → acc.length + 3000 * d ≤ 300000 → Ev (fun k => poly_Elem_30.l1 k acc ls (ls.length : Int) (i : Int)) (acc ++ (ls.drop i).flatten) := by
  intro d
  induction d with
  | zero =>
    intro i acc hi _
    refine Ev.step (f := fun _ => some acc) (fun k => by simp only [poly_Elem_30.l1]; rw [if_neg (by omega)]) (PuLib.ev_eq (Ev.now _) ?_)
    rw [List.drop_of_length_le (by omega)]
    simp
  | succ d ih =>
    intro i acc hi h2
    have hm := hr _ (rdE_mem ls i (by omega))
    refine Ev.step (fun k => by simp only [poly_Elem_30.l1]; rw [if_pos (by omega), if_pos (by omega), if_pos (by omega), if_pos (by omega), Gh.w64_up i (by omega)]) (PuLib.ev_eq (ih (i + 1) (acc ++ rd_L4 ls (i : Int)) (by omega) (by rw [List.length_append]; omega)) ?_)
    rw [drop_rdE ls i (by omega), List.flatten_cons, List.append_assoc]
theorem ecat_l0 (ls : List (List S36)) (hn : ls.length ≤ 100) (hr : ∀ r ∈ ls, r.length ≤ 3000) : ∀ d i n : Nat, i + d = ls.length → n + 3000 * d ≤ 300000 → Ev (fun k => poly_Elem_30.l0 k ls (n : Int) ls (ls.length : Int) (i : Int)) ls.flatten := by
  intro d
  induction d with
  | zero =>
    intro i n hi h2
    have hg : poly_Elem_42.f (n : Int) = some [] := by rw [poly_Elem_42.f, if_pos (by omega), if_pos (by omega)]
    refine Ev.step (fun k => by simp only [poly_Elem_30.l0]; rw [if_neg (by omega), hg, Option.bind_some]; rfl) (PuLib.ev_eq (ecat_l1 ls hn hr ls.length 0 [] (by omega) (by simp; omega)) ?_)
    simp
  | succ d ih =>
    intro i n hi h2
    have hm := hr _ (rdE_mem ls i (by omega))
    have hw : wrap64 ((n : Int) + ((rd_L4 ls (i : Int)).length : Int)) = ((n + (rd_L4 ls (i : Int)).length : Nat) : Int) := by unfold wrap64; omega
    exact Ev.step (fun k => by simp only [poly_Elem_30.l0]; rw [if_pos (by omega), if_pos (by omega), if_pos (by omega), hw, if_neg (by omega), Gh.w64_up i (by omega)]) (ih (i + 1) _ (by omega) (by omega))
theorem ecat_ev (ls : List (List S36)) (hn : ls.length ≤ 100) (hr : ∀ r ∈ ls, r.length ≤ 3000) : Ev (fun k => poly_Elem_30.f k ls) ls.flatten :=
  ecat_l0 ls hn hr ls.length 0 0 (by omega) (by omega)
theorem one_el {u : Nat} {w : World} {g : Nat} {x0 x1 : Int} (hb : w.heap[g]? = some (.cells #[.int .u64 x0, .int .u64 x1] u (0, 0))) : Kd.C k36 w (some ⟨g, 0, none⟩) 1 [⟨x0, x1⟩] := by
  have h0 := blk_cell hb 0
  have h1 := blk_cell hb 1
  simp at h0 h1
  refine ⟨rfl, by decide, fun _ => ⟨_, rfl, fun j p hj => ?_⟩⟩
  have hj2 : j = 0 := by have := (List.getElem?_eq_some_iff.1 hj).1; simp at this; omega
  subst hj2
  have hp : (⟨x0, x1⟩ : S36) = p := Option.some.inj hj
  subst hp
  refine ⟨[.int .u64 x0, .int .u64 x1], rfl, ⟨[.int .u64 x0], [.int .u64 x1], rfl, rfl, rfl⟩, fun i v hv => ?_⟩
  have hi2 : i = 0 ∨ i = 1 := by have := (List.getElem?_eq_some_iff.1 hv).1; simp at this; omega
  rw [Addr.add_mid]
  rcases hi2 with rfl | rfl
  · have hv2 : Value.int .u64 x0 = v := Option.some.inj hv
    rw [← hv2]; exact h0
  · have hv2 : Value.int .u64 x1 = v := Option.some.inj hv
    rw [← hv2]; exact h1
theorem rows3 {α : Type} {d : Kd α} {e u : Nat} {w : World} {g : Nat} {A1 A2 A3 : Option Addr} {n1 n2 n3 c1 c2 c3 : Nat} {r1 r2 r3 : List α} (hb : w.heap[g]? = some (.cells #[.slice A1 n1 c1, .slice A2 n2 c2, .slice A3 n3 c3] u (0, 0))) (h1 : d.C w A1 n1 r1) (l1 : n1 ≤ c1) (h2 : d.C w A2 n2 r2) (l2 : n2 ≤ c2) (h3 : d.C w A3 n3 r3) (l3 : n3 ≤ c3) : Kd.C (Kd.slice e d) w (some ⟨g, 0, none⟩) 3 [r1, r2, r3] := by
  have k0 := blk_cell hb 0
  have k1 := blk_cell hb 1
  have k2 := blk_cell hb 2
  simp at k0 k1 k2
  obtain rfl := Kd.C_len h1
  obtain rfl := Kd.C_len h2
  obtain rfl := Kd.C_len h3
  have hsz : (Kd.slice e d).sz = 1 := rfl
  have one : ∀ (j : Nat) (A : Option Addr) (c : Nat) (r : List α), w.cell? ⟨g, j, none⟩ = some (.slice A r.length c) → r.length ≤ c → d.C w A r.length r → ∃ cs : List Value, cs.length = (Kd.slice e d).sz ∧ (Kd.slice e d).K w r cs ∧ ∀ i v, cs[i]? = some v → w.cell? ((⟨g, 0, none⟩ : Addr).add (j * (Kd.slice e d).sz + i)) = some v := fun j A c r hc hl hC => by
    refine ⟨[.slice A r.length c], rfl, ⟨A, c, rfl, hl, hC⟩, fun i v hv => ?_⟩
    obtain rfl : i = 0 := by have := (List.getElem?_eq_some_iff.1 hv).1; simp at this; omega
    have hv2 : Value.slice A r.length c = v := Option.some.inj hv
    rw [← hv2, Addr.add_mid, hsz, Nat.mul_one, Nat.add_zero, Nat.zero_add]
    exact hc
  refine ⟨rfl, by simp, fun _ => ⟨_, rfl, fun j p hj => ?_⟩⟩
  have hj3 : j = 0 ∨ j = 1 ∨ j = 2 := by have := (List.getElem?_eq_some_iff.1 hj).1; simp at this; omega
  rcases hj3 with rfl | rfl | rfl
  · obtain rfl : r1 = p := Option.some.inj hj
    exact one 0 A1 c1 r1 k0 l1 h1
  · obtain rfl : r2 = p := Option.some.inj hj
    exact one 1 A2 c2 r2 k1 l2 h2
  · obtain rfl : r3 = p := Option.some.inj hj
    exact one 2 A3 c3 r3 k2 l3 h3
theorem el0 : el 0 = .agg #[.int .u64 0, .int .u64 0] := by
  show Value.agg #[.int .u64 (E 0).1, .int .u64 (E 0).2] = _
  rw [show E 0 = (0, 0) by decide]
theorem ecat_calls {w : World} {g u : Nat} {A1 A2 A3 : Option Addr} {n1 n2 n3 c1 c2 c3 : Nat} {r1 r2 r3 : List S36} (hb : w.heap[g]? = some (.cells #[.slice A1 n1 c1, .slice A2 n2 c2, .slice A3 n3 c3] u (0, 0))) (h1 : Kd.C k36 w A1 n1 r1) (l1 : n1 ≤ c1) (h2 : Kd.C k36 w A2 n2 r2) (l2 : n2 ≤ c2) (h3 : Kd.C k36 w A3 n3 r3) (l3 : n3 ≤ c3) (k1 : n1 ≤ 3000) (k2 : n2 ≤ 3000) (k3 : n3 ≤ 3000) :
    Calls Try.prog 30 #[.slice (some ⟨g, 0, none⟩) 3 3] w fun e w' => ∃ v, e = .returned v ∧ Kd.R k36 36 w' w.heap.size (fun _ => True) v (r1 ++ (r2 ++ r3)) ∧ Below w.heap.size w w' := by
  have e1 := Kd.C_len h1
  have e2 := Kd.C_len h2
  have e3 := Kd.C_len h3
  obtain ⟨k, hk⟩ := Ev.rounds (ecat_ev [r1, r2, r3] (by simp) (by
    intro r hr
    simp only [List.mem_cons, List.not_mem_nil, or_false] at hr
    rcases hr with rfl | rfl | rfl <;> omega))
  have hf : [r1, r2, r3].flatten = r1 ++ (r2 ++ r3) := by rw [List.flatten_cons, List.flatten_cons, List.flatten_cons, List.flatten_nil, List.append_nil]
  rw [hf] at hk
  exact poly_Elem_30.calls k (some ⟨g, 0, none⟩) 3 [r1, r2, r3] _ w (rows3 hb h1 l1 h2 l2 h3 l3) (Nat.le_refl 3) hk
theorem fold0_calls (W : World) (h n : Nat) (d : Bool) (m : List Nat) (hn : n < top) (hm : ∀ b ∈ m, b < top) (A : Option Addr) (c : Nat) (hh : HashAt W h n d) (hC : Kd.F k36 W (fun k => k ≠ h) A m.length (m.map toS)) (hc : m.length ≤ c) :
    Calls Try.prog 21 #[.pointer (some ⟨h, 0, none⟩), .agg #[.int .u64 0, .int .u64 0], .slice A m.length c] W fun en W' => en = .returned (el (foldN n m 0)) ∧ HashAt W' h n (d || decide (0 < m.length)) ∧ W.grownBy W' (some h) := by
  have := fold_calls W h n 0 d m hn (by decide) hm A c hh hC hc
  rw [el0] at this
  exact this
theorem join1_calls (w : World) (u : Nat) (A : Option Addr) (c : Nat) (l : List Int) (n : Nat) (hn : n = l.length) (h : Kd.C (Kd.int .u8) w A l.length l) (hc : l.length ≤ c) (hl : l.length ≤ 3000) :
    Calls Try.prog 32 #[.slice (some ⟨w.heap.size, 0, none⟩) 1 1] (w.alloc (.cells #[.slice A n c] u)) fun e w' => ∃ v, e = .returned v ∧ Kd.R (Kd.int .u8) 5 w' (w.heap.size + 1) (fun _ => True) v l ∧ Below w.heap.size w w' := by
  subst hn
  obtain ⟨k, hk⟩ := Ev.rounds (cat_ev [l] (by simp) (by intro r hr; rw [List.mem_singleton.1 hr]; exact hl))
  rw [List.flatten_cons, List.flatten_nil, List.append_nil] at hk
  refine (octet_Join.calls k (some ⟨w.heap.size, 0, none⟩) 1 [l] l _ (one_row h hc) (Nat.le_refl 1) hk).mono ?_
  rintro e w' ⟨v, rfl, hr, hb⟩
  have hs : (w.alloc (.cells #[.slice A l.length c] u)).heap.size = w.heap.size + 1 := Array.size_push _
  rw [hs] at hr
  exact ⟨v, rfl, hr, (below_alloc (Below.refl _ _) _).trans (hb.mono (by rw [hs]; omega))⟩
/-- The block of two lengths. -/
def lenN (a b : Nat) : Nat := (8 * a) * 18446744073709551616 + 8 * b
theorem lenN_E (a b : Nat) (hb : b ≤ 1000000) : E (lenN a b) = (((8 * a : Nat) : Int), ((8 * b : Nat) : Int)) := by
  unfold E lenN
  rw [show (8 * a * 18446744073709551616 + 8 * b) / 18446744073709551616 = 8 * a by omega, show (8 * a * 18446744073709551616 + 8 * b) % 18446744073709551616 = 8 * b by omega]
theorem lenN_lt (a b : Nat) (ha : a ≤ 1000000) (hb : b ≤ 1000000) : lenN a b < top := by
  unfold lenN
  rw [top_64]
  omega
theorem lengths_f (l1 l2 : List Int) (h1 : l1.length ≤ 1000000) (h2 : l2.length ≤ 1000000) : ghash_lengths.f l1 l2 = some ((E (lenN l1.length l2.length)).1, (E (lenN l1.length l2.length)).2) := by
  rw [lenN_E _ _ h2]
  unfold ghash_lengths.f
  have e : ∀ n : Nat, n ≤ 1000000 → IntKind.u64.wrap (IntKind.u64.wrap (n : Int) * 8) = ((8 * n : Nat) : Int) := fun n hn => by
    simp only [IntKind.wrap]
    simp [IntKind.bits, IntKind.signed]
    omega
  rw [e _ h1, e _ h2]
/-- The blocks of a sum. -/
def sumB (l1 l2 : List Int) : List Nat := blocksN l1 ++ blocksN l2 ++ [lenN l1.length l2.length]
theorem sumB_lt {l1 l2 : List Int} (h1 : ∀ x ∈ l1, 0 ≤ x ∧ x < 256) (h2 : ∀ x ∈ l2, 0 ≤ x ∧ x < 256) (k1 : l1.length ≤ 1000000) (k2 : l2.length ≤ 1000000) : ∀ b ∈ sumB l1 l2, b < top := by
  intro b hb
  unfold sumB at hb
  rcases List.mem_append.1 hb with hb | hb
  · rcases List.mem_append.1 hb with hb | hb
    · exact blocksN_lt h1 b hb
    · exact blocksN_lt h2 b hb
  · rw [List.mem_singleton.1 hb]
    exact lenN_lt _ _ k1 k2
set_option maxRecDepth 100000 in
set_option maxHeartbeats 8000000 in
theorem gsum_calls (W : World) (h n : Nat) (d : Bool) (hn : n < top) (hh : HashAt W h n d) (l1 l2 : List Int) (g1 : ∀ x ∈ l1, 0 ≤ x ∧ x < 256) (g2 : ∀ x ∈ l2, 0 ≤ x ∧ x < 256) (A1 : Option Addr) (c1 : Nat) (hC1 : Kd.C (Kd.int .u8) W A1 l1.length l1) (hc1 : l1.length ≤ c1) (A2 : Option Addr) (c2 : Nat) (hC2 : Kd.C (Kd.int .u8) W A2 l2.length l2) (hc2 : l2.length ≤ c2) (k1 : l1.length ≤ 3000) (k2 : l2.length ≤ 3000) :
    Calls Try.prog 14 #[.pointer (some ⟨h, 0, none⟩), .slice A1 l1.length c1, .slice A2 l2.length c2] W fun en W' => ∃ v, en = .returned v ∧ Kd.R (Kd.int .u8) 5 W' W.heap.size (fun _ => True) v (bytesN (foldN n (sumB l1 l2) 0)) ∧ HashAt W' h n true ∧ W.grownBy W' (some h) := by
  have HN := Aside0.mk hn
  have HH := Aside0.mk hh
  have HG1 := Aside0.mk g1
  have HG2 := Aside0.mk g2
  have HC1 := Aside0.mk hC1
  have HC2 := Aside0.mk hC2
  have HL1 := Aside0.mk hc1
  have HL2 := Aside0.mk hc2
  have HK1 := Aside0.mk k1
  have HK2 := Aside0.mk k2
  obtain ⟨m1, hm1⟩ : ∃ m1, m1 = l1.length := ⟨_, rfl⟩
  obtain ⟨m2, hm2⟩ : ∃ m2, m2 = l2.length := ⟨_, rfl⟩
  have HM1 := Aside0.mk hm1
  have HM2 := Aside0.mk hm2
  rw [← hm1, ← hm2]
  clear hn hh g1 g2 hC1 hC2 hc1 hc2 k1 k2 hm1 hm2
  go_enter Try.func14, Try.ntmps14
  go_wp2_with fail
  rw [HM1.out]
  (with_reducible refine (blocks_calls l1 HG1.out A1 c1 W HC1.out HL1.out (Nat.le_trans HK1.out (by decide))).mono ?_)
  rintro en w1 ⟨v, rfl, hr, hb⟩
  rw [← HM1.out]
  obtain ⟨B1, d1, rfl⟩ := Kd.R_slice hr
  rw [List.length_map] at hr
  obtain ⟨p1, hp1⟩ : ∃ p1, p1 = (blocksN l1).length := ⟨_, rfl⟩
  rw [← hp1] at hr
  rw [List.length_map, ← hp1]
  have HR1 := Aside0.mk hr
  have HP1 := Aside0.mk hp1
  have HB1 := Aside0.mk hb
  clear hr hb hp1
  go_wp2_with fail
  rw [HM2.out]
  (with_reducible refine (blocks_calls l2 HG2.out A2 c2 w1 (Kd.C_below HC2.out HB1.out) HL2.out (Nat.le_trans HK2.out (by decide))).mono ?_)
  rintro en w2 ⟨v, rfl, hr, hb⟩
  rw [← HM2.out]
  obtain ⟨B2, d2, rfl⟩ := Kd.R_slice hr
  rw [List.length_map] at hr
  obtain ⟨p2, hp2⟩ : ∃ p2, p2 = (blocksN l2).length := ⟨_, rfl⟩
  rw [← hp2] at hr
  rw [List.length_map, ← hp2]
  have HR2 := Aside0.mk hr
  have HP2 := Aside0.mk hp2
  have HR1 := Aside0.mk (Kd.R_below HR1.out hb)
  have HB2 := Aside0.mk (HB1.out.trans (hb.mono HB1.out.size))
  clear hr hb hp2
  go_wp2_with fail
  rw [HM1.out, HM2.out]
  (with_reducible refine (ghash_lengths.calls A1 c1 l1 A2 c2 l2 _ _ w2 (Kd.C_below HC1.out HB2.out) HL1.out (Kd.C_below HC2.out HB2.out) HL2.out (lengths_f l1 l2 (Nat.le_trans HK1.out (by decide)) (Nat.le_trans HK2.out (by decide)))).mono ?_)
  rintro en w3 ⟨rfl, hb⟩
  rw [← HM1.out, ← HM2.out]
  obtain ⟨q, hq⟩ : ∃ q, q = lenN m1 m2 := ⟨_, rfl⟩
  rw [← hq]
  have HQ := Aside0.mk (show q = lenN l1.length l2.length by rw [hq, HM1.out, HM2.out])
  have HR1 := Aside0.mk (Kd.R_below HR1.out hb)
  have HR2 := Aside0.mk (Kd.R_below HR2.out hb)
  have HB3 := Aside0.mk (HB2.out.trans (hb.mono HB2.out.size))
  clear hb hq
  go_wp2_with fail
  obtain ⟨w4, hw4⟩ : ∃ w4, w4 = w3.alloc (.cells #[.int .u64 (E q).1, .int .u64 (E q).2] 36) := ⟨_, rfl⟩
  obtain ⟨b3, hb3⟩ : ∃ b3, b3 = w3.heap.size := ⟨_, rfl⟩
  have hs4 : w4.heap.size = b3 + 1 := by rw [hw4, hb3]; exact Array.size_push _
  have hq4 : w4.heap[b3]? = some (.cells #[.int .u64 (E q).1, .int .u64 (E q).2] 36 (0, 0)) := by rw [hw4, hb3]; exact blk_new w3 _
  have hB4 : Below w3.heap.size w3 w4 := by rw [hw4]; exact below_alloc (Below.refl _ _) _
  rw [← hw4, ← hb3]
  obtain ⟨w5, hw5⟩ : ∃ w5, w5 = w4.alloc (.cells #[.slice B1 p1 d1, .slice B2 p2 d2, .slice (some ⟨b3, 0, none⟩) 1 1] 29) := ⟨_, rfl⟩
  have hr5 : w5.heap[b3 + 1]? = some (.cells #[.slice B1 p1 d1, .slice B2 p2 d2, .slice (some ⟨b3, 0, none⟩) 1 1] 29 (0, 0)) := by rw [hw5]; exact blk_newN hs4 _
  have hq5 : w5.heap[b3]? = some (.cells #[.int .u64 (E q).1, .int .u64 (E q).2] 36 (0, 0)) := by rw [hw5]; exact blk_alloc hq4 _
  have hB5 : Below w3.heap.size w3 w5 := by rw [hw5]; exact below_alloc hB4 _
  rw [← hw5]
  have hr1 := Kd.R_reads' (Kd.R_below HR1.out hB5)
  have hr2 := Kd.R_reads' (Kd.R_below HR2.out hB5)
  have HB5 := Aside0.mk (HB3.out.trans (hB5.mono HB3.out.size))
  have hn1 := blocksN_length l1
  have hn2 := blocksN_length l2
  have hx1 := HP1.out
  have hx2 := HP2.out
  have hk1 := HK1.out
  have hk2 := HK2.out
  rw [← hr1.1, ← hr2.1] at *
  (with_reducible refine (ecat_calls hr5 hr1.2.2 hr1.2.1 hr2.2.2 hr2.2.1 (one_el hq5) (Nat.le_refl 1) (by omega) (by omega) (by omega)).mono ?_)
  rintro en w6 ⟨v, rfl, hr, hb⟩
  have em : (blocksN l1).map toS ++ ((blocksN l2).map toS ++ [⟨(E q).1, (E q).2⟩]) = (sumB l1 l2).map toS := by
    unfold sumB
    rw [List.map_append, List.map_append, List.append_assoc, ← HQ.out]
    rfl
  rw [em] at hr
  obtain ⟨B4, d4, rfl⟩ := Kd.R_slice hr
  obtain ⟨p4, hp4⟩ : ∃ p4, p4 = (sumB l1 l2).length := ⟨_, rfl⟩
  have hpos : 0 < p4 := by rw [hp4]; unfold sumB; rw [List.length_append, List.length_singleton]; omega
  have hlm : ((sumB l1 l2).map toS).length = p4 := by rw [List.length_map, hp4]
  rw [hlm] at hr ⊢
  have hr4 := Kd.R_reads' hr
  have hh5 : h < w5.heap.size := Nat.lt_of_lt_of_le HH.out.lt HB5.out.size
  have HF := Aside0.mk (show Kd.F k36 w6 (fun k => k ≠ h) B4 p4 ((sumB l1 l2).map toS) from Kd.F_mono (Kd.R_F (Kd.R_bound hr)) (fun k hk => by have := hk.2.1; omega))
  have HD4 := Aside0.mk (show p4 ≤ d4 from hr4.2.1)
  have HB6 := Aside0.mk (HB5.out.trans (hb.mono HB5.out.size))
  have HH6 := Aside0.mk (HH.out.below HB6.out)
  have HP4 := Aside0.mk hp4
  have HPP := Aside0.mk hpos
  clear hr hb em hp4 hpos hlm hr4 hh5 hr1 hr2 hn1 hn2 hx1 hx2 hk1 hk2 hr5 hq5 hw5 hB5 hw4 hb3 hs4 hq4 hB4 HB5 HR1 HR2
  go_wp2_with fail
  rw [HP4.out]
  (with_reducible refine (fold0_calls w6 h n d (sumB l1 l2) HN.out (sumB_lt HG1.out HG2.out (Nat.le_trans HK1.out (by decide)) (Nat.le_trans HK2.out (by decide))) B4 d4 HH6.out (by have h1 := HF.out; rw [HP4.out] at h1; exact h1) (by have h1 := HD4.out; rw [HP4.out] at h1; exact h1)).mono ?_)
  rintro en w7 ⟨rfl, hh7, hg7⟩
  rw [← HP4.out, show (d || decide (0 < p4)) = true by have h1 := HPP.out; simp [h1]] at hh7
  rw [← HP4.out]
  obtain ⟨s, hs⟩ : ∃ s, s = foldN n (sumB l1 l2) 0 := ⟨_, rfl⟩
  have HS := Aside0.mk hs
  have HSL := Aside0.mk (show s < top by rw [hs]; exact foldN_lt HN.out _ (by decide))
  rw [← hs]
  have HH7 := Aside0.mk hh7
  have HG7 := Aside0.mk ((grown_of_below HB6.out (some h)).trans hg7)
  clear hs hh7 hg7
  go_wp2_with fail
  (with_reducible refine (ebytes_calls s HSL.out w7).mono ?_)
  rintro en w8 ⟨v, rfl, hr, hb⟩
  obtain ⟨B8, d8, rfl⟩ := Kd.R_slice hr
  obtain ⟨p8, hp8⟩ : ∃ p8, p8 = (bytesN s).length := ⟨_, rfl⟩
  have hr8 := Kd.R_reads' hr
  have HR8 := Aside0.mk hr8
  have HP8 := Aside0.mk hp8
  have HB8 := Aside0.mk hb
  rw [← hp8]
  clear hr hb hr8 hp8
  go_wp2_with fail
  (with_reducible refine (join1_calls w8 _ B8 d8 (bytesN s) p8 HP8.out HR8.out.2.2 HR8.out.2.1 (by rw [bytesN_length]; omega)).mono ?_)
  rintro en w9 ⟨v, rfl, hr, hb⟩
  obtain ⟨B9, d9, rfl⟩ := Kd.R_slice hr
  obtain ⟨p9, hp9⟩ : ∃ p9, p9 = (bytesN s).length := ⟨_, rfl⟩
  rw [← hp9] at hr ⊢
  have HR9 := Aside0.mk hr
  have HB9 := Aside0.mk (HB8.out.trans (hb.mono HB8.out.size))
  clear hr hb hp9
  go_wp2_with fail
  go_ret
  rw [← HS.out]
  have hle : W.heap.size ≤ w8.heap.size + 1 := by have h1 := HG7.out.size; have h2 := HB8.out.size; omega
  exact ⟨_, rfl, Kd.R_lower HR9.out hle, HH7.out.below HB9.out, HG7.out.trans (grown_of_below HB9.out (some h))⟩
end Go.Proofs.Ytmhmmmkpijbbiab.Gh
