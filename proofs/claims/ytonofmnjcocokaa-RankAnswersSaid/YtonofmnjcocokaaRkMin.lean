/- rank: the least of scored entries. Written by wip/gen/rkmin.py. -/
import Derived.Test.YtonofmnjcocokaaRkOrder
namespace Go.Proofs.Ytonofmnjcocokaa.Rk
open Go.RowKit Go.Proofs.YtonofmnjcocokaaW.PrintWords Go.Proofs.YtonofmnjcocokaaW.PrintLast Go.Proofs.YtonofmnjcocokaaW.PrintMore Go.Proofs.Ytonofmnjcocokaa.X Go.Proofs.Ytonofmnjcocokaa.M Go.Proofs.Ytonofmnjcocokaa.Bv Go.Proofs.Ytonofmnjcocokaa.PuLib Go.Proofs.Ytonofmnjcocokaa.PuMix
attribute [local go_sem] max2_int min2_int max_two min_two max_three min_three max_four min_four
set_option linter.unusedVariables false
set_option linter.unusedSimpArgs false
/-- An Id with its score. -/
abbrev sv (x : Int × Int) : Value := .agg #[.int .i64 x.1, .int .u64 x.2]
def kS : Kd (Int × Int) := Kd.pair (Kd.int .i64) (Kd.int .u64)
theorem kS_open {w : World} {x : Int × Int} {cs : List Value} (h : kS.K w x cs) : cs = [.int .i64 x.1, .int .u64 x.2] := by
  obtain ⟨c1, c2, h1, k1, k2⟩ := h
  have e1 : c1 = [.int .i64 x.1] := k1
  have e2 : c2 = [.int .u64 x.2] := k2
  rw [h1, e1, e2]; rfl
theorem kS_mkM (w : World) (base : Nat) (ok : Nat → Prop) (x : Int × Int) : kS.M w base ok x [.int .i64 x.1, .int .u64 x.2] := ⟨[.int .i64 x.1], [.int .u64 x.2], rfl, rfl, rfl⟩
theorem heapS : Kd.Heap kS := Kd.heap_pair (Kd.heap_int _) (Kd.heap_int _)
theorem infoS : (Try.prog.info? 57).map (fun i => (i.zero, i.size, i.bytes)) = some (some (.agg #[.int .i64 0, .int .u64 0]), 2, 16) := by kernel_rfl
theorem add_add_ (a : Addr) (m j : Nat) : (a.add m).add j = a.add (m + j) := by
  unfold Addr.add
  by_cases h1 : m = 0 <;> by_cases h2 : j = 0 <;> simp [h1, h2, Nat.add_assoc]
theorem load_adS {W : World} {a : Addr} {x : Int × Int} (h : ∀ j v, ([.int .i64 x.1, .int .u64 x.2] : List Value)[j]? = some v → W.cell? (a.add j) = some v) : (loadVar 57 a).run Try.prog W = .ok (sv x) W := by
  have hl := run_loadCells_list (P := Try.prog) W a [.int .i64 x.1, .int .u64 x.2] h
  obtain ⟨i, hi, hz⟩ := Option.map_eq_some_iff.1 infoS
  simp only [Prod.mk.injEq] at hz
  have hl2 : (loadCells a 2).run Try.prog W = .ok #[.int .i64 x.1, .int .u64 x.2] W := hl
  simp [loadVar, sizeOf, typeInfo, run_underlying Try.underlying57, hi, hz.2.1, hl2]
theorem load_rowS {W : World} {ok : Nat → Prop} {ad : Addr} {p : Nat} {l : List (Int × Int)} {k : Nat} (h : Kd.F kS W ok (some ad) p l) (hk : k < l.length) : (loadVar 57 (ad.add (k * 2))).run Try.prog W = .ok (sv (l.getD k (0, 0))) W := by
  have hl : l.length = p := (Kd.F_now h).1
  obtain ⟨a2, ha, hr⟩ := (Kd.F_now h).2.2 (by omega)
  obtain rfl := Option.some.inj ha
  refine load_adS (fun j v hv => ?_)
  have hp : l[k]? = some (l.getD k (0, 0)) := by rw [List.getD_eq_getElem?_getD, List.getElem?_eq_getElem hk]; rfl
  obtain ⟨cs, _, hK, hc⟩ := hr k _ hp
  obtain rfl := kS_open hK
  rw [add_add_]
  exact hc j v hv
theorem load_blkS {W : World} {b t : Nat} {x : Int × Int} (h : W.heap[b]? = some (.cells #[.int .i64 x.1, .int .u64 x.2] t (0, 0))) : (loadVar 57 ⟨b, 0, none⟩).run Try.prog W = .ok (sv x) W := by
  refine load_adS (fun j v hv => ?_)
  rw [add_plain]
  exact (blk_cell h j).trans (by simpa using hv)
theorem wpList_load_of {ops : Array Oper} {rest : List Oper} {o : Oper} {a : Act} {Q : Exit → Act → World → Prop} {w : World} (hgd : o.guard = none) (ty : TypeId) (x : Operand) (ho : o.op = .load ty x) (p : Addr) (hx : a.eval x = .pointer (some p)) {v : Value} (h : (loadVar ty p).run Try.prog w = .ok v w) (hk : wpList Try.prog ops Q rest (a.put o.dst v) w) : wpList Try.prog ops Q (o :: rest) a w := by
  refine wpList_plain hgd fun K hK' => ?_
  unfold Oper.wp
  simp only [Held.run_load_of ty x ho p hx h]
  exact hK' _ _ hk
/-- The least so far. -/
def minL (m : Int × Int) (l : List (Int × Int)) : Int × Int := l.foldl (fun m x => if ordC x m < 0 then x else m) m
theorem minL_take (m : Int × Int) (l : List (Int × Int)) {k : Nat} (hk : k < l.length) : minL m (l.take (k + 1)) = if ordC (l.getD k (0, 0)) (minL m (l.take k)) < 0 then l.getD k (0, 0) else minL m (l.take k) := by
  unfold minL
  rw [List.take_succ_eq_append_getElem hk, List.foldl_append, List.getD_eq_getElem?_getD, List.getElem?_eq_getElem hk]
  rfl
def MInv (w wr : World) (x0 : Int × Int) (l : List (Int × Int)) (b4 k : Nat) : Prop := wr.heap[b4 + 1]? = some (.cells #[.int .i64 (minL x0 (l.take k)).1, .int .u64 (minL x0 (l.take k)).2] 57 (0, 0)) ∧ wr.heap[b4]? = some (.cells #[.int .i64 0, .int .u64 0] 57 (0, 0)) ∧ Below w.heap.size w wr
theorem MInv.below {w wr w' : World} {x0 : Int × Int} {l : List (Int × Int)} {b4 k : Nat} (h : MInv w wr x0 l b4 k) (hb : Below wr.heap.size wr w') : MInv w w' x0 l b4 k := ⟨blk_below h.1 hb, blk_below h.2.1 hb, h.2.2.trans (hb.mono h.2.2.size)⟩
set_option maxRecDepth 100000 in
set_option maxHeartbeats 8000000 in
theorem min_calls (x0 : Int × Int) (l : List (Int × Int)) (p : Nat) (hp : p = l.length + 1) (hp3 : p ≤ 3000) (A : Option Addr) (c : Nat) (w : World) (hC : Kd.C kS w A p (x0 :: l)) :
    Calls Try.prog 24 #[.slice A p c, .func (.func 25) #[] #[]] w fun e w' => e = .returned (sv (minL x0 l)) ∧ Below w.heap.size w w' := by
  have HP := Aside0.mk hp
  have HP3 := Aside0.mk hp3
  have HF := Aside0.mk (Kd.C_F heapS hC)
  obtain ⟨ad, hA, _⟩ := hC.2.2 (by omega)
  subst hA
  have e0 : ¬ (p : Int) < 1 := by omega
  have e1 : (0 : Int) < (p : Int) := by omega
  have e3 : (p : Int) ≤ 3000 := by omega
  have HLD := Aside0.mk (show ∀ W', Below w.heap.size w W' → ∀ k, k < p → (loadVar 57 (ad.add (k * 2))).run Try.prog W' = .ok (sv ((x0 :: l).getD k (0, 0))) W' from fun W' hb k hk => load_rowS (Kd.F_below HF.out hb) (by rw [List.length_cons]; omega))
  have HL0 := Aside0.mk (show ∀ W', Below w.heap.size w W' → (loadVar 57 ad).run Try.prog W' = .ok (sv x0) W' from fun W' hb => HLD.out W' hb 0 (by omega))
  clear hp hp3 hC
  go_enter Try.func24, Try.ntmps24
  go_wp2_with (refine wpList_load_of rfl 57 (.tmp 12) rfl ad rfl (HL0.out _ (below_alloc (Below.refl _ _) _)) ?_)
  obtain ⟨b4, hb4⟩ : ∃ b4, b4 = w.heap.size := ⟨_, rfl⟩
  have HB4 := Aside0.mk (show w.heap.size ≤ b4 by omega)
  have HI := Aside0.mk (show MInv w ((w.alloc (.cells #[.int .i64 0, .int .u64 0] 57)).alloc (.cells #[.int .i64 x0.1, .int .u64 x0.2] 57)) x0 l b4 0 from ⟨by rw [hb4]; exact blk_newN (Array.size_push _) _, by rw [hb4]; exact blk_alloc (blk_new w _) _, below_alloc (below_alloc (Below.refl _ _) _) _⟩)
  rw [← hb4]
  clear hb4
  go_loopw [6] (fun v6 wr => ∃ k : Nat, k + 1 ≤ p ∧ v6 = .int .i64 ((k + 1 : Nat) : Int) ∧ Aside0 (MInv w wr x0 l b4 k)) (fun v6 _ => p - (intOf v6).toNat)
  case atStart => exact ⟨0, by have := HP.out; omega, rfl, HI⟩
  case round =>
    clear HI
    obtain ⟨k, hk, rfl, HI⟩ := hrel
    obtain ⟨k1, hk1⟩ : ∃ k1, k1 = k + 1 := ⟨_, rfl⟩
    have HK1 := Aside0.mk hk1
    rw [← hk1]
    by_cases hlt : k1 < p
    · have HKL := Aside0.mk (show k < l.length by have h1 := HP.out; omega)
      obtain ⟨m, hm⟩ : ∃ m, m = minL x0 (l.take k) := ⟨_, rfl⟩
      obtain ⟨x, hx⟩ : ∃ x, x = l.getD k (0, 0) := ⟨_, rfl⟩
      have HMK := Aside0.mk hm
      have HXK := Aside0.mk hx
      have HLX := Aside0.mk (show ∀ W', Below w.heap.size w W' → (loadVar 57 (ad.add (k1 * 2))).run Try.prog W' = .ok (sv x) W' from fun W' hb => by
        have h1 := HLD.out W' hb k1 hlt
        rw [hk1] at h1 ⊢
        rw [hx]
        exact h1)
      have e4 : (0 : Int) ≤ (k1 : Int) ∧ (k1 : Int) < (p : Int) := by omega
      have e5 : (k1 : Int) < (p : Int) := by omega
      clear hm hx hk1 hk hlt
      go_upto_region 7 with (fail)
      have HSS := Aside0.mk (MInv.below HI.out (below_drew (Below.refl _ _)))
      clear HI
      refine Held.wp_region_G (S := (fun W1 : World => MInv w W1 x0 l b4 k)) (by kernel_rfl) ?_
      change Held.wpAnyG _ _ _ _ _ 8 _ _ _
      refine Held.wpAnyG_take (i := 0) (v := (.func (.func 25) #[] #[])) rfl (by kernel_rfl) (by kernel_rfl) (by kernel_rfl) (fun _ _ _ h => h) HSS.out (by first | (with_reducible rfl) | (simp [Region.wanted, yielded, Act.put]; done) | rfl) (fun W1 h1 => by go_simp) (some 20) rfl #[true, false, false, false, false, false, false, false] (by kernel_rfl) ?_
      simp only [Act.put, List.setIfInBounds_toArray, List.set_cons_zero, List.set_cons_succ]
      refine Held.wpAnyG_take (i := 1) (v := (.slice (some ad) p c)) rfl (by kernel_rfl) (by kernel_rfl) (by kernel_rfl) (fun _ _ _ h => h) HSS.out (by first | (with_reducible rfl) | (simp [Region.wanted, yielded, Act.put]; done) | rfl) (fun W1 h1 => by go_simp) (some 21) rfl #[true, true, false, false, false, false, false, false] (by kernel_rfl) ?_
      simp only [Act.put, List.setIfInBounds_toArray, List.set_cons_zero, List.set_cons_succ]
      refine Held.wpAnyG_take (i := 2) (v := (.int .i64 (k1 : Int))) rfl (by kernel_rfl) (by kernel_rfl) (by kernel_rfl) (fun _ _ _ h => h) HSS.out (by first | (with_reducible rfl) | (simp [Region.wanted, yielded, Act.put]; done) | rfl) (fun W1 h1 => by go_simp) (some 22) rfl #[true, true, true, false, false, false, false, false] (by kernel_rfl) ?_
      simp only [Act.put, List.setIfInBounds_toArray, List.set_cons_zero, List.set_cons_succ]
      refine Held.wpAnyG_take (i := 3) (v := (.pointer (some (ad.add (k1 * 2))))) rfl (by kernel_rfl) (by kernel_rfl) (by kernel_rfl) (fun _ _ _ h => h) HSS.out (by first | (with_reducible rfl) | (simp [Region.wanted, yielded, Act.put]; done) | rfl) (fun W1 h1 => by go_simp) (some 23) rfl #[true, true, true, true, false, false, false, false] (by kernel_rfl) ?_
      simp only [Act.put, List.setIfInBounds_toArray, List.set_cons_zero, List.set_cons_succ]
      refine Held.wpAnyG_take (i := 4) (v := (sv x)) rfl (by kernel_rfl) (by kernel_rfl) (by kernel_rfl) (fun _ _ _ h => h) HSS.out (by first | (with_reducible rfl) | (simp [Region.wanted, yielded, Act.put]; done) | rfl) (fun W1 hs => Held.run_load_of 57 (.tmp 23) rfl (ad.add (k1 * 2)) rfl (HLX.out W1 hs.2.2)) (some 24) rfl #[true, true, true, true, true, false, false, false] (by kernel_rfl) ?_
      simp only [Act.put, List.setIfInBounds_toArray, List.set_cons_zero, List.set_cons_succ]
      refine Held.wpAnyG_take (i := 5) (v := (sv m)) rfl (by kernel_rfl) (by kernel_rfl) (by kernel_rfl) (fun _ _ _ h => h) HSS.out (by first | (with_reducible rfl) | (simp [Region.wanted, yielded, Act.put]; done) | rfl) (fun W1 hs => Held.run_load_of 57 (.tmp 5) rfl ⟨b4 + 1, 0, none⟩ rfl (load_blkS (by rw [HMK.out]; exact hs.1))) (some 25) rfl #[true, true, true, true, true, true, false, false] (by kernel_rfl) ?_
      simp only [Act.put, List.setIfInBounds_toArray, List.set_cons_zero, List.set_cons_succ]
      refine Held.wpAnyG_one 6 (by kernel_rfl) rfl #[true, true, true, true, true, true, true, false] (by kernel_rfl) (fun K hK => ?_)
      go_wp2_with fail
      (with_reducible refine (orderB_calls x m _).mono ?_)
      rintro en wq ⟨rfl, hb_⟩
      have n1_ := Aside0.mk (MInv.below HSS.out hb_)
      clear HSS
      have HSS := n1_
      clear n1_ hb_
      go_wp2_with fail
      refine hK _ _ HSS.out ?_
      clear hK K
      refine Held.wpAnyG_take (i := 7) (v := (.bool (decide (ordC x m < 0)))) rfl (by kernel_rfl) (by kernel_rfl) (by kernel_rfl) (fun _ _ _ h => h) HSS.out (by first | (with_reducible rfl) | (simp [Region.wanted, yielded, Act.put]; done) | rfl) (fun W1 h1 => by go_simp) (some 27) rfl #[true, true, true, true, true, true, true, true] (by kernel_rfl) ?_
      simp only [Act.put, List.setIfInBounds_toArray, List.set_cons_zero, List.set_cons_succ]
      refine Held.wpAnyG_done (by kernel_rfl) ?_ _
      by_cases hlt0 : ordC x m < 0
      · have HQ := Aside0.mk (show minL x0 (l.take (k + 1)) = x by rw [minL_take x0 l HKL.out, ← HMK.out, ← HXK.out, if_pos hlt0])
        have H5 := HSS.out.1
        rw [← HMK.out] at H5
        have hf0 := blk_frozen H5 0
        have hf1 := blk_frozen H5 1
        have hc0 := blk_cell H5 0
        have hc1 := blk_cell H5 1
        simp at hc0 hc1
        have HH5 := Aside0.mk H5
        clear H5
        go_wp2_with (refine wpList_load_of rfl 57 (.tmp 30) rfl (ad.add (k1 * 2)) rfl (HLX.out _ HSS.out.2.2) ?_)
        have hset : (((wq.setCell ⟨b4 + 1, 0, none⟩ (.int .i64 x.1)).setCell ⟨b4 + 1, 1, none⟩ (.int .u64 x.2))).heap[b4 + 1]? = some (.cells #[.int .i64 x.1, .int .u64 x.2] 57 (0, 0)) := blk_put (cs := #[.int .i64 x.1, .int .u64 m.2]) (blk_put (cs := #[.int .i64 m.1, .int .u64 m.2]) HH5.out 0 _ rfl) 1 _ rfl
        have HIN := Aside0.mk (show MInv w ((wq.setCell ⟨b4 + 1, 0, none⟩ (.int .i64 x.1)).setCell ⟨b4 + 1, 1, none⟩ (.int .u64 x.2)) x0 l b4 (k + 1) from ⟨by rw [HQ.out]; exact hset, blk_far (blk_far HSS.out.2.1 (by dsimp only; omega) _) (by dsimp only; omega) _, (HSS.out.2.2.setCell (p := ⟨b4 + 1, 0, none⟩) (by have h1 := HB4.out; dsimp only; omega) _).setCell (p := ⟨b4 + 1, 1, none⟩) (by have h1 := HB4.out; dsimp only; omega) _⟩)
        clear hset hf0 hf1 hc0 hc1 HH5
        go_roundw
        case measure => simp [intOf]; omega
        case rel => exact ⟨k + 1, by have h1 := HK1.out; have h2 := e4.2; omega, by have h1 := HK1.out; go_num, HIN⟩
      · have HQ := Aside0.mk (show minL x0 (l.take (k + 1)) = m by rw [minL_take x0 l HKL.out, ← HMK.out, ← HXK.out, if_neg hlt0])
        go_wp2_with fail
        go_roundw
        case measure => simp [intOf]; omega
        case rel =>
          refine ⟨k + 1, by have h1 := HK1.out; have h2 := e4.2; omega, by have h1 := HK1.out; go_num, ⟨?_⟩⟩
          unfold MInv
          rw [HQ.out, HMK.out]
          exact HSS.out
    · obtain rfl : k1 = p := by omega
      have hkl : k = l.length := by have h1 := HP.out; have h2 := HK1.out; omega
      obtain ⟨h5, h4, hb⟩ := HI.out
      rw [hkl, List.take_length] at h5
      obtain ⟨m, hm⟩ : ∃ m, m = minL x0 l := ⟨_, rfl⟩
      rw [← hm] at h5
      have H4 := Aside0.mk h4
      have HBB := Aside0.mk hb
      have HM := Aside0.mk hm
      have hc0 := blk_cell h5 0
      have hc1 := blk_cell h5 1
      have hd0 := blk_cell h4 0
      have hd1 := blk_cell h4 1
      have hf0 := blk_frozen h4 0
      have hf1 := blk_frozen h4 1
      simp at hc0 hc1 hd0 hd1
      clear h5 h4 hb hm hkl HI hlt hk hk1
      go_wp2_with fail
      have hset : (((wr.setCell ⟨b4, 0, none⟩ (.int .i64 m.1)).setCell ⟨b4, 1, none⟩ (.int .u64 m.2))).heap[b4]? = some (.cells #[.int .i64 m.1, .int .u64 m.2] 57 (0, 0)) := blk_put (cs := #[.int .i64 m.1, .int .u64 0]) (blk_put (cs := #[.int .i64 0, .int .u64 0]) H4.out 0 _ rfl) 1 _ rfl
      rw [← HM.out]
      exact bodyPost_ret (results_cell_row rfl _ _ b4 57 _ (0, 0) _ rfl hset Try.underlying57 rfl (by kernel_rfl)) rfl ⟨rfl, (HBB.out.setCell (p := ⟨b4, 0, none⟩) HB4.out _).setCell (p := ⟨b4, 1, none⟩) HB4.out _⟩
end Go.Proofs.Ytonofmnjcocokaa.Rk
