/- rank: arrays of 64, and unlike. -/
import Derived.Test.YtonofmnjcocokaaRkLib
namespace Go.Proofs.Ytonofmnjcocokaa.Rk
open Go.RowKit Go.Proofs.YtonofmnjcocokaaW.PrintWords Go.Proofs.YtonofmnjcocokaaW.PrintLast Go.Proofs.YtonofmnjcocokaaW.PrintMore Go.Proofs.Ytonofmnjcocokaa.X Go.Proofs.Ytonofmnjcocokaa.M Go.Proofs.Ytonofmnjcocokaa.Bv Go.Proofs.Ytonofmnjcocokaa.PuLib Go.Proofs.Ytonofmnjcocokaa.PuMix
attribute [local go_sem] max2_int min2_int max_two min_two max_three min_three max_four min_four
set_option linter.unusedVariables false
set_option linter.unusedSimpArgs false
/-- The cells of an array of n. -/
def arrV (n : Nat) (f : Nat → Value) : Array Value := ((List.range n).map f).toArray
theorem arrV_size (n : Nat) (f : Nat → Value) : (arrV n f).size = n := by simp [arrV]
theorem arrV_get {n : Nat} (f : Nat → Value) {i : Nat} (h : i < n) : (arrV n f)[i]? = some (f i) := by simp [arrV, h]
theorem arrV_set (n : Nat) (f : Nat → Value) (i : Nat) (v : Value) : (arrV n f).setIfInBounds i v = arrV n (fun j => if j = i then v else f j) := by
  apply Array.ext_getElem?
  intro j
  rw [Array.getElem?_setIfInBounds]
  by_cases hj : j < n
  · rw [arrV_get _ hj, arrV_get _ hj, arrV_size]
    by_cases e : i = j
    · subst e; simp [hj]
    · simp [e, Ne.symm e]
  · have h1 : ∀ g, (arrV n g)[j]? = none := fun g => by simp [arrV]; omega
    rw [h1, h1, arrV_size]
    split
    · split
      · omega
      · rfl
    · rfl
theorem arrV_congr {n : Nat} {f g : Nat → Value} (h : ∀ i, i < n → f i = g i) : arrV n f = arrV n g := by
  apply Array.ext_getElem?
  intro j
  by_cases hj : j < n
  · rw [arrV_get _ hj, arrV_get _ hj, h j hj]
  · have h1 : ∀ g, (arrV n g)[j]? = none := fun g => by simp [arrV]; omega
    rw [h1, h1]
theorem arrV_one (n : Nat) (f : Nat → Value) (h : ∀ i, (f i).oneCell' = true) : (arrV n f).all (·.oneCell') = true := by
  simp only [arrV, List.all_toArray, List.all_eq_true]
  intro v hv
  obtain ⟨i, _, rfl⟩ := List.mem_map.1 hv
  exact h i
theorem arrV_cell {n : Nat} {f : Nat → Value} {W : World} {b t i : Nat} (h : W.heap[b]? = some (.cells (arrV n f) t (0, 0))) (hi : i < n) : W.cell? ⟨b, i, none⟩ = some (f i) := (blk_cell h i).trans (arrV_get f hi)
theorem arrV_put {n : Nat} {f : Nat → Value} {W : World} {b t i : Nat} (h : W.heap[b]? = some (.cells (arrV n f) t (0, 0))) (v : Value) : (W.setCell ⟨b, i, none⟩ v).heap[b]? = some (.cells (arrV n fun j => if j = i then v else f j) t (0, 0)) := by
  rw [← arrV_set]
  exact heap_setCell_same W b i _ t _ h
theorem setRow_same_ {w : World} {g : Nat} {cur : Array Value} {t : TypeId} {fr : Nat × Nat} (hg : w.heap[g]? = some (.cells cur t fr)) : w.setRow g cur = w := by
  have hlt : g < w.heap.size := (Array.getElem?_eq_some_iff.1 hg).1
  have hv : w.heap[g] = .cells cur t fr := (Array.getElem?_eq_some_iff.1 hg).2
  unfold World.setRow
  cases w with
  | mk heap tape drawn os output =>
    congr 1
    apply Array.ext
    · simp
    · intro k h1 h2
      simp only [Array.getElem_modify]
      split
      · rename_i hk; subst hk; simp at hv; simp [hv]
      · rfl
theorem store_same {P : Program} {W : World} {N : Nat} (h : W.heap.size = N) (cs : Array Value) (t : TypeId) (h1 : cs.all (·.oneCell') = true) : (storeCells ⟨N, 0, none⟩ cs.toList).run P (W.alloc (.cells cs t)) = .ok () (W.alloc (.cells cs t)) := by
  have hb := blk_newN h (.cells cs t)
  rw [run_storeCells_from N t cs.toList 0 cs _ hb (by simp) (fun v hv => (Array.all_eq_true_iff_forall_mem.1 h1) v (by simpa using hv))]
  simp only [List.take_zero, List.nil_append, Array.toArray_toList]
  rw [setRow_same_ hb]
theorem run_build_of {o : Oper} {a : Act} {w : World} (ty : TypeId) (ho : o.op = .build ty #[]) {v : Value} (h : (Instr.build ty #[]).run Try.prog w = .ok v w) : (execOp a.eval o).run Try.prog w = .ok (.value v) w := by
  unfold execOp
  simp [ho, h]
theorem wpList_build_of {ops : Array Oper} {rest : List Oper} {o : Oper} {a : Act} {Q : Exit → Act → World → Prop} {w : World} (hgd : o.guard = none) (ty : TypeId) (ho : o.op = .build ty #[]) {v : Value} (h : (Instr.build ty #[]).run Try.prog w = .ok v w) (hk : wpList Try.prog ops Q rest (a.put o.dst v) w) : wpList Try.prog ops Q (o :: rest) a w := by
  refine wpList_plain hgd fun K hK' => ?_
  unfold Oper.wp
  simp only [run_build_of ty ho h]
  exact hK' _ _ hk
theorem zeroB64 : ∀ w : World, (zeroValue 66).run Try.prog w = .ok (.agg (arrV 64 fun _ => .bool false)) w := fun w => by kernel_rfl
theorem buildB64 : ∀ w : World, (Instr.build 66 #[]).run Try.prog w = .ok (.agg (arrV 64 fun _ => .bool false)) w := fun w => by kernel_rfl
theorem infoB64 : (Try.prog.info? 66).map (·.size) = some 64 := by kernel_rfl
/-- The Ids that were seen. -/
def seenF (l : List S25) (i : Nat) : Value := .bool (l.any fun e => e.f0 == (i : Int))
theorem seenF_nil : (seenF []) = fun _ => Value.bool false := rfl
theorem seenF_succ (l : List S25) (e : S25) (n : Nat) (h : e.f0 = (n : Int)) : (fun j => if j = n then Value.bool true else seenF l j) = seenF (l ++ [e]) := by
  funext j
  unfold seenF
  rw [List.any_append, List.any_cons, List.any_nil, Bool.or_false, h]
  by_cases hj : j = n
  · subst hj; simp
  · rw [if_neg hj]
    have h4 : ((n : Int) == (j : Int)) = false := by simpa using fun h : (n : Int) = (j : Int) => hj (by omega)
    rw [h4, Bool.or_false]
def fineL (l : List S25) : Prop := (∀ e ∈ l, rightS e.f0 e.f1 = true) ∧ (l.map (·.f0)).Nodup
theorem fineL_snoc {l : List S25} {e : S25} (h : fineL l) (hr : rightS e.f0 e.f1 = true) (hn : (l.any fun x => x.f0 == e.f0) = false) : fineL (l ++ [e]) := by
  refine ⟨fun x hx => ?_, ?_⟩
  · rw [List.mem_append, List.mem_singleton] at hx
    rcases hx with hx | rfl
    · exact h.1 x hx
    · exact hr
  · rw [List.map_append, List.map_cons, List.map_nil, List.nodup_append]
    refine ⟨h.2, by simp, fun a ha b hb hab => ?_⟩
    rw [List.mem_singleton] at hb
    subst hab
    obtain ⟨x, hx, rfl⟩ := List.mem_map.1 ha
    have := List.any_eq_false.1 hn x hx
    simp [hb] at this
set_option maxRecDepth 100000 in
set_option maxHeartbeats 4000000 in
theorem unlike_calls (l : List S25) (p : Nat) (hp : p = l.length) (hp3 : p ≤ 2000) (B : Option Addr) (d : Nat) (w : World) (hC : Kd.C k25 w B p l) (hc : p ≤ d) :
    Calls Try.prog 18 #[.slice B p d] w fun e w' => (e = .returned (.bool false) ∧ Below w.heap.size w w') ∨ (e = .returned (.bool true) ∧ fineL l ∧ Below w.heap.size w w') := by
  have HP := Aside0.mk hp
  have HP3 := Aside0.mk hp3
  have HF := Aside0.mk (Kd.C_F heapE hC)
  clear hp hp3 hC hc
  have hz := zeroB64
  have hss := store_same (P := Try.prog) (W := w) rfl (arrV 64 fun _ => .bool false) 66 (arrV_one _ _ fun _ => rfl)
  go_enter Try.func18, Try.ntmps18
  go_wp2_with (refine wpList_build_of rfl 66 rfl (buildB64 _) ?_)
  clear hss hz
  have HI : Aside0 ((w.alloc (.cells (arrV 64 fun _ => .bool false) 66)).heap[w.heap.size]? = some (.cells (arrV 64 (seenF (l.take 0))) 66 (0, 0)) ∧ fineL (l.take 0) ∧ Below w.heap.size w (w.alloc (.cells (arrV 64 fun _ => .bool false) 66))) := ⟨blk_new w _, ⟨fun e he => absurd he List.not_mem_nil, List.nodup_nil⟩, below_alloc (Below.refl _ _) _⟩
  go_loopw [4] (fun v4 wr => ∃ k : Nat, k ≤ p ∧ v4 = .int .i64 k ∧ Aside0 (wr.heap[w.heap.size]? = some (.cells (arrV 64 (seenF (l.take k))) 66 (0, 0)) ∧ fineL (l.take k) ∧ Below w.heap.size w wr)) (fun v4 _ => p - (intOf v4).toNat)
  case atStart => exact ⟨0, Nat.zero_le _, rfl, HI⟩
  case round =>
    clear HI
    obtain ⟨k, hk, rfl, HI⟩ := hrel
    by_cases hlt : k < p
    · have HKL := Aside0.mk hlt
      obtain ⟨ad, hA, _⟩ := (Kd.F_now HF.out).2.2 (Nat.lt_of_le_of_lt (Nat.zero_le _) hlt)
      subst hA
      obtain ⟨x, hx⟩ : ∃ x, x = l.getD k z25 := ⟨_, rfl⟩
      have HXK := Aside0.mk (show l.take (k + 1) = l.take k ++ [x] by rw [List.take_succ_eq_append_getElem (by rw [← HP.out]; exact HKL.out), hx, List.getD_eq_getElem?_getD, List.getElem?_eq_getElem (by rw [← HP.out]; exact HKL.out)]; rfl)
      have HLD := Aside0.mk (show (loadVar 25 (ad.add (k * 2))).run Try.prog wr = .ok (svE x) wr by
        rw [hx]
        exact load_rowE (Kd.F_below HF.out HI.out.2.2) (by rw [← HP.out]; exact HKL.out))
      have e1 : (0 : Int) ≤ (k : Int) ∧ (k : Int) < (p : Int) := by omega
      have e2 : (k : Int) < (p : Int) := by omega
      have e3 : (p : Int) ≤ 2000 := by have h1 := HP3.out; omega
      have hwl : w.heap.size < wr.heap.size := (Array.getElem?_eq_some_iff.1 HI.out.1).1
      have hb1 := blk_alloc HI.out.1 (.cells #[.int .i64 x.f0, .int .i64 x.f1] 25)
      obtain ⟨w2, hw2⟩ : ∃ w2, w2 = wr.alloc (.cells #[.int .i64 x.f0, .int .i64 x.f1] 25) := ⟨_, rfl⟩
      have HW2 := Aside0.mk hw2
      have HB1 := Aside0.mk (show w2.heap[w.heap.size]? = some (.cells (arrV 64 (seenF (l.take k))) 66 (0, 0)) by rw [hw2]; exact hb1)
      have HB2 := Aside0.mk (show Below w.heap.size w w2 by rw [hw2]; exact below_alloc HI.out.2.2 _)
      have h2 : w2.heap[wr.heap.size]? = some (.cells #[.int .i64 x.f0, .int .i64 x.f1] 25 (0, 0)) := by rw [hw2]; exact blk_new wr _
      have hc0 := blk_cell h2 0
      have hc1 := blk_cell h2 1
      simp at hc0 hc1
      have HC0 := Aside0.mk hc0
      have HC1 := Aside0.mk hc1
      clear hx hlt hk hc0 hc1 hb1 hw2 h2 hwl
      obtain ⟨f0, f1⟩ := x
      have hc0 := HC0.out
      have hc1 := HC1.out
      dsimp only at hc0 hc1
      by_cases h1 : f0 < 0
      · go_wp2_with (first | (refine wpList_load_of rfl 25 (.tmp 15) rfl (ad.add (k * 2)) rfl HLD.out ?_) | rw [← HW2.out])
        go_ret
        exact .inl ⟨rfl, HB2.out⟩
      by_cases h2 : 63 < f0
      · go_wp2_with (first | (refine wpList_load_of rfl 25 (.tmp 15) rfl (ad.add (k * 2)) rfl HLD.out ?_) | rw [← HW2.out])
        go_ret
        exact .inl ⟨rfl, HB2.out⟩
      by_cases h3 : f1 < 1
      · go_wp2_with (first | (refine wpList_load_of rfl 25 (.tmp 15) rfl (ad.add (k * 2)) rfl HLD.out ?_) | rw [← HW2.out])
        go_ret
        exact .inl ⟨rfl, HB2.out⟩
      by_cases h4 : 16 < f1
      · go_wp2_with (first | (refine wpList_load_of rfl 25 (.tmp 15) rfl (ad.add (k * 2)) rfl HLD.out ?_) | rw [← HW2.out])
        go_ret
        exact .inl ⟨rfl, HB2.out⟩
      obtain ⟨i, rfl⟩ := Int.eq_ofNat_of_zero_le (show 0 ≤ f0 by omega)
      have hi : i < 64 := by omega
      have hse := arrV_cell HB1.out hi
      unfold seenF at hse
      have hfr := blk_frozen HB1.out i
      have i1 : ((0 : Int) ≤ (i : Int)) = True := eq_true (by omega)
      have i2 : ((i : Int) < 64) = True := eq_true (by omega)
      have i3 : ¬ 63 < (i : Int) := by omega
      by_cases hs : ((l.take k).any fun e => e.f0 == (i : Int)) = true
      · rw [hs] at hse
        go_wp2_with (first | (refine wpList_load_of rfl 25 (.tmp 15) rfl (ad.add (k * 2)) rfl HLD.out ?_) | rw [← HW2.out])
        go_ret
        exact .inl ⟨rfl, HB2.out⟩
      · rw [Bool.eq_false_iff.2 hs] at hse
        have HS := Aside0.mk hs
        have HR := Aside0.mk (show rightS i f1 = true from decide_eq_true ⟨by omega, by omega, by omega, by omega⟩)
        clear hs
        go_wp2_with (first | (refine wpList_load_of rfl 25 (.tmp 15) rfl (ad.add (k * 2)) rfl HLD.out ?_) | rw [← HW2.out])
        go_roundw
        case measure => simp [intOf]; omega
        case rel =>
          refine ⟨k + 1, by have h2 := HKL.out; omega, by go_num, ⟨?_, ?_, ?_⟩⟩
          · have h5 := arrV_put (i := i) HB1.out (.bool true)
            rw [seenF_succ _ ⟨i, f1⟩ i rfl, ← HXK.out] at h5
            exact h5
          · rw [HXK.out]
            exact fineL_snoc HI.out.2.1 HR.out (Bool.eq_false_iff.2 HS.out)
          · exact HB2.out.setCell (p := ⟨w.heap.size, i, none⟩) (Nat.le_refl _) _
    · obtain rfl : k = p := by omega
      have HL := Aside0.mk (show fineL l by have h1 := HI.out.2.1; rw [List.take_of_length_le (Nat.le_of_eq HP.out.symm)] at h1; exact h1)
      have HB := Aside0.mk HI.out.2.2
      clear HI hlt hk
      go_wp2_with fail
      go_ret
      exact .inr ⟨rfl, HL.out, HB.out⟩
end Go.Proofs.Ytonofmnjcocokaa.Rk
