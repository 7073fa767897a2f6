/- Walks of the reference's functions of the field over arrays of bools by value. -/
import Derived.Test.YtmhmmmkpijbbiabArr
import Derived.Laws.Rows
import Derived.StillTailTactics
import Derived.ChangeKeysEq
namespace Go.Proofs.Ytmhmmmkpijbbiab.ArrW
open Go.RowKit Go.Proofs.YtmhmmmkpijbbiabW.PrintWords Go.Proofs.YtmhmmmkpijbbiabW.PrintLast Go.Proofs.YtmhmmmkpijbbiabW.PrintMore Go.Proofs.Ytmhmmmkpijbbiab.X Go.Proofs.Ytmhmmmkpijbbiab.Arr
set_option linter.unusedVariables false
set_option linter.unusedSimpArgs false
theorem info5_ : (Try.prog.info? 5).map (fun i => (i.zero, i.size, i.bytes)) = some (some (.int .u8 0), 1, 1) := by kernel_rfl
theorem zeroP : ∀ w : World, (zeroValue 43).run Try.prog w = .ok (.agg (arr 128 fun _ => false)) w := fun w => by kernel_rfl
theorem infoP_ : (Try.prog.info? 43).map (·.size) = some 128 := by kernel_rfl
theorem arr_cell {n : Nat} {f : Nat → Bool} {W : World} {b t i : Nat} (h : W.heap[b]? = some (.cells (arr n f) t (0, 0))) (hi : i < n) : W.cell? ⟨b, i, none⟩ = some (.bool (f i)) := (blk_cell h i).trans (arr_get f hi)
theorem arr_put {n : Nat} {f : Nat → Bool} {W : World} {b t i : Nat} (h : W.heap[b]? = some (.cells (arr n f) t (0, 0))) (v : Bool) : (W.setCell ⟨b, i, none⟩ (.bool v)).heap[b]? = some (.cells (arr n fun j => if j = i then v else f j) t (0, 0)) := by
  rw [← arr_set]
  exact heap_setCell_same W b i _ t _ h
theorem below_setRow {B g : Nat} {w0 w : World} (hb : Below B w0 w) (hBg : B ≤ g) (cs : Array Value) : Below B w0 (w.setRow g cs) :=
  ⟨hb.os, hb.tape, hb.output, by rw [setRow_size]; exact hb.size, fun b hlt => by rw [setRow_other w g b cs (by omega)]; exact hb.block b hlt⟩
/-- What is added so far. -/
def addTo (f g : Nat → Bool) (k j : Nat) : Bool := if j < k then f j != g j else f j
theorem addTo_succ (f g : Nat → Bool) (k : Nat) : (fun j => if j = k then (addTo f g k k != g k) else addTo f g k j) = addTo f g (k + 1) := by
  funext j
  unfold addTo
  by_cases h : j = k
  · subst h; simp
  · rw [if_neg h]
    by_cases h2 : j < k
    · rw [if_pos h2, if_pos (by omega)]
    · rw [if_neg h2, if_neg (by omega)]
theorem addTo_at (f g : Nat → Bool) (k : Nat) : addTo f g k k = f k := by simp [addTo]
set_option maxRecDepth 100000 in
theorem add_calls (f g : Nat → Bool) (w : World) :
  Calls Try.prog 36 #[.agg (arr 128 f), .agg (arr 128 g)] w fun e w' => e = .returned (.agg (arr 128 fun i => f i != g i)) ∧ Below w.heap.size w w' := by
  have hz := zeroP
  go_enter Try.func36, Try.ntmps36
  go_wp2_with fail
  clear hz
  go_loopw [5] (fun v5 wr => ∃ k : Nat, k ≤ 128 ∧ v5 = .int .i64 k ∧ Aside0 (wr.heap[w.heap.size]? = some (.cells (arr 128 (addTo f g k)) 43 (0, 0)) ∧ wr.heap[w.heap.size + 1]? = some (.cells (arr 128 g) 43 (0, 0)) ∧ wr.heap[w.heap.size + 1 + 1]? = some (.cells (arr 128 fun _ => false) 43 (0, 0)) ∧ Below w.heap.size w wr))
    (fun v5 _ => 128 - (intOf v5).toNat)
  case atStart =>
    refine ⟨0, by omega, rfl, ⟨?_, ?_, ?_, ?_⟩⟩
    · have : arr 128 (addTo f g 0) = arr 128 f := arr_congr fun i _ => by simp [addTo]
      rw [this]
      exact blk_alloc (blk_alloc (blk_new w _) _) _
    · have := blk_alloc (blk_new (w.alloc (.cells (arr 128 f) 43)) (.cells (arr 128 g) 43)) (.cells (arr 128 fun _ => false) 43)
      simpa using this
    · have := blk_new ((w.alloc (.cells (arr 128 f) 43)).alloc (.cells (arr 128 g) 43)) (.cells (arr 128 fun _ => false) 43)
      simpa using this
    · exact below_alloc (below_alloc (below_alloc (Below.refl _ _) _) _) _
  case round =>
    obtain ⟨k, hk, rfl, ⟨hb1, hb2, hb3, hB⟩⟩ := hrel
    by_cases hlt : k < 128
    · have hc1 := arr_cell hb1 hlt
      have hc2 := arr_cell hb2 hlt
      have hf1 := blk_frozen hb1 k
      have HK := Aside0.mk hb1
      have HK2 := Aside0.mk hb2
      have HK3 := Aside0.mk hb3
      have HB := Aside0.mk hB
      clear hb1 hb2 hb3 hB
      have h0 : decide ((k : Int) < 128) = true := decide_eq_true (by omega)
      go_wp2_with fail
      clear h0
      have p1 : ((0 : Int) ≤ (k : Int)) = True := eq_true (by omega)
      have p2 : ((k : Int) < 128) = True := eq_true (by omega)
      have p3 : (k < 128) = True := eq_true (by omega)
      go_still_tail 9, (by kernel_rfl)
      change wpList _ _ _ _ _ wr.drew
      go_wp2_with fail
      go_roundw
      case rel =>
        refine ⟨k + 1, by omega, by go_num, ?_⟩
        refine ⟨?_, ?_, ?_, ?_⟩
        · have := arr_put (i := k) HK.out (!addTo f g k k == g k)
          rw [show (!addTo f g k k == g k) = (addTo f g k k != g k) from rfl, addTo_succ] at this
          exact this
        · exact blk_drew (blk_far HK2.out (by dsimp only; omega) _)
        · exact blk_drew (blk_far HK3.out (by dsimp only; omega) _)
        · exact below_drew (HB.out.setCell (p := ⟨w.heap.size, k, none⟩) (Nat.le_refl _) _)
      case measure => simp [intOf]; omega
    · obtain rfl : k = 128 := by omega
      have HK := Aside0.mk hb1
      have HK3 := Aside0.mk hb3
      have HB := Aside0.mk hB
      clear hb1 hb2 hb3 hB
      go_wp2_with (first | (refine wpList_load_row rfl 43 (.tmp 2) rfl w.heap.size rfl 43 _ _ _ HK.out Try.underlying43 rfl (infoP_.trans (by rw [arr_size])) ?_) | (refine wpList_store_row rfl 43 (.tmp 4) (.tmp 19) rfl (w.heap.size + 1 + 1) _ rfl rfl 43 _ HK3.out (infoP_.trans (by rw [arr_size])) (by rw [arr_size, arr_size]) (arr_one _ _) ?_))
      have h3 := setRow_heap wr (w.heap.size + 1 + 1) _ (arr 128 (addTo f g 128)) 43 (0, 0) HK3.out
      refine bodyPost_ret (results_cell_row rfl _ _ (w.heap.size + 1 + 1) 43 _ (0, 0) _ rfl h3 Try.underlying43 rfl (infoP_.trans (by rw [arr_size]))) rfl ⟨?_, below_setRow HB.out (by omega) _⟩
      rw [arr_congr (g := fun i => f i != g i) fun i hi => by unfold addTo; rw [if_pos hi]]

theorem setRow_same_ {w : World} {g : Nat} {cur : Array Value} {t : TypeId} {fr : Nat × Nat} (hg : w.heap[g]? = some (.cells cur t fr)) : w.setRow g cur = w := by
  have hlt : g < w.heap.size := (Array.getElem?_eq_some_iff.1 hg).1
  have hv : w.heap[g] = .cells cur t fr := (Array.getElem?_eq_some_iff.1 hg).2
  unfold World.setRow
  cases w with
  | mk heap tape drawn os output =>
    congr 1
    apply Array.ext
    · simp
    · intro k h1 h2
      simp only [Array.getElem_modify]
      split
      · rename_i hk; subst hk; simp at hv; simp [hv]
      · rfl
/-- A bool set. -/
def upd (f : Nat → Bool) (i : Nat) (v : Bool) (j : Nat) : Bool := if j = i then v else f j
theorem zeroQ : ∀ w : World, (zeroValue 90).run Try.prog w = .ok (.agg (arr 255 fun _ => false)) w := fun w => by kernel_rfl
theorem buildQ : ∀ w : World, (Instr.build 90 #[]).run Try.prog w = .ok (.agg (arr 255 fun _ => false)) w := fun w => by kernel_rfl
theorem buildP : ∀ w : World, (Instr.build 43 #[]).run Try.prog w = .ok (.agg (arr 128 fun _ => false)) w := fun w => by kernel_rfl
theorem infoQ_ : (Try.prog.info? 90).map (·.size) = some 255 := by kernel_rfl
theorem blk_newN {W : World} {N : Nat} (h : W.heap.size = N) (o : Obj) : (W.alloc o).heap[N]? = some o := h ▸ heap_alloc_new W o
theorem store_same {P : Program} {W : World} {N : Nat} (h : W.heap.size = N) (cs : Array Value) (t : TypeId) (h1 : cs.all (·.oneCell') = true) : (storeCells ⟨N, 0, none⟩ cs.toList).run P (W.alloc (.cells cs t)) = .ok () (W.alloc (.cells cs t)) := by
  have hb := blk_newN h (.cells cs t)
  rw [run_storeCells_from N t cs.toList 0 cs _ hb (by simp) (fun v hv => (Array.all_eq_true_iff_forall_mem.1 h1) v (by simpa using hv))]
  simp only [List.take_zero, List.nil_append, Array.toArray_toList]
  rw [setRow_same_ hb]
/-- A row of products added, so far. -/
def rowAdd (n b : Nat → Bool) (i k j : Nat) : Bool := if i ≤ j ∧ j < i + k then n j != b (j - i) else n j
theorem rowAdd_zero (n b : Nat → Bool) (i : Nat) : rowAdd n b i 0 = n := by
  funext j
  unfold rowAdd
  rw [if_neg (by omega)]
theorem rowAdd_at (n b : Nat → Bool) (i k : Nat) : rowAdd n b i k (i + k) = n (i + k) := by
  unfold rowAdd
  rw [if_neg (by omega)]
theorem rowAdd_succ (n b : Nat → Bool) (i k : Nat) : (fun j => if j = i + k then (n (i + k) != b k) else rowAdd n b i k j) = rowAdd n b i (k + 1) := by
  funext j
  unfold rowAdd
  by_cases h : j = i + k
  · subst h
    rw [if_pos rfl, if_pos (by omega), Nat.add_sub_cancel_left]
  · rw [if_neg h]
    by_cases h2 : i ≤ j ∧ j < i + k
    · rw [if_pos h2, if_pos (by omega)]
    · rw [if_neg h2, if_neg (by omega)]
/-- The products, so far. -/
def prods (a b : Nat → Bool) : Nat → Nat → Bool
  | 0 => fun _ => false
  | i + 1 => if a i then rowAdd (prods a b i) b i 128 else prods a b i
/-- The multiple of the modulus taken off at k. -/
def red1 (n : Nat → Bool) (k : Nat) : Nat → Bool :=
  if n k then
    let n1 := upd n k false
    let n2 := upd n1 (k - 128) (!n1 (k - 128))
    let n3 := upd n2 (k - 127) (!n2 (k - 127))
    let n4 := upd n3 (k - 126) (!n3 (k - 126))
    upd n4 (k - 121) (!n4 (k - 121))
  else n
/-- The multiples taken off, from 254 down, so far. -/
def reds (n : Nat → Bool) : Nat → Nat → Bool
  | 0 => n
  | t + 1 => red1 (reds n t) (254 - t)
def mulF (a b : Nat → Bool) : Nat → Bool := reds (prods a b 128) 127
/-- What is copied so far. -/
def copied (n : Nat → Bool) (q j : Nat) : Bool := if j < q then n j else false
theorem copied_zero (n : Nat → Bool) : copied n 0 = fun _ => false := by
  funext j
  simp [copied]
theorem copied_succ (n : Nat → Bool) (q : Nat) : (fun j => if j = q then n q else copied n q j) = copied n (q + 1) := by
  funext j
  unfold copied
  by_cases h : j = q
  · subst h; simp
  · rw [if_neg h]
    by_cases h2 : j < q
    · rw [if_pos h2, if_pos (by omega)]
    · rw [if_neg h2, if_neg (by omega)]
theorem copied_lt (n : Nat → Bool) {q j : Nat} (h : j < q) : copied n q j = n j := by simp [copied, h]

set_option maxRecDepth 100000 in
set_option maxHeartbeats 1000000 in
theorem mul_calls (f g : Nat → Bool) (w : World) :
  Calls Try.prog 20 #[.agg (arr 128 f), .agg (arr 128 g)] w fun e w' => e = .returned (.agg (arr 128 (mulF f g))) ∧ Below w.heap.size w w' := by
  have hz := zeroP
  have hz2 := zeroQ
  have hz3 := buildQ
  have hst := store_same (P := Try.prog) (W := ((w.alloc (.cells (arr 128 f) 43)).alloc (.cells (arr 128 g) 43)).alloc (.cells (arr 128 fun _ => false) 43)) (N := w.heap.size + 1 + 1 + 1) (by simp) (arr 255 fun _ => false) 90 (arr_one _ _)
  go_enter Try.func20, Try.ntmps20
  go_wp2_with fail
  clear hst hz hz2 hz3
  go_loopw [6] (fun v6 wr => ∃ i : Nat, i ≤ 128 ∧ v6 = .int .i64 i ∧ Aside0 (wr.heap[w.heap.size]? = some (.cells (arr 128 f) 43 (0, 0)) ∧ wr.heap[w.heap.size + 1]? = some (.cells (arr 128 g) 43 (0, 0)) ∧ wr.heap[w.heap.size + 1 + 1]? = some (.cells (arr 128 fun _ => false) 43 (0, 0)) ∧ wr.heap[w.heap.size + 1 + 1 + 1]? = some (.cells (arr 255 (prods f g i)) 90 (0, 0)) ∧ Below w.heap.size w wr))
    (fun v6 _ => 128 - (intOf v6).toNat)
  case atStart =>
    refine ⟨0, by omega, rfl, ⟨?_, ?_, ?_, ?_, ?_⟩⟩
    · exact blk_alloc (blk_alloc (blk_alloc (blk_new w _) _) _) _
    · exact blk_alloc (blk_alloc (blk_newN (by simp) _) _) _
    · exact blk_alloc (blk_newN (by simp) _) _
    · exact blk_newN (by simp) _
    · exact below_alloc (below_alloc (below_alloc (below_alloc (Below.refl _ _) _) _) _) _
  case round =>
    obtain ⟨i, hi, rfl, ⟨hb1, hb2, hb3, hb4, hB⟩⟩ := hrel
    by_cases hlt : i < 128
    · have hc1 := arr_cell hb1 hlt
      have HPS := Aside0.mk (show prods f g (i + 1) = if f i then rowAdd (prods f g i) g i 128 else prods f g i from rfl)
      have HR0 := Aside0.mk (rowAdd_zero (prods f g i) g i)
      generalize prods f g i = n at hb4 HPS HR0
      have H1 := Aside0.mk hb1
      have H2 := Aside0.mk hb2
      have H3 := Aside0.mk hb3
      have H4 := Aside0.mk hb4
      have HB := Aside0.mk hB
      clear hb1 hb2 hb3 hb4 hB
      by_cases hfi : f i = true
      · have HF := Aside0.mk hfi
        rw [hfi] at hc1
        clear hfi
        have h0 : decide ((i : Int) < 128) = true := decide_eq_true (by omega)
        obtain ⟨wo, hwo⟩ : ∃ wo : World, wo = wr := ⟨_, rfl⟩
        subst hwo
        go_wp2_with fail
        clear hc1 h0
        go_loopw [7] (fun v7 wr => ∃ k : Nat, k ≤ 128 ∧ v7 = .int .i64 k ∧ Aside0 (wr.heap[w.heap.size]? = some (.cells (arr 128 f) 43 (0, 0)) ∧ wr.heap[w.heap.size + 1]? = some (.cells (arr 128 g) 43 (0, 0)) ∧ wr.heap[w.heap.size + 1 + 1]? = some (.cells (arr 128 fun _ => false) 43 (0, 0)) ∧ wr.heap[w.heap.size + 1 + 1 + 1]? = some (.cells (arr 255 (rowAdd n g i k)) 90 (0, 0)) ∧ Below w.heap.size w wr))
          (fun v7 _ => 128 - (intOf v7).toNat)
        case atStart => exact ⟨0, by omega, rfl, ⟨H1.out, H2.out, H3.out, by rw [HR0.out]; exact H4.out, HB.out⟩⟩
        case round =>
          clear H1 H2 H3 H4 HB
          obtain ⟨k, hk, rfl, ⟨hb1, hb2, hb3, hb4, hB⟩⟩ := hrel
          by_cases hlk : k < 128
          · have hc2 := arr_cell hb2 hlk
            have hc4 := arr_cell (i := i + k) hb4 (by omega)
            have hf4 := blk_frozen hb4 (i + k)
            rw [rowAdd_at] at hc4
            have HPS2 := Aside0.mk (rowAdd_succ n g i k)
            have H1 := Aside0.mk hb1
            have H2 := Aside0.mk hb2
            have H3 := Aside0.mk hb3
            have H4 := Aside0.mk hb4
            have HB := Aside0.mk hB
            clear hb1 hb2 hb3 hb4 hB
            have h0 : decide ((k : Int) < 128) = true := decide_eq_true (by omega)
            go_wp2_with fail
            clear h0
            have p1 : ((0 : Int) ≤ (k : Int)) = True := eq_true (by omega)
            have p2 : ((k : Int) < 128) = True := eq_true (by omega)
            have p4 : ((0 : Int) ≤ (i : Int) + (k : Int)) = True := eq_true (by omega)
            have p5 : ((i : Int) + (k : Int) < 255) = True := eq_true (by omega)
            have p6 : IntKind.i64.wrap ((i : Int) + (k : Int)) = (i : Int) + (k : Int) := IntWalk.i64_in _ (by omega)
            have p7 : ((i : Int) + (k : Int)).toNat = i + k := by omega
            go_still_tail 13, (by kernel_rfl)
            change wpList _ _ _ _ _ wr.drew
            go_wp2_with fail
            clear p6 p7
            go_roundw
            case rel =>
              refine ⟨k + 1, by omega, by go_num, ⟨?_, ?_, ?_, ?_, ?_⟩⟩
              · exact blk_drew (blk_far H1.out (by dsimp only; omega) _)
              · exact blk_drew (blk_far H2.out (by dsimp only; omega) _)
              · exact blk_drew (blk_far H3.out (by dsimp only; omega) _)
              · have := arr_put (i := i + k) H4.out (n (i + k) != g k)
                rw [HPS2.out] at this
                exact this
              · exact below_drew (HB.out.setCell (p := ⟨w.heap.size + 1 + 1 + 1, i + k, none⟩) (by dsimp only; omega) _)
            case measure => simp [intOf]; omega
          · obtain rfl : k = 128 := by omega
            have H1 := Aside0.mk hb1
            have H2 := Aside0.mk hb2
            have H3 := Aside0.mk hb3
            have H4 := Aside0.mk hb4
            have HB := Aside0.mk hB
            clear hb1 hb2 hb3 hb4 hB
            go_wp2_with fail
            go_roundw
            case rel =>
              refine ⟨i + 1, by omega, by go_num, ⟨H1.out, H2.out, H3.out, ?_, HB.out⟩⟩
              rw [HPS.out, HF.out]
              exact H4.out
            case measure => simp [intOf]; omega
      · have hf2 : f i = false := by simpa using hfi
        have HF := Aside0.mk hf2
        rw [hf2] at hc1
        clear hfi hf2
        have h0 : decide ((i : Int) < 128) = true := decide_eq_true (by omega)
        go_wp2_with fail
        go_roundw
        case rel =>
          refine ⟨i + 1, by omega, by go_num, ⟨H1.out, H2.out, H3.out, ?_, HB.out⟩⟩
          rw [HPS.out, HF.out]
          exact H4.out
        case measure => simp [intOf]; omega
    · obtain rfl : i = 128 := by omega
      have H1 := Aside0.mk hb1
      have H2 := Aside0.mk hb2
      have H3 := Aside0.mk hb3
      have H4 := Aside0.mk hb4
      have HB := Aside0.mk hB
      clear hb1 hb2 hb3 hb4 hB
      go_wp2_with fail
      go_loopw [8] (fun v8 wr => ∃ K : Nat, 127 ≤ K ∧ K ≤ 254 ∧ v8 = .int .i64 K ∧ Aside0 (wr.heap[w.heap.size + 1 + 1]? = some (.cells (arr 128 fun _ => false) 43 (0, 0)) ∧ wr.heap[w.heap.size + 1 + 1 + 1]? = some (.cells (arr 255 (reds (prods f g 128) (254 - K))) 90 (0, 0)) ∧ Below w.heap.size w wr))
        (fun v8 _ => (intOf v8).toNat)
      case atStart => exact ⟨254, by omega, by omega, rfl, ⟨H3.out, H4.out, HB.out⟩⟩
      case round =>
        clear H1 H2 H3 H4 HB
        obtain ⟨K, hK1, hK2, rfl, ⟨hb3, hb4, hB⟩⟩ := hrel
        by_cases hlk : 128 ≤ K
        · have HPS := Aside0.mk (show reds (prods f g 128) (254 - (K - 1)) = red1 (reds (prods f g 128) (254 - K)) K by rw [show 254 - (K - 1) = (254 - K) + 1 by omega, reds, show 254 - (254 - K) = K by omega])
          generalize reds (prods f g 128) (254 - K) = n at hb4 HPS
          have hcK := arr_cell (i := K) hb4 (by omega)
          have h0 : decide ((128 : Int) ≤ (K : Int)) = true := decide_eq_true (by omega)
          have hfr := blk_frozen hb4 K
          have H3 := Aside0.mk hb3
          have H4 := Aside0.mk hb4
          have HB := Aside0.mk hB
          clear hb3 hb4 hB
          by_cases hn : n K = true
          · rw [hn] at hcK
            have HN := Aside0.mk hn
            clear hn
            go_upto_region 15 with (fail)
            have hb_ := arr_put (i := K) H4.out (false)
            have h3_ := blk_far H3.out (p := ⟨w.heap.size + 1 + 1 + 1, K, none⟩) (by dsimp only; omega) (.bool (false))
            have hB_ := HB.out.setCell (p := ⟨w.heap.size + 1 + 1 + 1, K, none⟩) (by dsimp only; omega) (.bool (false))
            generalize wr.setCell ⟨w.heap.size + 1 + 1 + 1, K, none⟩ (.bool (false)) = w1_ at hb_ h3_ hB_ ⊢
            change w1_.heap[w.heap.size + 1 + 1 + 1]? = some (.cells (arr 255 (upd n (K) (false))) 90 (0, 0)) at hb_
            obtain ⟨n1, hn1⟩ : ∃ n1, n1 = upd n (K) (false) := ⟨_, rfl⟩
            rw [← hn1] at hb_
            have HN1 := Aside0.mk hn1
            have hc1 := arr_cell (i := K - 128) hb_ (by omega)
            have hf1 := blk_frozen hb_ (K - 128)
            have H3_1 := Aside0.mk h3_
            have H4_1 := Aside0.mk hb_
            have HB_1 := Aside0.mk hB_
            clear hb_ h3_ hB_ hn1
            clear hcK hfr
            go_upto_region 16 with (fail)
            have hb_ := arr_put (i := K - 128) H4_1.out (!n1 (K - 128))
            have h3_ := blk_far H3_1.out (p := ⟨w.heap.size + 1 + 1 + 1, K - 128, none⟩) (by dsimp only; omega) (.bool (!n1 (K - 128)))
            have hB_ := HB_1.out.setCell (p := ⟨w.heap.size + 1 + 1 + 1, K - 128, none⟩) (by dsimp only; omega) (.bool (!n1 (K - 128)))
            generalize w1_.setCell ⟨w.heap.size + 1 + 1 + 1, K - 128, none⟩ (.bool (!n1 (K - 128))) = w2_ at hb_ h3_ hB_ ⊢
            change w2_.heap[w.heap.size + 1 + 1 + 1]? = some (.cells (arr 255 (upd n1 (K - 128) (!n1 (K - 128)))) 90 (0, 0)) at hb_
            obtain ⟨n2, hn2⟩ : ∃ n2, n2 = upd n1 (K - 128) (!n1 (K - 128)) := ⟨_, rfl⟩
            rw [← hn2] at hb_
            have HN2 := Aside0.mk hn2
            have hc2 := arr_cell (i := K - 127) hb_ (by omega)
            have hf2 := blk_frozen hb_ (K - 127)
            have H3_2 := Aside0.mk h3_
            have H4_2 := Aside0.mk hb_
            have HB_2 := Aside0.mk hB_
            clear hb_ h3_ hB_ hn2
            clear hc1 hf1
            go_upto_region 17 with (fail)
            have hb_ := arr_put (i := K - 127) H4_2.out (!n2 (K - 127))
            have h3_ := blk_far H3_2.out (p := ⟨w.heap.size + 1 + 1 + 1, K - 127, none⟩) (by dsimp only; omega) (.bool (!n2 (K - 127)))
            have hB_ := HB_2.out.setCell (p := ⟨w.heap.size + 1 + 1 + 1, K - 127, none⟩) (by dsimp only; omega) (.bool (!n2 (K - 127)))
            generalize w2_.setCell ⟨w.heap.size + 1 + 1 + 1, K - 127, none⟩ (.bool (!n2 (K - 127))) = w3_ at hb_ h3_ hB_ ⊢
            change w3_.heap[w.heap.size + 1 + 1 + 1]? = some (.cells (arr 255 (upd n2 (K - 127) (!n2 (K - 127)))) 90 (0, 0)) at hb_
            obtain ⟨n3, hn3⟩ : ∃ n3, n3 = upd n2 (K - 127) (!n2 (K - 127)) := ⟨_, rfl⟩
            rw [← hn3] at hb_
            have HN3 := Aside0.mk hn3
            have hc3 := arr_cell (i := K - 126) hb_ (by omega)
            have hf3 := blk_frozen hb_ (K - 126)
            have H3_3 := Aside0.mk h3_
            have H4_3 := Aside0.mk hb_
            have HB_3 := Aside0.mk hB_
            clear hb_ h3_ hB_ hn3
            clear hc2 hf2
            go_upto_region 18 with (fail)
            have hb_ := arr_put (i := K - 126) H4_3.out (!n3 (K - 126))
            have h3_ := blk_far H3_3.out (p := ⟨w.heap.size + 1 + 1 + 1, K - 126, none⟩) (by dsimp only; omega) (.bool (!n3 (K - 126)))
            have hB_ := HB_3.out.setCell (p := ⟨w.heap.size + 1 + 1 + 1, K - 126, none⟩) (by dsimp only; omega) (.bool (!n3 (K - 126)))
            generalize w3_.setCell ⟨w.heap.size + 1 + 1 + 1, K - 126, none⟩ (.bool (!n3 (K - 126))) = w4_ at hb_ h3_ hB_ ⊢
            change w4_.heap[w.heap.size + 1 + 1 + 1]? = some (.cells (arr 255 (upd n3 (K - 126) (!n3 (K - 126)))) 90 (0, 0)) at hb_
            obtain ⟨n4, hn4⟩ : ∃ n4, n4 = upd n3 (K - 126) (!n3 (K - 126)) := ⟨_, rfl⟩
            rw [← hn4] at hb_
            have HN4 := Aside0.mk hn4
            have hc4 := arr_cell (i := K - 121) hb_ (by omega)
            have hf4 := blk_frozen hb_ (K - 121)
            have H3_4 := Aside0.mk h3_
            have H4_4 := Aside0.mk hb_
            have HB_4 := Aside0.mk hB_
            clear hb_ h3_ hB_ hn4
            clear hc3 hf3
            go_wp2_with fail
            go_roundw
            case measure => simp [intOf]; omega
            case rel =>
              refine ⟨K - 1, by omega, by omega, by rw [Int.ofNat_sub (by omega)]; rfl, ⟨blk_far H3_4.out (by dsimp only; omega) _, ?_, HB_4.out.setCell (p := ⟨w.heap.size + 1 + 1 + 1, K - 121, none⟩) (by dsimp only; omega) _⟩⟩
              rw [HPS.out, show red1 n K = upd n4 (K - 121) (!n4 (K - 121)) by rw [HN4.out, HN3.out, HN2.out, HN1.out, red1, if_pos HN.out]]
              exact arr_put (i := K - 121) H4_4.out (!n4 (K - 121))
          · have hn2 : n K = false := by simpa using hn
            rw [hn2] at hcK
            have HN := Aside0.mk hn2
            clear hn hn2
            go_wp2_with fail
            go_roundw
            case rel =>
              refine ⟨K - 1, by omega, by omega, by rw [Int.ofNat_sub (by omega)]; rfl, ⟨H3.out, ?_, HB.out⟩⟩
              rw [HPS.out, red1, HN.out, if_neg (by decide)]
              exact H4.out
            case measure => simp [intOf]; omega
        · obtain rfl : K = 127 := by omega
          have H4 := Aside0.mk hb4
          have H3 := Aside0.mk hb3
          have HB := Aside0.mk hB
          have h0 : decide ((128 : Int) ≤ ((127 : Nat) : Int)) = false := by decide
          have hsz := Aside0.mk (show w.heap.size + 1 + 1 + 1 < wr.heap.size from blk_lt hb4)
          clear hb3 hb4 hB
          have hz := zeroP
          have hz3 := buildP
          have hst := store_same (P := Try.prog) (W := wr) rfl (arr 128 fun _ => false) 43 (arr_one _ _)
          obtain ⟨wo, hwo⟩ : ∃ wo : World, wo = wr := ⟨_, rfl⟩
          subst hwo
          go_wp2_with fail
          clear hst hz hz3 h0
          have HR := Aside0.mk (show reds (prods f g 128) (254 - 127) = mulF f g from rfl)
          rw [HR.out] at H4
          obtain ⟨n, hn⟩ : ∃ n, n = mulF f g := ⟨_, rfl⟩
          rw [← hn] at H4
          have HN := Aside0.mk hn
          clear HR hn
          go_loopw [10] (fun v10 wr => ∃ q : Nat, q ≤ 128 ∧ v10 = .int .i64 q ∧ Aside0 (wr.heap[w.heap.size + 1 + 1]? = some (.cells (arr 128 fun _ => false) 43 (0, 0)) ∧ wr.heap[w.heap.size + 1 + 1 + 1]? = some (.cells (arr 255 n) 90 (0, 0)) ∧ wr.heap[wo.heap.size]? = some (.cells (arr 128 (copied n q)) 43 (0, 0)) ∧ Below w.heap.size w wr))
            (fun v10 _ => 128 - (intOf v10).toNat)
          case atStart =>
            refine ⟨0, by omega, rfl, ⟨blk_alloc H3.out _, blk_alloc H4.out _, ?_, HB.out.alloc (by have := hsz.out; omega) _⟩⟩
            rw [copied_zero]
            exact blk_new _ _
          case round =>
            clear H3 H4 HB
            obtain ⟨q, hq, rfl, ⟨hb3, hb4, hb5, hB⟩⟩ := hrel
            by_cases hlq : q < 128
            · have hc4 := arr_cell (i := q) hb4 (by omega)
              have hc5 := arr_cell (i := q) hb5 (by omega)
              have hf5 := blk_frozen hb5 q
              have HCS := Aside0.mk (copied_succ n q)
              have H3 := Aside0.mk hb3
              have H4 := Aside0.mk hb4
              have H5 := Aside0.mk hb5
              have HB := Aside0.mk hB
              clear hb3 hb4 hb5 hB
              go_wp2_with fail
              go_roundw
              case measure => simp [intOf]; omega
              case rel =>
                refine ⟨q + 1, by omega, by go_num, ⟨blk_far (p := ⟨wo.heap.size, q, none⟩) H3.out (by have := hsz.out; dsimp only; omega) _, blk_far (p := ⟨wo.heap.size, q, none⟩) H4.out (by have := hsz.out; dsimp only; omega) _, ?_, HB.out.setCell (p := ⟨wo.heap.size, q, none⟩) (show w.heap.size ≤ wo.heap.size by have := hsz.out; omega) _⟩⟩
                rw [← HCS.out]
                exact arr_put (i := q) H5.out (n q)
            · obtain rfl : q = 128 := by omega
              have H3 := Aside0.mk hb3
              have H5 := Aside0.mk hb5
              have HB := Aside0.mk hB
              clear hb3 hb4 hb5 hB
              go_wp2_with (first | (refine wpList_load_row (by rfl) 43 (.tmp 9) (by rfl) wo.heap.size (by rfl) 43 _ _ _ H5.out Try.underlying43 rfl (infoP_.trans (by rw [arr_size])) ?_) | (refine wpList_store_row (by rfl) 43 (.tmp 4) (.tmp 88) (by rfl) (w.heap.size + 1 + 1) _ (by rfl) (by rfl) 43 _ H3.out (infoP_.trans (by rw [arr_size])) (by rw [arr_size, arr_size]) (arr_one _ _) ?_))
              have h3 := setRow_heap wr (w.heap.size + 1 + 1) _ (arr 128 (copied n 128)) 43 (0, 0) H3.out
              refine bodyPost_ret (results_cell_row rfl _ _ (w.heap.size + 1 + 1) 43 _ (0, 0) _ rfl h3 Try.underlying43 rfl (infoP_.trans (by rw [arr_size]))) rfl ⟨?_, below_setRow HB.out (by omega) _⟩
              rw [arr_congr fun i hi => copied_lt n hi, HN.out]

/-- The coefficient of x^i of sixteen bytes. -/
def bitF (l : List Int) (i : Nat) : Bool := ((rd l ((i / 8 : Nat) : Int) / 2 ^ (7 - i % 8)).tmod 2 == 1)
set_option maxRecDepth 100000 in
set_option maxHeartbeats 1000000 in
theorem of_calls (l : List Int) (A : Option Addr) (c : Nat) (w : World) (hl : l.length = 16) (hC : Kd.C (Kd.int .u8) w A l.length l) (h0 : ∀ x ∈ l, 0 ≤ x ∧ x < 256) :
    Calls Try.prog 17 #[.slice A l.length c] w fun e w' => e = .returned (.agg (arr 128 (bitF l))) ∧ Below w.heap.size w w' := by
  have hz := zeroP
  have hz3 := buildP
  have hst := store_same (P := Try.prog) (W := w.alloc (.cells (arr 128 fun _ => false) 43)) (N := w.heap.size + 1) (by simp) (arr 128 fun _ => false) 43 (arr_one _ _)
  have HL := Aside0.mk hl
  rw [hl] at hC ⊢
  obtain ⟨ad, rfl, _⟩ := hC.2.2 (by omega)
  have HC := Aside0.mk hC
  have H0 := Aside0.mk h0
  clear hl hC h0
  go_enter Try.func17, Try.ntmps17
  go_wp2_with fail
  clear hz hz3 hst
  go_loopw [4] (fun v4 wr => ∃ i : Nat, i ≤ 128 ∧ v4 = .int .i64 i ∧ Aside0 (wr.heap[w.heap.size]? = some (.cells (arr 128 fun _ => false) 43 (0, 0)) ∧ wr.heap[w.heap.size + 1]? = some (.cells (arr 128 (copied (bitF l) i)) 43 (0, 0)) ∧ Below w.heap.size w wr))
    (fun v4 _ => 128 - (intOf v4).toNat)
  case atStart =>
    refine ⟨0, by omega, rfl, ⟨blk_alloc (blk_new w _) _, ?_, below_alloc (below_alloc (Below.refl _ _) _) _⟩⟩
    rw [copied_zero]
    exact blk_newN (by simp) _
  case round =>
    obtain ⟨i, hi, rfl, ⟨hb1, hb2, hB⟩⟩ := hrel
    by_cases hlt : i < 128
    · have hc2 := arr_cell (i := i) hb2 hlt
      have hf2 := blk_frozen hb2 i
      obtain ⟨ad', he, hcx⟩ := Kd.at_int (Kd.C_below HC.out hB) ((i / 8 : Nat) : Int) (by omega) (by omega)
      cases he
      rw [Int.toNat_natCast] at hcx
      have hx : 0 ≤ rd l ((i / 8 : Nat) : Int) ∧ rd l ((i / 8 : Nat) : Int) < 256 := by
        unfold rd
        rw [Int.toNat_natCast, List.getD_eq_getElem?_getD, List.getElem?_eq_getElem (by have := HL.out; omega), Option.getD_some]
        exact H0.out _ (List.getElem_mem _)
      have HX := Aside0.mk (show bitF l i = ((rd l ((i / 8 : Nat) : Int) / 2 ^ (7 - i % 8)).tmod 2 == 1) from rfl)
      have HCS := Aside0.mk (copied_succ (bitF l) i)
      generalize rd l ((i / 8 : Nat) : Int) = x at hcx hx HX
      have H1 := Aside0.mk hb1
      have H2 := Aside0.mk hb2
      have HB := Aside0.mk hB
      clear hb1 hb2 hB
      have h0 : decide ((i : Int) < 128) = true := decide_eq_true (by omega)
      go_wp2_with fail
      go_roundw
      case measure => simp [intOf]; omega
      case rel =>
        refine ⟨i + 1, by omega, by go_num, ⟨blk_far (p := ⟨w.heap.size + 1, i, none⟩) H1.out (by dsimp only; omega) _, ?_, HB.out.setCell (p := ⟨w.heap.size + 1, i, none⟩) (by dsimp only; omega) _⟩⟩
        rw [← HCS.out, HX.out]
        exact arr_put (i := i) H2.out _
    · obtain rfl : i = 128 := by omega
      have H1 := Aside0.mk hb1
      have H2 := Aside0.mk hb2
      have HB := Aside0.mk hB
      clear hb1 hb2 hB
      go_wp2_with (first | (refine wpList_load_row (by rfl) 43 (.tmp 3) (by rfl) (w.heap.size + 1) (by rfl) 43 _ _ _ H2.out Try.underlying43 rfl (infoP_.trans (by rw [arr_size])) ?_) | (refine wpList_store_row (by rfl) 43 (.tmp 2) (.tmp 24) (by rfl) w.heap.size _ (by rfl) (by rfl) 43 _ H1.out (infoP_.trans (by rw [arr_size])) (by rw [arr_size, arr_size]) (arr_one _ _) ?_))
      have h3 := setRow_heap wr w.heap.size _ (arr 128 (copied (bitF l) 128)) 43 (0, 0) H1.out
      refine bodyPost_ret (results_cell_row rfl _ _ w.heap.size 43 _ (0, 0) _ rfl h3 Try.underlying43 rfl (infoP_.trans (by rw [arr_size]))) rfl ⟨?_, below_setRow HB.out (by omega) _⟩
      rw [arr_congr fun i hi => copied_lt (bitF l) hi]

theorem prow_at {w : World} {e b : Nat} {ok : Nat → Prop} {v : Value} {l : List Int} (h : Kd.R (Kd.int .u8) e w b ok v l) : ∃ A c, v = .slice A l.length c ∧ l.length ≤ c ∧ Kd.C (Kd.int .u8) w A l.length l := by
  obtain ⟨A, c, rfl⟩ := Kd.R_slice h
  obtain ⟨h1, h2, h3⟩ := Kd.R_reads' h
  exact ⟨A, c, rfl, h2, h3⟩
def byteAt (h : Int) (i : Nat) : Int := (h / 2 ^ (8 * i)) % 256
/-- The bytes of a word, the first m of them. -/
def beN (h : Int) (m : Nat) : List Int := (List.range m).map fun j => byteAt h (7 - j)
theorem beN_succ (h : Int) (m : Nat) : beN h (m + 1) = beN h m ++ [byteAt h (7 - m)] := by simp [beN, List.range_succ]
theorem beN_mem {h : Int} {m : Nat} {x : Int} (hx : x ∈ beN h m) : 0 ≤ x ∧ x < 256 := by
  obtain ⟨j, _, rfl⟩ := List.mem_map.1 hx
  unfold byteAt
  omega
theorem beN_length (h : Int) (m : Nat) : (beN h m).length = m := by simp [beN]
/-- The cells of an array of n bytes. -/
def arrU (n : Nat) (f : Nat → Int) : Array Value := ((List.range n).map fun i => Value.int .u8 (f i)).toArray
theorem arrU_size (n : Nat) (f : Nat → Int) : (arrU n f).size = n := by simp [arrU]
theorem arrU_get {n : Nat} (f : Nat → Int) {i : Nat} (h : i < n) : (arrU n f)[i]? = some (.int .u8 (f i)) := by simp [arrU, h]
theorem arrU_set (n : Nat) (f : Nat → Int) (i : Nat) (v : Int) : (arrU n f).setIfInBounds i (.int .u8 v) = arrU n (fun j => if j = i then v else f j) := by
  apply Array.ext_getElem?
  intro j
  rw [Array.getElem?_setIfInBounds]
  by_cases hj : j < n
  · rw [arrU_get _ hj, arrU_get _ hj, arrU_size]
    by_cases e : i = j
    · subst e; simp [hj]
    · simp [e, Ne.symm e]
  · have h1 : ∀ g, (arrU n g)[j]? = none := fun g => by simp [arrU]; omega
    rw [h1, h1, arrU_size]
    split
    · split
      · omega
      · rfl
    · rfl
theorem arrU_cell {n : Nat} {f : Nat → Int} {W : World} {b t i : Nat} (h : W.heap[b]? = some (.cells (arrU n f) t (0, 0))) (hi : i < n) : W.cell? ⟨b, i, none⟩ = some (.int .u8 (f i)) := (blk_cell h i).trans (arrU_get f hi)
theorem arrU_put {n : Nat} {f : Nat → Int} {W : World} {b t i : Nat} (h : W.heap[b]? = some (.cells (arrU n f) t (0, 0))) (v : Int) : (W.setCell ⟨b, i, none⟩ (.int .u8 v)).heap[b]? = some (.cells (arrU n fun j => if j = i then v else f j) t (0, 0)) := by
  rw [← arrU_set]
  exact heap_setCell_same W b i _ t _ h
/-- The bytes, so far. -/
def outS (f : Nat → Bool) : Nat → Nat → Int
  | 0 => fun _ => 0
  | i + 1 => if f i then fun q => if q = i / 8 then bits .or .u8 (outS f i (i / 8)) (2 ^ (7 - i % 8)) else outS f i q else outS f i
theorem or_u8 (a b : Int) : 0 ≤ bits .or .u8 a b ∧ bits .or .u8 a b < 256 := by
  show 0 ≤ IntKind.u8.wrap _ ∧ IntKind.u8.wrap _ < 256
  rw [IntKind.wrap_u8]
  omega
theorem outS_range (f : Nat → Bool) : ∀ i q, 0 ≤ outS f i q ∧ outS f i q < 256
  | 0, q => by simp [outS]
  | i + 1, q => by
    unfold outS
    split
    · dsimp only
      split
      · exact or_u8 _ _
      · exact outS_range f i q
    · exact outS_range f i q
theorem R_of_arrU {W : World} {g base n : Nat} {f : Nat → Int} (h : W.heap[g]? = some (.cells (arrU n f) 5 (0, 0))) (hb : base ≤ g) (hn : n ≤ 1000000 := by omega) : Kd.R (Kd.int .u8) 5 W base (fun _ => True) (.slice (some ⟨g, 0, none⟩) n n) ((List.range n).map f) := by
  have hle : ((List.range n).map f).length = n := by simp
  refine Kd.R_of_own (enc := Value.int .u8) (h1 := fun _ => rfl) ?_ (fun _ _ => trivial)
  rw [hle]
  refine ⟨by simp [encs], .inr ⟨g, n, arrU n f, rfl, hb, h, Nat.le_refl _, by simp only [maxLen]; omega, by rw [arrU_size, Nat.mul_one], ?_⟩⟩
  simp only [arrU, encs, List.map_map, Nat.mul_one]
  rw [List.take_of_length_le (by simp)]
  rfl
set_option maxRecDepth 100000 in
set_option maxHeartbeats 1000000 in
theorem rbytes_calls (f : Nat → Bool) (w : World) : Calls Try.prog 28 #[.agg (arr 128 f)] w fun e w' => ∃ v, e = .returned v ∧ Kd.R (Kd.int .u8) 5 w' w.heap.size (fun _ => True) v ((List.range 16).map (outS f 128)) ∧ Below w.heap.size w w' := by
  have hmk : ∀ w : World, (Instr.makeSlice 22 (.int .i64 16) (.int .i64 16)).run Try.prog w = .ok (.slice (some ⟨w.heap.size, 0, none⟩) 16 16) (w.alloc (.cells (arrU 16 fun _ => 0) 5)) := fun _ => by kernel_rfl
  go_enter Try.func28, Try.ntmps28
  go_wp2_with fail
  clear hmk
  go_loopw [4] (fun v4 wr => ∃ i : Nat, i ≤ 128 ∧ v4 = .int .i64 i ∧ Aside0 (wr.heap[w.heap.size]? = some (.cells (arr 128 f) 43 (0, 0)) ∧ wr.heap[w.heap.size + 1]? = some (.cells (arrU 16 (outS f i)) 5 (0, 0)) ∧ Below w.heap.size w wr))
    (fun v4 _ => 128 - (intOf v4).toNat)
  case atStart => exact ⟨0, by omega, rfl, ⟨blk_alloc (blk_new w _) _, blk_newN (by simp) _, below_alloc (below_alloc (Below.refl _ _) _) _⟩⟩
  case round =>
    obtain ⟨i, hi, rfl, ⟨hb1, hb2, hB⟩⟩ := hrel
    by_cases hlt : i < 128
    · have hc1 := arr_cell (i := i) hb1 hlt
      have hc2 := arrU_cell (i := i / 8) hb2 (by omega)
      have hf2 := blk_frozen hb2 (i / 8)
      have HS := Aside0.mk (show outS f (i + 1) = if f i then fun q => if q = i / 8 then bits .or .u8 (outS f i (i / 8)) (2 ^ (7 - i % 8)) else outS f i q else outS f i from rfl)
      have hx := outS_range f i (i / 8)
      have hp : ((1 : Int) * 2 ^ (7 - i % 8)) % 256 = 2 ^ (7 - i % 8) := by
        have : i % 8 = 0 ∨ i % 8 = 1 ∨ i % 8 = 2 ∨ i % 8 = 3 ∨ i % 8 = 4 ∨ i % 8 = 5 ∨ i % 8 = 6 ∨ i % 8 = 7 := by omega
        rcases this with h | h | h | h | h | h | h | h <;> rw [h] <;> decide
      have H1 := Aside0.mk hb1
      have H2 := Aside0.mk hb2
      have HB := Aside0.mk hB
      have h0 : decide ((i : Int) < 128) = true := decide_eq_true (by omega)
      clear hb1 hb2 hB
      by_cases hfi : f i = true
      · rw [hfi] at hc1
        have HF := Aside0.mk hfi
        clear hfi
        go_wp2_with fail
        go_roundw
        case measure => simp [intOf]; omega
        case rel =>
          refine ⟨i + 1, by omega, by go_num, ⟨blk_far (p := ⟨w.heap.size + 1, i / 8, none⟩) H1.out (by dsimp only; omega) _, ?_, HB.out.setCell (p := ⟨w.heap.size + 1, i / 8, none⟩) (by dsimp only; omega) _⟩⟩
          rw [HS.out, if_pos HF.out]
          exact arrU_put (i := i / 8) H2.out _
      · have hf2 : f i = false := by simpa using hfi
        rw [hf2] at hc1
        have HF := Aside0.mk hf2
        clear hfi hf2
        go_wp2_with fail
        go_roundw
        case measure => simp [intOf]; omega
        case rel =>
          refine ⟨i + 1, by omega, by go_num, ⟨H1.out, ?_, HB.out⟩⟩
          rw [HS.out, HF.out]
          exact H2.out
    · obtain rfl : i = 128 := by omega
      have H2 := Aside0.mk hb2
      have HB := Aside0.mk hB
      clear hb1 hb2 hB
      go_wp2_with fail
      go_ret
      exact ⟨_, rfl, R_of_arrU H2.out (Nat.le_succ _), HB.out⟩

/-- A power, by squares: what the loop makes of its row and its base. -/
def powG : Nat → (Nat → Bool) → (Nat → Bool) → Nat → (Nat → Bool)
  | 0, out, _, _ => out
  | d + 1, out, a, n => if n = 0 then out else powG d (if n % 2 = 1 then mulF out a else out) (mulF a a) (n / 2)
def oneF (i : Nat) : Bool := if i = 0 then true else false
theorem eqItems_arr (d : Nat) (w : World) (f : Nat → Bool) : ∀ is : List Nat, (∀ i ∈ is, i < 128) → (Op.eqItems (d + 1) 4 1 (arr 128 f) (arr 128 f) is).run Try.prog w = .ok true w
  | [], _ => by simp [Op.eqItems]
  | i :: is, h => by
    have hi := h i (List.mem_cons_self ..)
    have hp : (part 4 (arr 128 f) (i * 1)).run Try.prog w = .ok (.bool (f i)) w := by
      have hq : (arr 128 f)[i]? = some (.bool (f i)) := arr_get f hi
      simp [part, isAgg, Sem.run_bind, run_underlying (P := Try.prog) Try.underlying4 w, hq]
    have he : (Op.equalIn (d + 1) 4 (.bool (f i)) (.bool (f i))).run Try.prog w = .ok (f i == f i) w := run_equalIn_bool' w d 4 _ _ Try.underlying4
    rw [Op.eqItems]
    simp only [Sem.run_bind, hp, he, Result.andThen_ok, beq_self_eq_true, Bool.not_true, Bool.false_eq_true, if_false]
    exact eqItems_arr d w f is (fun j hj => h j (List.mem_cons_of_mem _ hj))
/-- An array of bools is the same as itself. -/
theorem eq_arr (w : World) (f : Nat → Bool) : (Op.equalIn 10000 43 (.agg (arr 128 f)) (.agg (arr 128 f))).run Try.prog w = .ok true w := by
  have hi : ∃ i, Try.prog.info? 4 = some i := by
    have : (Try.prog.info? 4).isSome = true := by kernel_rfl
    exact Option.isSome_iff_exists.1 this
  obtain ⟨i, hi⟩ := hi
  rw [run_equalIn_array w 9999 _ _ Try.underlying43 hi, show Try.prog.cellsOf 4 = 1 by kernel_rfl]
  exact eqItems_arr 9998 w f _ (fun j hj => List.mem_range.1 hj)
theorem eqGuard28 : Try.prog.eqGuardType Try.prog.depth 43 = false := by kernel_rfl
theorem run_eql_arr {o : Oper} {a : Act} (x y : Operand) (ho : o.op = .binOp .eql 43 x y 43) (f : Nat → Bool) (hx : a.eval x = .agg (arr 128 f)) (hy : a.eval y = .agg (arr 128 f)) (W : World) :
    (execOp a.eval o).run Try.prog W = .ok (.value (.bool true)) W := by
  have hq := eq_arr W f
  have hg := eqGuard28
  unfold execOp
  simp only [ho, hx, hy]
  go_simp
theorem run_neq_arr {o : Oper} {a : Act} (x y : Operand) (ho : o.op = .binOp .neq 43 x y 43) (f : Nat → Bool) (hx : a.eval x = .agg (arr 128 f)) (hy : a.eval y = .agg (arr 128 f)) (W : World) :
    (execOp a.eval o).run Try.prog W = .ok (.value (.bool false)) W := by
  have hq := eq_arr W f
  have hg := eqGuard28
  unfold execOp
  simp only [ho, hx, hy]
  go_simp

end Go.Proofs.Ytmhmmmkpijbbiab.ArrW
