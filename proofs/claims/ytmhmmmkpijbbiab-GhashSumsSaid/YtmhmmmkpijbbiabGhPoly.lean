/- ghash: rows of the reference's polynomials. Written by wip/gen/ghpoly.py. -/
import Derived.Test.YtmhmmmkpijbbiabGhLib
import Derived.Test.YtmhmmmkpijbbiabHeld
import Derived.Great.BuildSlice
namespace Go.Proofs.Ytmhmmmkpijbbiab.Gh
open Go.RowKit Go.Proofs.YtmhmmmkpijbbiabW.PrintWords Go.Proofs.YtmhmmmkpijbbiabW.PrintLast Go.Proofs.YtmhmmmkpijbbiabW.PrintMore Go.Proofs.Ytmhmmmkpijbbiab.X Go.Proofs.Ytmhmmmkpijbbiab.M Go.Proofs.Ytmhmmmkpijbbiab.Bv Go.Proofs.Ytmhmmmkpijbbiab.Gf Go.Proofs.Ytmhmmmkpijbbiab.Arr Go.Proofs.Ytmhmmmkpijbbiab.ArrX Go.Proofs.Ytmhmmmkpijbbiab.PuLib Go.Proofs.Ytmhmmmkpijbbiab.PuCat
open Go.Proofs.Ytmhmmmkpijbbiab.ArrW (infoP_ zeroP)
attribute [local go_sem] max2_int min2_int max_two min_two max_three min_three max_four min_four
set_option linter.unusedVariables false
set_option linter.unusedSimpArgs false
abbrev pv (x : Nat) : Value := .agg (arr 128 (fb x))
theorem infoZ : (Try.prog.info? 43).map (fun i => (i.zero, i.size, i.bytes)) = some (some (.agg (arr 128 fun _ => false)), 128, 128) := by kernel_rfl
theorem arr_len (f : Nat → Bool) : (arr 128 f).toList.length = 128 := by rw [Array.length_toList, arr_size]
theorem arr_ones (f : Nat → Bool) : ∀ u ∈ (arr 128 f).toList, u.oneCell' = true := by
  intro u hu
  have h := arr_one 128 f
  rw [Array.all_eq_true'] at h
  exact h u (by simpa using hu)
/-- A polynomial in its cells. -/
def kP : Kd Nat where
  sz := 128
  E := []
  K := fun _ x cs => cs = (arr 128 (fb x)).toList
  M := fun _ _ _ x cs => cs = (arr 128 (fb x)).toList
  K_len := fun h => by rw [h]; exact arr_len _
  K_one := fun h => by rw [h]; exact arr_ones _
  K_below := fun _ h => h
  K_of_M := fun h => h
  M_mono := fun _ h => h
  M_bound := fun h => h
  M_move := fun _ h => h
  M_lower := fun _ h => h
theorem heapP : Kd.Heap kP := ⟨fun _ h => h⟩
theorem load_adP {W : World} {a : Addr} {x : Nat} (h : ∀ j v, (arr 128 (fb x)).toList[j]? = some v → W.cell? (a.add j) = some v) : (loadVar 43 a).run Try.prog W = .ok (pv x) W := by
  have hl := run_loadCells_list (P := Try.prog) W a (arr 128 (fb x)).toList h
  rw [arr_len] at hl
  obtain ⟨i, hi, hz⟩ := Option.map_eq_some_iff.1 infoZ
  simp only [Prod.mk.injEq] at hz
  simp [loadVar, sizeOf, typeInfo, run_underlying Try.underlying43, hi, hz.2.1, hl]
theorem load_rowP {W : World} {ok : Nat → Prop} {ad : Addr} {l : List Nat} {k : Nat} (h : Kd.F kP W ok (some ad) l.length l) (hk : k < l.length) : (loadVar 43 (ad.add (k * 128))).run Try.prog W = .ok (pv (l.getD k 0)) W := by
  obtain ⟨a2, ha, hr⟩ := (Kd.F_now h).2.2 (by omega)
  obtain rfl := Option.some.inj ha
  refine load_adP (fun j v hv => ?_)
  have hp : l[k]? = some (l.getD k 0) := by rw [List.getD_eq_getElem?_getD, List.getElem?_eq_getElem hk]; rfl
  obtain ⟨cs, _, hK, hc⟩ := hr k _ hp
  have hK' : cs = (arr 128 (fb (l.getD k 0))).toList := hK
  subst hK'
  rw [add_add_]
  exact hc j v hv
theorem load_blkP {W : World} {b t x : Nat} (h : W.heap[b]? = some (.cells (arr 128 (fb x)) t (0, 0))) : (loadVar 43 ⟨b, 0, none⟩).run Try.prog W = .ok (pv x) W :=
  run_loadVar_row W b t 43 (arr 128 (fb x)) (0, 0) _ h Try.underlying43 rfl (infoP_.trans (by rw [arr_size]))
theorem wpList_load_of {ops : Array Oper} {rest : List Oper} {o : Oper} {a : Act} {Q : Exit → Act → World → Prop} {w : World} (hgd : o.guard = none) (ty : TypeId) (x : Operand) (ho : o.op = .load ty x) (p : Addr) (hx : a.eval x = .pointer (some p)) {v : Value} (h : (loadVar ty p).run Try.prog w = .ok v w) (hk : wpList Try.prog ops Q rest (a.put o.dst v) w) : wpList Try.prog ops Q (o :: rest) a w := by
  refine wpList_plain hgd fun K hK' => ?_
  unfold Oper.wp
  simp only [Held.run_load_of ty x ho p hx h]
  exact hK' _ _ hk
theorem append_P (W : World) (base : Nat) (v : Value) (xs : List Nat) (n : Nat) (HO : Kd.R kP 43 W base (fun _ => True) v xs) (hbase : base ≤ W.heap.size) (hl : xs.length ≤ 1000000) :
    ∃ v1 w1, (Builtin.append_ #[31, 31] 31 #[v, .slice (some ⟨W.heap.size, 0, none⟩) 1 1]).run Try.prog (W.alloc (.cells (arr 128 (fb n)) 43)) = .ok v1 w1 ∧ Kd.R kP 43 w1 base (fun _ => True) v1 (xs ++ [n]) ∧ W.grownBy w1 v.ownBlock := by
  obtain ⟨h0, inner, hown, hr⟩ := HO
  obtain ⟨i, hi, hz⟩ := Option.map_eq_some_iff.1 infoZ
  simp only [Prod.mk.injEq] at hz
  obtain ⟨v1, w1, hrun, hown1, hg, _, hat⟩ := run_append_own_at (P := Try.prog) (w := W.alloc (.cells (arr 128 (fb n)) 43)) base 31 31 43 i _ 128 128 Try.underlying31 hi hz.1 hz.2.1 hz.2.2 (arr_size 128 _) (by omega) v xs.length inner (hown.alloc _) ⟨W.heap.size, 0, none⟩ 1 1 (arr 128 (fb n)).toList (arr_len _)
    (by simpa using World.news_of_block (cs := arr 128 (fb n)) (t := 43) (fr := (0, 0)) (heap_alloc_new W _)) (arr_ones _) (by simp only [maxLen]; omega) (by omega) (by simp; omega)
  refine ⟨v1, w1, hrun, Kd.R_appended (d := kP) (okp := fun k => some k ≠ v.ownBlock) h0 hr (show kP.M W base _ n (arr 128 (fb n)).toList from rfl) (fun k hk => ⟨trivial, hk⟩) (fun _ _ => trivial) hown1 (World.grownBy.trans (World.grownBy_alloc W _ _) hg) ?_, World.grownBy.trans (World.grownBy_alloc W _ _) hg⟩
  rcases hat with hat | hat
  · exact .inl hat
  · exact .inr ⟨_, hat, by simp⟩
theorem append_P_list {ops : Array Oper} {rest : List Oper} {o : Oper} {a : Act} {Q : Exit → Act → World → Prop} (hgd : o.guard = none) (s x : Operand)
    (hop : o.op = .call { callee := .builtin .append, args := #[s, x], argTypes := #[31, 31] }) (hty : o.type = 31) (W : World) (base g : Nat) (v : Value) (xs : List Nat) (n : Nat) (hs : a.eval s = v) (hx : a.eval x = .slice (some ⟨g, 0, none⟩) 1 1) (hgs : g = W.heap.size)
    (HO : Kd.R kP 43 W base (fun _ => True) v xs) (hbase : base ≤ W.heap.size) (hl : xs.length ≤ 1000000)
    (h : ∀ v1 w1, Kd.R kP 43 w1 base (fun _ => True) v1 (xs ++ [n]) → W.grownBy w1 v.ownBlock → wpList Try.prog ops Q rest (a.put o.dst v1) w1) :
    wpList Try.prog ops Q (o :: rest) a (W.alloc (.cells (arr 128 (fb n)) 43)) := by
  subst hgs
  refine wpList_plain hgd fun K hK' => ?_
  obtain ⟨v1, w1, hrun, hr, hg⟩ := append_P W base v xs n HO hbase hl
  unfold Oper.wp execOp
  simp only [hop, resolve, invoke, builtin, Sem.run_bind, Sem.run_pure, Result.andThen_ok, List.map_toArray, List.map_cons, List.map_nil, hs, hx, hty, hrun]
  exact hK' _ _ (h v1 w1 hr hg)
theorem R_emptyP (W : World) (base : Nat) (hb : base ≤ W.heap.size) : Kd.R kP 43 (W.alloc (.cells #[] 43)) base (fun _ => True) (.slice (some ⟨W.heap.size, 0, none⟩) 0 0) [] :=
  ⟨fun _ _ => trivial, [], ⟨rfl, .inr ⟨W.heap.size, 0, #[], rfl, hb, blk_new W _, Nat.le_refl 0, by decide, rfl, rfl⟩⟩, Reps.none _ _⟩
theorem fill1 (g : Nat → Bool) : Instr.fill (fun i => some (i * 128, 128)) ((Array.range (1 * 128)).map ((Value.agg (arr 128 fun _ => false)).cells[· % (Value.agg (arr 128 fun _ => false)).cells.size]!)) [(0, .agg (arr 128 g))] = some (arr 128 g) := by kernel_rfl
theorem fill2 (g k : Nat → Bool) : Instr.fill (fun i => some (i * 128, 128)) ((Array.range (2 * 128)).map ((Value.agg (arr 128 fun _ => false)).cells[· % (Value.agg (arr 128 fun _ => false)).cells.size]!)) [(0, .agg (arr 128 g)), (1, .agg (arr 128 k))] = some (arr 128 g ++ arr 128 k) := by kernel_rfl
theorem wpList_bsP1 {ops : Array Oper} {rest : List Oper} {o : Oper} {a : Act} {Q : Exit → Act → World → Prop} {w : World} (hgd : o.guard = none) (x : Operand) (ho : o.op = .buildSlice 31 1 #[(0, x)]) (b : Nat) (hx : a.eval x = pv b)
    (h : wpList Try.prog ops Q rest (a.put o.dst (.slice (some ⟨w.heap.size, 0, none⟩) 1 1)) (w.alloc (.cells (arr 128 (fb b)) 43))) : wpList Try.prog ops Q (o :: rest) a w := by
  obtain ⟨i, hi, hz⟩ := Option.map_eq_some_iff.1 infoZ
  simp only [Prod.mk.injEq] at hz
  refine wpList_buildSlice hgd 31 43 1 #[(0, x)] ho (arr 128 (fb b)) i _ Try.underlying31 hi hz.1 (by rw [hz.2.1]; decide) (by rw [hz.2.1]; decide) ?_ h
  rw [hz.2.1]
  simp only [List.map_toArray, List.map_cons, List.map_nil, hx]
  exact fill1 _
theorem wpList_bsP2 {ops : Array Oper} {rest : List Oper} {o : Oper} {a : Act} {Q : Exit → Act → World → Prop} {w : World} (hgd : o.guard = none) (x y : Operand) (ho : o.op = .buildSlice 31 2 #[(0, x), (1, y)]) (b c : Nat) (hx : a.eval x = pv b) (hy : a.eval y = pv c)
    (h : wpList Try.prog ops Q rest (a.put o.dst (.slice (some ⟨w.heap.size, 0, none⟩) 2 2)) (w.alloc (.cells (arr 128 (fb b) ++ arr 128 (fb c)) 43))) : wpList Try.prog ops Q (o :: rest) a w := by
  obtain ⟨i, hi, hz⟩ := Option.map_eq_some_iff.1 infoZ
  simp only [Prod.mk.injEq] at hz
  refine wpList_buildSlice hgd 31 43 2 #[(0, x), (1, y)] ho (arr 128 (fb b) ++ arr 128 (fb c)) i _ Try.underlying31 hi hz.1 (by rw [hz.2.1]; decide) (by rw [hz.2.1]; decide) ?_ h
  rw [hz.2.1]
  simp only [List.map_toArray, List.map_cons, List.map_nil, hx, hy]
  exact fill2 _ _
theorem rows2P {w : World} {g t b c : Nat} (hb : w.heap[g]? = some (.cells (arr 128 (fb b) ++ arr 128 (fb c)) t (0, 0))) : Kd.C kP w (some ⟨g, 0, none⟩) 2 [b, c] := by
  have hcell : ∀ i, w.cell? ⟨g, i, none⟩ = (arr 128 (fb b) ++ arr 128 (fb c))[i]? := fun i => blk_cell hb i
  have hsz : kP.sz = 128 := rfl
  refine ⟨rfl, by decide, fun _ => ⟨_, rfl, fun j p hj => ?_⟩⟩
  have hj2 : j = 0 ∨ j = 1 := by have := (List.getElem?_eq_some_iff.1 hj).1; simp at this; omega
  rcases hj2 with rfl | rfl
  · obtain rfl : b = p := Option.some.inj hj
    refine ⟨(arr 128 (fb b)).toList, arr_len _, rfl, fun i v hv => ?_⟩
    have hi := (List.getElem?_eq_some_iff.1 hv).1
    rw [arr_len] at hi
    rw [Addr.add_mid, hsz, Nat.zero_mul, Nat.zero_add, Nat.zero_add, hcell, Array.getElem?_append_left (by rw [arr_size]; exact hi)]
    simpa using hv
  · obtain rfl : c = p := Option.some.inj hj
    refine ⟨(arr 128 (fb c)).toList, arr_len _, rfl, fun i v hv => ?_⟩
    have hi := (List.getElem?_eq_some_iff.1 hv).1
    rw [arr_len] at hi
    rw [Addr.add_mid, hsz, Nat.one_mul, Nat.zero_add, hcell, Array.getElem?_append_right (by rw [arr_size]; omega), arr_size, Nat.add_sub_cancel_left]
    simpa using hv
theorem ofP_calls (x : Nat) (A : Option Addr) (c : Nat) (w : World) (hC : Kd.C (Kd.int .u8) w A 16 (bytesN x)) : Calls Try.prog 17 #[.slice A 16 c] w fun e w' => e = .returned (pv x) ∧ Below w.heap.size w w' := by
  have h := of_x x A c w (by rw [bytesN_length]; exact hC)
  rw [bytesN_length] at h
  exact h
theorem take_succ_getD (m : List Nat) {k : Nat} (h : k < m.length) : m.take (k + 1) = m.take k ++ [m.getD k 0] := by
  rw [List.take_succ_eq_append_getElem h, List.getD_eq_getElem?_getD, List.getElem?_eq_getElem h]
  rfl
set_option maxRecDepth 100000 in
set_option maxHeartbeats 4000000 in
theorem elems_calls (m : List Nat) (p : Nat) (hp : p = m.length) (hm : ∀ b ∈ m, b < top) (hp3 : p ≤ 3000) (A : Option Addr) (c : Nat) (w : World) (hC : Kd.C kP w A p m) (hc : p ≤ c) :
    Calls Try.prog 10 #[.slice A p c] w fun e w' => ∃ v, e = .returned v ∧ Kd.R k36 36 w' w.heap.size (fun _ => True) v (m.map toS) ∧ Below w.heap.size w w' := by
  have HP := Aside0.mk hp
  have HM := Aside0.mk hm
  have HP3 := Aside0.mk hp3
  have HF := Aside0.mk (Kd.C_F heapP hC)
  clear hp hm hp3 hC hc
  go_enter Try.func10, Try.ntmps10
  go_wp2_with fail
  go_loopw [3, 4] (fun v3 v4 wr => ∃ (k : Nat) (A5 : Option Addr) (c5 : Nat), k ≤ p ∧ v4 = .int .i64 k ∧ v3 = .slice A5 k c5 ∧ Aside0 (Kd.R k36 36 wr w.heap.size (fun _ => True) (.slice A5 k c5) ((m.take k).map toS)) ∧ Aside0 (Below w.heap.size w wr)) (fun _ v4 _ => p - (intOf v4).toNat)
  case atStart => exact ⟨0, _, _, Nat.zero_le _, rfl, rfl, ⟨R_empty w _ (Nat.le_refl _)⟩, ⟨below_alloc (Below.refl _ _) _⟩⟩
  case round =>
    obtain ⟨k, A5, c5, hk, rfl, rfl, HR, HB⟩ := hrel
    by_cases hlt : k < p
    · have HKL := Aside0.mk hlt
      obtain ⟨ad, hA, _⟩ := (Kd.F_now HF.out).2.2 (Nat.lt_of_le_of_lt (Nat.zero_le _) hlt)
      subst hA
      obtain ⟨b, hb⟩ : ∃ b, b = m.getD k 0 := ⟨_, rfl⟩
      have HBL := Aside0.mk (show b < top by rw [hb, List.getD_eq_getElem?_getD, List.getElem?_eq_getElem (by have := HP.out; omega)]; exact HM.out _ (List.getElem_mem _))
      have HBK := Aside0.mk hb
      have HLD := Aside0.mk (show (loadVar 43 (ad.add (k * 128))).run Try.prog wr = .ok (pv b) wr by
        rw [hb]
        have h1 := Kd.F_below HF.out HB.out
        rw [HP.out] at h1
        exact load_rowP h1 (by have h2 := HP.out; omega))
      have e1 : (0 : Int) ≤ (k : Int) ∧ (k : Int) < (p : Int) := by omega
      have e2 : (k : Int) < (p : Int) := by omega
      clear hb hlt hk
      go_wp2_with (refine wpList_load_of rfl 43 (.tmp 17) rfl (ad.add (k * 128)) rfl HLD.out ?_)
      (with_reducible refine (bytes_x b wr).mono ?_)
      rintro en w1 ⟨v, rfl, hr, hb⟩
      obtain ⟨B1, d1, rfl⟩ := Kd.R_slice hr
      rw [bytesN_length] at hr ⊢
      have hr1 := Kd.R_reads' hr
      have hC1 : Kd.C (Kd.int .u8) w1 B1 16 (bytesN b) := by have h1 := hr1.2.2; rw [bytesN_length] at h1; exact h1
      have HC1 := Aside0.mk hC1
      have HD1 := Aside0.mk hr1.2.1
      have HR := Aside0.mk (Kd.R_below HR.out hb)
      have HB := Aside0.mk (HB.out.trans (hb.mono HB.out.size))
      clear hr hr1 hC1 hb HLD
      go_wp2_with fail
      (with_reducible refine (ofr_calls b HBL.out B1 d1 w1 HC1.out HD1.out).mono ?_)
      rintro en w2 ⟨rfl, hb⟩
      obtain ⟨w3, hw3⟩ : ∃ w3, w3 = w2.alloc (.cells #[.int .u64 (E b).1, .int .u64 (E b).2] 36) := ⟨_, rfl⟩
      have HW3 := Aside0.mk hw3
      have hb3 : Below w1.heap.size w1 w3 := by rw [hw3]; exact below_alloc hb _
      have hs3 : w3.heap.size = w2.heap.size + 1 := by rw [hw3]; exact Array.size_push _
      have HS3 := Aside0.mk hs3
      have HR := Aside0.mk (Kd.R_below HR.out hb3)
      have HB := Aside0.mk (HB.out.trans (hb3.mono HB.out.size))
      clear hb hw3 hb3 hs3 HC1 HD1
      go_wp2_with ((with_reducible refine gate_builtin (b := .append) (xs := #[.tmp 23, .tmp 25]) rfl ?_); at_builtin; rw [← HW3.out]; refine append_el_list rfl (.tmp 23) (.tmp 25) rfl rfl w3 w.heap.size _ (.slice A5 k c5) _ b rfl rfl HS3.out.symm HR.out HB.out.size (by rw [List.length_map, List.length_take]; have h1 := HP.out; have h2 := HP3.out; omega) ?_; intro v4 w4 ho hg; obtain ⟨A6, c6, rfl⟩ := Kd.R_slice ho; (have hl : ((m.take k).map toS ++ [toS b]).length = k + 1 := by rw [List.length_append, List.length_map, List.length_take, Nat.min_eq_left (by have h1 := HP.out; have h2 := HKL.out; omega)]; rfl); rw [hl] at ho ⊢; (have hx : (m.take k).map toS ++ [toS b] = (m.take (k + 1)).map toS := by rw [take_succ_getD m (by have h1 := HP.out; have h2 := HKL.out; omega), List.map_append, ← HBK.out]; rfl); rw [hx] at ho; have HR6 := Aside0.mk ho; have HB6 := Aside0.mk (HB.out.grown hg HB.out.size (fun q hq => Kd.R_base HR.out q hq)); clear ho hg hl hx)
      go_roundw
      case measure =>
        rw [w64_up k (by have h1 := HP3.out; have h2 := HKL.out; omega)]
        have h2 := HKL.out
        show p - ((k + 1 : Nat) : Int).toNat < p - ((k : Nat) : Int).toNat
        rw [Int.toNat_natCast, Int.toNat_natCast]
        omega
      case rel =>
        rw [w64_up k (by have h1 := HP3.out; have h2 := HKL.out; omega)]
        exact ⟨k + 1, A6, c6, HKL.out, rfl, rfl, HR6, HB6⟩
    · obtain rfl : k = p := by omega
      go_wp2_with fail
      go_ret
      have h1 := HR.out
      rw [List.take_of_length_le (Nat.le_of_eq HP.out.symm)] at h1
      exact ⟨_, rfl, h1, HB.out⟩
/-- The reference's loop, behind k blocks. -/
def InvR (w wr : World) (n f : Nat) (m : List Nat) (b3 k : Nat) : Prop := wr.heap[b3]? = some (.cells (arr 128 (fb n)) 43 (0, 0)) ∧ wr.heap[b3 + 1]? = some (.cells (arr 128 (fb (foldN n (m.take k) f))) 43 (0, 0)) ∧ wr.heap[b3 + 1 + 1]? = some (.cells (arr 128 fun _ => false) 43 (0, 0)) ∧ Below w.heap.size w wr
theorem InvR.below {w wr w' : World} {n f : Nat} {m : List Nat} {b3 k : Nat} (h : InvR w wr n f m b3 k) (hb : Below wr.heap.size wr w') : InvR w w' n f m b3 k := ⟨blk_below h.1 hb, blk_below h.2.1 hb, blk_below h.2.2.1 hb, h.2.2.2.trans (hb.mono h.2.2.2.size)⟩
set_option maxRecDepth 100000 in
set_option maxHeartbeats 8000000 in
theorem rfold_calls (n f : Nat) (m : List Nat) (p : Nat) (hp : p = m.length) (hn : n < top) (hp3 : p ≤ 3000) (A : Option Addr) (c : Nat) (w : World) (hC : Kd.C kP w A p m) (hc : p ≤ c) :
    Calls Try.prog 19 #[pv n, pv f, .slice A p c] w fun e w' => e = .returned (pv (foldN n m f)) ∧ Below w.heap.size w w' := by
  have HP := Aside0.mk hp
  have HN := Aside0.mk hn
  have HP3 := Aside0.mk hp3
  have HF := Aside0.mk (Kd.C_F heapP hC)
  clear hp hn hp3 hC hc
  have hz := zeroP
  go_enter Try.func19, Try.ntmps19
  go_wp2_with fail
  clear hz
  obtain ⟨b3, hb3⟩ : ∃ b3, b3 = w.heap.size := ⟨_, rfl⟩
  have HB3 := Aside0.mk (show w.heap.size ≤ b3 by omega)
  have hI : InvR w (((w.alloc (.cells (arr 128 (fb n)) 43)).alloc (.cells (arr 128 (fb f)) 43)).alloc (.cells (arr 128 fun _ => false) 43)) n f m b3 0 := by
    rw [hb3]
    refine ⟨blk_alloc (blk_alloc (blk_new w _) _) _, blk_alloc (blk_newN (Array.size_push _) _) _, blk_newN (by simp) _, below_alloc (below_alloc (below_alloc (Below.refl _ _) _) _) _⟩
  have HI := Aside0.mk hI
  rw [← hb3]
  clear hI hb3
  go_loopw [7] (fun v7 wr => ∃ k : Nat, k ≤ p ∧ v7 = .int .i64 k ∧ Aside0 (InvR w wr n f m b3 k)) (fun v7 _ => p - (intOf v7).toNat)
  case atStart => exact ⟨0, Nat.zero_le _, rfl, HI⟩
  case round =>
    clear HI
    obtain ⟨k, hk, rfl, HI⟩ := hrel
    by_cases hlt : k < p
    · have HKL := Aside0.mk hlt
      obtain ⟨ad, hA, _⟩ := (Kd.F_now HF.out).2.2 (Nat.lt_of_le_of_lt (Nat.zero_le _) hlt)
      subst hA
      obtain ⟨b, hb⟩ : ∃ b, b = m.getD k 0 := ⟨_, rfl⟩
      have HBK := Aside0.mk hb
      obtain ⟨s, hs⟩ : ∃ s, s = foldN n (m.take k) f := ⟨_, rfl⟩
      have HSK := Aside0.mk hs
      have HFM := Aside0.mk (show Kd.F kP w (fun k => k < w.heap.size) (some ad) m.length m by have h1 := HF.out; rw [HP.out] at h1; exact h1)
      have HKM := Aside0.mk (show k < m.length by have h1 := HP.out; omega)
      have e1 : (0 : Int) ≤ (k : Int) ∧ (k : Int) < (p : Int) := by omega
      have e2 : (k : Int) < (p : Int) := by omega
      clear hb hs hlt hk
      go_upto_region 4 with (fail)
      have HSS := Aside0.mk (show InvR w wr.drew n f m b3 k from ⟨blk_drew HI.out.1, blk_drew HI.out.2.1, blk_drew HI.out.2.2.1, below_drew HI.out.2.2.2⟩)
      clear HI
      refine Held.wp_region_G (S := (fun W1 : World => InvR w W1 n f m b3 k)) (by kernel_rfl) ?_
      change Held.wpAnyG _ _ _ _ _ 9 _ _ _
      refine Held.wpAnyG_take (i := 0) (v := (pv s)) rfl (by kernel_rfl) (by kernel_rfl) (by kernel_rfl) (fun _ _ _ h => h) HSS.out (by first | (with_reducible rfl) | (simp [Region.wanted, yielded, Act.put]; done) | rfl) (fun W1 hs => Held.run_load_of 43 (.tmp 4) rfl ⟨b3 + 1, 0, none⟩ rfl (load_blkP (by have h1 := hs.2.1; rw [← HSK.out] at h1; exact h1))) (some 14) rfl #[true, false, false, false, false, false, false, false, false] (by kernel_rfl) ?_
      simp only [Act.put, List.setIfInBounds_toArray, List.set_cons_zero, List.set_cons_succ]
      refine Held.wpAnyG_take (i := 1) (v := (.slice (some ad) p c)) rfl (by kernel_rfl) (by kernel_rfl) (by kernel_rfl) (fun _ _ _ h => h) HSS.out (by first | (with_reducible rfl) | (simp [Region.wanted, yielded, Act.put]; done) | rfl) (fun W1 h1 => by go_simp) (some 15) rfl #[true, true, false, false, false, false, false, false, false] (by kernel_rfl) ?_
      simp only [Act.put, List.setIfInBounds_toArray, List.set_cons_zero, List.set_cons_succ]
      refine Held.wpAnyG_take (i := 2) (v := (.int .i64 (k : Int))) rfl (by kernel_rfl) (by kernel_rfl) (by kernel_rfl) (fun _ _ _ h => h) HSS.out (by first | (with_reducible rfl) | (simp [Region.wanted, yielded, Act.put]; done) | rfl) (fun W1 h1 => by go_simp) (some 16) rfl #[true, true, true, false, false, false, false, false, false] (by kernel_rfl) ?_
      simp only [Act.put, List.setIfInBounds_toArray, List.set_cons_zero, List.set_cons_succ]
      refine Held.wpAnyG_take (i := 3) (v := (.pointer (some (ad.add (k * 128))))) rfl (by kernel_rfl) (by kernel_rfl) (by kernel_rfl) (fun _ _ _ h => h) HSS.out (by first | (with_reducible rfl) | (simp [Region.wanted, yielded, Act.put]; done) | rfl) (fun W1 h1 => by go_simp) (some 17) rfl #[true, true, true, true, false, false, false, false, false] (by kernel_rfl) ?_
      simp only [Act.put, List.setIfInBounds_toArray, List.set_cons_zero, List.set_cons_succ]
      refine Held.wpAnyG_take (i := 4) (v := (pv b)) rfl (by kernel_rfl) (by kernel_rfl) (by kernel_rfl) (fun _ _ _ h => h) HSS.out (by first | (with_reducible rfl) | (simp [Region.wanted, yielded, Act.put]; done) | rfl) (fun W1 hs => by rw [HBK.out]; exact Held.run_load_of 43 (.tmp 17) rfl (ad.add (k * 128)) rfl (load_rowP (Kd.F_below HFM.out hs.2.2.2) HKM.out)) (some 18) rfl #[true, true, true, true, true, false, false, false, false] (by kernel_rfl) ?_
      simp only [Act.put, List.setIfInBounds_toArray, List.set_cons_zero, List.set_cons_succ]
      refine Held.wpAnyG_take (i := 6) (v := (pv n)) rfl (by kernel_rfl) (by kernel_rfl) (by kernel_rfl) (fun _ _ _ h => h) HSS.out (by first | (with_reducible rfl) | (simp [Region.wanted, yielded, Act.put]; done) | rfl) (fun W1 hs => Held.run_load_of 43 (.tmp 3) rfl ⟨b3, 0, none⟩ rfl (load_blkP hs.1)) (some 20) rfl #[true, true, true, true, true, false, true, false, false] (by kernel_rfl) ?_
      simp only [Act.put, List.setIfInBounds_toArray, List.set_cons_zero, List.set_cons_succ]
      refine Held.wpAnyG_one 5 (by kernel_rfl) rfl #[true, true, true, true, true, true, true, false, false] (by kernel_rfl) (fun K hK => ?_)
      go_wp2_with fail
      (with_reducible refine (add_x s b _).mono ?_)
      rintro en w11 ⟨rfl, hb_⟩
      have n1_ := Aside0.mk (HSS.out.below hb_)
      clear HSS
      have HSS := n1_
      clear n1_
      go_wp2_with fail
      refine hK _ _ HSS.out ?_
      clear hK K
      refine Held.wpAnyG_one 7 (by kernel_rfl) rfl #[true, true, true, true, true, true, true, true, false] (by kernel_rfl) (fun K hK => ?_)
      go_wp2_with fail
      (with_reducible refine (mul_x (s ^^^ b) n _ HN.out).mono ?_)
      rintro en w12 ⟨rfl, hb_⟩
      have n1_ := Aside0.mk (HSS.out.below hb_)
      clear HSS
      have HSS := n1_
      clear n1_
      go_wp2_with fail
      refine hK _ _ HSS.out ?_
      clear hK K
      refine Held.wpAnyG_last 8 (by kernel_rfl) rfl (by kernel_rfl) (by kernel_rfl) ?_
      go_wp2_with (refine wpList_store_row rfl 43 (.tmp 4) (.tmp 21) rfl (b3 + 1) _ rfl rfl 43 _ HSS.out.2.1 (infoP_.trans (by rw [arr_size])) (by rw [arr_size, arr_size]) (arr_one _ _) ?_)
      have hset : ∀ q, q ≠ b3 + 1 → (w12.setRow (b3 + 1) (arr 128 (fb (mul (s ^^^ b) n)))).heap[q]? = w12.heap[q]? := fun q hq => setRow_other w12 (b3 + 1) q _ hq
      have e3 : foldN n (m.take (k + 1)) f = mul (s ^^^ b) n := by rw [foldN_take n f m HKM.out, HSK.out, HBK.out]
      have HIN := Aside0.mk (show InvR w (w12.setRow (b3 + 1) (arr 128 (fb (mul (s ^^^ b) n)))) n f m b3 (k + 1) from ⟨(hset b3 (by omega)).trans HSS.out.1, by rw [e3]; exact setRow_heap w12 (b3 + 1) _ _ 43 (0, 0) HSS.out.2.1, (hset (b3 + 1 + 1) (by omega)).trans HSS.out.2.2.1, ArrW.below_setRow HSS.out.2.2.2 (by have := HB3.out; omega) _⟩)
      clear hset e3
      go_roundw
      case measure =>
        rw [w64_up k (by have h1 := HP3.out; have h2 := HKL.out; omega)]
        have h2 := HKL.out
        show p - ((k + 1 : Nat) : Int).toNat < p - ((k : Nat) : Int).toNat
        rw [Int.toNat_natCast, Int.toNat_natCast]
        omega
      case rel =>
        rw [w64_up k (by have h1 := HP3.out; have h2 := HKL.out; omega)]
        exact ⟨k + 1, HKL.out, rfl, HIN⟩
    · obtain rfl : k = p := by omega
      obtain ⟨h3, h4, h6, hb⟩ := HI.out
      rw [HP.out, List.take_length] at h4
      have H4 := Aside0.mk h4
      have H6 := Aside0.mk h6
      have HBB := Aside0.mk hb
      clear h3 h4 h6 hb HI
      go_wp2_with (first | (refine wpList_load_row rfl 43 (.tmp 4) rfl (b3 + 1) rfl 43 _ _ _ H4.out Try.underlying43 rfl (infoP_.trans (by rw [arr_size])) ?_) | (refine wpList_store_row rfl 43 (.tmp 6) (.tmp 22) rfl (b3 + 1 + 1) _ rfl rfl 43 _ H6.out (infoP_.trans (by rw [arr_size])) (by rw [arr_size, arr_size]) (arr_one _ _) ?_))
      have h3 := setRow_heap wr (b3 + 1 + 1) _ (arr 128 (fb (foldN n m f))) 43 (0, 0) H6.out
      exact bodyPost_ret (results_cell_row rfl _ _ (b3 + 1 + 1) 43 _ (0, 0) _ rfl h3 Try.underlying43 rfl (infoP_.trans (by rw [arr_size]))) rfl ⟨rfl, ArrW.below_setRow HBB.out (by have := HB3.out; omega) _⟩
end Go.Proofs.Ytmhmmmkpijbbiab.Gh
