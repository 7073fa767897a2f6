/- Words of our own beside the print's: make with a length of 0 and a capacity; what is read as data, as the print's kinds have it. -/
import Derived.Test.YtikpgmajiafhgaaProg
import Derived.Test.YtikpgmajiafhgaaWWords
import Derived.Test.YtikpgmajiafhgaaWMore
import Derived.Test.YtikpgmajiafhgaaWLast
import Derived.Deep.Slices
import Derived.ChangeArms
import Derived.WideShapes
import Derived.DataReads
import Derived.DataElems
import Derived.Lib.SliceRun
import Derived.Maps.RangeRun
import Derived.StillTailTactics
namespace Go.Proofs.Ytikpgmajiafhgaa.X
open Go.RowKit Go.Proofs.YtikpgmajiafhgaaW Go.Proofs.YtikpgmajiafhgaaW.PrintWords Go.Proofs.YtikpgmajiafhgaaW.PrintMore
set_option linter.unusedVariables false
theorem sA {α : Type} (l : List α) (i : Nat) (a : α) : l.toArray.setIfInBounds i a = (l.set i a).toArray := List.setIfInBounds_toArray l i a
theorem sB {α : Type} (a b : α) (l : List α) : (a :: l).set 0 b = b :: l := List.set_cons_zero
theorem sC {α : Type} (a b : α) (l : List α) (i : Nat) : (a :: l).set (i + 1) b = a :: l.set i b := List.set_cons_succ
section
variable {P : Program} {ops : Array Oper} {rest : List Oper} {o : Oper} {a : Act} {Q : Exit → Act → World → Prop}
theorem R_make0 {α : Type} (d : Kd α) {w0 W : World} (base e : Nat) (hgd : o.guard = none) {N : Tmp} (hd : o.dst = some N) (t : TypeId) (x y : Operand) (ho : o.op = .makeSlice t x y) (n : Int) (hx : a.eval x = .int .i64 0) (hy : a.eval y = .int .i64 n)
    (ht : P.underlying t = some (.slice e)) (z : Value) (bytes : Nat) (hinfo : (P.info? e).map (fun i => (i.zero, i.size, i.bytes)) = some (some z, d.sz, bytes)) (hz : z.cells.size = d.sz) (hs0 : 0 < d.sz) (hb0 : 0 < bytes)
    {ok okp : Nat → Prop} (hok : ∀ k, okp k → ok k) (hfresh : ok W.heap.size) (h0 : 0 ≤ n) (hl : n.toNat * bytes ≤ 281474976710656) (HB : Below base w0 W) (hbase : base ≤ W.heap.size)
    (h : ∀ v1 w1, d.R e w1 base ok v1 [] → Below base w0 w1 → W.grownBy w1 none → (∃ b, v1.ownBlock = some b ∧ W.heap.size ≤ b) → wpList P ops Q rest (a.put o.dst v1) w1) : wpList P ops Q (o :: rest) a W := by
  obtain ⟨m, rfl⟩ := Int.eq_ofNat_of_zero_le h0
  simp only [Int.toNat_natCast] at hl
  obtain ⟨i0, hi, hzz⟩ := Option.map_eq_some_iff.1 hinfo
  simp only [Prod.mk.injEq] at hzz
  obtain ⟨hz0, hz1, hz2⟩ := hzz
  have hm : m ≤ 281474976710656 := Nat.le_trans (Nat.le_mul_of_pos_right _ hb0) hl
  have hr := run_make (P := P) W t e i0 z ht hi hz0 .i64 .i64 0 (m : Int) (by omega) (by omega)
    (by
      have h3 : ((i0.bytes * m : Nat) : Int) ≤ 281474976710656 := by rw [hz2, Nat.mul_comm]; omega
      rwa [Int.natCast_mul] at h3) (by omega)
  simp only [Int.toNat_natCast, Int.toNat_zero] at hr
  rw [hz1] at hr
  refine Kd.event_run hgd (w1 := W.alloc (.cells (madeCells z.cells (m * d.sz)) e)) (v := .slice (some ⟨W.heap.size, 0, none⟩) 0 m) ?_ (h _ _ ⟨fun k hk => ?_, [], ⟨by simp, .inr ⟨W.heap.size, m, madeCells z.cells (m * d.sz), rfl, hbase, heap_alloc_new W _, Nat.zero_le _, by simp only [maxLen]; omega, by rw [size_madeCells], by simp⟩⟩, Reps.none _ _⟩ (HB.alloc hbase _) (World.grownBy_alloc W _ none) ⟨W.heap.size, by simp [Value.ownBlock], Nat.le_refl _⟩)
  · simp [execOp, ho, hx, hy, hr]
  · have : W.heap.size = k := by simpa [Value.ownBlock] using hk
    subst this
    exact hfresh
end
/-! ### a row of the call's own, whose length has another spelling, as an element -/
theorem FK_of_R {α : Type} {d : Kd α} {e base n c : Nat} {w : World} {ok : Nat → Prop} {A : Option Addr} {l : List α} (h : d.R e w base ok (.slice A n c) l) : Kd.FK (Kd.slice e d) w ok l [.slice A n c] := by
  have hn := (Kd.R_reads' h).1
  subst hn
  exact Kd.FK_slice_mk (Kd.R_reads' h).2.1 (Kd.R_F h)
/-! ### a literal of one row that came in -/
theorem one_row {k : IntKind} {t : Nat} {w : World} {A : Option Addr} {c u : Nat} {l : List Int} (h : Kd.C (Kd.int k) w A l.length l) (hc : l.length ≤ c) : Kd.C (Kd.slice t (Kd.int k)) (w.alloc (.cells #[.slice A l.length c] u)) (some ⟨w.heap.size, 0, none⟩) 1 [l] := by
  refine ⟨rfl, by omega, fun _ => ⟨_, rfl, fun j p hj => ?_⟩⟩
  obtain ⟨hjl, hp⟩ := List.getElem?_eq_some_iff.1 hj
  obtain rfl : j = 0 := by simp at hjl; omega
  simp only [List.getElem_cons_zero] at hp
  subst hp
  refine ⟨[.slice A l.length c], rfl, ⟨A, c, rfl, hc, Kd.C_below h (below_alloc (Below.refl _ _) _)⟩, fun i v hv => ?_⟩
  obtain ⟨hi, hv2⟩ := List.getElem?_eq_some_iff.1 hv
  obtain rfl : i = 0 := by simp at hi; omega
  simp only [List.getElem_cons_zero] at hv2
  subst hv2
  have hb : (w.alloc (.cells #[.slice A l.length c] u)).heap[w.heap.size]? = some (.cells #[.slice A l.length c] u (0, 0)) := heap_alloc_new w _
  exact blk_cell hb 0
theorem two_rows {k : IntKind} {t : Nat} {w : World} {A A2 : Option Addr} {c c2 u : Nat} {l m : List Int} (h : Kd.C (Kd.int k) w A l.length l) (hc : l.length ≤ c) (h2 : Kd.C (Kd.int k) w A2 m.length m) (hc2 : m.length ≤ c2) :
    Kd.C (Kd.slice t (Kd.int k)) (w.alloc (.cells #[.slice A l.length c, .slice A2 m.length c2] u)) (some ⟨w.heap.size, 0, none⟩) 2 [l, m] := by
  have hb : (w.alloc (.cells #[.slice A l.length c, .slice A2 m.length c2] u)).heap[w.heap.size]? = some (.cells #[.slice A l.length c, .slice A2 m.length c2] u (0, 0)) := heap_alloc_new w _
  have hB := below_alloc (Below.refl w.heap.size w) (.cells #[.slice A l.length c, .slice A2 m.length c2] u)
  refine ⟨rfl, by omega, fun _ => ⟨_, rfl, fun j p hj => ?_⟩⟩
  obtain ⟨hjl, hp⟩ := List.getElem?_eq_some_iff.1 hj
  have hj2 : j = 0 ∨ j = 1 := by simp at hjl; omega
  rcases hj2 with rfl | rfl
  · simp only [List.getElem_cons_zero] at hp
    subst hp
    refine ⟨[.slice A l.length c], rfl, ⟨A, c, rfl, hc, Kd.C_below h hB⟩, fun i v hv => ?_⟩
    obtain ⟨hi, hv2⟩ := List.getElem?_eq_some_iff.1 hv
    obtain rfl : i = 0 := by simp at hi; omega
    simp only [List.getElem_cons_zero] at hv2
    subst hv2
    exact blk_cell hb 0
  · simp only [List.getElem_cons_succ, List.getElem_cons_zero] at hp
    subst hp
    refine ⟨[.slice A2 m.length c2], rfl, ⟨A2, c2, rfl, hc2, Kd.C_below h2 hB⟩, fun i v hv => ?_⟩
    obtain ⟨hi, hv2⟩ := List.getElem?_eq_some_iff.1 hv
    obtain rfl : i = 0 := by simp at hi; omega
    simp only [List.getElem_cons_zero] at hv2
    subst hv2
    exact blk_cell hb 1
/-- A row of the call's own that isn't empty: where it lies. -/
theorem R_at {α : Type} {d : Kd α} {e base : Nat} {w : World} {ok : Nat → Prop} {v : Value} {xs : List α} (h : d.R e w base ok v xs) (h0 : 0 < xs.length) : ∃ g c, v = .slice (some ⟨g, 0, none⟩) xs.length c ∧ base ≤ g := by
  obtain ⟨inner, ho⟩ := Kd.R_own h
  obtain ⟨g, cap, rfl, _, _⟩ := ho.form h0
  exact ⟨g, cap, rfl, Kd.R_base h g (by simp [Value.ownBlock])⟩
/-! ### a call of a function value that a slot holds -/
section
variable {P : Program} {md : Region.Mode} {ops : Array Oper} {rest : List Oper} {o : Oper} {a : Act} {Q : Exit → Act → World → Prop} {W : World}
theorem gate_tmp {r : Tmp} {xs : Array Operand} {ts : Array TypeId} (_ho : o.op = .call { callee := .value (.tmp r), args := xs, argTypes := ts }) (h : wpList P ops Q (o :: rest) a W) : wpList P ops Q (o :: rest) a W := h
theorem run_tmp {oi : Oper} {f : FuncId} {fn : Func} {xs : Array Operand} {ts : Array TypeId} {r : Tmp} (hv : a.eval (.tmp r) = .func (.func f) #[] #[]) (hf : P.funcs[f]? = some fn) (hname : (fn.name == "runtime.NumGoroutine") = false) (hb : fn.body.isSome = true) (args : Array Value)
    (hop : oi.op = .call { callee := .value (.tmp r), args := xs, argTypes := ts }) (hargs : xs.map a.eval = args) : (execOp a.eval oi).run P W = .ok (.enter f args) W := by
  have he := PrintLast.enters_ hf hname hb args W
  unfold execOp
  simp [hop, resolve, Deferred.ofValue, invoke, hv, hargs, he]
theorem goesT_ (r : Tmp) {oi : Oper} {N : Option Tmp} {a : Act} {w : World} {K : Act → World → Prop} {f : FuncId} {fn : Func} {xs : Array Operand} {ts : Array TypeId} (hv : a.eval (.tmp r) = .func (.func f) #[] #[]) (hf : P.funcs[f]? = some fn) (hname : (fn.name == "runtime.NumGoroutine") = false) (hb : fn.body.isSome = true) (args : Array Value)
    (hw : Region.wanted oi (yielded ops a.tmps) = true) (hN : oi.dst = N) (hop : oi.op = .call { callee := .value (.tmp r), args := xs, argTypes := ts }) (hargs : xs.map a.eval = args)
    (h : Calls P f args w fun e w' => ∃ v, e = .returned v ∧ K (a.put N v) w') : if Region.wanted oi (yielded ops a.tmps) = true then Oper.wp P oi a w K Q else K (a.put N undef) w :=
  PrintLast.call_ f args hw hN (run_tmp hv hf hname hb args hop hargs) h
theorem goesLT_ (r : Tmp) {rest : List Oper} {oi : Oper} {a : Act} {w : World} {f : FuncId} {fn : Func} (hv : a.eval (.tmp r) = .func (.func f) #[] #[]) (N : Option Tmp) (hd : oi.dst = N) (hg : oi.guard = none) {xs : Array Operand} {ts : Array TypeId} (hf : P.funcs[f]? = some fn) (hname : (fn.name == "runtime.NumGoroutine") = false) (hb : fn.body.isSome = true) (args : Array Value)
    (hop : oi.op = .call { callee := .value (.tmp r), args := xs, argTypes := ts }) (hargs : xs.map a.eval = args)
    (h : Calls P f args w fun e w' => ∃ v, e = .returned v ∧ wpList P ops Q rest (a.put N v) w') : wpList P ops Q (oi :: rest) a w := by
  refine wpList_plain hg fun K hK => ?_
  unfold Oper.wp
  rw [run_tmp hv hf hname hb args hop hargs, Oper.upon_enter]
  refine h.mono fun e w'' hh => ?_
  obtain ⟨v, rfl, hk⟩ := hh
  subst hd
  exact hK _ _ hk
end
/-! ### what is read as data -/
/-- Whatever of type t is read as data is of kind d, and F holds of it. -/
def Opens (P : Program) {α : Type} (t : TypeId) (d : Kd α) (F : α → Prop) : Prop :=
  ∀ (H : Type) (enc : TypeId × Value → H) (w : World) (fuel : Nat) (cs : List Value) (x : DataW H × List MemPlace), DataW.trod enc P w 0 (fun _ => true) true fuel t cs = some x → ∃ v, d.K w v cs ∧ F v
section
variable {P : Program} {t e : TypeId} {α β : Type}
theorem opens_int {k : IntKind} (ht : P.underlying t = some (.int k)) : Opens P t (Kd.int k) (fun n => (Lit.int k n).wf = true) := by
  intro H enc w fuel cs x h
  obtain ⟨n, rfl, _, hw⟩ := DataW.trod_int ht h
  exact ⟨n, rfl, hw⟩
theorem opens_bool (ht : P.underlying t = some .bool) : Opens P t Kd.bool (fun _ => True) := by
  intro H enc w fuel cs x h
  obtain ⟨n, rfl, _⟩ := DataW.trod_bool ht h
  exact ⟨n, rfl, trivial⟩
theorem opens_string (ht : P.underlying t = some .string) : Opens P t Kd.string (fun s => s.size ≤ maxLen) := by
  intro H enc w fuel cs x h
  obtain ⟨n, rfl, _, hs⟩ := DataW.trod_string ht h
  exact ⟨n, rfl, hs⟩
theorem opens_slice {d : Kd α} {F : α → Prop} (ht : P.underlying t = some (.slice e)) (hc : P.cellsOf e = d.sz) (he : Opens P e d F) : Opens P t (Kd.slice e d) (fun l => l.length ≤ maxLen ∧ ∀ x ∈ l, F x) := by
  intro H enc w fuel cs x h
  rcases Go.Deep.open_slice ht h with ⟨rfl, _⟩ | ⟨a, len, cap, m, n, D, Pl, rfl, _, hl, hm, hmm, _, hx⟩
  · exact ⟨[], ⟨none, 0, rfl, Nat.le_refl _, rfl, Nat.zero_le _, fun h => absurd h (by simp)⟩, Nat.zero_le _, by simp⟩
  simp only [if_true] at hmm
  have hmm' := hmm.symm
  subst hmm'
  rw [hc] at hx
  have each : ∀ i, i < len → ∃ y : α, ∃ c, w.cells? 0 (a.add (i * d.sz)) d.sz = some c ∧ d.K w y c ∧ F y := by
    intro i hi
    obtain ⟨c, h1, h2⟩ := hx i (by omega)
    obtain ⟨v, h3, h4⟩ := he H enc w n c _ h2
    exact ⟨v, c, h1, h3, h4⟩
  rcases Nat.eq_zero_or_pos len with h0 | h0
  · subst h0
    exact ⟨[], ⟨some a, cap, rfl, Nat.zero_le _, rfl, Nat.zero_le _, fun h => absurd h (by simp)⟩, Nat.zero_le _, by simp⟩
  haveI : Inhabited α := ⟨(each 0 h0).choose⟩
  obtain ⟨y, hy⟩ := Go.Deep.choose_lt each
  refine ⟨(List.range len).map y, ⟨some a, cap, by simp, by simpa using hl, by simp, by simp only [List.length_map, List.length_range]; simp only [maxLen] at hm; omega, fun _ => ⟨a, rfl, ?_⟩⟩, by simp only [List.length_map, List.length_range]; omega, ?_⟩
  · intro j p hj
    obtain ⟨hjl, hp⟩ := List.getElem?_eq_some_iff.1 hj
    simp only [List.length_map, List.length_range] at hjl
    simp only [List.getElem_map, List.getElem_range] at hp
    subst hp
    obtain ⟨c, h1, h2, _⟩ := hy j hjl
    refine ⟨c, d.K_len h2, h2, fun i u hu => ?_⟩
    have hi : i < d.sz := by
      have := (List.getElem?_eq_some_iff.1 hu).1
      rw [d.K_len h2] at this
      exact this
    obtain ⟨_, _, h4⟩ := World.cells?_some h1
    rw [← Addr.add_add, h4 i hi]
    exact hu
  · intro x hx
    obtain ⟨j, hj, rfl⟩ := List.mem_map.1 hx
    obtain ⟨c, _, _, h3⟩ := hy j (List.mem_range.1 hj)
    exact h3
end
/-! ### l[:n:n], and append onto a row without room -/
theorem cut_max {P : Program} (t e : TypeId) (kh km : IntKind) {i : TypeInfo} (ht : P.underlying t = some (.slice e)) (hi : P.info? e = some i) (A : Option Addr) (n c : Nat) (j : Int) (h0 : 0 ≤ j) (hm : j ≤ n) (hc : n ≤ c) :
    ∀ W : World, (Instr.slice t (.slice A n c) none (some (.int kh j)) (some (.int km j))).run P W = .ok (.slice A j.toNat j.toNat) W := by
  intro W
  have hel : P.elem t = e := by simp [Program.elem, ht]
  have hu : P.underlying t = some (.slice (P.elem t)) := by rw [hel]; exact ht
  have ha : (A.map fun x => x.add 0) = A := by cases A <;> simp [Addr.add]
  rw [run_slice_hm W t A n c hu kh km j j h0 (by omega) (by omega), hel]
  simp [sizeOf, typeInfo, hi, sliced, Result.andThen, ha]
section
variable {P : Program} {ops : Array Oper} {rest : List Oper} {o : Oper} {a : Act} {Q : Exit → Act → World → Prop}
theorem scalar_inner {α : Type} {enc : α → Value} {R : α → List Value → Prop} (hR : ∀ x cs, R x cs → cs = [enc x]) {xs : List α} {inner : List Value} (hr : Reps R 1 xs inner) : inner = encs enc xs := by
  apply List.ext_getElem?
  intro j
  rcases Nat.lt_or_ge j xs.length with hj | hj
  · have h2 := hr.2 j _ (List.getElem?_eq_getElem hj)
    have hl : j < inner.length := by have := hr.1; omega
    have h3 : (inner.drop (j * 1)).take 1 = [enc xs[j]] := hR _ _ h2
    rw [Nat.mul_one, List.drop_eq_getElem_cons hl] at h3
    have h4 : inner[j] = enc xs[j] := by
      have h5 := congrArg List.head? h3
      rw [List.take_succ_cons] at h5
      exact Option.some.inj h5
    rw [List.getElem?_eq_getElem hl, h4]
    simp [encs, List.getElem?_eq_getElem hj]
  · have h3 : inner.length = xs.length := by have := hr.1; omega
    rw [List.getElem?_eq_none (by omega), List.getElem?_eq_none (by rw [encs_length]; omega)]
theorem append_full {ik : IntKind} {w0 W : World} (hgd : o.guard = none) (s x : Operand) (t e : TypeId) (z : Value) (bytes : Nat) (ho : o.op = .call { callee := .builtin .append, args := #[s, x], argTypes := #[t, t] })
    (ht : P.underlying t = some (.slice e)) (hinfo : (P.info? e).map (fun i => (i.zero, i.size, i.bytes)) = some (some z, 1, bytes)) (hz : z.cells.size = 1)
    (A B : Option Addr) (c : Nat) (xs ys : List Int) (hs : a.eval s = .slice A xs.length xs.length) (hx : a.eval x = .slice B ys.length c)
    (hC : Kd.C (Kd.int ik) W A xs.length xs) (hD : Kd.C (Kd.int ik) W B ys.length ys) (hm : 0 < ys.length) (hl : (xs.length + ys.length) * bytes ≤ 140737488355328) (hlm : xs.length + ys.length ≤ 140737488355328) (HB : Below w0.heap.size w0 W)
    (h : ∀ v1 w1, Kd.R (Kd.int ik) e w1 w0.heap.size (fun _ => True) v1 (xs ++ ys) → Below w0.heap.size w0 w1 → wpList P ops Q rest (a.put o.dst v1) w1) :
    wpList P ops Q (o :: rest) a W := by
  obtain ⟨i0, hi, hzz⟩ := Option.map_eq_some_iff.1 hinfo
  simp only [Prod.mk.injEq] at hzz
  obtain ⟨hz0, hz1, hz2⟩ := hzz
  obtain ⟨ad, rfl, _⟩ := hD.2.2 (by omega)
  obtain ⟨news, hnr, hnc⟩ := ReadsRow.inner_ hD
  have hne : news = encs (Value.int ik) ys := scalar_inner (R := (Kd.int ik).K W) (fun _ _ h => h) hnr
  subst hne
  have h1c : ∀ u ∈ encs (Value.int ik) ys, u.oneCell' = true := fun u hu => by
    obtain ⟨q, _, rfl⟩ := List.mem_map.1 hu
    rfl
  have hln : (encs (Value.int ik) ys).length = ys.length * 1 := hnr.1
  have done : ∀ v' w', w'.ownsRow W.heap.size e 1 v' (xs.length + ys.length) (encs (Value.int ik) xs ++ encs (Value.int ik) ys) → W.grownBy w' none → wpList P ops Q rest (a.put o.dst v') w' := by
    intro v' w' hown hg
    have h1 : Kd.R (Kd.int ik) e w' W.heap.size (fun _ => True) v' (xs ++ ys) := Kd.R_of_own (enc := Value.int ik) (h1 := fun _ => rfl) (by rw [List.length_append, encs_append]; exact hown) (fun _ _ => trivial)
    exact h v' w' (Kd.R_lower h1 (below_size HB)) (below_step HB (pw_below_grown (Below.refl _ _) none (Nat.le_refl _) hg (fun _ h => by cases h)))
  cases A with
  | none =>
    have h0 : xs = [] := by
      cases xs with
      | nil => rfl
      | cons y l =>
        obtain ⟨ad', e', _⟩ := hC.2.2 (by simp)
        cases e'
    subst h0
    exact wpList_append_grows W hgd s x t ho e i0 z 1 bytes ht hi hz0 hz1 hz2 hz (by decide) none 0 0 [] hs (fun _ => ⟨rfl, rfl⟩) rfl (fun _ h => by cases h) ad ys.length c _ hx hln hnc h1c (by omega) (by simp only [maxLen]; simp at hlm; omega) hl done
  | some b =>
    rcases Nat.eq_zero_or_pos xs.length with h0 | h0
    · obtain rfl : xs = [] := List.eq_nil_of_length_eq_zero h0
      exact wpList_append_grows W hgd s x t ho e i0 z 1 bytes ht hi hz0 hz1 hz2 hz (by decide) (some b) 0 0 [] hs (fun h => by cases h) rfl (fun _ _ j u hj => by simp at hj) ad ys.length c _ hx hln hnc h1c (by omega) (by simp only [maxLen]; simp at hlm; omega) hl done
    · obtain ⟨olds, hor, hoc⟩ := ReadsRow.inner_ hC
      have hoe : olds = encs (Value.int ik) xs := scalar_inner (R := (Kd.int ik).K W) (fun _ _ h => h) hor
      subst hoe
      exact wpList_append_grows W hgd s x t ho e i0 z 1 bytes ht hi hz0 hz1 hz2 hz (by decide) (some b) xs.length xs.length _ hs (fun h => by cases h) hor.1 (fun b' hb' => by cases hb'; exact hoc) ad ys.length c _ hx hln hnc h1c (by omega) (by simp only [maxLen]; omega) hl done
end
end Go.Proofs.Ytikpgmajiafhgaa.X
