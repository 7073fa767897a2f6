/- Words of our own beside the print's: make with a length of 0 and a capacity; what is read as data, as the print's kinds have it. -/
import Derived.Test.YtbiiccgheblhpabProg
import Derived.Test.YtbiiccgheblhpabWWords
import Derived.Test.YtbiiccgheblhpabWMore
import Derived.Test.YtbiiccgheblhpabWLast
import Derived.Deep.Slices
import Derived.ChangeArms
import Derived.WideShapes
import Derived.DataReads
import Derived.DataElems
namespace Go.Proofs.Ytbiiccgheblhpab.X
open Go.RowKit Go.Proofs.YtbiiccgheblhpabW Go.Proofs.YtbiiccgheblhpabW.PrintWords Go.Proofs.YtbiiccgheblhpabW.PrintMore
set_option linter.unusedVariables false
section
variable {P : Program} {ops : Array Oper} {rest : List Oper} {o : Oper} {a : Act} {Q : Exit → Act → World → Prop}
theorem R_make0 {α : Type} (d : Kd α) {w0 W : World} (base e : Nat) (hgd : o.guard = none) {N : Tmp} (hd : o.dst = some N) (t : TypeId) (x y : Operand) (ho : o.op = .makeSlice t x y) (n : Int) (hx : a.eval x = .int .i64 0) (hy : a.eval y = .int .i64 n)
    (ht : P.underlying t = some (.slice e)) (z : Value) (bytes : Nat) (hinfo : (P.info? e).map (fun i => (i.zero, i.size, i.bytes)) = some (some z, d.sz, bytes)) (hz : z.cells.size = d.sz) (hs0 : 0 < d.sz) (hb0 : 0 < bytes)
    {ok okp : Nat → Prop} (hok : ∀ k, okp k → ok k) (hfresh : ok W.heap.size) (h0 : 0 ≤ n) (hl : n.toNat * bytes ≤ 281474976710656) (HB : Below base w0 W) (hbase : base ≤ W.heap.size)
    (h : ∀ v1 w1, d.R e w1 base ok v1 [] → Below base w0 w1 → W.grownBy w1 none → (∃ b, v1.ownBlock = some b ∧ W.heap.size ≤ b) → wpList P ops Q rest (a.put o.dst v1) w1) : wpList P ops Q (o :: rest) a W := by
  obtain ⟨m, rfl⟩ := Int.eq_ofNat_of_zero_le h0
  simp only [Int.toNat_natCast] at hl
  obtain ⟨i0, hi, hzz⟩ := Option.map_eq_some_iff.1 hinfo
  simp only [Prod.mk.injEq] at hzz
  obtain ⟨hz0, hz1, hz2⟩ := hzz
  have hm : m ≤ 281474976710656 := Nat.le_trans (Nat.le_mul_of_pos_right _ hb0) hl
  have hr := run_make (P := P) W t e i0 z ht hi hz0 .i64 .i64 0 (m : Int) (by omega) (by omega)
    (by
      have h3 : ((i0.bytes * m : Nat) : Int) ≤ 281474976710656 := by rw [hz2, Nat.mul_comm]; omega
      rwa [Int.natCast_mul] at h3) (by omega)
  simp only [Int.toNat_natCast, Int.toNat_zero] at hr
  rw [hz1] at hr
  refine Kd.event_run hgd (w1 := W.alloc (.cells (madeCells z.cells (m * d.sz)) e)) (v := .slice (some ⟨W.heap.size, 0, none⟩) 0 m) ?_ (h _ _ ⟨fun k hk => ?_, [], ⟨by simp, .inr ⟨W.heap.size, m, madeCells z.cells (m * d.sz), rfl, hbase, heap_alloc_new W _, Nat.zero_le _, by simp only [maxLen]; omega, by rw [size_madeCells], by simp⟩⟩, Reps.none _ _⟩ (HB.alloc hbase _) (World.grownBy_alloc W _ none) ⟨W.heap.size, by simp [Value.ownBlock], Nat.le_refl _⟩)
  · simp [execOp, ho, hx, hy, hr]
  · have : W.heap.size = k := by simpa [Value.ownBlock] using hk
    subst this
    exact hfresh
end
/-! ### a row of the call's own, whose length has another spelling, as an element -/
theorem FK_of_R {α : Type} {d : Kd α} {e base n c : Nat} {w : World} {ok : Nat → Prop} {A : Option Addr} {l : List α} (h : d.R e w base ok (.slice A n c) l) : Kd.FK (Kd.slice e d) w ok l [.slice A n c] := by
  have hn := (Kd.R_reads' h).1
  subst hn
  exact Kd.FK_slice_mk (Kd.R_reads' h).2.1 (Kd.R_F h)
/-! ### a call of a function value that a slot holds -/
section
variable {P : Program} {md : Region.Mode} {ops : Array Oper} {rest : List Oper} {o : Oper} {a : Act} {Q : Exit → Act → World → Prop} {W : World}
theorem gate_tmp {r : Tmp} {xs : Array Operand} {ts : Array TypeId} (_ho : o.op = .call { callee := .value (.tmp r), args := xs, argTypes := ts }) (h : wpList P ops Q (o :: rest) a W) : wpList P ops Q (o :: rest) a W := h
theorem run_tmp {oi : Oper} {f : FuncId} {fn : Func} {xs : Array Operand} {ts : Array TypeId} {r : Tmp} (hv : a.eval (.tmp r) = .func (.func f) #[] #[]) (hf : P.funcs[f]? = some fn) (hname : (fn.name == "runtime.NumGoroutine") = false) (hb : fn.body.isSome = true) (args : Array Value)
    (hop : oi.op = .call { callee := .value (.tmp r), args := xs, argTypes := ts }) (hargs : xs.map a.eval = args) : (execOp a.eval oi).run P W = .ok (.enter f args) W := by
  have he := PrintLast.enters_ hf hname hb args W
  unfold execOp
  simp [hop, resolve, Deferred.ofValue, invoke, hv, hargs, he]
theorem goesT_ (r : Tmp) {oi : Oper} {N : Option Tmp} {a : Act} {w : World} {K : Act → World → Prop} {f : FuncId} {fn : Func} {xs : Array Operand} {ts : Array TypeId} (hv : a.eval (.tmp r) = .func (.func f) #[] #[]) (hf : P.funcs[f]? = some fn) (hname : (fn.name == "runtime.NumGoroutine") = false) (hb : fn.body.isSome = true) (args : Array Value)
    (hw : Region.wanted oi (yielded ops a.tmps) = true) (hN : oi.dst = N) (hop : oi.op = .call { callee := .value (.tmp r), args := xs, argTypes := ts }) (hargs : xs.map a.eval = args)
    (h : Calls P f args w fun e w' => ∃ v, e = .returned v ∧ K (a.put N v) w') : if Region.wanted oi (yielded ops a.tmps) = true then Oper.wp P oi a w K Q else K (a.put N undef) w :=
  PrintLast.call_ f args hw hN (run_tmp hv hf hname hb args hop hargs) h
theorem goesLT_ (r : Tmp) {rest : List Oper} {oi : Oper} {a : Act} {w : World} {f : FuncId} {fn : Func} (hv : a.eval (.tmp r) = .func (.func f) #[] #[]) (N : Option Tmp) (hd : oi.dst = N) (hg : oi.guard = none) {xs : Array Operand} {ts : Array TypeId} (hf : P.funcs[f]? = some fn) (hname : (fn.name == "runtime.NumGoroutine") = false) (hb : fn.body.isSome = true) (args : Array Value)
    (hop : oi.op = .call { callee := .value (.tmp r), args := xs, argTypes := ts }) (hargs : xs.map a.eval = args)
    (h : Calls P f args w fun e w' => ∃ v, e = .returned v ∧ wpList P ops Q rest (a.put N v) w') : wpList P ops Q (oi :: rest) a w := by
  refine wpList_plain hg fun K hK => ?_
  unfold Oper.wp
  rw [run_tmp hv hf hname hb args hop hargs, Oper.upon_enter]
  refine h.mono fun e w'' hh => ?_
  obtain ⟨v, rfl, hk⟩ := hh
  subst hd
  exact hK _ _ hk
end
/-! ### what is read as data -/
/-- Whatever of type t is read as data is of kind d, and F holds of it. -/
def Opens (P : Program) {α : Type} (t : TypeId) (d : Kd α) (F : α → Prop) : Prop :=
  ∀ (H : Type) (enc : TypeId × Value → H) (w : World) (fuel : Nat) (cs : List Value) (x : DataW H × List MemPlace), DataW.trod enc P w 0 (fun _ => true) true fuel t cs = some x → ∃ v, d.K w v cs ∧ F v
section
variable {P : Program} {t e : TypeId} {α β : Type}
theorem opens_int {k : IntKind} (ht : P.underlying t = some (.int k)) : Opens P t (Kd.int k) (fun n => (Lit.int k n).wf = true) := by
  intro H enc w fuel cs x h
  obtain ⟨n, rfl, _, hw⟩ := DataW.trod_int ht h
  exact ⟨n, rfl, hw⟩
theorem opens_bool (ht : P.underlying t = some .bool) : Opens P t Kd.bool (fun _ => True) := by
  intro H enc w fuel cs x h
  obtain ⟨n, rfl, _⟩ := DataW.trod_bool ht h
  exact ⟨n, rfl, trivial⟩
theorem opens_string (ht : P.underlying t = some .string) : Opens P t Kd.string (fun s => s.size ≤ maxLen) := by
  intro H enc w fuel cs x h
  obtain ⟨n, rfl, _, hs⟩ := DataW.trod_string ht h
  exact ⟨n, rfl, hs⟩
theorem opens_slice {d : Kd α} {F : α → Prop} (ht : P.underlying t = some (.slice e)) (hc : P.cellsOf e = d.sz) (he : Opens P e d F) : Opens P t (Kd.slice e d) (fun l => l.length ≤ maxLen ∧ ∀ x ∈ l, F x) := by
  intro H enc w fuel cs x h
  rcases Go.Deep.open_slice ht h with ⟨rfl, _⟩ | ⟨a, len, cap, m, n, D, Pl, rfl, _, hl, hm, hmm, _, hx⟩
  · exact ⟨[], ⟨none, 0, rfl, Nat.le_refl _, rfl, Nat.zero_le _, fun h => absurd h (by simp)⟩, Nat.zero_le _, by simp⟩
  simp only [if_true] at hmm
  have hmm' := hmm.symm
  subst hmm'
  rw [hc] at hx
  have each : ∀ i, i < len → ∃ y : α, ∃ c, w.cells? 0 (a.add (i * d.sz)) d.sz = some c ∧ d.K w y c ∧ F y := by
    intro i hi
    obtain ⟨c, h1, h2⟩ := hx i (by omega)
    obtain ⟨v, h3, h4⟩ := he H enc w n c _ h2
    exact ⟨v, c, h1, h3, h4⟩
  rcases Nat.eq_zero_or_pos len with h0 | h0
  · subst h0
    exact ⟨[], ⟨some a, cap, rfl, Nat.zero_le _, rfl, Nat.zero_le _, fun h => absurd h (by simp)⟩, Nat.zero_le _, by simp⟩
  haveI : Inhabited α := ⟨(each 0 h0).choose⟩
  obtain ⟨y, hy⟩ := Go.Deep.choose_lt each
  refine ⟨(List.range len).map y, ⟨some a, cap, by simp, by simpa using hl, by simp, by simp only [List.length_map, List.length_range]; simp only [maxLen] at hm; omega, fun _ => ⟨a, rfl, ?_⟩⟩, by simp only [List.length_map, List.length_range]; omega, ?_⟩
  · intro j p hj
    obtain ⟨hjl, hp⟩ := List.getElem?_eq_some_iff.1 hj
    simp only [List.length_map, List.length_range] at hjl
    simp only [List.getElem_map, List.getElem_range] at hp
    subst hp
    obtain ⟨c, h1, h2, _⟩ := hy j hjl
    refine ⟨c, d.K_len h2, h2, fun i u hu => ?_⟩
    have hi : i < d.sz := by
      have := (List.getElem?_eq_some_iff.1 hu).1
      rw [d.K_len h2] at this
      exact this
    obtain ⟨_, _, h4⟩ := World.cells?_some h1
    rw [← Addr.add_add, h4 i hi]
    exact hu
  · intro x hx
    obtain ⟨j, hj, rfl⟩ := List.mem_map.1 hx
    obtain ⟨c, _, _, h3⟩ := hy j (List.mem_range.1 hj)
    exact h3
end
end Go.Proofs.Ytbiiccgheblhpab.X
