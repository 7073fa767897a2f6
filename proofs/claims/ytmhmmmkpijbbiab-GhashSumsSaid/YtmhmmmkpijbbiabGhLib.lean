/- ghash: what the laws share. Written by wip/gen/ghlib.py. -/
import Derived.Test.YtmhmmmkpijbbiabGhAlive
namespace Go.Proofs.Ytmhmmmkpijbbiab.Gh
open Go.RowKit Go.Proofs.YtmhmmmkpijbbiabW.PrintWords Go.Proofs.YtmhmmmkpijbbiabW.PrintLast Go.Proofs.YtmhmmmkpijbbiabW.PrintMore Go.Proofs.Ytmhmmmkpijbbiab.X Go.Proofs.Ytmhmmmkpijbbiab.M Go.Proofs.Ytmhmmmkpijbbiab.Bv Go.Proofs.Ytmhmmmkpijbbiab.Gf Go.Proofs.Ytmhmmmkpijbbiab.Arr Go.Proofs.Ytmhmmmkpijbbiab.ArrX Go.Proofs.Ytmhmmmkpijbbiab.PuLib Go.Proofs.Ytmhmmmkpijbbiab.PuCat
set_option linter.unusedVariables false
set_option linter.unusedSimpArgs false
/-! ### elements of rows -/
theorem add_add_ (a : Addr) (m j : Nat) : (a.add m).add j = a.add (m + j) := by
  unfold Addr.add
  by_cases h1 : m = 0 <;> by_cases h2 : j = 0 <;> simp [h1, h2, Nat.add_assoc]
theorem load_ad {W : World} {a : Addr} {n : Nat} (h : ∀ j v, ([.int .u64 (E n).1, .int .u64 (E n).2] : List Value)[j]? = some v → W.cell? (a.add j) = some v) : (loadVar 36 a).run Try.prog W = .ok (el n) W := by
  have hl := run_loadCells_list (P := Try.prog) W a [.int .u64 (E n).1, .int .u64 (E n).2] h
  obtain ⟨i, hi, hz⟩ := Option.map_eq_some_iff.1 M.info36
  simp only [Prod.mk.injEq] at hz
  have hl2 : (loadCells a 2).run Try.prog W = .ok #[.int .u64 (E n).1, .int .u64 (E n).2] W := hl
  simp [loadVar, sizeOf, typeInfo, run_underlying Try.underlying36, hi, hz.2.1, hl2]
theorem load_row {W : World} {ok : Nat → Prop} {ad : Addr} {l : List Nat} {k : Nat} (h : Kd.F k36 W ok (some ad) l.length (l.map toS)) (hk : k < l.length) : (loadVar 36 (ad.add (k * 2))).run Try.prog W = .ok (el (l.getD k 0)) W := by
  obtain ⟨a2, ha, hr⟩ := (Kd.F_now h).2.2 (by omega)
  obtain rfl := Option.some.inj ha
  refine load_ad (fun j v hv => ?_)
  have hp : (l.map toS)[k]? = some (toS (l.getD k 0)) := by rw [List.getElem?_map, List.getD_eq_getElem?_getD, List.getElem?_eq_getElem hk]; rfl
  obtain ⟨cs, _, hK, hc⟩ := hr k _ hp
  obtain rfl := k36_open hK
  rw [add_add_]
  exact hc j v hv
theorem el_of {x y : Int} (h : (0 ≤ x ∧ x < 18446744073709551616) ∧ 0 ≤ y ∧ y < 18446744073709551616) : ∃ n, n < top ∧ (Value.agg #[.int .u64 x, .int .u64 y] = el n) ∧ (x, y) = E n := by
  obtain ⟨a, ha, rfl, rfl⟩ := E_of h.1.1 h.1.2 h.2.1 h.2.2
  exact ⟨a, ha, rfl, rfl⟩
/-- The words of an element. -/
def fineS (s : S36) : Prop := (0 ≤ s.f0 ∧ s.f0 < 18446744073709551616) ∧ 0 ≤ s.f1 ∧ s.f1 < 18446744073709551616
def fineB (x y : Int) : Bool := decide (0 ≤ x) && decide (x < 18446744073709551616) && decide (0 ≤ y) && decide (y < 18446744073709551616)
theorem fineB_iff (x y : Int) : fineB x y = true ↔ fineS ⟨x, y⟩ := by
  unfold fineB fineS
  simp only [Bool.and_eq_true, decide_eq_true_iff]
  constructor
  · rintro ⟨⟨⟨a, b⟩, c⟩, d⟩; exact ⟨⟨a, b⟩, c, d⟩
  · rintro ⟨⟨a, b⟩, c, d⟩; exact ⟨⟨⟨a, b⟩, c⟩, d⟩
def fineL (l : List S36) : Bool := l.all fun s => fineB s.f0 s.f1
theorem fineL_iff (l : List S36) : fineL l = true ↔ ∀ s ∈ l, fineS s := by
  unfold fineL
  rw [List.all_eq_true]
  exact ⟨fun h s hs => (fineB_iff s.f0 s.f1).1 (h s hs), fun h s hs => (fineB_iff s.f0 s.f1).2 (h s hs)⟩
def byteL (l : List Int) : Bool := l.all fun x => decide (0 ≤ x) && decide (x < 256)
theorem byteL_iff (l : List Int) : byteL l = true ↔ ∀ x ∈ l, 0 ≤ x ∧ x < 256 := by
  unfold byteL
  rw [List.all_eq_true]
  simp only [Bool.and_eq_true, decide_eq_true_iff]
theorem rows_of (l : List S36) (h : ∀ s ∈ l, fineS s) : ∃ m : List Nat, (∀ b ∈ m, b < top) ∧ l = m.map toS := by
  induction l with
  | nil => exact ⟨[], by simp, rfl⟩
  | cons a t ih =>
    obtain ⟨m, hm, rfl⟩ := ih (fun s hs => h s (List.mem_cons_of_mem _ hs))
    have h1 := h a List.mem_cons_self
    obtain ⟨b, hb, e1, e2⟩ := E_of h1.1.1 h1.1.2 h1.2.1 h1.2.2
    obtain ⟨x, y⟩ := a
    dsimp only at e1 e2
    subst e1
    subst e2
    exact ⟨b :: m, by simpa using ⟨hb, hm⟩, rfl⟩
theorem rows_F {W : World} {A : Option Addr} {m : List Nat} (hC : Kd.C k36 W A m.length (m.map toS)) : ∀ W' , Below W.heap.size W W' → Kd.F k36 W' (fun k => k < W.heap.size) A m.length (m.map toS) := fun W' hb =>
  Kd.F_below (Kd.C_F (Kd.heap_iso _ (Kd.heap_pair (Kd.heap_int _) (Kd.heap_int _))) hC) hb
/-- Fold, with the row's length by a name. -/
theorem foldC (W : World) (h n f : Nat) (m : List Nat) (k : Nat) (hk : k = m.length) (hn : n < top) (hf : f < top) (hm : ∀ b ∈ m, b < top) (A : Option Addr) (c : Nat) (hh : ∃ d, HashAt W h n d) (hC : Kd.F k36 W (fun k => k ≠ h) A k (m.map toS)) (hc : k ≤ c) :
    Calls Try.prog 21 #[.pointer (some ⟨h, 0, none⟩), el f, .slice A k c] W fun en W' => en = .returned (el (foldN n m f)) ∧ (∃ d, HashAt W' h n d) ∧ W.grownBy W' (some h) := by
  subst hk
  obtain ⟨d, hd⟩ := hh
  refine (fold_calls W h n f d m hn hf hm A c hd hC hc).mono ?_
  rintro en W' ⟨rfl, h1, h2⟩
  exact ⟨rfl, ⟨_, h1⟩, h2⟩
/-! ### append, and rows without elements -/
theorem append_el_list {ops : Array Oper} {rest : List Oper} {o : Oper} {a : Act} {Q : Exit → Act → World → Prop} (hgd : o.guard = none) (s x : Operand)
    (hop : o.op = .call { callee := .builtin .append, args := #[s, x], argTypes := #[29, 29] }) (hty : o.type = 29) (W : World) (base g : Nat) (v : Value) (xs : List S36) (n : Nat) (hs : a.eval s = v) (hx : a.eval x = .slice (some ⟨g, 0, none⟩) 1 1) (hgs : g = W.heap.size)
    (HO : Kd.R k36 36 W base (fun _ => True) v xs) (hbase : base ≤ W.heap.size) (hl : xs.length ≤ 1000000)
    (h : ∀ v1 w1, Kd.R k36 36 w1 base (fun _ => True) v1 (xs ++ [toS n]) → W.grownBy w1 v.ownBlock → wpList Try.prog ops Q rest (a.put o.dst v1) w1) :
    wpList Try.prog ops Q (o :: rest) a (W.alloc (.cells #[.int .u64 (E n).1, .int .u64 (E n).2] 36)) := by
  subst hgs
  refine wpList_plain hgd fun K hK' => ?_
  obtain ⟨v1, w1, hrun, hr, hg⟩ := append_el W base v xs n HO hbase hl
  unfold Oper.wp execOp
  simp only [hop, resolve, invoke, builtin, Sem.run_bind, Sem.run_pure, Result.andThen_ok, List.map_toArray, List.map_cons, List.map_nil, hs, hx, hty, hrun]
  exact hK' _ _ (h v1 w1 hr hg)
theorem R_empty (W : World) (base : Nat) (hb : base ≤ W.heap.size) : Kd.R k36 36 (W.alloc (.cells #[] 36)) base (fun _ => True) (.slice (some ⟨W.heap.size, 0, none⟩) 0 0) [] :=
  ⟨fun _ _ => trivial, [], ⟨rfl, .inr ⟨W.heap.size, 0, #[], rfl, hb, blk_new W _, Nat.le_refl 0, by decide, rfl, rfl⟩⟩, Reps.none _ _⟩
theorem pair_block (W : World) (a b : Nat) : ∀ w : World, (W.alloc (.cells #[.int .u64 (E a).1, .int .u64 (E a).2, .int .u64 (E b).1, .int .u64 (E b).2] 36)).heap[W.heap.size]? = some (.cells #[.int .u64 (E a).1, .int .u64 (E a).2, .int .u64 (E b).1, .int .u64 (E b).2] 36 (0, 0)) := fun _ => blk_new W _
end Go.Proofs.Ytmhmmmkpijbbiab.Gh
