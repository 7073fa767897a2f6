/- Two writers beside one another: the program's at block g, the document's at block s; what each leaves of the other, and of the rest. -/
import Derived.Test.YtmhmmmkpijbbiaaScanAlive
import Derived.Test.YtmhmmmkpijbbiaaScanWf
namespace Go.Proofs.Ytmhmmmkpijbbiaa.M
open Go.RowKit Go.Proofs.YtmhmmmkpijbbiaaW.PrintWords Go.Proofs.YtmhmmmkpijbbiaaW.PrintLast Go.Proofs.YtmhmmmkpijbbiaaW.PrintMore Go.Proofs.Ytmhmmmkpijbbiaa.X
set_option linter.unusedVariables false
theorem apartF_new {W W1 : World} {s B x : Nat} {e : Int} {l : List Int} (hW : WfAt W s B e l) (hb : Below W.heap.size W W1) (hx : W.heap.size ≤ x) : ApartF W1 s x := by
  obtain ⟨v, hv, hR, _⟩ := hW
  refine ⟨fun h => by have := blk_lt hv; omega, fun e' v' h' hq => ?_⟩
  have h9 := (blk_below hv hb).symm.trans h'
  simp only [Option.some.injEq, Obj.cells.injEq] at h9
  have h8 := h9.1
  simp at h8
  rw [← h8.1] at hq
  have := Kd.R_lt hR x hq.symm
  omega
/-- Facts of a writer hang on its block alone. -/
theorem ApartW.same {W W1 : World} {g i : Nat} (h : ApartW W g i) (hg : W1.heap[g]? = W.heap[g]?) : ApartW W1 g i := ⟨h.1, fun e v hv => h.2 e v (hg.symm.trans hv)⟩
theorem ApartF.same {W W1 : World} {s i : Nat} (h : ApartF W s i) (hg : W1.heap[s]? = W.heap[s]?) : ApartF W1 s i := ⟨h.1, fun e v hv => h.2 e v (hg.symm.trans hv)⟩
/-- Both writers, apart from one another. -/
structure Pair (W : World) (g s B : Nat) (e : Int) (l : List Int) (e' : Int) (l' : List Int) : Prop where
  w : WrAt W g B e l
  f : WfAt W s B e' l'
  a : ApartW W g s
  r : ∀ (i : Nat) (e : Int) (v : Value), W.heap[s]? = some (.cells #[v, .int .i64 e] 31 (0, 0)) → v.ownBlock = some i → ApartW W g i
/-- What is apart from both stays, and apart. -/
def KeepP (W W' : World) (g s : Nat) : Prop := W.heap.size ≤ W'.heap.size ∧ ∀ i, i < W.heap.size → ApartW W g i → ApartF W s i → W'.heap[i]? = W.heap[i]? ∧ ApartW W' g i ∧ ApartF W' s i
theorem KeepP.trans {W W1 W2 : World} {g s : Nat} (h : KeepP W W1 g s) (k : KeepP W1 W2 g s) : KeepP W W2 g s :=
  ⟨Nat.le_trans h.1 k.1, fun i hi ha hf => by
    have h1 := h.2 i hi ha hf
    have h2 := k.2 i (Nat.lt_of_lt_of_le hi h.1) h1.2.1 h1.2.2
    exact ⟨h2.1.trans h1.1, h2.2⟩⟩
theorem KeepP.below {W W1 : World} {g s : Nat} (hb : Below W.heap.size W W1) (hg : g < W.heap.size) (hs : s < W.heap.size) : KeepP W W1 g s :=
  ⟨hb.size, fun i hi ha hf => ⟨hb.block i hi, ha.same (hb.block g hg), hf.same (hb.block s hs)⟩⟩
theorem KeepP.F {W W1 : World} {g s n : Nat} {ok : Nat → Prop} {A : Option Addr} {xs : List Int} {k : IntKind} (hk : KeepP W W1 g s) (h : Kd.F (Kd.int k) W ok A n xs) (ha : ∀ i, ok i → ApartW W g i ∧ ApartF W s i) : Kd.F (Kd.int k) W1 ok A n xs :=
  Kd.F_step h (fun i ho hlt => (hk.2 i hlt (ha i ho).1 (ha i ho).2).1)
theorem KeepP.blk {W W1 : World} {g s b : Nat} {o : Obj} (hk : KeepP W W1 g s) (h : W.heap[b]? = some o) (ha : ApartW W g b) (hf : ApartF W s b) : W1.heap[b]? = some o := (hk.2 b (blk_lt h) ha hf).1.trans h
theorem KeepP.R {W W1 : World} {g s base e : Nat} {ok : Nat → Prop} {v : Value} {xs : List Int} {k : IntKind} (hk : KeepP W W1 g s) (h : Kd.R (Kd.int k) e W base ok v xs) (ha : ∀ i, some i = v.ownBlock → ApartW W g i ∧ ApartF W s i) : Kd.R (Kd.int k) e W1 base ok v xs :=
  Kd.R_mono (Kd.R_step (Kd.R_tight2 rfl h) (fun i ho hlt => (hk.2 i hlt (ha i ho.1).1 (ha i ho.1).2).1)) (fun i ho => ho.2)
theorem Pair.apartF {W : World} {g s B : Nat} {e e' : Int} {l l' : List Int} (h : Pair W g s B e l e' l') : ApartF W s g :=
  ⟨fun x => h.a.1 x.symm, fun e v hv hq => (h.r g e v hv hq.symm).1 rfl⟩
/-- The program's writer writes. -/
theorem Pair.progress {W W' : World} {g s B : Nat} {e e' e2 : Int} {l l' l2 : List Int} (h : Pair W g s B e l e' l') (hw : WrAt W' g B e2 l2) (hk : KeepW W W' g) : Pair W' g s B e2 l2 e' l' ∧ KeepP W W' g s := by
  obtain ⟨v, hv, hR, hB⟩ := h.f
  have hs : W'.heap[s]? = W.heap[s]? := (hk.2 s (blk_lt hv) h.a).1
  have hrow : ∀ i, v.ownBlock = some i → W'.heap[i]? = W.heap[i]? ∧ ApartW W' g i := fun i hi => hk.2 i (Kd.R_lt hR i hi) (h.r i e' v hv hi)
  refine ⟨⟨hw, ⟨v, hs.trans hv, ?_, hB⟩, (hk.2 s (blk_lt hv) h.a).2, fun i e1 v1 hv1 hi => ?_⟩, hk.1, fun i hi ha hf => ⟨(hk.2 i hi ha).1, (hk.2 i hi ha).2, hf.same hs⟩⟩
  · exact Kd.R_mono (Kd.R_step (Kd.R_tight rfl hR) (fun i ho _ => (hrow i ho.symm).1)) (fun _ _ => trivial)
  · have h9 := (hs.trans hv).symm.trans hv1
    simp only [Option.some.injEq, Obj.cells.injEq] at h9
    have h8 := h9.1
    simp at h8
    exact (hrow i (by rw [h8.1]; exact hi)).2
/-- The document's writer writes. -/
theorem Pair.document {W W' : World} {g s B : Nat} {e e' e2 : Int} {l l' l2 : List Int} (h : Pair W g s B e l e' l') (hw : WfAt W' s B e2 l2) (hk : KeepF W W' s) : Pair W' g s B e l e2 l2 ∧ KeepP W W' g s := by
  obtain ⟨v, hv, hR, hB⟩ := h.w
  have hg2 := hk.2 g (blk_lt hv) h.apartF
  have hg : W'.heap[g]? = W.heap[g]? := hg2.1
  have hrow : ∀ i, v.ownBlock = some i → W'.heap[i]? = W.heap[i]? ∧ ApartF W' s i := fun i hi => hk.2 i (Kd.R_lt hR i hi) ⟨fun x => by have := h.a.2 e v hv; rw [hi, x] at this; exact this rfl, fun e1 v1 hv1 hq => by have := (h.r i e1 v1 hv1 hq.symm).2 e v hv; rw [hi] at this; exact this rfl⟩
  refine ⟨⟨⟨v, hg.trans hv, ?_, hB⟩, hw, h.a.same hg, fun i e1 v1 hv1 hi => ?_⟩, hk.1, fun i hi ha hf => ⟨(hk.2 i hi hf).1, ha.same hg, (hk.2 i hi hf).2⟩⟩
  · exact Kd.R_mono (Kd.R_step (Kd.R_tight rfl hR) (fun i ho _ => (hrow i ho.symm).1)) (fun _ _ => trivial)
  · refine ⟨fun x => hg2.2.2 e1 v1 hv1 (by rw [hi, x]), fun e3 v3 hv3 hq => ?_⟩
    have h9 := (hg.trans hv).symm.trans hv3
    simp only [Option.some.injEq, Obj.cells.injEq] at h9
    have h8 := h9.1
    simp at h8
    have hq2 : v.ownBlock = some i := by rw [h8.2]; exact hq.symm
    exact (hrow i hq2).2.2 e1 v1 hv1 (by rw [hi])
/-- Another block is written. -/
theorem Pair.grown {W W' : World} {g s B o : Nat} {e e' : Int} {l l' : List Int} (h : Pair W g s B e l e' l') (hg : W.grownBy W' (some o)) (h1 : ApartW W g o) (h2 : ApartF W s o) : Pair W' g s B e l e' l' := by
  obtain ⟨v, hv, hR, hB⟩ := h.w
  obtain ⟨v', hv', hR', hB'⟩ := h.f
  have hgs : W'.heap[g]? = W.heap[g]? := hg.block g (blk_lt hv) (fun x => h1.1 (Option.some.inj x).symm)
  have hss : W'.heap[s]? = W.heap[s]? := hg.block s (blk_lt hv') (fun x => h2.1 (Option.some.inj x).symm)
  refine ⟨⟨v, hgs.trans hv, Kd.R_grown2 hR rfl hg (fun k x => by cases x; exact h1.2 _ _ hv), hB⟩, ⟨v', hss.trans hv', Kd.R_grown2 hR' rfl hg (fun k x => by cases x; exact h2.2 _ _ hv'), hB'⟩, h.a.same hgs, fun i e1 v1 hv1 hi => (h.r i e1 v1 (hss.symm.trans hv1) hi).same hgs⟩
theorem KeepP.grown {W W1 W' : World} {g s o : Nat} (hk : KeepP W W1 g s) (hg : W1.grownBy W' (some o)) (ho : W.heap.size ≤ o) (hgl : g < W.heap.size) (hsl : s < W.heap.size) : KeepP W W' g s :=
  ⟨Nat.le_trans hk.1 hg.size, fun i hi ha hf => by
    have h1 := hk.2 i hi ha hf
    have hne : ∀ j, j < W.heap.size → W'.heap[j]? = W1.heap[j]? := fun j hj => hg.block j (Nat.lt_of_lt_of_le hj hk.1) (fun x => by have := Option.some.inj x; omega)
    exact ⟨(hne i hi).trans h1.1, h1.2.1.same (hne g hgl), h1.2.2.same (hne s hsl)⟩⟩
theorem Pair.below {W W' : World} {g s B : Nat} {e e' : Int} {l l' : List Int} (h : Pair W g s B e l e' l') (hb : Below W.heap.size W W') : Pair W' g s B e l e' l' ∧ KeepP W W' g s :=
  have hg := h.w.row_lt
  have hs := h.f.row_lt
  ⟨⟨h.w.below hb, h.f.below hb, h.a.same (hb.block g hg), fun i e1 v1 hv1 hi => (h.r i e1 v1 ((hb.block s hs).symm.trans hv1) hi).same (hb.block g hg)⟩, KeepP.below hb hg hs⟩
/-- A writer of the document's that is new. -/
theorem Pair.new {W W' : World} {g s B B' : Nat} {e e' : Int} {l l' : List Int} (h : WrAt W g B e l) (hb : Below W.heap.size W W') (hf : WfAt W' s B' e' l') (hs : W.heap.size ≤ s) (hB : B ≤ B') (hnil : l' = []) (hv : ∃ e1, W'.heap[s]? = some (.cells #[.slice none 0 0, .int .i64 e1] 31 (0, 0))) : Pair W' g s B e l e' l' := by
  obtain ⟨v, h1, h2, h3⟩ := hf
  obtain ⟨e1, he1⟩ := hv
  have h9 := h1.symm.trans he1
  simp only [Option.some.injEq, Obj.cells.injEq] at h9
  have h8 := h9.1
  simp at h8
  refine ⟨h.below hb, ⟨v, h1, Kd.R_lower h2 hB, Nat.le_trans hB h3⟩, apart_new h hb hs, fun i e2 v2 hv2 hi => ?_⟩
  have h7 := h1.symm.trans hv2
  simp only [Option.some.injEq, Obj.cells.injEq] at h7
  have h6 := h7.1
  simp at h6
  rw [← h6.1, h8.1] at hi
  cases hi
end Go.Proofs.Ytmhmmmkpijbbiaa.M
