/- rank: AppendSeq, Collect. Written by wip/gen/rkcoll.py. -/
import Derived.Test.YtonofmnjcocokaaRkSeq
namespace Go.Proofs.Ytonofmnjcocokaa.Rk
open Go.Shelf
open Go.RowKit Go.Proofs.YtonofmnjcocokaaW.PrintWords Go.Proofs.YtonofmnjcocokaaW.PrintLast Go.Proofs.YtonofmnjcocokaaW.PrintMore Go.Proofs.Ytonofmnjcocokaa.X Go.Proofs.Ytonofmnjcocokaa.M Go.Proofs.Ytonofmnjcocokaa.Bv Go.Proofs.Ytonofmnjcocokaa.PuLib Go.Proofs.Ytonofmnjcocokaa.PuMix
attribute [local go_sem] max2_int min2_int max_two min_two max_three min_three max_four min_four
attribute [local go_sem] Oper.semAt_some
set_option linter.unusedVariables false
set_option linter.unusedSimpArgs false
theorem blk_kept {W W' : World} {row : Option Nat} {b t : Nat} {cs : Array Value} (h : W.heap[b]? = some (.cells cs t (0, 0))) (hg : W.grownBy W' row) (hr : ∀ r, row = some r → ∃ o : Obj, W.heap[r]? = some o ∧ o.isCells = false) : W'.heap[b]? = some (.cells cs t (0, 0)) := by
  refine (hg.block b (Array.getElem?_eq_some_iff.1 h).1 (fun e => ?_)).trans h
  obtain ⟨o, ho, hc⟩ := hr b e.symm
  rw [h] at ho
  cases ho
  cases hc
theorem R_kept {α : Type} {d : Kd α} {e base : Nat} {ok : Nat → Prop} {W W' : World} {v : Value} {xs : List α} {row : Option Nat} (h : d.R e W base ok v xs) (hg : W.grownBy W' row) (hr : ∀ r, row = some r → ∃ o : Obj, W.heap[r]? = some o ∧ o.isCells = false) : d.R e W' base ok v xs :=
  Kd.R_mono (Kd.R_grown (Kd.R_bound h) hg (fun k hk e => by
    obtain ⟨_, _, _, q, _, cells, hc⟩ := hk
    obtain ⟨o, ho, hoc⟩ := hr k e.symm
    rw [hc] at ho
    cases ho
    cases hoc)) (fun _ hk => hk.1)
theorem append_S (W : World) (base : Nat) (v : Value) (xs : List (Int × Int)) (x : Int × Int) (HO : Kd.R kS 57 W base (fun _ => True) v xs) (hbase : base ≤ W.heap.size) (hl : xs.length ≤ 1000000) :
    ∃ v1 w1, (Builtin.append_ #[54, 54] 54 #[v, .slice (some ⟨W.heap.size, 0, none⟩) 1 1]).run Try.prog (W.alloc (.cells #[.int .i64 x.1, .int .u64 x.2] 57)) = .ok v1 w1 ∧ Kd.R kS 57 w1 base (fun _ => True) v1 (xs ++ [x]) ∧ W.grownBy w1 v.ownBlock := by
  obtain ⟨h0, inner, hown, hr⟩ := HO
  obtain ⟨i, hi, hz⟩ := Option.map_eq_some_iff.1 infoS
  simp only [Prod.mk.injEq] at hz
  obtain ⟨v1, w1, hrun, hown1, hg, _, hat⟩ := run_append_own_at (P := Try.prog) (w := W.alloc (.cells #[.int .i64 x.1, .int .u64 x.2] 57)) base 54 54 57 i _ 2 16 Try.underlying54 hi hz.1 hz.2.1 hz.2.2 rfl (by omega) v xs.length inner (hown.alloc _) ⟨W.heap.size, 0, none⟩ 1 1 [.int .i64 x.1, .int .u64 x.2] rfl
    (by simpa using World.news_of_block (cs := #[.int .i64 x.1, .int .u64 x.2]) (t := 57) (fr := (0, 0)) (heap_alloc_new W _)) (by intro u hu; simp at hu; rcases hu with rfl | rfl <;> rfl) (by simp only [maxLen]; omega) (by omega) (by simp; omega)
  refine ⟨v1, w1, hrun, Kd.R_appended h0 hr (kS_mkM W base (fun k => some k ≠ v.ownBlock) x) (fun k hk => ⟨trivial, hk⟩) (fun _ _ => trivial) hown1 (World.grownBy.trans (World.grownBy_alloc W _ _) hg) ?_, World.grownBy.trans (World.grownBy_alloc W _ _) hg⟩
  rcases hat with hat | hat
  · exact .inl hat
  · exact .inr ⟨_, hat, by simp⟩
theorem append_S_in {F : Fence} {m : Nat} {ops : Array Oper} {rest : List Oper} {o : Oper} {a : Act} {Q : Exit → Act → World → Prop} (hgd : o.guard = none) (s y : Operand)
    (hop : o.op = .call { callee := .builtin .append, args := #[s, y], argTypes := #[54, 54] }) (hty : o.type = 54) (W : World) (base g : Nat) (v : Value) (xs : List (Int × Int)) (x : Int × Int) (hs : a.eval s = v) (hx : a.eval y = .slice (some ⟨g, 0, none⟩) 1 1) (hgs : g = W.heap.size)
    (HO : Kd.R kS 57 W base (fun _ => True) v xs) (hbase : base ≤ W.heap.size) (hl : xs.length ≤ 1000000)
    (h : ∀ v1 w1, Kd.R kS 57 w1 base (fun _ => True) v1 (xs ++ [x]) → W.grownBy w1 v.ownBlock → wpListIn F m Try.prog ops Q rest (a.put o.dst v1) w1) :
    wpListIn F m Try.prog ops Q (o :: rest) a (W.alloc (.cells #[.int .i64 x.1, .int .u64 x.2] 57)) := by
  subst hgs
  refine wpListIn_plain hgd fun K hK' => ?_
  obtain ⟨v1, w1, hrun, hr, hg⟩ := append_S W base v xs x HO hbase hl
  unfold Oper.wpIn
  refine ⟨?_, ?_⟩
  · simp [Oper.about, hop, resolve, Target.leads, Sem.run_pure]
  · rw [Oper.semAt_plain F _ _ (by rw [hop]; intro c hc'; cases hc')]
    simp [execOp, hop, hty, resolve, invoke, builtin, hs, hx, hrun, Result.andThen]
    exact hK' _ _ (h v1 w1 hr hg)
theorem setCell_grown (W : World) (g i : Nat) (v : Value) : W.grownBy (W.setCell ⟨g, i, none⟩ v) (some g) := by
  refine ⟨rfl, rfl, rfl, by simp, fun k _ hk => Below.heap_setCell W ⟨g, i, none⟩ v k (fun e => hk (by rw [e]))⟩
def CI (w : World) (bo : Nat) (pre : List (Int × Int)) (W : World) : Prop := (∃ v, W.heap[bo]? = some (.cells #[v] 54 (0, 0)) ∧ Kd.R kS 57 W (bo + 1) (fun _ => True) v pre) ∧ Below w.heap.size w W ∧ bo + 1 ≤ W.heap.size
set_option maxRecDepth 100000 in
set_option maxHeartbeats 4000000 in
theorem appendseq_calls (Bs : Nat) (A : Option Addr) (p c : Nat) (xs : List (Int × Int)) (hp : p = xs.length) (hl : p ≤ 3000) (w : World) (hc0 : w.heap[Bs]? = some (.cells #[.slice A p c] 54 (0, 0))) (hF : Kd.F kS w (fun k => k < w.heap.size) A p xs) :
    Calls Try.prog 41 #[.slice none 0 0, .func (.func 38) #[] #[.pointer (some ⟨Bs, 0, none⟩)]] w fun e w' => ∃ v, e = .returned v ∧ Kd.R kS 57 w' (w.heap.size + 1) (fun _ => True) v xs ∧ Below w.heap.size w w' := by
  have HST := Aside0.mk (seq_stops 2 (by omega) Bs w.heap.size A p c xs hp hl (blk_lt hc0) w hc0 (Nat.le_refl _) hF)
  clear hp hl hc0 hF
  have hro : Fence.wide.round = none := rfl
  refine (callsIn_wide (n := 3)).1 ?_
  refine callsIn_of_wp_marks Try.func41 rfl trivial ?_ hro
  simp only [Try.ntmps41, List.size_toArray, List.length_cons, List.length_nil, Nat.reduceAdd, Nat.reduceSub, Array.replicate_succ, Array.replicate_zero, List.push_toArray, List.append_toArray, List.nil_append, List.cons_append]
  gi_wp2
  obtain ⟨bo, hbo⟩ : ∃ bo, bo = w.heap.size := ⟨_, rfl⟩
  obtain ⟨w3, hw3⟩ : ∃ w3, w3 = w.alloc (.cells #[.slice none 0 0] 54) := ⟨_, rfl⟩
  have h0 : w3.heap[bo]? = some (.cells #[.slice none 0 0] 54 (0, 0)) := by rw [hw3, hbo]; exact blk_new w _
  have hsz : w3.heap.size = bo + 1 := by rw [hw3, hbo]; simp
  have hB3 : Below w.heap.size w w3 := by rw [hw3]; exact below_alloc (Below.refl _ _) _
  rw [← hw3, ← hbo]
  have HBO := Aside0.mk (show w.heap.size = bo by omega)
  clear hw3 hbo
  refine wpIn_rangeFunc_ownH hro (by omega) (gf := 38) (lb := #[.pointer (some ⟨Bs, 0, none⟩)]) rfl trivial (enters_of Try.func38 (by kernel_rfl) rfl)
    HST.out (fun h k q hq => (k q hq).trans (h q hq)) (fun W l o o' hl ho _ _ q hq => World.putObj_heap_other (by have h1 := HBO.out; omega)) hB3 (fun _ => rfl)
    (CI w bo)
    (fun _ _ _ => False)
    (fun pre W W' row hs hg hr => by
      obtain ⟨⟨v, hv, hR⟩, hB, hz⟩ := hs
      exact ⟨⟨v, blk_kept hv hg (fun r e => (hr r e).2), R_kept hR hg (fun r e => (hr r e).2)⟩, hB.grown hg hB.size (fun r e => by have h4 := (hr r e).1; have h5 := HBO.out; omega), Nat.le_trans hz hg.size⟩)
    (fun _ _ _ _ _ hs _ _ => hs)
    ⟨⟨_, h0, Kd.R_nil _ _ _ _ _⟩, hB3, by omega⟩
    (fun x a' W => ∃ b5, a' = ({ tmps := #[.slice none 0 0, .func (.func 38) #[] #[.pointer (some ⟨Bs, 0, none⟩)], .pointer (some ⟨bo, 0, none⟩), undef, .slice none 0 0, .pointer (some ⟨b5, 0, none⟩), .func (.func 38) #[] #[.pointer (some ⟨Bs, 0, none⟩)], sv x, undef, undef, undef, undef, undef], defers := [] } : Act) ∧ W.heap[b5]? = some (.cells #[.int .i64 x.1, .int .u64 x.2] 57 (0, 0)) ∧ bo + 1 ≤ b5)
    (fun x a' _ W W' row h hg hr => by
      obtain ⟨b5, e, h5, hle⟩ := h
      exact ⟨b5, e, blk_kept h5 hg (fun r e => (hr r e).2), hle⟩)
    ?assign ?body ?done ?stop
  case assign =>
    intro l pre x W K hI hK
    gi_wp2
    obtain ⟨⟨v, hv, hR⟩, hB, hz⟩ := hI
    exact hK _ _ ((KeepsOthers.alloc _ _).from _) (fun q hq => Below.heap_alloc _ _ _ (by have h1 := HBO.out; omega)) ⟨⟨v, blk_alloc hv _, Kd.R_alloc hR _⟩, below_alloc hB _, by simp; omega⟩ ⟨_, rfl, blk_new W _, hz⟩
  case body =>
    rintro l pre x a' W hll hrec ⟨⟨v, hbo, hR⟩, hB, hz3⟩ ⟨b5, rfl, h5, hle5⟩ hpl
    obtain ⟨A1, k1, rfl⟩ := Kd.R_slice hR
    have HR := Aside0.mk hR
    have HBK := Aside0.mk hbo
    have HBW := Aside0.mk hB
    have HPL := Aside0.mk hpl
    have HZ3 := Aside0.mk hz3
    have hc0 := blk_cell hbo 0
    have hd0 := blk_cell h5 0
    have hd1 := blk_cell h5 1
    simp at hc0 hd0 hd1
    clear hbo hR hB hpl hz3 h0 hB3 h5 hrec
    gi_wp2_with (gi_at_builtin; refine append_S_in rfl (.tmp 8) (.tmp 10) rfl rfl W (bo + 1) _ (.slice A1 pre.length k1) pre x rfl rfl rfl HR.out HZ3.out (Nat.le_of_lt HPL.out) ?_; intro v8 w8 hr8 hg8; obtain ⟨A8, k8, rfl⟩ := Kd.R_slice hr8; have HR8 := Aside0.mk hr8; have H8 := Aside0.mk (blk_grown HBK.out hg8 (fun e => by have h1 := Kd.R_base HR.out bo e.symm; omega)); have HG8 := Aside0.mk hg8; have hc8 := blk_cell H8.out 0; have hf8 := blk_frozen H8.out 0; simp at hc8; clear hr8 hg8 hc0 hd0 hd1)
    have hown : ∀ k, (Value.slice A1 pre.length k1).ownBlock = some k → bo + 1 ≤ k := Kd.R_base HR.out
    have ko3 : KeepsOthers W w8 := KeepsOthers.of_grownBy HG8.out (fun j o e ho => by
      obtain ⟨cells, hc⟩ := Kd.R_typed HR.out j e
      rw [hc] at ho
      cases ho
      rfl)
    have hb8 : Below w.heap.size w w8 := HBW.out.grown HG8.out HBW.out.size (fun k e => by have h1 := hown k e; have h2 := HBO.out; omega)
    have hz3 := HZ3.out
    have hbo := HBO.out
    refine ⟨(ko3.trans (KeepsOthers.setCell _ _ _)).from _, ?_, ⟨_, blk_put (cs := #[.slice A1 pre.length k1]) H8.out 0 _ rfl, ?_⟩, hb8.setCell (p := ⟨bo, 0, none⟩) (by dsimp only; omega) _, ?_⟩
    · intro k hk
      have hkb : k ≠ bo := by omega
      rw [Below.heap_setCell w8 ⟨bo, 0, none⟩ _ k hkb]
      exact HG8.out.block k (by omega) (fun e => by have h1 := hown k e.symm; omega)
    · have hr8 := Kd.R_grown2 HR8.out rfl (setCell_grown w8 bo 0 (.slice A8 (pre ++ [x]).length k8)) (fun k e hk => by injection e with e; have h1 := Kd.R_base HR8.out k hk.symm; omega)
      rw [List.length_append, List.length_singleton] at hr8
      exact hr8
    · have h1 := HG8.out.size
      have h2 := (setCell_grown w8 bo 0 (.slice A8 (pre.length + 1) k8)).size
      omega
  case done =>
    rintro D ys W hD rfl ⟨⟨v, hbo, hR⟩, hB, _⟩ hK
    have hc0 := blk_cell hbo 0
    simp at hc0
    obtain ⟨A1, k1, rfl⟩ := Kd.R_slice hR
    have HR := Aside0.mk hR
    have HB := Aside0.mk hB
    have HK := Aside0.mk hK
    clear hbo hR hB hK h0 hB3
    gi_wp2
    refine ⟨by simp, .inl ⟨_, _, rfl, run_takeDeferred HK.out, ?_⟩⟩
    have hkd : ∀ r, some D = some r → ∃ o : Obj, W.heap[r]? = some o ∧ o.isCells = false := fun r e => by injection e with e; subst e; exact ⟨_, HK.out, rfl⟩
    refine ⟨_, results_tmp rfl _ _ _, _, rfl, ?_, ?_⟩
    · have hr := R_kept HR.out (grownBy_putObj' W D (.deferred none)) hkd
      rw [← HBO.out] at hr
      exact hr
    · exact HB.out.grown (grownBy_putObj' W D (.deferred none)) HB.out.size (fun k e => by injection e with e; have h1 := HBO.out; omega)
  case stop =>
    rintro D c pre W _ _ h _
    exact h.elim
set_option maxRecDepth 100000 in
theorem collect_calls (Bs : Nat) (A : Option Addr) (p c : Nat) (xs : List (Int × Int)) (hp : p = xs.length) (hl : p ≤ 3000) (w : World) (hc0 : w.heap[Bs]? = some (.cells #[.slice A p c] 54 (0, 0))) (hF : Kd.F kS w (fun k => k < w.heap.size) A p xs) :
    Calls Try.prog 36 #[.func (.func 38) #[] #[.pointer (some ⟨Bs, 0, none⟩)]] w fun e w' => ∃ v, e = .returned v ∧ Kd.R kS 57 w' (w.heap.size + 1) (fun _ => True) v xs ∧ Below w.heap.size w w' := by
  have HA := Aside0.mk (appendseq_calls Bs A p c xs hp hl w hc0 hF)
  clear hp hl hc0 hF
  go_enter Try.func36, Try.ntmps36
  go_wp2_with fail
  (with_reducible refine HA.out.mono ?_)
  rintro en w2 ⟨v, rfl, hr, hb⟩
  have HR := Aside0.mk hr
  have HB := Aside0.mk hb
  clear hr hb
  go_wp2_with fail
  go_ret
  exact ⟨_, rfl, HR.out, HB.out⟩
end Go.Proofs.Ytonofmnjcocokaa.Rk
