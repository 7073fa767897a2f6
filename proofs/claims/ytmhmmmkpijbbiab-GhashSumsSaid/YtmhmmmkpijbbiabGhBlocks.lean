/- ghash: bytes are laid in blocks. Written by wip/gen/ghblocks.py. -/
import Derived.Test.YtmhmmmkpijbbiabGhChunk
namespace Go.Proofs.Ytmhmmmkpijbbiab.Gh
open Go.Shelf
open Go.RowKit Go.Proofs.YtmhmmmkpijbbiabW.PrintWords Go.Proofs.YtmhmmmkpijbbiabW.PrintLast Go.Proofs.YtmhmmmkpijbbiabW.PrintMore Go.Proofs.Ytmhmmmkpijbbiab.X Go.Proofs.Ytmhmmmkpijbbiab.M Go.Proofs.Ytmhmmmkpijbbiab.Bv Go.Proofs.Ytmhmmmkpijbbiab.Gf Go.Proofs.Ytmhmmmkpijbbiab.Arr Go.Proofs.Ytmhmmmkpijbbiab.ArrX Go.Proofs.Ytmhmmmkpijbbiab.PuLib Go.Proofs.Ytmhmmmkpijbbiab.PuCat
attribute [local go_sem] max2_int min2_int max_two min_two max_three min_three max_four min_four
attribute [local go_sem] Oper.semAt_some
set_option linter.unusedVariables false
set_option linter.unusedSimpArgs false
/-- The element of sixteen bytes. -/
def ofB (l : List Int) : Nat := (numS (l.take 8)).toNat * 18446744073709551616 + (numS (l.drop 8)).toNat
theorem ofB_bytesN {y : Nat} (hy : y < top) : ofB (bytesN y) = y := by
  have e1 : (bytesN y).take 8 = putL (E y).1 8 := by rw [← bytes_E, List.take_left' (putL_length _ _)]
  have e2 : (bytesN y).drop 8 = putL (E y).2 8 := by rw [← bytes_E, List.drop_left' (putL_length _ _)]
  have w := word_lt hy
  unfold ofB
  rw [e1, e2, numS_putL, numS_putL, show (256 : Int) ^ 8 = 18446744073709551616 by decide, show (E y).1 % 18446744073709551616 = (E y).1 from Int.emod_eq_of_lt w.1.1 w.1.2, show (E y).2 % 18446744073709551616 = (E y).2 from Int.emod_eq_of_lt w.2.1 w.2.2]
  show (((y / 18446744073709551616 : Nat) : Int)).toNat * 18446744073709551616 + (((y % 18446744073709551616 : Nat) : Int)).toNat = y
  rw [Int.toNat_natCast, Int.toNat_natCast]
  omega
theorem bytesN_ofB (l : List Int) (hb : ∀ x ∈ l, 0 ≤ x ∧ x < 256) (hl : l.length = 16) : ofB l < top ∧ bytesN (ofB l) = l := by
  obtain ⟨y, hy, rfl⟩ := bytes_all l hb hl
  rw [ofB_bytesN hy]
  exact ⟨hy, rfl⟩
def pad (l : List Int) : List Int := l ++ List.replicate (16 - l.length) 0
theorem pad_length {l : List Int} (h : l.length ≤ 16) : (pad l).length = 16 := by unfold pad; rw [List.length_append, List.length_replicate]; omega
theorem pad_mem {l : List Int} (hb : ∀ x ∈ l, 0 ≤ x ∧ x < 256) : ∀ x ∈ pad l, 0 ≤ x ∧ x < 256 := by
  intro x hx
  unfold pad at hx
  rcases List.mem_append.1 hx with hx | hx
  · exact hb x hx
  · rw [(List.mem_replicate.1 hx).2]; omega
def part (l : List Int) (x : Nat) : List Int := (l.drop (16 * x)).take 16
theorem part_length (l : List Int) (x : Nat) : (part l x).length = min 16 (l.length - 16 * x) := by unfold part; rw [List.length_take, List.length_drop]
theorem part_mem {l : List Int} (hb : ∀ x ∈ l, 0 ≤ x ∧ x < 256) (k : Nat) : ∀ x ∈ part l k, 0 ≤ x ∧ x < 256 := fun x hx => hb x (List.mem_of_mem_drop (List.mem_of_mem_take hx))
def blk16 (l : List Int) (x : Nat) : Nat := ofB (pad (part l x))
theorem blk16_lt {l : List Int} (hb : ∀ x ∈ l, 0 ≤ x ∧ x < 256) (x : Nat) : blk16 l x < top := (bytesN_ofB _ (pad_mem (part_mem hb x)) (pad_length (by rw [part_length]; omega))).1
theorem blk16_bytes {l : List Int} (hb : ∀ x ∈ l, 0 ≤ x ∧ x < 256) (x : Nat) : bytesN (blk16 l x) = pad (part l x) := (bytesN_ofB _ (pad_mem (part_mem hb x)) (pad_length (by rw [part_length]; omega))).2
def blocksN (l : List Int) : List Nat := (parts l.length).map (blk16 l)
theorem blocksN_lt {l : List Int} (hb : ∀ x ∈ l, 0 ≤ x ∧ x < 256) : ∀ b ∈ blocksN l, b < top := by
  intro b hbm
  obtain ⟨x, _, rfl⟩ := List.mem_map.1 hbm
  exact blk16_lt hb x
theorem blocksN_length (l : List Int) : (blocksN l).length = (l.length + 15) / 16 := by unfold blocksN parts; rw [List.length_map, List.length_range]
theorem blk_kept {W W' : World} {row : Option Nat} {b t : Nat} {cs : Array Value} (h : W.heap[b]? = some (.cells cs t (0, 0))) (hg : W.grownBy W' row) (hr : ∀ r, row = some r → ∃ o : Obj, W.heap[r]? = some o ∧ o.isCells = false) : W'.heap[b]? = some (.cells cs t (0, 0)) := by
  refine (hg.block b (Array.getElem?_eq_some_iff.1 h).1 (fun e => ?_)).trans h
  obtain ⟨o, ho, hc⟩ := hr b e.symm
  rw [h] at ho
  cases ho
  cases hc
theorem R_kept {α : Type} {d : Kd α} {e base : Nat} {ok : Nat → Prop} {W W' : World} {v : Value} {xs : List α} {row : Option Nat} (h : d.R e W base ok v xs) (hg : W.grownBy W' row) (hr : ∀ r, row = some r → ∃ o : Obj, W.heap[r]? = some o ∧ o.isCells = false) : d.R e W' base ok v xs :=
  Kd.R_mono (Kd.R_grown (Kd.R_bound h) hg (fun k hk e => by
    obtain ⟨_, _, _, q, _, cells, hc⟩ := hk
    obtain ⟨o, ho, hoc⟩ := hr k e.symm
    rw [hc] at ho
    cases ho
    cases hoc)) (fun _ hk => hk.1)
theorem setRow_grown {W : World} {b t : Nat} {cs : Array Value} (cs' : Array Value) : W.grownBy (W.setRow b cs') (some b) :=
  ⟨rfl, rfl, rfl, by simp, fun k _ hk => setRow_other W b k cs' (fun e => hk (by rw [e]))⟩
theorem C_blk {w : World} {x t : Nat} (xs : List Int) (hb : w.heap[x]? = some (.cells (xs.map (Value.int .u8)).toArray t (0, 0))) (hl : xs.length ≤ 9223372036854775807) : Kd.C (Kd.int .u8) w (some ⟨x, 0, none⟩) xs.length xs := by
  refine ⟨rfl, hl, fun _ => ⟨_, rfl, fun j p hj => ⟨[.int .u8 p], rfl, rfl, fun i u hu => ?_⟩⟩⟩
  obtain ⟨hi, hv2⟩ := List.getElem?_eq_some_iff.1 hu
  obtain rfl : i = 0 := by simp at hi; omega
  simp only [List.getElem_cons_zero] at hv2
  subst hv2
  have h := cell_of_row w x j _ t (0, 0) hb
  have he : (⟨x, 0, none⟩ : Addr).add (j * (Kd.int .u8).sz + 0) = ⟨x, j, none⟩ := by
    have hsz : (Kd.int .u8).sz = 1 := rfl
    rw [Addr.add_mid, hsz]
    congr 1
    omega
  rw [he, h]
  simp [hj]
theorem info1_ : (Try.prog.info? 5).map (·.size) = some 1 := by
  obtain ⟨i, hi, hz⟩ := Option.map_eq_some_iff.1 M.info5
  simp only [Prod.mk.injEq] at hz
  rw [hi]
  exact congrArg some hz.2.1
/-- copy(whole[:], part). -/
theorem copy_part (W : World) (b t : Nat) (A' : Option Addr) (m : List Int) (cc : Nat) (hm : m.length ≤ 16) (hC : Kd.C (Kd.int .u8) W A' m.length m) (hb : W.heap[b]? = some (.cells #[.int .u8 0, .int .u8 0, .int .u8 0, .int .u8 0, .int .u8 0, .int .u8 0, .int .u8 0, .int .u8 0, .int .u8 0, .int .u8 0, .int .u8 0, .int .u8 0, .int .u8 0, .int .u8 0, .int .u8 0, .int .u8 0] t (0, 0))) :
    ∃ w1, (Builtin.copy_ #[22, 22] 3 #[.slice (some ⟨b, 0, none⟩) 16 16, .slice A' m.length cc]).run Try.prog W = .ok (.int .i64 m.length) w1 ∧ w1.heap[b]? = some (.cells ((pad m).map (Value.int .u8)).toArray t (0, 0)) ∧ W.grownBy w1 (some b) := by
  rcases Nat.eq_zero_or_pos m.length with h0 | hp
  · refine ⟨W, ?_, ?_, World.grownBy.refl _ _⟩
    · rw [h0]
      exact run_copy_none W _ _ _ 5 _ A' 16 16 0 cc Try.underlying22 info1_ rfl
    · rw [hb, show m = [] from List.eq_nil_of_length_eq_zero h0]
      rfl
  · obtain ⟨ad, rfl, hcell⟩ := hC.2.2 hp
    have hn : (m.map (Value.int .u8)).length = Nat.min m.length 16 := by rw [List.length_map]; exact (Nat.min_eq_left hm).symm
    have hrun := run_copy_row (P := Try.prog) W 22 22 3 5 b 0 16 16 ad m.length cc #[.int .u8 0, .int .u8 0, .int .u8 0, .int .u8 0, .int .u8 0, .int .u8 0, .int .u8 0, .int .u8 0, .int .u8 0, .int .u8 0, .int .u8 0, .int .u8 0, .int .u8 0, .int .u8 0, .int .u8 0, .int .u8 0] t (m.map (Value.int .u8)) Try.underlying22 info1_ hb hn (fun j v hv => by
      rw [List.getElem?_map] at hv
      obtain ⟨p, hpj, rfl⟩ := Option.map_eq_some_iff.1 hv
      obtain ⟨cs, _, hK, hc⟩ := hcell j p hpj
      have hK' : cs = [.int .u8 p] := hK
      subst hK'
      have h1 := hc 0 (.int .u8 p) rfl
      rw [show j * (Kd.int .u8).sz + 0 = j from (show j * 1 + 0 = j by omega)] at h1
      exact h1) (by rw [List.length_map]; show 0 + m.length ≤ 16; omega) (by
      intro v hv
      obtain ⟨p, _, rfl⟩ := List.mem_map.1 hv
      rfl)
    refine ⟨_, hrun.trans (by rw [List.length_map]; rfl), ?_, setRow_grown (t := 0) (cs := #[]) _⟩
    rw [setRow_heap W b _ _ t (0, 0) hb]
    refine congrArg (fun x => some (Obj.cells (List.toArray x) t (0, 0))) ?_
    unfold pad
    rw [List.map_append, List.map_replicate, List.take_zero, List.nil_append, Nat.zero_add]
    refine congrArg (fun x => m.map (Value.int .u8) ++ x) ?_
    have hz : (#[.int .u8 0, .int .u8 0, .int .u8 0, .int .u8 0, .int .u8 0, .int .u8 0, .int .u8 0, .int .u8 0, .int .u8 0, .int .u8 0, .int .u8 0, .int .u8 0, .int .u8 0, .int .u8 0, .int .u8 0, .int .u8 0] : Array Value).toList = List.replicate 16 (Value.int .u8 0) := by kernel_rfl
    rw [hz, List.drop_replicate]
theorem of16_calls (n : Nat) (hn : n < top) (g t : Nat) (w : World) (hb : w.heap[g]? = some (.cells ((bytesN n).map (Value.int .u8)).toArray t (0, 0))) :
    Calls Try.prog 26 #[.slice (some ⟨g, 0, none⟩) 16 16] w fun e w' => e = .returned (.tuple #[el n, .int .i64 0]) ∧ Below w.heap.size w w' := by
  have h := of_calls n hn (some ⟨g, 0, none⟩) 16 w (C_blk _ hb (by rw [bytesN_length]; omega)) (by rw [bytesN_length]; omega)
  rw [bytesN_length] at h
  exact h
theorem append_el (W : World) (base : Nat) (v : Value) (xs : List S36) (n : Nat) (HO : Kd.R k36 36 W base (fun _ => True) v xs) (hbase : base ≤ W.heap.size) (hl : xs.length ≤ 1000000) :
    ∃ v1 w1, (Builtin.append_ #[29, 29] 29 #[v, .slice (some ⟨W.heap.size, 0, none⟩) 1 1]).run Try.prog (W.alloc (.cells #[.int .u64 (E n).1, .int .u64 (E n).2] 36)) = .ok v1 w1 ∧ Kd.R k36 36 w1 base (fun _ => True) v1 (xs ++ [toS n]) ∧ W.grownBy w1 v.ownBlock := by
  obtain ⟨h0, inner, hown, hr⟩ := HO
  obtain ⟨i, hi, hz⟩ := Option.map_eq_some_iff.1 M.info36
  simp only [Prod.mk.injEq] at hz
  obtain ⟨v1, w1, hrun, hown1, hg, _, hat⟩ := run_append_own_at (P := Try.prog) (w := W.alloc (.cells #[.int .u64 (E n).1, .int .u64 (E n).2] 36)) base 29 29 36 i _ 2 16 Try.underlying29 hi hz.1 hz.2.1 hz.2.2 rfl (by omega) v xs.length inner (hown.alloc _) ⟨W.heap.size, 0, none⟩ 1 1 [.int .u64 (E n).1, .int .u64 (E n).2] rfl
    (by simpa using World.news_of_block (cs := #[.int .u64 (E n).1, .int .u64 (E n).2]) (t := 36) (fr := (0, 0)) (heap_alloc_new W _)) (by intro u hu; simp at hu; rcases hu with rfl | rfl <;> rfl) (by simp only [maxLen]; omega) (by omega) (by simp; omega)
  refine ⟨v1, w1, hrun, Kd.R_appended h0 hr (k36_mkM W base (fun k => some k ≠ v.ownBlock) (toS n)) (fun k hk => ⟨trivial, hk⟩) (fun _ _ => trivial) hown1 (World.grownBy.trans (World.grownBy_alloc W _ _) hg) ?_, World.grownBy.trans (World.grownBy_alloc W _ _) hg⟩
  rcases hat with hat | hat
  · exact .inl hat
  · exact .inr ⟨_, hat, by simp⟩
theorem append_el_in {F : Fence} {m : Nat} {ops : Array Oper} {rest : List Oper} {o : Oper} {a : Act} {Q : Exit → Act → World → Prop} (hgd : o.guard = none) (s x : Operand)
    (hop : o.op = .call { callee := .builtin .append, args := #[s, x], argTypes := #[29, 29] }) (hty : o.type = 29) (W : World) (base g : Nat) (v : Value) (xs : List S36) (n : Nat) (hs : a.eval s = v) (hx : a.eval x = .slice (some ⟨g, 0, none⟩) 1 1) (hgs : g = W.heap.size)
    (HO : Kd.R k36 36 W base (fun _ => True) v xs) (hbase : base ≤ W.heap.size) (hl : xs.length ≤ 1000000)
    (h : ∀ v1 w1, Kd.R k36 36 w1 base (fun _ => True) v1 (xs ++ [toS n]) → W.grownBy w1 v.ownBlock → wpListIn F m Try.prog ops Q rest (a.put o.dst v1) w1) :
    wpListIn F m Try.prog ops Q (o :: rest) a (W.alloc (.cells #[.int .u64 (E n).1, .int .u64 (E n).2] 36)) := by
  subst hgs
  refine wpListIn_plain hgd fun K hK' => ?_
  obtain ⟨v1, w1, hrun, hr, hg⟩ := append_el W base v xs n HO hbase hl
  unfold Oper.wpIn
  refine ⟨?_, ?_⟩
  · simp [Oper.about, hop, resolve, Target.leads, Sem.run_pure]
  · rw [Oper.semAt_plain F _ _ (by rw [hop]; intro c hc'; cases hc')]
    simp [execOp, hop, hty, resolve, invoke, builtin, hs, hx, hrun, Result.andThen]
    exact hK' _ _ (h v1 w1 hr hg)
theorem part_C (l : List Int) (A : Option Addr) (w : World) (hC : Kd.C (Kd.int .u8) w A l.length l) (x : Nat) : Kd.C (Kd.int .u8) w (A.map (·.add (16 * x))) (part l x).length (part l x) := by
  rcases Nat.lt_or_ge (16 * x) l.length with h | h
  · have h1 := Kd.C_mid (c := l.length + 1) (lo := 16 * x) (hi := 16 * x + min 16 (l.length - 16 * x)) hC (by omega) (by omega) (by omega)
    have e : (l.take (16 * x + min 16 (l.length - 16 * x))).drop (16 * x) = part l x := by
      unfold part
      rw [List.drop_take, Nat.add_sub_cancel_left]
      rcases Nat.le_total 16 (l.length - 16 * x) with h2 | h2
      · rw [Nat.min_eq_left h2]
      · rw [Nat.min_eq_right h2, List.take_of_length_le (by rw [List.length_drop]; omega), List.take_of_length_le (by rw [List.length_drop]; omega)]
    rw [e, if_neg (by omega)] at h1
    have hs : (Kd.int IntKind.u8).sz = 1 := rfl
    simp only [hs, Nat.mul_one] at h1
    exact h1
  · have e : part l x = [] := by unfold part; rw [List.drop_eq_nil_of_le h, List.take_nil]
    rw [e]
    exact ⟨rfl, by simp, fun h => absurd h (Nat.lt_irrefl 0)⟩
set_option maxRecDepth 100000 in
set_option maxHeartbeats 4000000 in
theorem blocks_calls (l : List Int) (hb : ∀ x ∈ l, 0 ≤ x ∧ x < 256) (A : Option Addr) (c : Nat) (w : World) (hC : Kd.C (Kd.int .u8) w A l.length l) (hc : l.length ≤ c) (hl : l.length ≤ 1000000) :
    Calls Try.prog 12 #[.slice A l.length c] w fun e w' => ∃ v, e = .returned v ∧ Kd.R k36 36 w' w.heap.size (fun _ => True) v ((blocksN l).map toS) ∧ Below w.heap.size w w' := by
  obtain ⟨len, hlen⟩ : ∃ len, len = l.length := ⟨_, rfl⟩
  have HLN := Aside0.mk hlen
  have HC := Aside0.mk hC
  have HB := Aside0.mk hb
  have hc2 : len ≤ c := by omega
  have hl2 : len ≤ 1000000 := by omega
  have HCC := Aside0.mk hc2
  have HLL := Aside0.mk hl2
  rw [← hlen]
  clear hlen hC hb hc hl hc2 hl2
  have hro : Fence.wide.round = none := rfl
  refine (callsIn_wide (n := 3)).1 ?_
  refine callsIn_of_wp_marks Try.func12 rfl trivial ?_ hro
  simp only [Try.ntmps12, List.size_toArray, List.length_cons, List.length_nil, Nat.reduceAdd, Nat.reduceSub, Array.replicate_succ, Array.replicate_zero, List.push_toArray, List.append_toArray, List.nil_append, List.cons_append]
  gi_wp2_with (refine ⟨trivial, ?_⟩; gi_at_call 29; refine (callsIn_wide.2 (chunk_calls _ _ _ _)).mono ?_; rintro e w' ⟨rfl, rfl⟩)
  obtain ⟨bo, hbo⟩ : ∃ bo, bo = w.heap.size := ⟨_, rfl⟩
  obtain ⟨w3, hw3⟩ : ∃ w3, w3 = ((w.alloc (.cells #[.slice none 0 0] 29)).alloc (.cells #[.slice A len c] 22)).alloc (.cells #[.int .i64 16] 3) := ⟨_, rfl⟩
  have h0 : w3.heap[bo]? = some (.cells #[.slice none 0 0] 29 (0, 0)) := by rw [hw3, hbo]; exact blk_alloc (blk_alloc (blk_new w _) _) _
  have h1 : w3.heap[bo + 1]? = some (.cells #[.slice A len c] 22 (0, 0)) := by rw [hw3, hbo]; exact blk_alloc (blk_newN (Array.size_push _) _) _
  have h2 : w3.heap[bo + 1 + 1]? = some (.cells #[.int .i64 16] 3 (0, 0)) := by rw [hw3, hbo]; exact blk_newN (by simp) _
  have hsz : w3.heap.size = bo + 3 := by rw [hw3, hbo]; simp
  have hB3 : Below w.heap.size w w3 := by rw [hw3]; exact below_alloc (below_alloc (below_alloc (Below.refl _ _) _) _) _
  rw [← hw3, ← hbo]
  have HBO := Aside0.mk (show w.heap.size ≤ bo by omega)
  have HBO2 := Aside0.mk hbo
  clear hw3 hbo
  refine wpIn_rangeFunc_ownF hro (by omega) (gf := 41) (lb := #[.pointer (some ⟨bo + 1, 0, none⟩), .pointer (some ⟨bo + 1 + 1, 0, none⟩)]) rfl trivial (enters_of Try.func41 (by kernel_rfl) rfl)
    (stops 2 (by omega) (bo + 1) (bo + 1 + 1) A len c HCC.out HLL.out w3 h1 h2) (fun h k q hq => (k q hq).trans (h q hq)) (fun W l o o' hl ho _ _ q hq => World.putObj_heap_other (by omega)) (Below.refl _ _) (fun _ => rfl)
    (fun pre W => (∃ v, W.heap[bo]? = some (.cells #[v] 29 (0, 0)) ∧ Kd.R k36 36 W (bo + 3) (fun _ => True) v ((pre.map (blk16 l)).map toS)) ∧ Below w.heap.size w W ∧ bo + 3 ≤ W.heap.size)
    (fun _ _ _ => False)
    (fun pre W W' row hs hg hr => by
      obtain ⟨⟨v, hv, hR⟩, hB, hz⟩ := hs
      exact ⟨⟨v, blk_kept hv hg (fun r e => (hr r e).2), R_kept hR hg (fun r e => (hr r e).2)⟩, hB.grown hg hB.size (fun r e => by have h4 := (hr r e).1; have h5 := HBO.out; omega), Nat.le_trans hz hg.size⟩)
    (fun _ _ _ _ _ hs _ _ => hs)
    ⟨⟨_, h0, Kd.R_nil _ _ _ _ _⟩, hB3, by omega⟩
    (fun x => { tmps := #[.slice A len c, undef, .slice none 0 0, .pointer (some ⟨bo, 0, none⟩), cv A len x, undef, undef, undef, .slice A len c, .func (.func 41) #[] #[.pointer (some ⟨bo + 1, 0, none⟩), .pointer (some ⟨bo + 1 + 1, 0, none⟩)], cv A len x, undef, undef, undef, undef, undef, undef, undef, undef, undef, undef, undef, undef, undef], defers := [] }) ?assign ?body ?done ?stop
  case assign =>
    intro l x W K hK
    gi_wp2
    exact hK
  case body =>
    rintro q pre x W ⟨⟨v, hbo, hR⟩, hB, hz3⟩ hpl
    obtain ⟨A1, k1, rfl⟩ := Kd.R_slice hR
    rw [List.length_map, List.length_map] at hbo hR
    have HBK := Aside0.mk hbo
    have HR := Aside0.mk hR
    have HBW := Aside0.mk hB
    have HPL := Aside0.mk hpl
    have HZ3 := Aside0.mk hz3
    clear hbo hR hB hpl hz3 h0 h1 h2 hB3
    gi_wp2
    obtain ⟨w4, hw4⟩ : ∃ w4, w4 = W.alloc (.cells #[.int .u8 0, .int .u8 0, .int .u8 0, .int .u8 0, .int .u8 0, .int .u8 0, .int .u8 0, .int .u8 0, .int .u8 0, .int .u8 0, .int .u8 0, .int .u8 0, .int .u8 0, .int .u8 0, .int .u8 0, .int .u8 0] 81) := ⟨_, rfl⟩
    have hb4 : w4.heap[W.heap.size]? = some (.cells #[.int .u8 0, .int .u8 0, .int .u8 0, .int .u8 0, .int .u8 0, .int .u8 0, .int .u8 0, .int .u8 0, .int .u8 0, .int .u8 0, .int .u8 0, .int .u8 0, .int .u8 0, .int .u8 0, .int .u8 0, .int .u8 0] 81 (0, 0)) := by rw [hw4]; exact blk_new W _
    have hbe : Below W.heap.size W w4 := by rw [hw4]; exact below_alloc (Below.refl _ _) _
    obtain ⟨b5, hb5⟩ : ∃ b5, b5 = W.heap.size := ⟨_, rfl⟩
    have hp16 : (part l x).length = min 16 (len - 16 * x) := by rw [part_length, HLN.out]
    obtain ⟨w5, hcp, hh5, hg5⟩ := copy_part w4 W.heap.size 81 (A.map (·.add (16 * x))) (part l x) (min 16 (len - 16 * x)) (by omega) (part_C l A w4 (Kd.C_below HC.out (HBW.out.trans (hbe.mono HBW.out.size))) x) hb4
    rw [hp16] at hcp
    have hcp' : (Builtin.copy_ #[22, 22] 3 #[.slice (some ⟨W.heap.size, 0, none⟩) 16 16, cv A len x]).run Try.prog w4 = .ok (.int .i64 ((min 16 (len - 16 * x) : Nat) : Int)) w5 := hcp
    rw [← hw4, ← hb5]
    rw [← hb5] at hcp' hh5 hg5
    rw [← blk16_bytes HB.out x] at hh5
    have HH5 := Aside0.mk hh5
    have HG5 := Aside0.mk ((grown_of_below hbe (some b5)).trans hg5)
    have HB5 := Aside0.mk hb5
    obtain ⟨y, hy⟩ : ∃ y : Int, y = ((min 16 (len - 16 * x) : Nat) : Int) := ⟨_, rfl⟩
    rw [← hy] at hcp'
    clear hw4 hb4 hbe hb5 hp16 hcp hh5 hg5 hy
    rw [hcp']
    clear hcp'
    gi_wp2
    refine ⟨trivial, ?_⟩
    refine (CallsIn.inRound q (callsIn_wide.2 (of16_calls (blk16 l x) (blk16_lt HB.out x) b5 _ w5 HH5.out))).mono ?_
    rintro e w6 ⟨rfl, hb6⟩
    obtain ⟨n6, hn6⟩ : ∃ n6, n6 = blk16 l x := ⟨_, rfl⟩
    have HN6 := Aside0.mk hn6
    rw [← hn6]
    have HG6 := Aside0.mk (HG5.out.trans (grown_of_below hb6 (some b5)))
    have hsz6 : W.heap.size ≤ w6.heap.size := HG6.out.size
    have hbn : bo ≠ b5 := by have h1 := blk_lt HBK.out; have h2 := HB5.out; omega
    have HB6 := Aside0.mk (blk_grown HBK.out HG6.out (fun e => hbn (Option.some.inj e)))
    have HR6 := Aside0.mk (Kd.R_grown2 HR.out rfl HG6.out (fun k e hk => by injection e with e; have h1 := Kd.R_lt HR.out k hk.symm; have h2 := HB5.out; omega))
    obtain ⟨w7, hw7⟩ : ∃ w7, w7 = w6.alloc (.cells #[.int .u64 (E n6).1, .int .u64 (E n6).2] 36) := ⟨_, rfl⟩
    have H7 := Aside0.mk (show w7.heap[bo]? = some (.cells #[.slice A1 pre.length k1] 29 (0, 0)) by rw [hw7]; exact blk_alloc HB6.out _)
    have hc0 := blk_cell H7.out 0
    simp only [List.getElem?_toArray, List.getElem?_cons_zero] at hc0
    have HW7 := Aside0.mk hw7
    have HR7 := Aside0.mk (show Kd.R k36 36 w7 (bo + 3) (fun _ => True) (.slice A1 pre.length k1) ((pre.map (blk16 l)).map toS) by rw [hw7]; exact Kd.R_alloc HR6.out _)
    have hs7 : w7.heap.size = w6.heap.size + 1 := by rw [hw7]; exact Array.size_push _
    have HS7 := Aside0.mk hs7
    have HB7 := Aside0.mk (show bo + 3 ≤ w7.heap.size by have h1 := HZ3.out; omega)
    rw [hw7] at hc0
    clear hn6 hb6 hw7 hs7 hsz6 hbn
    gi_wp2_with (gi_at_builtin; rw [← HW7.out]; refine append_el_in rfl (.tmp 19) (.tmp 21) rfl rfl w7 (bo + 3) _ (.slice A1 pre.length k1) ((pre.map (blk16 l)).map toS) n6 rfl rfl HS7.out.symm HR7.out HB7.out (by rw [List.length_map, List.length_map]; exact Nat.le_of_lt HPL.out) ?_; intro v8 w8 hr8 hg8; obtain ⟨A8, k8, rfl⟩ := Kd.R_slice hr8; have HR8 := Aside0.mk hr8; have H8 := Aside0.mk (blk_grown H7.out hg8 (fun e => by have h1 := Kd.R_base HR7.out bo e.symm; omega)); have HG8 := Aside0.mk hg8; have hc8 := blk_cell H8.out 0; have hf8 := blk_frozen H8.out 0; simp at hc8; clear hr8 hg8 hc0)
    have hown : ∀ k, (Value.slice A1 pre.length k1).ownBlock = some k → bo + 3 ≤ k := Kd.R_base HR7.out
    have hb5 := HB5.out
    have hz3 := HZ3.out
    have ko1 : KeepsOthers W w6 := KeepsOthers.of_grownBy HG6.out (fun j o e ho => by
      injection e with e
      have h1 := blk_lt ho
      omega)
    have ko2 : KeepsOthers w6 w7 := by rw [HW7.out]; exact KeepsOthers.alloc _ _
    have ko3 : KeepsOthers w7 w8 := KeepsOthers.of_grownBy HG8.out (fun j o e ho => by
      obtain ⟨cells, hc⟩ := Kd.R_typed HR7.out j e
      rw [hc] at ho
      cases ho
      rfl)
    have hb6 : Below w.heap.size w w6 := HBW.out.grown HG6.out HBW.out.size (fun k e => by injection e with e; have h1 := HBO.out; omega)
    have hb7 : Below w.heap.size w w7 := by rw [HW7.out]; exact below_alloc hb6 _
    have hb8 : Below w.heap.size w w8 := hb7.grown HG8.out hb7.size (fun k e => by have h1 := hown k e; have h2 := HBO.out; omega)
    have hs76 := HS7.out
    have hle := HG6.out.size
    refine ⟨((ko1.trans ko2).trans ko3).trans (KeepsOthers.setCell _ _ _), ?_, ⟨_, blk_put (cs := #[.slice A1 pre.length k1]) H8.out 0 _ rfl, ?_⟩, hb8.setCell (p := ⟨bo, 0, none⟩) HBO.out _, ?_⟩
    · intro k hk
      have hkb : k ≠ bo := by omega
      rw [Below.heap_setCell w8 ⟨bo, 0, none⟩ _ k hkb, HG8.out.block k (by omega) (fun e => by have h1 := hown k e.symm; omega), HW7.out, Below.heap_alloc _ _ _ (by omega)]
      exact HG6.out.block k (by omega) (fun e => by injection e with e; omega)
    · have hr8 := Kd.R_grown2 HR8.out rfl (setCell_grown w8 bo 0 (.slice A8 (pre.length + 1) k8)) (fun k e hk => by injection e with e; have h1 := Kd.R_base HR8.out k hk.symm; omega)
      rw [List.map_append, List.map_append, List.map_singleton, List.map_singleton, ← HN6.out]
      simp only [List.length_append, List.length_map, List.length_singleton] at hr8
      exact hr8
    · have h1 := HG8.out.size
      have h2 := (setCell_grown w8 bo 0 (.slice A8 (pre.length + 1) k8)).size
      omega
  case done =>
    rintro D ys W hD rfl ⟨⟨v, hbo, hR⟩, hB, _⟩ hK
    have hc0 := blk_cell hbo 0
    simp at hc0
    obtain ⟨A1, k1, rfl⟩ := Kd.R_slice hR
    have HR := Aside0.mk hR
    have HB := Aside0.mk hB
    have HK := Aside0.mk hK
    clear hbo hR hB hK h0 h1 h2 hB3
    gi_wp2
    refine ⟨by simp, .inl ⟨_, _, rfl, run_takeDeferred HK.out, ?_⟩⟩
    have hkd : ∀ r, some D = some r → ∃ o : Obj, W.heap[r]? = some o ∧ o.isCells = false := fun r e => by injection e with e; subst e; exact ⟨_, HK.out, rfl⟩
    refine ⟨_, results_tmp rfl _ _ _, _, rfl, ?_, ?_⟩
    · have hr := Kd.R_lower (R_kept HR.out (grownBy_putObj' W D (.deferred none)) hkd) (show w.heap.size ≤ bo + 3 by have h1 := HBO.out; omega)
      have hlm : (List.map toS (List.map (blk16 l) (parts len))).length = (parts len).length := by rw [List.length_map, List.length_map]
      rw [hlm] at hr
      have e : blocksN l = (parts len).map (blk16 l) := by unfold blocksN; rw [HLN.out]
      rw [e]
      exact hr
    · exact HB.out.grown (grownBy_putObj' W D (.deferred none)) HB.out.size (fun k e => by injection e with e; have h1 := HBO.out; omega)
  case stop =>
    rintro D c pre W _ _ h _
    exact h.elim
end Go.Proofs.Ytmhmmmkpijbbiab.Gh
