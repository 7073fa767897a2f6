/- FlowOrder: what is put or got is the last in the order of use; the others keep theirs. No condition. -/
-- MERGED by wip/tools/merge.py
import Derived.Test.YtikpgmajiafhgaaFlG3
import Derived.Great.BuildSlice
import Derived.Test.YtikpgmajiafhgaaFlG4
import Derived.Test.YtikpgmajiafhgaaRows
import Derived.Test.YtikpgmajiafhgaaXWords
import Derived.WalkKit
import Derived.ProofKit
import Derived.OpenShut
import Derived.ShutString
import Derived.ChangeOld
import Derived.Below
import Derived.SizedLaws
import Derived.Lib.SmallJoins
namespace Go.Proofs.Ytikpgmajiafhgaa.Fl
abbrev p3 : Bool := true
abbrev q3 : Bool := false
end Go.Proofs.Ytikpgmajiafhgaa.Fl
/- flow, plain: behind the idle time. -/
namespace Go.Proofs.Ytikpgmajiafhgaa.Fl
open Go.RowKit
set_option linter.unusedVariables false
set_option linter.unusedSimpArgs false
theorem makeS_sub {m i now : Int} {R : List Rw} {r : Rw} (h : r ∈ (makeS m i now R).1) : r ∈ R := by
  unfold makeS at h
  split at h
  · exact roomS_mem h
  · exact roomS_mem (List.mem_of_mem_tail h)
theorem cutS_sub {R : List Rw} {k : List Int} {r : Rw} (h : r ∈ cutS R k) : r ∈ R := List.mem_of_mem_eraseP h
theorem fnd_some {R : List Rw} {k : List Int} {r : Rw} (h : fnd R k = some r) : r ∈ R ∧ r.ky = k := ⟨List.mem_of_find?_eq_some h, by have := List.find?_some h; simpa using this⟩
theorem fnd_ne {R : List Rw} {k : List Int} (h : fnd R k = none) : ∀ r ∈ R, r.ky ≠ k := fun r hr => by have := List.find?_eq_none.1 h r hr; simpa using this
theorem cutS_ne {R : List Rw} {k : List Int} (hn : (R.map Rw.ky).Nodup) {r : Rw} (h : r ∈ cutS R k) : r.ky ≠ k := by
  intro he
  cases hf : fnd R k with
  | none => exact fnd_ne hf r (cutS_sub h) he
  | some q =>
    obtain ⟨hq, hk⟩ := fnd_some hf
    obtain ⟨a, b, hab, ha⟩ : ∃ a b, R = a ++ q :: b ∧ ∀ x ∈ a, x.ky ≠ k := by
      unfold fnd at hf
      obtain ⟨_, a, b, e, h2⟩ := List.find?_eq_some_iff_append.1 hf
      exact ⟨a, b, e, fun x hx => by simpa using h2 x hx⟩
    rw [hab] at h hn
    rw [(fnd_of hk ha).2] at h
    rw [List.map_append, List.map_cons] at hn
    rcases List.mem_append.1 h with h1 | h1
    · exact ha r h1 he
    · have h2 := (List.nodup_append.1 hn).2.1
      rw [List.nodup_cons] at h2
      exact h2.1 (List.mem_map.2 ⟨r, h1, he.trans hk.symm⟩)
theorem putS_mem {m i bk now : Int} {R : List Rw} {k : List Int} {r : Rw} (h : r ∈ (putS m i R k bk now).1) : r ∈ R ∨ r = ⟨k, bk, now⟩ := by
  unfold putS at h
  split at h
  · exact .inl h
  · split at h
    · split at h
      · rcases List.mem_append.1 h with h | h
        · exact .inl (cutS_sub (makeS_sub h))
        · exact .inr (by simpa using h)
      · exact .inl h
    · rcases List.mem_append.1 h with h | h
      · exact .inl (makeS_sub h)
      · exact .inr (by simpa using h)
def putN (m i now : Int) (ks : List (List Int)) : Nat → List Rw
  | 0 => []
  | j + 1 => (putS m i (putN m i now ks j) (ks.getD j []) (j : Int) now).1
def getN (i t : Int) (R : List Rw) (ks : List (List Int)) : Nat → List Rw
  | 0 => R
  | j + 1 => (getS i (getN i t R ks j) (ks.getD j []) t).1
theorem putN_mem {m i now : Int} {ks : List (List Int)} : ∀ (j : Nat) (r : Rw), j ≤ ks.length → r ∈ putN m i now ks j → r.la = now ∧ r.ky ∈ ks.take j
  | 0, r, _, h => absurd h List.not_mem_nil
  | j + 1, r, hj, h => by
    have hk : ks[j]? = some (ks.getD j []) := by rw [List.getD_eq_getElem?_getD, List.getElem?_eq_getElem (by omega)]; rfl
    rw [List.take_add_one, hk]
    rcases putS_mem h with h | rfl
    · obtain ⟨h1, h2⟩ := putN_mem j r (by omega) h
      exact ⟨h1, List.mem_append_left _ h2⟩
    · exact ⟨rfl, List.mem_append_right _ (by simp)⟩
theorem over_later {now later i : Int} (h0 : 0 ≤ now) (h1 : now ≤ 1152921504606846976) (h2 : 0 ≤ later) (h3 : later ≤ 1152921504606846976) (hi : 1 ≤ i) : overS now i (now + later) = decide (i ≤ later) := by
  unfold overS
  rw [show now + later - now = later by omega, Bv.wrap_id (show 0 ≤ later by omega) (show later < 18446744073709551616 by omega)]
  by_cases h : i ≤ later
  · rw [decide_eq_true h, decide_eq_true (by omega)]; rfl
  · rw [decide_eq_false h, Bool.and_false]
theorem over_same (t i : Int) : overS t i t = false := by
  unfold overS
  rw [decide_eq_false (by omega), Bool.false_and]
theorem sweep_all {R : List Rw} {i t : Int} (h : ∀ r ∈ R, overS r.la i t = true) : sweepS R i t = [] := by
  unfold sweepS
  rw [List.filter_eq_nil_iff]
  intro r hr
  simp [h r hr]
theorem sweep_none {R : List Rw} {i t : Int} (h : ∀ r ∈ R, overS r.la i t = false) : sweepS R i t = R := by
  unfold sweepS
  rw [List.filter_eq_self]
  intro r hr
  simp [h r hr]
theorem get_ok {R : List Rw} {i t : Int} {ov : Bool} (h : ∀ r ∈ R, overS r.la i t = ov) (k : List Int) : (getS i R k t).2.2 = ((ofS R k).2.2 && !ov) := by
  unfold getS ofS
  cases hf : fnd R k with
  | none => rfl
  | some q =>
    dsimp only
    have h1 := h q (fnd_some hf).1
    cases ov with
    | true => rw [if_pos h1]; rfl
    | false => rw [if_neg (by rw [h1]; exact Bool.false_ne_true)]; rfl
theorem getS_over {R : List Rw} {i t : Int} (hn : (R.map Rw.ky).Nodup) (h : ∀ r ∈ R, overS r.la i t = true) (k : List Int) : ∀ r ∈ (getS i R k t).1, r ∈ R ∧ r.ky ≠ k := by
  intro r hr
  unfold getS at hr
  cases hf : fnd R k with
  | none => rw [hf] at hr; exact ⟨hr, fnd_ne hf r hr⟩
  | some q =>
    rw [hf] at hr
    dsimp only at hr
    rw [if_pos (h q (fnd_some hf).1)] at hr
    exact ⟨cutS_sub hr, cutS_ne hn hr⟩
theorem getS_la {R : List Rw} {i t : Int} (k : List Int) (P : Int → Prop) (h : ∀ r ∈ R, P r.la) (hm : ∀ x, P x → P (max x t)) : ∀ r ∈ (getS i R k t).1, P r.la := by
  intro r hr
  unfold getS at hr
  cases hf : fnd R k with
  | none => rw [hf] at hr; exact h r hr
  | some q =>
    rw [hf] at hr
    dsimp only at hr
    split at hr
    · exact h r (cutS_sub hr)
    · rcases List.mem_append.1 hr with h1 | h1
      · exact h r (cutS_sub h1)
      · simp only [List.mem_singleton] at h1
        rw [h1]
        exact hm _ (h q (fnd_some hf).1)
theorem nil_of {α : Type} {l : List α} (h : ∀ r ∈ l, False) : l = [] := by
  cases l with
  | nil => rfl
  | cons a l => exact (h a List.mem_cons_self).elim
theorem drop_ne {ks : List (List Int)} {j : Nat} {k x : List Int} (hk : ks[j]? = some k) (hx : x ∈ ks.drop j) (hn : x ≠ k) : x ∈ ks.drop (j + 1) := by
  obtain ⟨hj, e⟩ := List.getElem?_eq_some_iff.1 hk
  rw [List.drop_eq_getElem_cons hj, e] at hx
  rcases List.mem_cons.1 hx with h | h
  · exact absurd h hn
  · exact h
end Go.Proofs.Ytikpgmajiafhgaa.Fl
/- flow: rows of keys that grow; keys but one. -/
namespace Go.Proofs.Ytikpgmajiafhgaa.Fl
open Go.RowKit Go.Proofs.YtikpgmajiafhgaaW.PrintWords Go.Proofs.YtikpgmajiafhgaaW.PrintLast Go.Proofs.YtikpgmajiafhgaaW.PrintMore Go.Proofs.Ytikpgmajiafhgaa.X Go.Proofs.Ytikpgmajiafhgaa.M
set_option linter.unusedVariables false
set_option linter.unusedSimpArgs false
theorem fill1 (a0 a1 a2 a3 a4 a5 a6 a7 a8 a9 a10 a11 a12 a13 a14 a15 a16 a17 a18 a19 a20 a21 a22 a23 a24 a25 a26 a27 a28 a29 a30 a31 a32 a33 : Int) : Instr.fill (fun i => some (i * 34, 34)) ((Array.range (1 * 34)).map ((kv kz).cells[· % (kv kz).cells.size]!)) [(0, kv [a0, a1, a2, a3, a4, a5, a6, a7, a8, a9, a10, a11, a12, a13, a14, a15, a16, a17, a18, a19, a20, a21, a22, a23, a24, a25, a26, a27, a28, a29, a30, a31, a32, a33])] = some (encK [a0, a1, a2, a3, a4, a5, a6, a7, a8, a9, a10, a11, a12, a13, a14, a15, a16, a17, a18, a19, a20, a21, a22, a23, a24, a25, a26, a27, a28, a29, a30, a31, a32, a33]).toArray := by kernel_rfl
theorem fillK (k : List Int) (h : k.length = 34) : Instr.fill (fun i => some (i * 34, 34)) ((Array.range (1 * 34)).map ((kv kz).cells[· % (kv kz).cells.size]!)) [(0, kv k)] = some (encK k).toArray := by
  iterate 34 (rcases k with _ | ⟨_, k⟩; · simp at h)
  rcases k with _ | ⟨_, k⟩
  · exact fill1 _ _ _ _ _ _ _ _ _ _ _ _ _ _ _ _ _ _ _ _ _ _ _ _ _ _ _ _ _ _ _ _ _ _
  · simp at h
theorem run_bsK {o : Oper} {a : Act} {w : World} (x : Operand) (ho : o.op = .buildSlice 64 1 #[(0, x)]) (k : List Int) (h34 : k.length = 34) (hx : a.eval x = kv k) : (execOp a.eval o).run Try.prog w = .ok (.value (.slice (some ⟨w.heap.size, 0, none⟩) 1 1)) (w.alloc (.cells (encK k).toArray 29)) := by
  obtain ⟨i, hi, hz⟩ := Option.map_eq_some_iff.1 infoK
  simp only [Prod.mk.injEq] at hz
  have h := run_buildSlice (P := Try.prog) w 64 29 1 #[(0, kv k)] (encK k).toArray i _ Try.underlying64 hi hz.1 (by rw [hz.2.1]; decide) (by rw [hz.2.1]; decide) (by rw [hz.2.1]; exact fillK k h34)
  unfold execOp
  simp [ho, hx, h]
theorem R_emptyK {W : World} {lo : Nat} (hb : lo ≤ W.heap.size) : Kd.R kK 29 (W.alloc (.cells #[] 29)) 0 (fun k => lo ≤ k) (.slice (some ⟨W.heap.size, 0, none⟩) 0 0) [] :=
  ⟨fun k hk => by have h1 : W.heap.size = k := by simpa [Value.ownBlock] using hk
                  omega, [], ⟨rfl, .inr ⟨W.heap.size, 0, #[], rfl, Nat.zero_le _, blk_new W _, Nat.le_refl 0, by decide, rfl, rfl⟩⟩, Reps.none _ _⟩
/-- A row of keys of one's own. -/
def thR (O : Nat → Prop) (v : Value) (ks : List (List Int)) : Th := ⟨fun k => v.ownBlock = some k ∧ O k, fun W => Kd.R kK 29 W 0 O v ks, fun W W' h hs hz => Kd.R_mono (R_same (R_tight h rfl (fun _ _ _ _ _ _ h => h)) hs) (fun _ h => h.2), fun W h k hk => ((Kd.R_bound h).1 k hk.1).2.2.1⟩
theorem appK_run (W : World) (v : Value) (xs : List (List Int)) (k : List Int) (O : Nat → Prop) (HO : Kd.R kK 29 W 0 O v xs) (hfresh : ∀ k, W.heap.size ≤ k → O k) (hl : xs.length ≤ 1000000) (h34 : k.length = 34) :
    ∃ v1 w1, (Builtin.append_ #[64, 64] 64 #[v, .slice (some ⟨W.heap.size, 0, none⟩) 1 1]).run Try.prog (W.alloc (.cells (encK k).toArray 29)) = .ok v1 w1 ∧ Kd.R kK 29 w1 0 O v1 (xs ++ [k]) ∧ W.grownBy w1 v.ownBlock ∧ (v1.ownBlock = v.ownBlock ∨ ∃ b, v1.ownBlock = some b ∧ W.heap.size ≤ b) := by
  obtain ⟨h0, inner, hown, hr⟩ := HO
  obtain ⟨i, hi, hz⟩ := Option.map_eq_some_iff.1 infoK
  simp only [Prod.mk.injEq] at hz
  have hlen : (encK k).length = 34 := by rw [encK_length]; exact h34
  obtain ⟨v1, w1, hrun, hown1, hg, _, hat⟩ := run_append_own_at (P := Try.prog) (w := W.alloc (.cells (encK k).toArray 29)) 0 64 64 29 i _ 34 36 Try.underlying64 hi hz.1 hz.2.1 hz.2.2 (by kernel_rfl) (by omega) v xs.length inner (hown.alloc _) ⟨W.heap.size, 0, none⟩ 1 1 (encK k) (by rw [hlen])
    (by simpa using World.news_of_block (cs := (encK k).toArray) (t := 29) (fr := (0, 0)) (heap_alloc_new W _)) (encK_one k) (by simp only [maxLen]; omega) (by omega) (by simp)
  refine ⟨v1, w1, hrun, Kd.R_appended h0 hr (okp := fun _ => False) (show kK.M W 0 _ k (encK k) from ⟨rfl, h34⟩) (fun k hk => hk.elim) hfresh hown1 (World.grownBy.trans (World.grownBy_alloc W _ _) hg) ?_, World.grownBy.trans (World.grownBy_alloc W _ _) hg, ?_⟩
  · rcases hat with hat | hat
    · exact .inl hat
    · exact .inr ⟨_, hat, by simp⟩
  · rcases hat with hat | hat
    · exact .inl hat
    · exact .inr ⟨_, hat, by simp⟩
theorem keep_grown {O : Nat → Prop} {W w1 : World} {row : Option Nat} (hg : W.grownBy w1 row) (h : ∀ k, row = some k → O k) : Keep O W w1 :=
  ⟨⟨hg.os, hg.tape, hg.output, hg.size, fun k hk => absurd hk (Nat.not_lt_zero k)⟩, fun k hk hn => hg.block k hk (fun e => hn (h k e.symm))⟩
/-- A key is appended to a row that is one of the things. -/
theorem appK_env (pre : List Th) {post : List Th} {w W : World} {O : Nat → Prop} {v : Value} {xs : List (List Int)} (h : Env w W (pre ++ thR O v xs :: post)) (hfresh : ∀ k, W.heap.size ≤ k → O k) (hl : xs.length ≤ 1000000) {k : List Int} (h34 : k.length = 34) :
    ∃ A n c w1, (Builtin.append_ #[64, 64] 64 #[v, .slice (some ⟨W.heap.size, 0, none⟩) 1 1]).run Try.prog (W.alloc (.cells (encK k).toArray 29)) = .ok (.slice A n c) w1 ∧ n = (xs ++ [k]).length ∧ Env w w1 (pre ++ thR O (.slice A n c) (xs ++ [k]) :: post) ∧ W.grownBy w1 v.ownBlock := by
  have hR : Kd.R kK 29 W 0 O v xs := h.get (t := thR O v xs) (by simp)
  obtain ⟨v1, w1, hrun, hR1, hg, hat⟩ := appK_run W v xs k O hR hfresh hl h34
  obtain ⟨A, c, rfl⟩ := Kd.R_slice hR1
  refine ⟨A, _, c, w1, hrun, rfl, h.step pre (thR O _ (xs ++ [k])) hR1 (keep_grown hg (fun k hk => ⟨hk, hR.1 k hk⟩)) (fun k hk => ?_), hg⟩
  rcases hat with hat | ⟨b, hb, hle⟩
  · exact .inl ⟨by rw [← hat]; exact hk.1, hk.2⟩
  · right
    have h1 := hk.1
    rw [hb] at h1
    injection h1 with h1
    omega
section
variable {o : Oper} {a : Act} {w w1 : World} {v v1 : Value}
theorem run_app_of (s x : Operand) (ho : o.op = .call { callee := .builtin .append, args := #[s, x], argTypes := #[64, 64] }) (hty : o.type = 64) {u : Value} (hs : a.eval s = v) (hx : a.eval x = u)
    (h : (Builtin.append_ #[64, 64] 64 #[v, u]).run Try.prog w = .ok v1 w1) : (execOp a.eval o).run Try.prog w = .ok (.value v1) w1 := by
  unfold execOp
  simp [ho, hty, resolve, invoke, builtin, hs, hx, h, Result.andThen]
end
section
variable {F : Fence} {n : Nat} {ops : Array Oper} {rest : List Oper} {o : Oper} {a : Act} {Q : Exit → Act → World → Prop} {w w1 : World} {v u v1 : Value}
theorem in_app (hF : ∀ f, F.fn f) (s x : Operand) (ho : o.op = .call { callee := .builtin .append, args := #[s, x], argTypes := #[64, 64] }) (hgd : o.guard = none) (hty : o.type = 64) (hs : a.eval s = v) (hx : a.eval x = u)
    (h : (Builtin.append_ #[64, 64] 64 #[v, u]).run Try.prog w = .ok v1 w1) (hk : wpListIn F n Try.prog ops Q rest (a.put o.dst v1) w1) : wpListIn F n Try.prog ops Q (o :: rest) a w :=
  in_value hF hgd (by rw [ho]; intro c hc; cases hc) (run_app_of s x ho hty hs hx h) hk
theorem in_bs (hF : ∀ f, F.fn f) (x : Operand) (k : List Int) (ho : o.op = .buildSlice 64 1 #[(0, x)]) (hgd : o.guard = none) (hx : a.eval x = kv k) (h34 : k.length = 34)
    (hk : wpListIn F n Try.prog ops Q rest (a.put o.dst (.slice (some ⟨w.heap.size, 0, none⟩) 1 1)) (w.alloc (.cells (encK k).toArray 29))) : wpListIn F n Try.prog ops Q (o :: rest) a w :=
  in_value hF hgd (by rw [ho]; intro c hc; cases hc) (run_bsK x ho k h34 hx) hk
theorem pl_app (s x : Operand) (ho : o.op = .call { callee := .builtin .append, args := #[s, x], argTypes := #[64, 64] }) (hgd : o.guard = none) (hty : o.type = 64) (hs : a.eval s = v) (hx : a.eval x = u)
    (h : (Builtin.append_ #[64, 64] 64 #[v, u]).run Try.prog w = .ok v1 w1) (hk : wpList Try.prog ops Q rest (a.put o.dst v1) w1) : wpList Try.prog ops Q (o :: rest) a w :=
  pl_value hgd (run_app_of s x ho hty hs hx h) hk
theorem pl_bs (x : Operand) (k : List Int) (ho : o.op = .buildSlice 64 1 #[(0, x)]) (hgd : o.guard = none) (hx : a.eval x = kv k) (h34 : k.length = 34)
    (hk : wpList Try.prog ops Q rest (a.put o.dst (.slice (some ⟨w.heap.size, 0, none⟩) 1 1)) (w.alloc (.cells (encK k).toArray 29))) : wpList Try.prog ops Q (o :: rest) a w :=
  pl_value hgd (run_bsK x ho k h34 hx) hk
end
end Go.Proofs.Ytikpgmajiafhgaa.Fl
/- flow: things that stay over rounds, rows that grow among them. -/
namespace Go.Proofs.Ytikpgmajiafhgaa.Fl
open Go.Shelf
open Go.RowKit Go.Proofs.YtikpgmajiafhgaaW.PrintWords Go.Proofs.YtikpgmajiafhgaaW.PrintLast Go.Proofs.YtikpgmajiafhgaaW.PrintMore Go.Proofs.Ytikpgmajiafhgaa.X Go.Proofs.Ytikpgmajiafhgaa.M
set_option linter.unusedVariables false
set_option linter.unusedSimpArgs false
/-- A thing's blocks are cells. -/
def Th.Cells (t : Th) : Prop := ∀ W, t.P W → ∀ k, t.O k → ∃ cs ty, W.heap[k]? = some (.cells cs ty (0, 0))
theorem cells_B (g : Nat) (cs : Array Value) (t : TypeId) : (thB g cs t).Cells := fun W h k hk => ⟨cs, t, by have hk' : k = g := hk; rw [hk']; exact h⟩
theorem typedR {W : World} {O : Nat → Prop} {v : Value} {ks : List (List Int)} (h : Kd.R kK 29 W 0 O v ks) {k : Nat} (hk : v.ownBlock = some k) : ∃ cs, W.heap[k]? = some (.cells cs 29 (0, 0)) := by
  obtain ⟨_, _, _, q, hq, cells, hc⟩ := (Kd.R_bound h).1 k hk
  have hq' : q = 29 := by simpa [kK] using hq
  subst hq'
  exact ⟨cells, hc⟩
theorem cells_R (O : Nat → Prop) (v : Value) (ks : List (List Int)) : (thR O v ks).Cells := fun W h k hk => by
  obtain ⟨cs, hc⟩ := typedR h hk.1
  exact ⟨cs, _, hc⟩
def EnvC (B : Nat) (w W : World) (ts : List Th) : Prop := Env w W ts ∧ (∀ t ∈ ts, (∀ k, t.O k → k < B) ∨ t.Cells) ∧ B ≤ W.heap.size
section
variable {w W W' : World} {ts pre post : List Th} {B : Nat}
theorem EnvC.mk' (h : Env w W ts) : EnvC W.heap.size w W ts := ⟨h, fun t ht => .inl (fun k hk => t.lt W (h.tab t ht).1 k hk), Nat.le_refl _⟩
theorem EnvC.grown {row : Option Nat} (h : EnvC B w W ts) (hB : w.heap.size ≤ B) (hg : W.grownBy W' row) (hr : ∀ r, row = some r → B ≤ r ∧ ∃ o : Obj, W.heap[r]? = some o ∧ o.isCells = false) : EnvC B w W' ts := by
  refine ⟨⟨h.1.bel.grown hg h.1.bel.size (fun k e => by have := (hr k e).1; omega), fun t ht => ⟨t.st W W' (h.1.tab t ht).1 (fun k hk => hg.block k (t.lt W (h.1.tab t ht).1 k hk) (fun e => ?_)) hg.size, (h.1.tab t ht).2⟩, h.1.apart⟩, h.2.1, Nat.le_trans h.2.2 hg.size⟩
  obtain ⟨h1, o, ho, hc⟩ := hr k e.symm
  rcases h.2.1 t ht with h2 | h2
  · have := h2 k hk; omega
  · obtain ⟨cs, ty, h3⟩ := h2 W (h.1.tab t ht).1 k hk
    rw [h3] at ho
    cases ho
    cases hc
theorem ownEnvC {β : Type} (w : World) (hB : w.heap.size ≤ B) (p : β → List Th → Prop) : OwnFrom B (fun s W => ∃ ts, p s ts ∧ EnvC B w W ts) := by
  rintro s A C row ⟨ts, hp, hs⟩ hg hr
  exact ⟨ts, hp, hs.grown hB hg hr⟩
theorem EnvC.below (h : EnvC B w W ts) (hb : Below W.heap.size W W') : EnvC B w W' ts := ⟨h.1.below hb, h.2.1, Nat.le_trans h.2.2 hb.size⟩
theorem EnvC.addD {D : Nat} (h : EnvC B w W ts) (hB : B ≤ D) (hw : w.heap.size ≤ B) (hK : W.heap[D]? = some (.deferred (some []))) : Env w W (thD D :: ts) := by
  refine ⟨h.1.bel, fun t ht => ?_, List.pairwise_cons.2 ⟨fun s hs k hk hk2 => ?_, h.1.apart⟩⟩
  · rcases List.mem_cons.1 ht with rfl | ht
    · exact ⟨hK, fun k hk => by have hk' : k = D := hk; omega⟩
    · exact h.1.tab t ht
  · have hk' : k = D := hk
    subst hk'
    rcases h.2.1 s hs with h2 | h2
    · have := h2 k hk2; omega
    · obtain ⟨cs, ty, h3⟩ := h2 W (h.1.tab s hs).1 k hk2
      rw [hK] at h3
      cases h3
theorem KpT.app {n : Nat} {w1 : World} {row : Option Nat} (hg : W.grownBy w1 row) (h : ∀ k, row = some k → ∃ cs, W.heap[k]? = some (.cells cs 29 (0, 0))) : KpT n W w1 :=
  ⟨hg.size, fun k cs t _ hk ht => hg.block k (blk_lt hk) (fun e => by
    obtain ⟨cs2, h2⟩ := h k e.symm
    rw [hk] at h2
    injection h2 with h2
    injection h2 with _ h3
    exact ht h3)⟩
theorem keepsFrom_app {w1 : World} {row : Option Nat} (hg : W.grownBy w1 row) (h : ∀ k, row = some k → ∃ cs, W.heap[k]? = some (.cells cs 29 (0, 0))) : KeepsFrom B W w1 :=
  ⟨hg.size, fun k o _ hk ho => (hg.block k (blk_lt hk) (fun e => by
    obtain ⟨cs2, h2⟩ := h k e.symm
    rw [hk] at h2
    cases h2
    cases ho)).trans hk⟩
end
/-- The variable of a round: a key. -/
def Var1 (B : Nat) (x : Rk) (g : Nat) (W : World) : Prop := W.heap[g]? = some (.cells (encK x.1.ky).toArray 29 (0, 0)) ∧ B ≤ g
theorem ownVar1 {B : Nat} (x : Rk) (p : Nat → Prop) : OwnFrom B (fun (_ : Unit) W => ∃ g, p g ∧ Var1 B x g W) := by
  rintro _ A C row ⟨g, hp, h6, hl⟩ hg hr
  exact ⟨g, hp, kept_blk h6 hg (fun r e => (hr r e).2), hl⟩
end Go.Proofs.Ytikpgmajiafhgaa.Fl
/- flow: the keys of a table, in the order of use. Written by wip/gen/flks.py. -/
namespace Go.Proofs.Ytikpgmajiafhgaa.Fl
open Go.Shelf
open Go.RowKit Go.Proofs.YtikpgmajiafhgaaW.PrintWords Go.Proofs.YtikpgmajiafhgaaW.PrintLast Go.Proofs.YtikpgmajiafhgaaW.PrintMore Go.Proofs.Ytikpgmajiafhgaa.X Go.Proofs.Ytikpgmajiafhgaa.M
attribute [local go_sem] Oper.semAt_some
set_option linter.unusedVariables false
set_option linter.unusedSimpArgs false

theorem results_one {fn : Func} {p : Tmp} (h : fn.results = #[.tmp p]) (tmps : Array Value) (w : World) {v : Value} (hp : tmps.getD p undef = v) : (results fn tmps).run Try.prog w = .ok v w := by
  have hp' : tmps[p]?.getD undef = v := by simpa using hp
  simp [results, h, hp']
set_option maxRecDepth 100000 in
set_option maxHeartbeats 4000000 in
theorem keys_calls {O : Nat → Prop} {b : Nat} {m i : Int} {R : List Rw} (w : World) (hT : Tw w O b m i R) :
    Calls Try.prog 29 #[.pointer (some ⟨b, 0, none⟩)] w fun en w' => ∃ A n c, en = .returned (.slice A n c) ∧ n = R.length ∧ Kd.R kK 29 w' 0 (fun k => w.heap.size ≤ k) (.slice A n c) (R.map Rw.ky) ∧ Below w.heap.size w w' := by
  have hro : Fence.wide.round = none := rfl
  have HT := Aside0.mk hT
  have HBD := Aside0.mk (hT.bound)
  clear hT
  refine (callsIn_wide (n := 4)).1 ?_
  refine callsIn_of_wp_marks Try.func29 rfl trivial ?_ hro
  simp only [Try.ntmps29, List.size_toArray, List.length_cons, List.length_nil, Nat.reduceAdd, Nat.reduceSub, Array.replicate_succ, Array.replicate_zero, List.push_toArray, List.append_toArray, List.nil_append, List.cons_append]
  obtain ⟨w1, hw1⟩ : ∃ W, W = w.alloc (.cells #[] 29) := ⟨_, rfl⟩
  obtain ⟨g0, hg0⟩ : ∃ g, g = w.heap.size := ⟨_, rfl⟩
  obtain ⟨w2, hw2⟩ : ∃ W, W = w1.alloc (.cells #[.slice (some ⟨g0, 0, none⟩) 0 0] 64) := ⟨_, rfl⟩
  obtain ⟨gout, hgo⟩ : ∃ g, g = w1.heap.size := ⟨_, rfl⟩
  have E0 := Aside0.mk (show Env w w1 [thR (fun k => w.heap.size ≤ k) (.slice (some ⟨g0, 0, none⟩) 0 0) []] by rw [hw1, hg0]; exact (Env.start w).new (thR (fun k => w.heap.size ≤ k) (.slice (some ⟨w.heap.size, 0, none⟩) 0 0) []) (R_emptyK (Nat.le_refl _)) (fun k hk => hk.2) (below_alloc (Below.refl _ _) _))
  have E1 := Aside0.mk (show Env w w2 [thB gout #[.slice (some ⟨g0, 0, none⟩) 0 0] 64, thR (fun k => w.heap.size ≤ k) (.slice (some ⟨g0, 0, none⟩) 0 0) []] by rw [hw2, hgo]; exact E0.out.alloc _ _)
  have HS1 := Aside0.mk (show w1.heap.size = w.heap.size + 1 by rw [hw1]; exact World.size_alloc _ _)
  have HW := Aside0.mk (And.intro hw1 (And.intro hg0 (And.intro hw2 hgo)))
  clear E0 hw1 hg0 hw2 hgo
  gi_wp2_with fail
  obtain ⟨hw1, hg0, hw2, hgo⟩ := HW.out
  have hg1 : gout = g0 + 1 := by rw [hgo, HS1.out, hg0]
  rw [← hg0, ← hw1, ← hw2, ← hg1]
  have HG1 := Aside0.mk (show w.heap.size < gout by omega)
  clear hw1 hg0 hw2 hgo hg1 HW
  refine ⟨trivial, ?_⟩
  (with_reducible refine (callsIn_wide.2 (all_calls b w2)).mono ?_)
  rintro en w3 ⟨rfl, hw⟩
  have E2 := Aside0.mk ((show Env w w3 _ by rw [hw]; exact E1.out.alloc #[.pointer (some ⟨b, 0, none⟩)] 33))
  clear E1
  clear hw
  gi_wp2_with fail
  have HBS := Aside0.mk (show w.heap.size ≤ w3.heap.size from E2.out.bel.size)
  have HT2 := Aside0.mk (HT.out.below E2.out.bel)
  have HGM := Aside0.mk (show gout < w3.heap.size from blk_lt (E2.out.at 1 rfl))
  refine rf_gen (fun A0 hA0 => ?_)
  refine wpIn_rangeFunc_ownH hro (by omega) (gf := 50) (lb := #[.pointer (some ⟨w2.heap.size, 0, none⟩)]) (by rw [hA0]; rfl) trivial (enters_of Try.func50 (by kernel_rfl) rfl)
    (all_stops 3 (by omega) w2.heap.size b w3.heap.size m i R O w3 (E2.out.at 0 rfl) HT2.out (Nat.le_refl _)) (fun h k => KpT.trans h k) (fun W l o o' h1 h2 h3 h4 => KpT.bk W l o o' h1 h2 h3 h4) (Below.refl _ _) (fun _ => rfl)
    (fun pre W => ∃ ts, (∃ A n c, n = pre.length ∧ ts = [thB w2.heap.size #[.pointer (some ⟨b, 0, none⟩)] 33, thB gout #[.slice A n c] 64, thR (fun k => w.heap.size ≤ k) (.slice A n c) (pre.map (fun r => r.1.ky))]) ∧ EnvC w3.heap.size w W ts) (fun _ _ _ => False)
    (ownEnvC w HBS.out (fun (pre : List Rk) ts => ∃ A n c, n = pre.length ∧ ts = [thB w2.heap.size #[.pointer (some ⟨b, 0, none⟩)] 33, thB gout #[.slice A n c] 64, thR (fun k => w.heap.size ≤ k) (.slice A n c) (pre.map (fun r => r.1.ky))])) (fun _ _ _ _ _ h _ _ => h) ⟨_, ⟨some ⟨g0, 0, none⟩, 0, 0, rfl, rfl⟩, EnvC.mk' E2.out⟩
    (fun x a' W => ∃ g4, a' = { tmps := ((A0.tmps.setIfInBounds 8 (kv x.1.ky)).setIfInBounds 9 (ev x.1.bk x.1.la)).setIfInBounds 4 (.pointer (some ⟨g4, 0, none⟩)), defers := [] } ∧ Var1 w3.heap.size x g4 W) (fun x a' => ownVar1 x _) ?assign ?body ?done ?stop
  case assign =>
    intro l pre x W K hI hK
    subst hA0
    have H34 := Aside0.mk x.2.len
    simp only [zip2, List.setIfInBounds_toArray, List.set_cons_zero, List.set_cons_succ]
    gi_wp2_with (refine in_boxK (fun _ => trivial) rfl rfl 4 (.tmp 8) rfl rfl rfl rfl x.1.ky H34.out rfl rfl ?_)
    have hb := below_alloc (Below.refl W.heap.size W) (.cells (encK x.1.ky).toArray 29)
    obtain ⟨ts, hp, hE⟩ := hI
    exact hK _ _ (keepsFrom_below hb) (KpT.below hb) ⟨ts, hp, hE.below hb⟩ ⟨W.heap.size, by simp only [List.setIfInBounds_toArray, List.set_cons_zero, List.set_cons_succ], blk_new W _, hE.2.2⟩
  case body =>
    rintro l pre x a' W hl hr hI ⟨g4, rfl, hV, hVB⟩ hlen
    subst hA0
    simp only [List.setIfInBounds_toArray, List.set_cons_zero, List.set_cons_succ]
    obtain ⟨ts, ⟨A, n, c, hn, rfl⟩, hE⟩ := hI
    have H34 := Aside0.mk x.2.len
    have HN := Aside0.mk hn
    have HE := Aside0.mk hE
    have HV := Aside0.mk hV
    obtain ⟨A', n', c', w1', hrun, hn', hE', hg⟩ := appK_env (k := x.1.ky) [thB w2.heap.size #[.pointer (some ⟨b, 0, none⟩)] 33, thB gout #[.slice A n c] 64] hE.1 (fun k hk => Nat.le_trans hE.1.bel.size hk) (by rw [List.length_map]; omega) x.2.len
    have HRUN := Aside0.mk hrun
    have HE2 := Aside0.mk hE'
    have HGG := Aside0.mk hg
    have HN2 := Aside0.mk hn'
    have ho := blk_cell (hE.1.at 1 rfl) 0
    have ho2 := blk_cell (hE'.at 1 rfl) 0
    have hof := blk_frozen (hE'.at 1 rfl) 0
    simp at ho ho2
    obtain ⟨kk, hkk⟩ : ∃ kk, kk = x.1.ky := ⟨_, rfl⟩
    rw [← hkk] at HRUN H34 HV
    have HKK := Aside0.mk hkk
    clear hrun hE' hg hn' hE hV hl hr hn hkk
    gi_wp2_with (first | (refine in_app (fun _ => trivial) (.tmp 10) (.tmp 12) (by rfl) (by rfl) (by rfl) (by rfl) (by rfl) (by exact HRUN.out) ?_) | (refine in_bs (fun _ => trivial) (.tmp 11) kk (by rfl) (by rfl) (by rfl) H34.out ?_) | (refine wpListIn_load_of (by rfl) 29 (.tmp 4) (by rfl) ⟨g4, 0, none⟩ (by rfl) (box_key H34.out HV.out) ?_))
    have HT_ := Aside0.mk (fun k hk => typedR (HE.out.1.at 2 rfl) (k := k) hk)
    refine ⟨(keepsFrom_app HGG.out HT_.out).trans (keepsFrom_put _ _ _), (KpT.app HGG.out HT_.out).trans (KpT.put _ HGM.out _), _, ⟨A', n', c', ?_, rfl⟩, ?_, ?_, ?_⟩
    · rw [HN2.out]; simp
    · have h1 := HE2.out.put [thB w2.heap.size #[.pointer (some ⟨b, 0, none⟩)] 33] 0 (.slice A' n' c') (cs' := #[.slice A' n' c']) rfl
      have h2 : (pre ++ [x]).map (fun r => r.1.ky) = pre.map (fun r => r.1.ky) ++ [x.1.ky] := by simp
      rw [h2]
      exact h1
    · intro t ht
      simp only [List.mem_cons, List.not_mem_nil, or_false] at ht
      rcases ht with rfl | rfl | rfl
      · exact .inr (cells_B _ _ _)
      · exact .inr (cells_B _ _ _)
      · exact .inr (cells_R _ _ _)
    · rw [size_put]; exact Nat.le_trans HE.out.2.2 HGG.out.size
  case stop =>
    rintro D c pre W _ _ h _
    exact h.elim
  case done =>
    rintro D xs W hD hS ⟨ts, ⟨A, n, c, hn, rfl⟩, hE⟩ hKD
    subst hA0
    have E50 := Aside0.mk (hE.addD hD HBS.out hKD)
    have HN := Aside0.mk (show n = R.length by rw [hn, ← hS, List.length_map])
    have HS := Aside0.mk (show xs.map (fun r => r.1.ky) = R.map Rw.ky by rw [← hS, List.map_map]; rfl)
    clear hE hKD hS hn
    have ho := blk_cell (E50.out.at 2 rfl) 0
    simp at ho
    simp only [List.setIfInBounds_toArray, List.set_cons_zero, List.set_cons_succ]
    gi_wp2
    refine leave_D (v := .slice A n c) E50.out (fun W' hE => ⟨results_one rfl _ _ rfl, A, n, c, rfl, HN.out, ?_, hE.bel⟩)
    have h1 := hE.at 2 rfl
    rw [HS.out] at h1
    exact h1
end Go.Proofs.Ytikpgmajiafhgaa.Fl
/- flow: keys that follow keys. Written by wip/gen/flfo.py. -/
namespace Go.Proofs.Ytikpgmajiafhgaa.Fl
open Go.RowKit Go.Proofs.YtikpgmajiafhgaaW.PrintWords Go.Proofs.YtikpgmajiafhgaaW.PrintLast Go.Proofs.YtikpgmajiafhgaaW.PrintMore Go.Proofs.Ytikpgmajiafhgaa.X Go.Proofs.Ytikpgmajiafhgaa.M
set_option linter.unusedVariables false
set_option linter.unusedSimpArgs false

theorem follows_drop {α : Type} {l b : List α} {j p : Nat} {x : α} (hx : l[j]? = some x) (hs : (l.drop j).Sublist (b.drop p)) : ∃ y, b[p]? = some y ∧ ((y = x ∧ (l.drop (j + 1)).Sublist (b.drop (p + 1))) ∨ (y ≠ x ∧ (l.drop j).Sublist (b.drop (p + 1)))) := by
  obtain ⟨hj, e⟩ := List.getElem?_eq_some_iff.1 hx
  rw [List.drop_eq_getElem_cons hj, e] at hs
  by_cases hp : p < b.length
  · rw [List.drop_eq_getElem_cons hp] at hs
    refine ⟨b[p], List.getElem?_eq_getElem hp, ?_⟩
    by_cases hy : b[p] = x
    · left
      rw [hy] at hs
      exact ⟨hy, List.cons_sublist_cons.1 hs⟩
    · right
      rw [List.drop_eq_getElem_cons hj, e]
      refine ⟨hy, ?_⟩
      cases hs with
      | cons _ h => exact h
      | cons_cons _ h => exact absurd rfl hy
  · rw [show b.drop p = [] from List.drop_eq_nil_of_le (by omega)] at hs
    exact absurd (List.sublist_nil.1 hs) (List.cons_ne_nil _ _)
set_option maxRecDepth 100000 in
set_option maxHeartbeats 4000000 in
theorem follows_calls (bs ls : List (List Int)) (k : List Int) (used : Bool) (A1 A2 : Option Addr) (n1 c1 n2 c2 q : Nat) (w : World) (hB : kK.C w A1 n1 bs) (hc1 : n1 ≤ c1) (hA : kK.C w A2 n2 ls) (hc2 : n2 ≤ c2) (hk34 : k.length = 34) (hb34 : ∀ x ∈ bs, x.length = 34) (ha34 : ∀ x ∈ ls, x.length = 34) (hl1 : n1 ≤ 1000000) (hl2 : n2 ≤ 1000000)
    (hq : n2 = if used then q + 1 else q) (hs : (ls.take q).Sublist bs) (hu : used = true → ∀ x ∈ ls.take q, x ≠ k) :
    Calls Try.prog 30 #[.slice A1 n1 c1, .slice A2 n2 c2, kv k, .bool used] w fun en w' => en = .returned (.bool true) ∧ Below w.heap.size w w' := by
  have HB := Aside0.mk hB
  have HA := Aside0.mk hA
  have H34 := Aside0.mk hk34
  have HB34 := Aside0.mk hb34
  have HA34 := Aside0.mk ha34
  have HLL := Aside0.mk (And.intro hl1 hl2)
  have HC1 := Aside0.mk hc1
  have HC2 := Aside0.mk hc2
  have HLN := Aside0.mk (show bs.length = n1 ∧ ls.length = n2 from ⟨hB.1, hA.1⟩)
  have HSU := Aside0.mk hs
  clear hB hA hk34 hb34 ha34 hl1 hl2 hs hc1 hc2
  obtain ⟨w0, hw0⟩ : ∃ W, W = w.alloc (.cells (encK k).toArray 29) := ⟨_, rfl⟩
  obtain ⟨g, hg⟩ : ∃ g, g = w.heap.size := ⟨_, rfl⟩
  have HG := Aside0.mk (show w0.heap[g]? = some (.cells (encK k).toArray 29 (0, 0)) by rw [hw0, hg]; exact blk_new w _)
  have HB0 := Aside0.mk (show Below w.heap.size w w0 by rw [hw0]; exact below_alloc (Below.refl _ _) _)
  have HW := Aside0.mk (And.intro hw0 hg)
  clear hw0 hg
  cases used with
  | true =>
    have hq' : n2 = q + 1 := by simpa using hq
    have HU := Aside0.mk (hu rfl)
    clear hq hu
    have HQ := Aside0.mk hq'
    have q0 : (q : Int) ≤ 1000000 := by have := HLL.out; omega
    have q1 : wrap64 ((n2 : Int) - 1) = (q : Int) := by have := HLL.out; unfold wrap64; omega
    clear hq'
    go_enter Try.func30, Try.ntmps30
    go_upto_region 1 with fail
    rw [← HW.out.1, ← HW.out.2]
    go_wp2_with fail
    go_loopw [8, 10, 11, 17, 18, 19, 20, 21, 22, 23, 24, 25, 26, 27, 28, 29, 30, 31, 32, 33, 34, 35, 36, 37, 38, 39, 40, 41, 42, 43, 44, 45, 46, 47, 48, 49, 50, 51, 52, 53, 54, 55] (fun _ av iv _ _ _ _ _ _ _ _ _ _ _ _ _ _ _ _ _ _ _ _ _ _ _ _ _ _ _ _ _ _ _ _ _ _ _ _ _ _ _ wr => ∃ p j : Nat, p ≤ n1 ∧ j ≤ q ∧ av = .int .i64 (p : Int) ∧ iv = .int .i64 (j : Int) ∧ Aside0 (((ls.take q).drop j).Sublist (bs.drop p)) ∧ Aside0 (Below w0.heap.size w0 wr)) (fun _ av iv _ _ _ _ _ _ _ _ _ _ _ _ _ _ _ _ _ _ _ _ _ _ _ _ _ _ _ _ _ _ _ _ _ _ _ _ _ _ _ wr => q - (intOf iv).toNat)
    case atStart => exact ⟨0, 0, Nat.zero_le _, Nat.zero_le _, rfl, rfl, HSU, ⟨Below.refl _ _⟩⟩
    case round =>
      obtain ⟨p0, j, hp0, hj, rfl, rfl, HS0, HBW⟩ := hrel
      by_cases hlt : j < q
      · obtain ⟨x, hx⟩ : ∃ x, (ls.take q)[j]? = some x := ⟨_, List.getElem?_eq_getElem (by rw [List.length_take]; have := HLN.out; have := HQ.out; omega)⟩
        have hxa : ls[j]? = some x := by rw [List.getElem?_take] at hx; simpa [hlt] using hx
        have HX := Aside0.mk hx
        have HXA := Aside0.mk hxa
        have HX34 := Aside0.mk (HA34.out x (List.mem_of_getElem? hxa))
        have f1 : ((j : Int) < (q : Int)) = True := eq_true (by omega)
        have f2 : decide ((j : Int) < (q : Int)) = true := decide_eq_true (by omega)
        have f3 : ((0 : Int) ≤ (j : Int)) = True := eq_true (by omega)
        have f4 : ((j : Int) < (n2 : Int)) = True := eq_true (by have := HQ.out; omega)
        have f5 : (j : Int) ≤ 1000000 := by have := HLL.out; have := HQ.out; omega
        obtain ⟨ad2, hA2⟩ := C_ad HA.out (by have := HLN.out; have := HQ.out; omega)
        have HJ := Aside0.mk hlt
        have HP0 := Aside0.mk hp0
        clear hx hxa hlt hj hp0
        go_wp2_with fail
        obtain ⟨wo, hwo⟩ : ∃ W, W = wr := ⟨_, rfl⟩
        subst hwo
        go_loopw [10] (fun av wr => ∃ p : Nat, p ≤ n1 ∧ av = .int .i64 (p : Int) ∧ Aside0 (((ls.take q).drop j).Sublist (bs.drop p)) ∧ Aside0 (Below w0.heap.size w0 wr)) (fun av wr => n1 - (intOf av).toNat)
        case atStart => exact ⟨p0, HP0.out, rfl, HS0, HBW⟩
        case round =>
          clear HBW
          obtain ⟨p, hp, rfl, HS, HBW⟩ := hrel
          obtain ⟨y, hy, hcase⟩ := follows_drop HX.out HS.out
          have hpl := (List.getElem?_eq_some_iff.1 hy).1
          have HY34 := Aside0.mk (HB34.out y (List.mem_of_getElem? hy))
          have HYB := Aside0.mk hy
          obtain ⟨ad1, hA1⟩ := C_ad HB.out (by omega)
          have g1 : ((p : Int) < (n1 : Int)) = True := eq_true (by have := HLN.out; omega)
          have g2 : decide ((p : Int) < (n1 : Int)) = true := decide_eq_true (by have := HLN.out; omega)
          have g3 : ((0 : Int) ≤ (p : Int)) = True := eq_true (by omega)
          have g4 : (p : Int) ≤ 1000000 := by have := HLL.out; omega
          have HAA := Aside0.mk (And.intro hA1 hA2)
          have HPL := Aside0.mk (show p < n1 by have := HLN.out; omega)
          clear hy hpl hp
          have HBc := HB.out
          have HAc := HA.out
          rw [hA1] at HBc ⊢
          rw [hA2] at HAc ⊢
          have HBC := Aside0.mk HBc
          have HAC := Aside0.mk HAc
          skip
          obtain ⟨wd, hwd⟩ : ∃ W, W = wr.drew := ⟨_, rfl⟩
          have HBD := Aside0.mk (show Below w0.heap.size w0 wd by rw [hwd]; exact below_drew HBW.out)
          have HSS := Aside0.mk (Below.refl wd.heap.size wd)
          have HLX := Aside0.mk (fun V (hs : Below wd.heap.size wd V) => C_key (W := V) (Kd.C_below (Kd.C_below (Kd.C_below HAC.out HB0.out) HBD.out) hs) HXA.out)
          have HLY := Aside0.mk (fun V (hs : Below wd.heap.size wd V) => C_key (W := V) (Kd.C_below (Kd.C_below (Kd.C_below HBC.out HB0.out) HBD.out) hs) HYB.out)
          have HGD := Aside0.mk (fun V (hs : Below wd.heap.size wd V) => box_key (W := V) H34.out (blk_below (blk_below HG.out HBD.out) hs))
          clear HBc HAc
          rcases hcase with ⟨hyx, hs1⟩ | ⟨hyx, hs1⟩
          · have HYX := Aside0.mk (decide_eq_true hyx)
            have HS1 := Aside0.mk hs1
            clear hyx hs1
            go_wp2_with fail
            refine Held.wp_region_G (S := (fun V : World => Below wd.heap.size wd V)) (by kernel_rfl) ?_
            change Held.wpAnyG _ _ _ _ _ 15 _ _ _
            rw [← hwd]
            clear hwd
            refine Held.wpAnyG_take (i := 0) (v := (.int .i64 (p : Int))) rfl (by kernel_rfl) (by kernel_rfl) (by kernel_rfl) (fun _ _ _ h => h) HSS.out (by first | (with_reducible rfl) | (simp [Region.wanted, yielded, Act.put]; done) | rfl) (fun V hs => by go_simp) (some 22) rfl #[p3,q3,q3,q3,q3,q3,q3,q3,q3,q3,q3,q3,q3,q3,q3] (by kernel_rfl) ?_
            simp only [Act.put, List.setIfInBounds_toArray, List.set_cons_zero, List.set_cons_succ]
            refine Held.wpAnyG_take (i := 1) (v := (.slice (some ad1) n1 c1)) rfl (by kernel_rfl) (by kernel_rfl) (by kernel_rfl) (fun _ _ _ h => h) HSS.out (by first | (with_reducible rfl) | (simp [Region.wanted, yielded, Act.put]; done) | rfl) (fun V hs => by go_simp) (some 23) rfl #[p3,p3,q3,q3,q3,q3,q3,q3,q3,q3,q3,q3,q3,q3,q3] (by kernel_rfl) ?_
            simp only [Act.put, List.setIfInBounds_toArray, List.set_cons_zero, List.set_cons_succ]
            refine Held.wpAnyG_take (i := 2) (v := (.int .i64 (n1 : Int))) rfl (by kernel_rfl) (by kernel_rfl) (by kernel_rfl) (fun _ _ _ h => h) HSS.out (by first | (with_reducible rfl) | (simp [Region.wanted, yielded, Act.put]; done) | rfl) (fun V hs => by go_simp) (some 24) rfl #[p3,p3,p3,q3,q3,q3,q3,q3,q3,q3,q3,q3,q3,q3,q3] (by kernel_rfl) ?_
            simp only [Act.put, List.setIfInBounds_toArray, List.set_cons_zero, List.set_cons_succ]
            refine Held.wpAnyG_take (i := 3) (v := (.bool true)) rfl (by kernel_rfl) (by kernel_rfl) (by kernel_rfl) (fun _ _ _ h => h) HSS.out (by first | (with_reducible rfl) | (simp [Region.wanted, yielded, Act.put]; done) | rfl) (fun V hs => by go_simp) (some 25) rfl #[p3,p3,p3,p3,q3,q3,q3,q3,q3,q3,q3,q3,q3,q3,q3] (by kernel_rfl) ?_
            simp only [Act.put, List.setIfInBounds_toArray, List.set_cons_zero, List.set_cons_succ]
            refine Held.wpAnyG_take (i := 4) (v := (.bool true)) rfl (by kernel_rfl) (by kernel_rfl) (by kernel_rfl) (fun _ _ _ h => h) HSS.out (by first | (with_reducible rfl) | (simp [Region.wanted, yielded, Act.put]; done) | rfl) (fun V hs => by go_simp) (some 26) rfl #[p3,p3,p3,p3,p3,q3,q3,q3,q3,q3,q3,q3,q3,q3,q3] (by kernel_rfl) ?_
            simp only [Act.put, List.setIfInBounds_toArray, List.set_cons_zero, List.set_cons_succ]
            refine Held.wpAnyG_take (i := 5) (v := (.slice (some ad1) n1 c1)) rfl (by kernel_rfl) (by kernel_rfl) (by kernel_rfl) (fun _ _ _ h => h) HSS.out (by first | (with_reducible rfl) | (simp [Region.wanted, yielded, Act.put]; done) | rfl) (fun V hs => by go_simp) (some 27) rfl #[p3,p3,p3,p3,p3,p3,q3,q3,q3,q3,q3,q3,q3,q3,q3] (by kernel_rfl) ?_
            simp only [Act.put, List.setIfInBounds_toArray, List.set_cons_zero, List.set_cons_succ]
            refine Held.wpAnyG_take (i := 6) (v := (.int .i64 (p : Int))) rfl (by kernel_rfl) (by kernel_rfl) (by kernel_rfl) (fun _ _ _ h => h) HSS.out (by first | (with_reducible rfl) | (simp [Region.wanted, yielded, Act.put]; done) | rfl) (fun V hs => by go_simp) (some 28) rfl #[p3,p3,p3,p3,p3,p3,p3,q3,q3,q3,q3,q3,q3,q3,q3] (by kernel_rfl) ?_
            simp only [Act.put, List.setIfInBounds_toArray, List.set_cons_zero, List.set_cons_succ]
            refine Held.wpAnyG_take (i := 7) (v := (.pointer (some (ad1.add (p * 34))))) rfl (by kernel_rfl) (by kernel_rfl) (by kernel_rfl) (fun _ _ _ h => h) HSS.out (by first | (with_reducible rfl) | (simp [Region.wanted, yielded, Act.put]; done) | rfl) (fun V hs => by go_simp) (some 29) rfl #[p3,p3,p3,p3,p3,p3,p3,p3,q3,q3,q3,q3,q3,q3,q3] (by kernel_rfl) ?_
            simp only [Act.put, List.setIfInBounds_toArray, List.set_cons_zero, List.set_cons_succ]
            refine Held.wpAnyG_take (i := 8) (v := (kv y)) rfl (by kernel_rfl) (by kernel_rfl) (by kernel_rfl) (fun _ _ _ h => h) HSS.out (by first | (with_reducible rfl) | (simp [Region.wanted, yielded, Act.put]; done) | rfl) (fun V hs => Held.run_load_of 29 (.tmp 29) rfl (ad1.add (p * 34)) rfl (HLY.out V hs)) (some 30) rfl #[p3,p3,p3,p3,p3,p3,p3,p3,p3,q3,q3,q3,q3,q3,q3] (by kernel_rfl) ?_
            simp only [Act.put, List.setIfInBounds_toArray, List.set_cons_zero, List.set_cons_succ]
            refine Held.wpAnyG_take (i := 9) (v := (.slice (some ad2) n2 c2)) rfl (by kernel_rfl) (by kernel_rfl) (by kernel_rfl) (fun _ _ _ h => h) HSS.out (by first | (with_reducible rfl) | (simp [Region.wanted, yielded, Act.put]; done) | rfl) (fun V hs => by go_simp) (some 31) rfl #[p3,p3,p3,p3,p3,p3,p3,p3,p3,p3,q3,q3,q3,q3,q3] (by kernel_rfl) ?_
            simp only [Act.put, List.setIfInBounds_toArray, List.set_cons_zero, List.set_cons_succ]
            refine Held.wpAnyG_take (i := 10) (v := (.int .i64 (j : Int))) rfl (by kernel_rfl) (by kernel_rfl) (by kernel_rfl) (fun _ _ _ h => h) HSS.out (by first | (with_reducible rfl) | (simp [Region.wanted, yielded, Act.put]; done) | rfl) (fun V hs => by go_simp) (some 32) rfl #[p3,p3,p3,p3,p3,p3,p3,p3,p3,p3,p3,q3,q3,q3,q3] (by kernel_rfl) ?_
            simp only [Act.put, List.setIfInBounds_toArray, List.set_cons_zero, List.set_cons_succ]
            refine Held.wpAnyG_take (i := 11) (v := (.pointer (some (ad2.add (j * 34))))) rfl (by kernel_rfl) (by kernel_rfl) (by kernel_rfl) (fun _ _ _ h => h) HSS.out (by first | (with_reducible rfl) | (simp [Region.wanted, yielded, Act.put]; done) | rfl) (fun V hs => by go_simp) (some 33) rfl #[p3,p3,p3,p3,p3,p3,p3,p3,p3,p3,p3,p3,q3,q3,q3] (by kernel_rfl) ?_
            simp only [Act.put, List.setIfInBounds_toArray, List.set_cons_zero, List.set_cons_succ]
            refine Held.wpAnyG_take (i := 12) (v := (kv x)) rfl (by kernel_rfl) (by kernel_rfl) (by kernel_rfl) (fun _ _ _ h => h) HSS.out (by first | (with_reducible rfl) | (simp [Region.wanted, yielded, Act.put]; done) | rfl) (fun V hs => Held.run_load_of 29 (.tmp 33) rfl (ad2.add (j * 34)) rfl (HLX.out V hs)) (some 34) rfl #[p3,p3,p3,p3,p3,p3,p3,p3,p3,p3,p3,p3,p3,q3,q3] (by kernel_rfl) ?_
            simp only [Act.put, List.setIfInBounds_toArray, List.set_cons_zero, List.set_cons_succ]
            refine Held.wpAnyG_take (i := 13) (v := (.bool false)) rfl (by kernel_rfl) (by kernel_rfl) (by kernel_rfl) (fun _ _ _ h => h) HSS.out (by first | (with_reducible rfl) | (simp [Region.wanted, yielded, Act.put]; done) | rfl) (fun V hs => (run_neqKF (.tmp 30) (.tmp 34) rfl y x HY34.out HX34.out rfl rfl V).trans (by rw [HYX.out]; rfl)) (some 35) rfl #[p3,p3,p3,p3,p3,p3,p3,p3,p3,p3,p3,p3,p3,p3,q3] (by kernel_rfl) ?_
            simp only [Act.put, List.setIfInBounds_toArray, List.set_cons_zero, List.set_cons_succ]
            refine Held.wpAnyG_take (i := 14) (v := (.bool false)) rfl (by kernel_rfl) (by kernel_rfl) (by kernel_rfl) (fun _ _ _ h => h) HSS.out (by first | (with_reducible rfl) | (simp [Region.wanted, yielded, Act.put]; done) | rfl) (fun V hs => by go_simp) (some 36) rfl #[p3,p3,p3,p3,p3,p3,p3,p3,p3,p3,p3,p3,p3,p3,p3] (by kernel_rfl) ?_
            simp only [Act.put, List.setIfInBounds_toArray, List.set_cons_zero, List.set_cons_succ]
            refine Held.wpAnyG_done (by kernel_rfl) ?_ _
            go_wp2_with fail
            have HXK := Aside0.mk (decide_eq_false (HU.out x (List.mem_of_getElem? HX.out)))
            have g5 : ((p : Int) = (n1 : Int)) = False := eq_false (by have := HPL.out; omega)
            have g6 : ((p : Nat) = n1) = False := eq_false (by have := HPL.out; omega)
            obtain ⟨we, hwd⟩ : ∃ W, W = wd.drew := ⟨_, rfl⟩
            have HBE := Aside0.mk (show Below wd.heap.size wd we by rw [hwd]; exact below_drew (Below.refl _ _))
            clear HSS
            have HSS := Aside0.mk HBE.out
            refine Held.wp_region_G (S := (fun V : World => Below wd.heap.size wd V)) (by kernel_rfl) ?_
            change Held.wpAnyG _ _ _ _ _ 15 _ _ _
            rw [← hwd]
            clear hwd
            refine Held.wpAnyG_take (i := 0) (v := (.int .i64 (p : Int))) rfl (by kernel_rfl) (by kernel_rfl) (by kernel_rfl) (fun _ _ _ h => h) HSS.out (by first | (with_reducible rfl) | (simp [Region.wanted, yielded, Act.put]; done) | rfl) (fun V hs => by go_simp) (some 39) rfl #[p3,q3,q3,q3,q3,q3,q3,q3,q3,q3,q3,q3,q3,q3,q3] (by kernel_rfl) ?_
            simp only [Act.put, List.setIfInBounds_toArray, List.set_cons_zero, List.set_cons_succ]
            refine Held.wpAnyG_take (i := 1) (v := (.slice (some ad1) n1 c1)) rfl (by kernel_rfl) (by kernel_rfl) (by kernel_rfl) (fun _ _ _ h => h) HSS.out (by first | (with_reducible rfl) | (simp [Region.wanted, yielded, Act.put]; done) | rfl) (fun V hs => by go_simp) (some 40) rfl #[p3,p3,q3,q3,q3,q3,q3,q3,q3,q3,q3,q3,q3,q3,q3] (by kernel_rfl) ?_
            simp only [Act.put, List.setIfInBounds_toArray, List.set_cons_zero, List.set_cons_succ]
            refine Held.wpAnyG_take (i := 2) (v := (.int .i64 (n1 : Int))) rfl (by kernel_rfl) (by kernel_rfl) (by kernel_rfl) (fun _ _ _ h => h) HSS.out (by first | (with_reducible rfl) | (simp [Region.wanted, yielded, Act.put]; done) | rfl) (fun V hs => by go_simp) (some 41) rfl #[p3,p3,p3,q3,q3,q3,q3,q3,q3,q3,q3,q3,q3,q3,q3] (by kernel_rfl) ?_
            simp only [Act.put, List.setIfInBounds_toArray, List.set_cons_zero, List.set_cons_succ]
            refine Held.wpAnyG_take (i := 3) (v := (.bool false)) rfl (by kernel_rfl) (by kernel_rfl) (by kernel_rfl) (fun _ _ _ h => h) HSS.out (by first | (with_reducible rfl) | (simp [Region.wanted, yielded, Act.put]; done) | rfl) (fun V hs => by go_simp) (some 42) rfl #[p3,p3,p3,p3,q3,q3,q3,q3,q3,q3,q3,q3,q3,q3,q3] (by kernel_rfl) ?_
            simp only [Act.put, List.setIfInBounds_toArray, List.set_cons_zero, List.set_cons_succ]
            refine Held.wpAnyG_take (i := 4) (v := (.bool false)) rfl (by kernel_rfl) (by kernel_rfl) (by kernel_rfl) (fun _ _ _ h => h) HSS.out (by first | (with_reducible rfl) | (simp [Region.wanted, yielded, Act.put]; done) | rfl) (fun V hs => by go_simp) (some 43) rfl #[p3,p3,p3,p3,p3,q3,q3,q3,q3,q3,q3,q3,q3,q3,q3] (by kernel_rfl) ?_
            simp only [Act.put, List.setIfInBounds_toArray, List.set_cons_zero, List.set_cons_succ]
            refine Held.wpAnyG_take (i := 5) (v := (.bool true)) rfl (by kernel_rfl) (by kernel_rfl) (by kernel_rfl) (fun _ _ _ h => h) HSS.out (by first | (with_reducible rfl) | (simp [Region.wanted, yielded, Act.put]; done) | rfl) (fun V hs => by go_simp) (some 44) rfl #[p3,p3,p3,p3,p3,p3,q3,q3,q3,q3,q3,q3,q3,q3,q3] (by kernel_rfl) ?_
            simp only [Act.put, List.setIfInBounds_toArray, List.set_cons_zero, List.set_cons_succ]
            refine Held.wpAnyG_take (i := 6) (v := (.bool true)) rfl (by kernel_rfl) (by kernel_rfl) (by kernel_rfl) (fun _ _ _ h => h) HSS.out (by first | (with_reducible rfl) | (simp [Region.wanted, yielded, Act.put]; done) | rfl) (fun V hs => by go_simp) (some 45) rfl #[p3,p3,p3,p3,p3,p3,p3,q3,q3,q3,q3,q3,q3,q3,q3] (by kernel_rfl) ?_
            simp only [Act.put, List.setIfInBounds_toArray, List.set_cons_zero, List.set_cons_succ]
            refine Held.wpAnyG_take (i := 7) (v := (.slice (some ad2) n2 c2)) rfl (by kernel_rfl) (by kernel_rfl) (by kernel_rfl) (fun _ _ _ h => h) HSS.out (by first | (with_reducible rfl) | (simp [Region.wanted, yielded, Act.put]; done) | rfl) (fun V hs => by go_simp) (some 46) rfl #[p3,p3,p3,p3,p3,p3,p3,p3,q3,q3,q3,q3,q3,q3,q3] (by kernel_rfl) ?_
            simp only [Act.put, List.setIfInBounds_toArray, List.set_cons_zero, List.set_cons_succ]
            refine Held.wpAnyG_take (i := 8) (v := (.int .i64 (j : Int))) rfl (by kernel_rfl) (by kernel_rfl) (by kernel_rfl) (fun _ _ _ h => h) HSS.out (by first | (with_reducible rfl) | (simp [Region.wanted, yielded, Act.put]; done) | rfl) (fun V hs => by go_simp) (some 47) rfl #[p3,p3,p3,p3,p3,p3,p3,p3,p3,q3,q3,q3,q3,q3,q3] (by kernel_rfl) ?_
            simp only [Act.put, List.setIfInBounds_toArray, List.set_cons_zero, List.set_cons_succ]
            refine Held.wpAnyG_take (i := 9) (v := (.pointer (some (ad2.add (j * 34))))) rfl (by kernel_rfl) (by kernel_rfl) (by kernel_rfl) (fun _ _ _ h => h) HSS.out (by first | (with_reducible rfl) | (simp [Region.wanted, yielded, Act.put]; done) | rfl) (fun V hs => by go_simp) (some 48) rfl #[p3,p3,p3,p3,p3,p3,p3,p3,p3,p3,q3,q3,q3,q3,q3] (by kernel_rfl) ?_
            simp only [Act.put, List.setIfInBounds_toArray, List.set_cons_zero, List.set_cons_succ]
            refine Held.wpAnyG_take (i := 10) (v := (kv x)) rfl (by kernel_rfl) (by kernel_rfl) (by kernel_rfl) (fun _ _ _ h => h) HSS.out (by first | (with_reducible rfl) | (simp [Region.wanted, yielded, Act.put]; done) | rfl) (fun V hs => Held.run_load_of 29 (.tmp 48) rfl (ad2.add (j * 34)) rfl (HLX.out V hs)) (some 49) rfl #[p3,p3,p3,p3,p3,p3,p3,p3,p3,p3,p3,q3,q3,q3,q3] (by kernel_rfl) ?_
            simp only [Act.put, List.setIfInBounds_toArray, List.set_cons_zero, List.set_cons_succ]
            refine Held.wpAnyG_take (i := 11) (v := (kv k)) rfl (by kernel_rfl) (by kernel_rfl) (by kernel_rfl) (fun _ _ _ h => h) HSS.out (by first | (with_reducible rfl) | (simp [Region.wanted, yielded, Act.put]; done) | rfl) (fun V hs => Held.run_load_of 29 (.tmp 6) rfl ⟨g, 0, none⟩ rfl (HGD.out V hs)) (some 50) rfl #[p3,p3,p3,p3,p3,p3,p3,p3,p3,p3,p3,p3,q3,q3,q3] (by kernel_rfl) ?_
            simp only [Act.put, List.setIfInBounds_toArray, List.set_cons_zero, List.set_cons_succ]
            refine Held.wpAnyG_take (i := 12) (v := (.bool false)) rfl (by kernel_rfl) (by kernel_rfl) (by kernel_rfl) (fun _ _ _ h => h) HSS.out (by first | (with_reducible rfl) | (simp [Region.wanted, yielded, Act.put]; done) | rfl) (fun V hs => (run_eqlKF (.tmp 49) (.tmp 50) rfl x k HX34.out H34.out rfl rfl V).trans (by rw [HXK.out])) (some 51) rfl #[p3,p3,p3,p3,p3,p3,p3,p3,p3,p3,p3,p3,p3,q3,q3] (by kernel_rfl) ?_
            simp only [Act.put, List.setIfInBounds_toArray, List.set_cons_zero, List.set_cons_succ]
            refine Held.wpAnyG_take (i := 13) (v := (.bool false)) rfl (by kernel_rfl) (by kernel_rfl) (by kernel_rfl) (fun _ _ _ h => h) HSS.out (by first | (with_reducible rfl) | (simp [Region.wanted, yielded, Act.put]; done) | rfl) (fun V hs => by go_simp) (some 52) rfl #[p3,p3,p3,p3,p3,p3,p3,p3,p3,p3,p3,p3,p3,p3,q3] (by kernel_rfl) ?_
            simp only [Act.put, List.setIfInBounds_toArray, List.set_cons_zero, List.set_cons_succ]
            refine Held.wpAnyG_take (i := 14) (v := (.bool false)) rfl (by kernel_rfl) (by kernel_rfl) (by kernel_rfl) (fun _ _ _ h => h) HSS.out (by first | (with_reducible rfl) | (simp [Region.wanted, yielded, Act.put]; done) | rfl) (fun V hs => by go_simp) (some 53) rfl #[p3,p3,p3,p3,p3,p3,p3,p3,p3,p3,p3,p3,p3,p3,p3] (by kernel_rfl) ?_
            simp only [Act.put, List.setIfInBounds_toArray, List.set_cons_zero, List.set_cons_succ]
            refine Held.wpAnyG_done (by kernel_rfl) ?_ _
            go_wp2_with fail
            rw [← HAA.out.1, ← HAA.out.2]
            go_roundw
            case rel => exact ⟨p + 1, j + 1, by have := HPL.out; omega, by have := HJ.out; omega, by go_num, by go_num, HS1, ⟨HBD.out.trans (HSS.out.mono HBD.out.size)⟩⟩
            case measure => have := HJ.out; simp [intOf]; omega
          · have HYX := Aside0.mk (decide_eq_false hyx)
            have HS1 := Aside0.mk hs1
            clear hyx hs1
            go_wp2_with fail
            refine Held.wp_region_G (S := (fun V : World => Below wd.heap.size wd V)) (by kernel_rfl) ?_
            change Held.wpAnyG _ _ _ _ _ 15 _ _ _
            rw [← hwd]
            clear hwd
            refine Held.wpAnyG_take (i := 0) (v := (.int .i64 (p : Int))) rfl (by kernel_rfl) (by kernel_rfl) (by kernel_rfl) (fun _ _ _ h => h) HSS.out (by first | (with_reducible rfl) | (simp [Region.wanted, yielded, Act.put]; done) | rfl) (fun V hs => by go_simp) (some 22) rfl #[p3,q3,q3,q3,q3,q3,q3,q3,q3,q3,q3,q3,q3,q3,q3] (by kernel_rfl) ?_
            simp only [Act.put, List.setIfInBounds_toArray, List.set_cons_zero, List.set_cons_succ]
            refine Held.wpAnyG_take (i := 1) (v := (.slice (some ad1) n1 c1)) rfl (by kernel_rfl) (by kernel_rfl) (by kernel_rfl) (fun _ _ _ h => h) HSS.out (by first | (with_reducible rfl) | (simp [Region.wanted, yielded, Act.put]; done) | rfl) (fun V hs => by go_simp) (some 23) rfl #[p3,p3,q3,q3,q3,q3,q3,q3,q3,q3,q3,q3,q3,q3,q3] (by kernel_rfl) ?_
            simp only [Act.put, List.setIfInBounds_toArray, List.set_cons_zero, List.set_cons_succ]
            refine Held.wpAnyG_take (i := 2) (v := (.int .i64 (n1 : Int))) rfl (by kernel_rfl) (by kernel_rfl) (by kernel_rfl) (fun _ _ _ h => h) HSS.out (by first | (with_reducible rfl) | (simp [Region.wanted, yielded, Act.put]; done) | rfl) (fun V hs => by go_simp) (some 24) rfl #[p3,p3,p3,q3,q3,q3,q3,q3,q3,q3,q3,q3,q3,q3,q3] (by kernel_rfl) ?_
            simp only [Act.put, List.setIfInBounds_toArray, List.set_cons_zero, List.set_cons_succ]
            refine Held.wpAnyG_take (i := 3) (v := (.bool true)) rfl (by kernel_rfl) (by kernel_rfl) (by kernel_rfl) (fun _ _ _ h => h) HSS.out (by first | (with_reducible rfl) | (simp [Region.wanted, yielded, Act.put]; done) | rfl) (fun V hs => by go_simp) (some 25) rfl #[p3,p3,p3,p3,q3,q3,q3,q3,q3,q3,q3,q3,q3,q3,q3] (by kernel_rfl) ?_
            simp only [Act.put, List.setIfInBounds_toArray, List.set_cons_zero, List.set_cons_succ]
            refine Held.wpAnyG_take (i := 4) (v := (.bool true)) rfl (by kernel_rfl) (by kernel_rfl) (by kernel_rfl) (fun _ _ _ h => h) HSS.out (by first | (with_reducible rfl) | (simp [Region.wanted, yielded, Act.put]; done) | rfl) (fun V hs => by go_simp) (some 26) rfl #[p3,p3,p3,p3,p3,q3,q3,q3,q3,q3,q3,q3,q3,q3,q3] (by kernel_rfl) ?_
            simp only [Act.put, List.setIfInBounds_toArray, List.set_cons_zero, List.set_cons_succ]
            refine Held.wpAnyG_take (i := 5) (v := (.slice (some ad1) n1 c1)) rfl (by kernel_rfl) (by kernel_rfl) (by kernel_rfl) (fun _ _ _ h => h) HSS.out (by first | (with_reducible rfl) | (simp [Region.wanted, yielded, Act.put]; done) | rfl) (fun V hs => by go_simp) (some 27) rfl #[p3,p3,p3,p3,p3,p3,q3,q3,q3,q3,q3,q3,q3,q3,q3] (by kernel_rfl) ?_
            simp only [Act.put, List.setIfInBounds_toArray, List.set_cons_zero, List.set_cons_succ]
            refine Held.wpAnyG_take (i := 6) (v := (.int .i64 (p : Int))) rfl (by kernel_rfl) (by kernel_rfl) (by kernel_rfl) (fun _ _ _ h => h) HSS.out (by first | (with_reducible rfl) | (simp [Region.wanted, yielded, Act.put]; done) | rfl) (fun V hs => by go_simp) (some 28) rfl #[p3,p3,p3,p3,p3,p3,p3,q3,q3,q3,q3,q3,q3,q3,q3] (by kernel_rfl) ?_
            simp only [Act.put, List.setIfInBounds_toArray, List.set_cons_zero, List.set_cons_succ]
            refine Held.wpAnyG_take (i := 7) (v := (.pointer (some (ad1.add (p * 34))))) rfl (by kernel_rfl) (by kernel_rfl) (by kernel_rfl) (fun _ _ _ h => h) HSS.out (by first | (with_reducible rfl) | (simp [Region.wanted, yielded, Act.put]; done) | rfl) (fun V hs => by go_simp) (some 29) rfl #[p3,p3,p3,p3,p3,p3,p3,p3,q3,q3,q3,q3,q3,q3,q3] (by kernel_rfl) ?_
            simp only [Act.put, List.setIfInBounds_toArray, List.set_cons_zero, List.set_cons_succ]
            refine Held.wpAnyG_take (i := 8) (v := (kv y)) rfl (by kernel_rfl) (by kernel_rfl) (by kernel_rfl) (fun _ _ _ h => h) HSS.out (by first | (with_reducible rfl) | (simp [Region.wanted, yielded, Act.put]; done) | rfl) (fun V hs => Held.run_load_of 29 (.tmp 29) rfl (ad1.add (p * 34)) rfl (HLY.out V hs)) (some 30) rfl #[p3,p3,p3,p3,p3,p3,p3,p3,p3,q3,q3,q3,q3,q3,q3] (by kernel_rfl) ?_
            simp only [Act.put, List.setIfInBounds_toArray, List.set_cons_zero, List.set_cons_succ]
            refine Held.wpAnyG_take (i := 9) (v := (.slice (some ad2) n2 c2)) rfl (by kernel_rfl) (by kernel_rfl) (by kernel_rfl) (fun _ _ _ h => h) HSS.out (by first | (with_reducible rfl) | (simp [Region.wanted, yielded, Act.put]; done) | rfl) (fun V hs => by go_simp) (some 31) rfl #[p3,p3,p3,p3,p3,p3,p3,p3,p3,p3,q3,q3,q3,q3,q3] (by kernel_rfl) ?_
            simp only [Act.put, List.setIfInBounds_toArray, List.set_cons_zero, List.set_cons_succ]
            refine Held.wpAnyG_take (i := 10) (v := (.int .i64 (j : Int))) rfl (by kernel_rfl) (by kernel_rfl) (by kernel_rfl) (fun _ _ _ h => h) HSS.out (by first | (with_reducible rfl) | (simp [Region.wanted, yielded, Act.put]; done) | rfl) (fun V hs => by go_simp) (some 32) rfl #[p3,p3,p3,p3,p3,p3,p3,p3,p3,p3,p3,q3,q3,q3,q3] (by kernel_rfl) ?_
            simp only [Act.put, List.setIfInBounds_toArray, List.set_cons_zero, List.set_cons_succ]
            refine Held.wpAnyG_take (i := 11) (v := (.pointer (some (ad2.add (j * 34))))) rfl (by kernel_rfl) (by kernel_rfl) (by kernel_rfl) (fun _ _ _ h => h) HSS.out (by first | (with_reducible rfl) | (simp [Region.wanted, yielded, Act.put]; done) | rfl) (fun V hs => by go_simp) (some 33) rfl #[p3,p3,p3,p3,p3,p3,p3,p3,p3,p3,p3,p3,q3,q3,q3] (by kernel_rfl) ?_
            simp only [Act.put, List.setIfInBounds_toArray, List.set_cons_zero, List.set_cons_succ]
            refine Held.wpAnyG_take (i := 12) (v := (kv x)) rfl (by kernel_rfl) (by kernel_rfl) (by kernel_rfl) (fun _ _ _ h => h) HSS.out (by first | (with_reducible rfl) | (simp [Region.wanted, yielded, Act.put]; done) | rfl) (fun V hs => Held.run_load_of 29 (.tmp 33) rfl (ad2.add (j * 34)) rfl (HLX.out V hs)) (some 34) rfl #[p3,p3,p3,p3,p3,p3,p3,p3,p3,p3,p3,p3,p3,q3,q3] (by kernel_rfl) ?_
            simp only [Act.put, List.setIfInBounds_toArray, List.set_cons_zero, List.set_cons_succ]
            refine Held.wpAnyG_take (i := 13) (v := (.bool true)) rfl (by kernel_rfl) (by kernel_rfl) (by kernel_rfl) (fun _ _ _ h => h) HSS.out (by first | (with_reducible rfl) | (simp [Region.wanted, yielded, Act.put]; done) | rfl) (fun V hs => (run_neqKF (.tmp 30) (.tmp 34) rfl y x HY34.out HX34.out rfl rfl V).trans (by rw [HYX.out]; rfl)) (some 35) rfl #[p3,p3,p3,p3,p3,p3,p3,p3,p3,p3,p3,p3,p3,p3,q3] (by kernel_rfl) ?_
            simp only [Act.put, List.setIfInBounds_toArray, List.set_cons_zero, List.set_cons_succ]
            refine Held.wpAnyG_take (i := 14) (v := (.bool true)) rfl (by kernel_rfl) (by kernel_rfl) (by kernel_rfl) (fun _ _ _ h => h) HSS.out (by first | (with_reducible rfl) | (simp [Region.wanted, yielded, Act.put]; done) | rfl) (fun V hs => by go_simp) (some 36) rfl #[p3,p3,p3,p3,p3,p3,p3,p3,p3,p3,p3,p3,p3,p3,p3] (by kernel_rfl) ?_
            simp only [Act.put, List.setIfInBounds_toArray, List.set_cons_zero, List.set_cons_succ]
            refine Held.wpAnyG_done (by kernel_rfl) ?_ _
            go_wp2_with fail
            go_roundw
            case rel => exact ⟨p + 1, by have := HPL.out; omega, by go_num, HS1, HBD⟩
            case measure => have := HPL.out; simp [intOf]; omega
      · have hjq : j = q := by omega
        subst hjq
        clear hlt hj
        go_wp2_with fail
        go_ret
        exact ⟨rfl, HB0.out.trans (HBW.out.mono HB0.out.size)⟩
  | false =>
    have hq' : n2 = q := by simpa using hq
    clear hq hu
    have HQ := Aside0.mk hq'
    have q0 : (q : Int) ≤ 1000000 := by have := HLL.out; omega
    subst hq'
    go_enter Try.func30, Try.ntmps30
    go_upto_region 1 with fail
    rw [← HW.out.1, ← HW.out.2]
    go_wp2_with fail
    go_loopw [8, 10, 11, 17, 18, 19, 20, 21, 22, 23, 24, 25, 26, 27, 28, 29, 30, 31, 32, 33, 34, 35, 36, 37, 38, 39, 40, 41, 42, 43, 44, 45, 46, 47, 48, 49, 50, 51, 52, 53, 54, 55] (fun _ av iv _ _ _ _ _ _ _ _ _ _ _ _ _ _ _ _ _ _ _ _ _ _ _ _ _ _ _ _ _ _ _ _ _ _ _ _ _ _ _ wr => ∃ p j : Nat, p ≤ n1 ∧ j ≤ n2 ∧ av = .int .i64 (p : Int) ∧ iv = .int .i64 (j : Int) ∧ Aside0 (((ls.take n2).drop j).Sublist (bs.drop p)) ∧ Aside0 (Below w0.heap.size w0 wr)) (fun _ av iv _ _ _ _ _ _ _ _ _ _ _ _ _ _ _ _ _ _ _ _ _ _ _ _ _ _ _ _ _ _ _ _ _ _ _ _ _ _ _ wr => n2 - (intOf iv).toNat)
    case atStart => exact ⟨0, 0, Nat.zero_le _, Nat.zero_le _, rfl, rfl, HSU, ⟨Below.refl _ _⟩⟩
    case round =>
      obtain ⟨p0, j, hp0, hj, rfl, rfl, HS0, HBW⟩ := hrel
      by_cases hlt : j < n2
      · obtain ⟨x, hx⟩ : ∃ x, (ls.take n2)[j]? = some x := ⟨_, List.getElem?_eq_getElem (by rw [List.length_take]; have := HLN.out; have := HQ.out; omega)⟩
        have hxa : ls[j]? = some x := by rw [List.getElem?_take] at hx; simpa [hlt] using hx
        have HX := Aside0.mk hx
        have HXA := Aside0.mk hxa
        have HX34 := Aside0.mk (HA34.out x (List.mem_of_getElem? hxa))
        have f1 : ((j : Int) < (n2 : Int)) = True := eq_true (by omega)
        have f2 : decide ((j : Int) < (n2 : Int)) = true := decide_eq_true (by omega)
        have f3 : ((0 : Int) ≤ (j : Int)) = True := eq_true (by omega)
        have f4 : ((j : Int) < (n2 : Int)) = True := eq_true (by have := HQ.out; omega)
        have f5 : (j : Int) ≤ 1000000 := by have := HLL.out; have := HQ.out; omega
        obtain ⟨ad2, hA2⟩ := C_ad HA.out (by have := HLN.out; have := HQ.out; omega)
        have HJ := Aside0.mk hlt
        have HP0 := Aside0.mk hp0
        clear hx hxa hlt hj hp0
        go_wp2_with fail
        obtain ⟨wo, hwo⟩ : ∃ W, W = wr := ⟨_, rfl⟩
        subst hwo
        go_loopw [10] (fun av wr => ∃ p : Nat, p ≤ n1 ∧ av = .int .i64 (p : Int) ∧ Aside0 (((ls.take n2).drop j).Sublist (bs.drop p)) ∧ Aside0 (Below w0.heap.size w0 wr)) (fun av wr => n1 - (intOf av).toNat)
        case atStart => exact ⟨p0, HP0.out, rfl, HS0, HBW⟩
        case round =>
          clear HBW
          obtain ⟨p, hp, rfl, HS, HBW⟩ := hrel
          obtain ⟨y, hy, hcase⟩ := follows_drop HX.out HS.out
          have hpl := (List.getElem?_eq_some_iff.1 hy).1
          have HY34 := Aside0.mk (HB34.out y (List.mem_of_getElem? hy))
          have HYB := Aside0.mk hy
          obtain ⟨ad1, hA1⟩ := C_ad HB.out (by omega)
          have g1 : ((p : Int) < (n1 : Int)) = True := eq_true (by have := HLN.out; omega)
          have g2 : decide ((p : Int) < (n1 : Int)) = true := decide_eq_true (by have := HLN.out; omega)
          have g3 : ((0 : Int) ≤ (p : Int)) = True := eq_true (by omega)
          have g4 : (p : Int) ≤ 1000000 := by have := HLL.out; omega
          have HAA := Aside0.mk (And.intro hA1 hA2)
          have HPL := Aside0.mk (show p < n1 by have := HLN.out; omega)
          clear hy hpl hp
          have HBc := HB.out
          have HAc := HA.out
          rw [hA1] at HBc ⊢
          rw [hA2] at HAc ⊢
          have HBC := Aside0.mk HBc
          have HAC := Aside0.mk HAc
          skip
          obtain ⟨wd, hwd⟩ : ∃ W, W = wr.drew := ⟨_, rfl⟩
          have HBD := Aside0.mk (show Below w0.heap.size w0 wd by rw [hwd]; exact below_drew HBW.out)
          have HSS := Aside0.mk (Below.refl wd.heap.size wd)
          have HLX := Aside0.mk (fun V (hs : Below wd.heap.size wd V) => C_key (W := V) (Kd.C_below (Kd.C_below (Kd.C_below HAC.out HB0.out) HBD.out) hs) HXA.out)
          have HLY := Aside0.mk (fun V (hs : Below wd.heap.size wd V) => C_key (W := V) (Kd.C_below (Kd.C_below (Kd.C_below HBC.out HB0.out) HBD.out) hs) HYB.out)
          have HGD := Aside0.mk (fun V (hs : Below wd.heap.size wd V) => box_key (W := V) H34.out (blk_below (blk_below HG.out HBD.out) hs))
          clear HBc HAc
          rcases hcase with ⟨hyx, hs1⟩ | ⟨hyx, hs1⟩
          · have HYX := Aside0.mk (decide_eq_true hyx)
            have HS1 := Aside0.mk hs1
            clear hyx hs1
            go_wp2_with fail
            refine Held.wp_region_G (S := (fun V : World => Below wd.heap.size wd V)) (by kernel_rfl) ?_
            change Held.wpAnyG _ _ _ _ _ 15 _ _ _
            rw [← hwd]
            clear hwd
            refine Held.wpAnyG_take (i := 0) (v := (.int .i64 (p : Int))) rfl (by kernel_rfl) (by kernel_rfl) (by kernel_rfl) (fun _ _ _ h => h) HSS.out (by first | (with_reducible rfl) | (simp [Region.wanted, yielded, Act.put]; done) | rfl) (fun V hs => by go_simp) (some 22) rfl #[p3,q3,q3,q3,q3,q3,q3,q3,q3,q3,q3,q3,q3,q3,q3] (by kernel_rfl) ?_
            simp only [Act.put, List.setIfInBounds_toArray, List.set_cons_zero, List.set_cons_succ]
            refine Held.wpAnyG_take (i := 1) (v := (.slice (some ad1) n1 c1)) rfl (by kernel_rfl) (by kernel_rfl) (by kernel_rfl) (fun _ _ _ h => h) HSS.out (by first | (with_reducible rfl) | (simp [Region.wanted, yielded, Act.put]; done) | rfl) (fun V hs => by go_simp) (some 23) rfl #[p3,p3,q3,q3,q3,q3,q3,q3,q3,q3,q3,q3,q3,q3,q3] (by kernel_rfl) ?_
            simp only [Act.put, List.setIfInBounds_toArray, List.set_cons_zero, List.set_cons_succ]
            refine Held.wpAnyG_take (i := 2) (v := (.int .i64 (n1 : Int))) rfl (by kernel_rfl) (by kernel_rfl) (by kernel_rfl) (fun _ _ _ h => h) HSS.out (by first | (with_reducible rfl) | (simp [Region.wanted, yielded, Act.put]; done) | rfl) (fun V hs => by go_simp) (some 24) rfl #[p3,p3,p3,q3,q3,q3,q3,q3,q3,q3,q3,q3,q3,q3,q3] (by kernel_rfl) ?_
            simp only [Act.put, List.setIfInBounds_toArray, List.set_cons_zero, List.set_cons_succ]
            refine Held.wpAnyG_take (i := 3) (v := (.bool true)) rfl (by kernel_rfl) (by kernel_rfl) (by kernel_rfl) (fun _ _ _ h => h) HSS.out (by first | (with_reducible rfl) | (simp [Region.wanted, yielded, Act.put]; done) | rfl) (fun V hs => by go_simp) (some 25) rfl #[p3,p3,p3,p3,q3,q3,q3,q3,q3,q3,q3,q3,q3,q3,q3] (by kernel_rfl) ?_
            simp only [Act.put, List.setIfInBounds_toArray, List.set_cons_zero, List.set_cons_succ]
            refine Held.wpAnyG_take (i := 4) (v := (.bool true)) rfl (by kernel_rfl) (by kernel_rfl) (by kernel_rfl) (fun _ _ _ h => h) HSS.out (by first | (with_reducible rfl) | (simp [Region.wanted, yielded, Act.put]; done) | rfl) (fun V hs => by go_simp) (some 26) rfl #[p3,p3,p3,p3,p3,q3,q3,q3,q3,q3,q3,q3,q3,q3,q3] (by kernel_rfl) ?_
            simp only [Act.put, List.setIfInBounds_toArray, List.set_cons_zero, List.set_cons_succ]
            refine Held.wpAnyG_take (i := 5) (v := (.slice (some ad1) n1 c1)) rfl (by kernel_rfl) (by kernel_rfl) (by kernel_rfl) (fun _ _ _ h => h) HSS.out (by first | (with_reducible rfl) | (simp [Region.wanted, yielded, Act.put]; done) | rfl) (fun V hs => by go_simp) (some 27) rfl #[p3,p3,p3,p3,p3,p3,q3,q3,q3,q3,q3,q3,q3,q3,q3] (by kernel_rfl) ?_
            simp only [Act.put, List.setIfInBounds_toArray, List.set_cons_zero, List.set_cons_succ]
            refine Held.wpAnyG_take (i := 6) (v := (.int .i64 (p : Int))) rfl (by kernel_rfl) (by kernel_rfl) (by kernel_rfl) (fun _ _ _ h => h) HSS.out (by first | (with_reducible rfl) | (simp [Region.wanted, yielded, Act.put]; done) | rfl) (fun V hs => by go_simp) (some 28) rfl #[p3,p3,p3,p3,p3,p3,p3,q3,q3,q3,q3,q3,q3,q3,q3] (by kernel_rfl) ?_
            simp only [Act.put, List.setIfInBounds_toArray, List.set_cons_zero, List.set_cons_succ]
            refine Held.wpAnyG_take (i := 7) (v := (.pointer (some (ad1.add (p * 34))))) rfl (by kernel_rfl) (by kernel_rfl) (by kernel_rfl) (fun _ _ _ h => h) HSS.out (by first | (with_reducible rfl) | (simp [Region.wanted, yielded, Act.put]; done) | rfl) (fun V hs => by go_simp) (some 29) rfl #[p3,p3,p3,p3,p3,p3,p3,p3,q3,q3,q3,q3,q3,q3,q3] (by kernel_rfl) ?_
            simp only [Act.put, List.setIfInBounds_toArray, List.set_cons_zero, List.set_cons_succ]
            refine Held.wpAnyG_take (i := 8) (v := (kv y)) rfl (by kernel_rfl) (by kernel_rfl) (by kernel_rfl) (fun _ _ _ h => h) HSS.out (by first | (with_reducible rfl) | (simp [Region.wanted, yielded, Act.put]; done) | rfl) (fun V hs => Held.run_load_of 29 (.tmp 29) rfl (ad1.add (p * 34)) rfl (HLY.out V hs)) (some 30) rfl #[p3,p3,p3,p3,p3,p3,p3,p3,p3,q3,q3,q3,q3,q3,q3] (by kernel_rfl) ?_
            simp only [Act.put, List.setIfInBounds_toArray, List.set_cons_zero, List.set_cons_succ]
            refine Held.wpAnyG_take (i := 9) (v := (.slice (some ad2) n2 c2)) rfl (by kernel_rfl) (by kernel_rfl) (by kernel_rfl) (fun _ _ _ h => h) HSS.out (by first | (with_reducible rfl) | (simp [Region.wanted, yielded, Act.put]; done) | rfl) (fun V hs => by go_simp) (some 31) rfl #[p3,p3,p3,p3,p3,p3,p3,p3,p3,p3,q3,q3,q3,q3,q3] (by kernel_rfl) ?_
            simp only [Act.put, List.setIfInBounds_toArray, List.set_cons_zero, List.set_cons_succ]
            refine Held.wpAnyG_take (i := 10) (v := (.int .i64 (j : Int))) rfl (by kernel_rfl) (by kernel_rfl) (by kernel_rfl) (fun _ _ _ h => h) HSS.out (by first | (with_reducible rfl) | (simp [Region.wanted, yielded, Act.put]; done) | rfl) (fun V hs => by go_simp) (some 32) rfl #[p3,p3,p3,p3,p3,p3,p3,p3,p3,p3,p3,q3,q3,q3,q3] (by kernel_rfl) ?_
            simp only [Act.put, List.setIfInBounds_toArray, List.set_cons_zero, List.set_cons_succ]
            refine Held.wpAnyG_take (i := 11) (v := (.pointer (some (ad2.add (j * 34))))) rfl (by kernel_rfl) (by kernel_rfl) (by kernel_rfl) (fun _ _ _ h => h) HSS.out (by first | (with_reducible rfl) | (simp [Region.wanted, yielded, Act.put]; done) | rfl) (fun V hs => by go_simp) (some 33) rfl #[p3,p3,p3,p3,p3,p3,p3,p3,p3,p3,p3,p3,q3,q3,q3] (by kernel_rfl) ?_
            simp only [Act.put, List.setIfInBounds_toArray, List.set_cons_zero, List.set_cons_succ]
            refine Held.wpAnyG_take (i := 12) (v := (kv x)) rfl (by kernel_rfl) (by kernel_rfl) (by kernel_rfl) (fun _ _ _ h => h) HSS.out (by first | (with_reducible rfl) | (simp [Region.wanted, yielded, Act.put]; done) | rfl) (fun V hs => Held.run_load_of 29 (.tmp 33) rfl (ad2.add (j * 34)) rfl (HLX.out V hs)) (some 34) rfl #[p3,p3,p3,p3,p3,p3,p3,p3,p3,p3,p3,p3,p3,q3,q3] (by kernel_rfl) ?_
            simp only [Act.put, List.setIfInBounds_toArray, List.set_cons_zero, List.set_cons_succ]
            refine Held.wpAnyG_take (i := 13) (v := (.bool false)) rfl (by kernel_rfl) (by kernel_rfl) (by kernel_rfl) (fun _ _ _ h => h) HSS.out (by first | (with_reducible rfl) | (simp [Region.wanted, yielded, Act.put]; done) | rfl) (fun V hs => (run_neqKF (.tmp 30) (.tmp 34) rfl y x HY34.out HX34.out rfl rfl V).trans (by rw [HYX.out]; rfl)) (some 35) rfl #[p3,p3,p3,p3,p3,p3,p3,p3,p3,p3,p3,p3,p3,p3,q3] (by kernel_rfl) ?_
            simp only [Act.put, List.setIfInBounds_toArray, List.set_cons_zero, List.set_cons_succ]
            refine Held.wpAnyG_take (i := 14) (v := (.bool false)) rfl (by kernel_rfl) (by kernel_rfl) (by kernel_rfl) (fun _ _ _ h => h) HSS.out (by first | (with_reducible rfl) | (simp [Region.wanted, yielded, Act.put]; done) | rfl) (fun V hs => by go_simp) (some 36) rfl #[p3,p3,p3,p3,p3,p3,p3,p3,p3,p3,p3,p3,p3,p3,p3] (by kernel_rfl) ?_
            simp only [Act.put, List.setIfInBounds_toArray, List.set_cons_zero, List.set_cons_succ]
            refine Held.wpAnyG_done (by kernel_rfl) ?_ _
            go_wp2_with fail
            have g5 : ((p : Int) = (n1 : Int)) = False := eq_false (by have := HPL.out; omega)
            have g6 : ((p : Nat) = n1) = False := eq_false (by have := HPL.out; omega)
            obtain ⟨we, hwd⟩ : ∃ W, W = wd.drew := ⟨_, rfl⟩
            have HBE := Aside0.mk (show Below wd.heap.size wd we by rw [hwd]; exact below_drew (Below.refl _ _))
            clear HSS
            have HSS := Aside0.mk HBE.out
            refine Held.wp_region_G (S := (fun V : World => Below wd.heap.size wd V)) (by kernel_rfl) ?_
            change Held.wpAnyG _ _ _ _ _ 15 _ _ _
            rw [← hwd]
            clear hwd
            refine Held.wpAnyG_take (i := 0) (v := (.int .i64 (p : Int))) rfl (by kernel_rfl) (by kernel_rfl) (by kernel_rfl) (fun _ _ _ h => h) HSS.out (by first | (with_reducible rfl) | (simp [Region.wanted, yielded, Act.put]; done) | rfl) (fun V hs => by go_simp) (some 39) rfl #[p3,q3,q3,q3,q3,q3,q3,q3,q3,q3,q3,q3,q3,q3,q3] (by kernel_rfl) ?_
            simp only [Act.put, List.setIfInBounds_toArray, List.set_cons_zero, List.set_cons_succ]
            refine Held.wpAnyG_take (i := 1) (v := (.slice (some ad1) n1 c1)) rfl (by kernel_rfl) (by kernel_rfl) (by kernel_rfl) (fun _ _ _ h => h) HSS.out (by first | (with_reducible rfl) | (simp [Region.wanted, yielded, Act.put]; done) | rfl) (fun V hs => by go_simp) (some 40) rfl #[p3,p3,q3,q3,q3,q3,q3,q3,q3,q3,q3,q3,q3,q3,q3] (by kernel_rfl) ?_
            simp only [Act.put, List.setIfInBounds_toArray, List.set_cons_zero, List.set_cons_succ]
            refine Held.wpAnyG_take (i := 2) (v := (.int .i64 (n1 : Int))) rfl (by kernel_rfl) (by kernel_rfl) (by kernel_rfl) (fun _ _ _ h => h) HSS.out (by first | (with_reducible rfl) | (simp [Region.wanted, yielded, Act.put]; done) | rfl) (fun V hs => by go_simp) (some 41) rfl #[p3,p3,p3,q3,q3,q3,q3,q3,q3,q3,q3,q3,q3,q3,q3] (by kernel_rfl) ?_
            simp only [Act.put, List.setIfInBounds_toArray, List.set_cons_zero, List.set_cons_succ]
            refine Held.wpAnyG_take (i := 3) (v := (.bool false)) rfl (by kernel_rfl) (by kernel_rfl) (by kernel_rfl) (fun _ _ _ h => h) HSS.out (by first | (with_reducible rfl) | (simp [Region.wanted, yielded, Act.put]; done) | rfl) (fun V hs => by go_simp) (some 42) rfl #[p3,p3,p3,p3,q3,q3,q3,q3,q3,q3,q3,q3,q3,q3,q3] (by kernel_rfl) ?_
            simp only [Act.put, List.setIfInBounds_toArray, List.set_cons_zero, List.set_cons_succ]
            refine Held.wpAnyG_take (i := 4) (v := (.bool false)) rfl (by kernel_rfl) (by kernel_rfl) (by kernel_rfl) (fun _ _ _ h => h) HSS.out (by first | (with_reducible rfl) | (simp [Region.wanted, yielded, Act.put]; done) | rfl) (fun V hs => by go_simp) (some 43) rfl #[p3,p3,p3,p3,p3,q3,q3,q3,q3,q3,q3,q3,q3,q3,q3] (by kernel_rfl) ?_
            simp only [Act.put, List.setIfInBounds_toArray, List.set_cons_zero, List.set_cons_succ]
            refine Held.wpAnyG_take (i := 5) (v := (.bool false)) rfl (by kernel_rfl) (by kernel_rfl) (by kernel_rfl) (fun _ _ _ h => h) HSS.out (by first | (with_reducible rfl) | (simp [Region.wanted, yielded, Act.put]; done) | rfl) (fun V hs => by go_simp) (some 44) rfl #[p3,p3,p3,p3,p3,p3,q3,q3,q3,q3,q3,q3,q3,q3,q3] (by kernel_rfl) ?_
            simp only [Act.put, List.setIfInBounds_toArray, List.set_cons_zero, List.set_cons_succ]
            refine Held.wpAnyG_take (i := 6) (v := (.bool false)) rfl (by kernel_rfl) (by kernel_rfl) (by kernel_rfl) (fun _ _ _ h => h) HSS.out (by first | (with_reducible rfl) | (simp [Region.wanted, yielded, Act.put]; done) | rfl) (fun V hs => by go_simp) (some 45) rfl #[p3,p3,p3,p3,p3,p3,p3,q3,q3,q3,q3,q3,q3,q3,q3] (by kernel_rfl) ?_
            simp only [Act.put, List.setIfInBounds_toArray, List.set_cons_zero, List.set_cons_succ]
            refine Held.wpAnyG_skip (i := 7) rfl (by kernel_rfl) (by kernel_rfl) (by kernel_rfl) (fun _ _ _ h => h) HSS.out (by first | (with_reducible rfl) | (simp [Region.wanted, yielded, Act.put]; done) | rfl) (some 46) rfl #[p3,p3,p3,p3,p3,p3,p3,p3,q3,q3,q3,q3,q3,q3,q3] (by kernel_rfl) ?_
            simp only [Act.put, List.setIfInBounds_toArray, List.set_cons_zero, List.set_cons_succ]
            refine Held.wpAnyG_skip (i := 8) rfl (by kernel_rfl) (by kernel_rfl) (by kernel_rfl) (fun _ _ _ h => h) HSS.out (by first | (with_reducible rfl) | (simp [Region.wanted, yielded, Act.put]; done) | rfl) (some 47) rfl #[p3,p3,p3,p3,p3,p3,p3,p3,p3,q3,q3,q3,q3,q3,q3] (by kernel_rfl) ?_
            simp only [Act.put, List.setIfInBounds_toArray, List.set_cons_zero, List.set_cons_succ]
            refine Held.wpAnyG_skip (i := 9) rfl (by kernel_rfl) (by kernel_rfl) (by kernel_rfl) (fun _ _ _ h => h) HSS.out (by first | (with_reducible rfl) | (simp [Region.wanted, yielded, Act.put]; done) | rfl) (some 48) rfl #[p3,p3,p3,p3,p3,p3,p3,p3,p3,p3,q3,q3,q3,q3,q3] (by kernel_rfl) ?_
            simp only [Act.put, List.setIfInBounds_toArray, List.set_cons_zero, List.set_cons_succ]
            refine Held.wpAnyG_skip (i := 10) rfl (by kernel_rfl) (by kernel_rfl) (by kernel_rfl) (fun _ _ _ h => h) HSS.out (by first | (with_reducible rfl) | (simp [Region.wanted, yielded, Act.put]; done) | rfl) (some 49) rfl #[p3,p3,p3,p3,p3,p3,p3,p3,p3,p3,p3,q3,q3,q3,q3] (by kernel_rfl) ?_
            simp only [Act.put, List.setIfInBounds_toArray, List.set_cons_zero, List.set_cons_succ]
            refine Held.wpAnyG_skip (i := 11) rfl (by kernel_rfl) (by kernel_rfl) (by kernel_rfl) (fun _ _ _ h => h) HSS.out (by first | (with_reducible rfl) | (simp [Region.wanted, yielded, Act.put]; done) | rfl) (some 50) rfl #[p3,p3,p3,p3,p3,p3,p3,p3,p3,p3,p3,p3,q3,q3,q3] (by kernel_rfl) ?_
            simp only [Act.put, List.setIfInBounds_toArray, List.set_cons_zero, List.set_cons_succ]
            refine Held.wpAnyG_skip (i := 12) rfl (by kernel_rfl) (by kernel_rfl) (by kernel_rfl) (fun _ _ _ h => h) HSS.out (by first | (with_reducible rfl) | (simp [Region.wanted, yielded, Act.put]; done) | rfl) (some 51) rfl #[p3,p3,p3,p3,p3,p3,p3,p3,p3,p3,p3,p3,p3,q3,q3] (by kernel_rfl) ?_
            simp only [Act.put, List.setIfInBounds_toArray, List.set_cons_zero, List.set_cons_succ]
            refine Held.wpAnyG_take (i := 13) (v := (.bool false)) rfl (by kernel_rfl) (by kernel_rfl) (by kernel_rfl) (fun _ _ _ h => h) HSS.out (by first | (with_reducible rfl) | (simp [Region.wanted, yielded, Act.put]; done) | rfl) (fun V hs => by go_simp) (some 52) rfl #[p3,p3,p3,p3,p3,p3,p3,p3,p3,p3,p3,p3,p3,p3,q3] (by kernel_rfl) ?_
            simp only [Act.put, List.setIfInBounds_toArray, List.set_cons_zero, List.set_cons_succ]
            refine Held.wpAnyG_take (i := 14) (v := (.bool false)) rfl (by kernel_rfl) (by kernel_rfl) (by kernel_rfl) (fun _ _ _ h => h) HSS.out (by first | (with_reducible rfl) | (simp [Region.wanted, yielded, Act.put]; done) | rfl) (fun V hs => by go_simp) (some 53) rfl #[p3,p3,p3,p3,p3,p3,p3,p3,p3,p3,p3,p3,p3,p3,p3] (by kernel_rfl) ?_
            simp only [Act.put, List.setIfInBounds_toArray, List.set_cons_zero, List.set_cons_succ]
            refine Held.wpAnyG_done (by kernel_rfl) ?_ _
            go_wp2_with fail
            rw [← HAA.out.1, ← HAA.out.2]
            go_roundw
            case rel => exact ⟨p + 1, j + 1, by have := HPL.out; omega, by have := HJ.out; omega, by go_num, by go_num, HS1, ⟨HBD.out.trans (HSS.out.mono HBD.out.size)⟩⟩
            case measure => have := HJ.out; simp [intOf]; omega
          · have HYX := Aside0.mk (decide_eq_false hyx)
            have HS1 := Aside0.mk hs1
            clear hyx hs1
            go_wp2_with fail
            refine Held.wp_region_G (S := (fun V : World => Below wd.heap.size wd V)) (by kernel_rfl) ?_
            change Held.wpAnyG _ _ _ _ _ 15 _ _ _
            rw [← hwd]
            clear hwd
            refine Held.wpAnyG_take (i := 0) (v := (.int .i64 (p : Int))) rfl (by kernel_rfl) (by kernel_rfl) (by kernel_rfl) (fun _ _ _ h => h) HSS.out (by first | (with_reducible rfl) | (simp [Region.wanted, yielded, Act.put]; done) | rfl) (fun V hs => by go_simp) (some 22) rfl #[p3,q3,q3,q3,q3,q3,q3,q3,q3,q3,q3,q3,q3,q3,q3] (by kernel_rfl) ?_
            simp only [Act.put, List.setIfInBounds_toArray, List.set_cons_zero, List.set_cons_succ]
            refine Held.wpAnyG_take (i := 1) (v := (.slice (some ad1) n1 c1)) rfl (by kernel_rfl) (by kernel_rfl) (by kernel_rfl) (fun _ _ _ h => h) HSS.out (by first | (with_reducible rfl) | (simp [Region.wanted, yielded, Act.put]; done) | rfl) (fun V hs => by go_simp) (some 23) rfl #[p3,p3,q3,q3,q3,q3,q3,q3,q3,q3,q3,q3,q3,q3,q3] (by kernel_rfl) ?_
            simp only [Act.put, List.setIfInBounds_toArray, List.set_cons_zero, List.set_cons_succ]
            refine Held.wpAnyG_take (i := 2) (v := (.int .i64 (n1 : Int))) rfl (by kernel_rfl) (by kernel_rfl) (by kernel_rfl) (fun _ _ _ h => h) HSS.out (by first | (with_reducible rfl) | (simp [Region.wanted, yielded, Act.put]; done) | rfl) (fun V hs => by go_simp) (some 24) rfl #[p3,p3,p3,q3,q3,q3,q3,q3,q3,q3,q3,q3,q3,q3,q3] (by kernel_rfl) ?_
            simp only [Act.put, List.setIfInBounds_toArray, List.set_cons_zero, List.set_cons_succ]
            refine Held.wpAnyG_take (i := 3) (v := (.bool true)) rfl (by kernel_rfl) (by kernel_rfl) (by kernel_rfl) (fun _ _ _ h => h) HSS.out (by first | (with_reducible rfl) | (simp [Region.wanted, yielded, Act.put]; done) | rfl) (fun V hs => by go_simp) (some 25) rfl #[p3,p3,p3,p3,q3,q3,q3,q3,q3,q3,q3,q3,q3,q3,q3] (by kernel_rfl) ?_
            simp only [Act.put, List.setIfInBounds_toArray, List.set_cons_zero, List.set_cons_succ]
            refine Held.wpAnyG_take (i := 4) (v := (.bool true)) rfl (by kernel_rfl) (by kernel_rfl) (by kernel_rfl) (fun _ _ _ h => h) HSS.out (by first | (with_reducible rfl) | (simp [Region.wanted, yielded, Act.put]; done) | rfl) (fun V hs => by go_simp) (some 26) rfl #[p3,p3,p3,p3,p3,q3,q3,q3,q3,q3,q3,q3,q3,q3,q3] (by kernel_rfl) ?_
            simp only [Act.put, List.setIfInBounds_toArray, List.set_cons_zero, List.set_cons_succ]
            refine Held.wpAnyG_take (i := 5) (v := (.slice (some ad1) n1 c1)) rfl (by kernel_rfl) (by kernel_rfl) (by kernel_rfl) (fun _ _ _ h => h) HSS.out (by first | (with_reducible rfl) | (simp [Region.wanted, yielded, Act.put]; done) | rfl) (fun V hs => by go_simp) (some 27) rfl #[p3,p3,p3,p3,p3,p3,q3,q3,q3,q3,q3,q3,q3,q3,q3] (by kernel_rfl) ?_
            simp only [Act.put, List.setIfInBounds_toArray, List.set_cons_zero, List.set_cons_succ]
            refine Held.wpAnyG_take (i := 6) (v := (.int .i64 (p : Int))) rfl (by kernel_rfl) (by kernel_rfl) (by kernel_rfl) (fun _ _ _ h => h) HSS.out (by first | (with_reducible rfl) | (simp [Region.wanted, yielded, Act.put]; done) | rfl) (fun V hs => by go_simp) (some 28) rfl #[p3,p3,p3,p3,p3,p3,p3,q3,q3,q3,q3,q3,q3,q3,q3] (by kernel_rfl) ?_
            simp only [Act.put, List.setIfInBounds_toArray, List.set_cons_zero, List.set_cons_succ]
            refine Held.wpAnyG_take (i := 7) (v := (.pointer (some (ad1.add (p * 34))))) rfl (by kernel_rfl) (by kernel_rfl) (by kernel_rfl) (fun _ _ _ h => h) HSS.out (by first | (with_reducible rfl) | (simp [Region.wanted, yielded, Act.put]; done) | rfl) (fun V hs => by go_simp) (some 29) rfl #[p3,p3,p3,p3,p3,p3,p3,p3,q3,q3,q3,q3,q3,q3,q3] (by kernel_rfl) ?_
            simp only [Act.put, List.setIfInBounds_toArray, List.set_cons_zero, List.set_cons_succ]
            refine Held.wpAnyG_take (i := 8) (v := (kv y)) rfl (by kernel_rfl) (by kernel_rfl) (by kernel_rfl) (fun _ _ _ h => h) HSS.out (by first | (with_reducible rfl) | (simp [Region.wanted, yielded, Act.put]; done) | rfl) (fun V hs => Held.run_load_of 29 (.tmp 29) rfl (ad1.add (p * 34)) rfl (HLY.out V hs)) (some 30) rfl #[p3,p3,p3,p3,p3,p3,p3,p3,p3,q3,q3,q3,q3,q3,q3] (by kernel_rfl) ?_
            simp only [Act.put, List.setIfInBounds_toArray, List.set_cons_zero, List.set_cons_succ]
            refine Held.wpAnyG_take (i := 9) (v := (.slice (some ad2) n2 c2)) rfl (by kernel_rfl) (by kernel_rfl) (by kernel_rfl) (fun _ _ _ h => h) HSS.out (by first | (with_reducible rfl) | (simp [Region.wanted, yielded, Act.put]; done) | rfl) (fun V hs => by go_simp) (some 31) rfl #[p3,p3,p3,p3,p3,p3,p3,p3,p3,p3,q3,q3,q3,q3,q3] (by kernel_rfl) ?_
            simp only [Act.put, List.setIfInBounds_toArray, List.set_cons_zero, List.set_cons_succ]
            refine Held.wpAnyG_take (i := 10) (v := (.int .i64 (j : Int))) rfl (by kernel_rfl) (by kernel_rfl) (by kernel_rfl) (fun _ _ _ h => h) HSS.out (by first | (with_reducible rfl) | (simp [Region.wanted, yielded, Act.put]; done) | rfl) (fun V hs => by go_simp) (some 32) rfl #[p3,p3,p3,p3,p3,p3,p3,p3,p3,p3,p3,q3,q3,q3,q3] (by kernel_rfl) ?_
            simp only [Act.put, List.setIfInBounds_toArray, List.set_cons_zero, List.set_cons_succ]
            refine Held.wpAnyG_take (i := 11) (v := (.pointer (some (ad2.add (j * 34))))) rfl (by kernel_rfl) (by kernel_rfl) (by kernel_rfl) (fun _ _ _ h => h) HSS.out (by first | (with_reducible rfl) | (simp [Region.wanted, yielded, Act.put]; done) | rfl) (fun V hs => by go_simp) (some 33) rfl #[p3,p3,p3,p3,p3,p3,p3,p3,p3,p3,p3,p3,q3,q3,q3] (by kernel_rfl) ?_
            simp only [Act.put, List.setIfInBounds_toArray, List.set_cons_zero, List.set_cons_succ]
            refine Held.wpAnyG_take (i := 12) (v := (kv x)) rfl (by kernel_rfl) (by kernel_rfl) (by kernel_rfl) (fun _ _ _ h => h) HSS.out (by first | (with_reducible rfl) | (simp [Region.wanted, yielded, Act.put]; done) | rfl) (fun V hs => Held.run_load_of 29 (.tmp 33) rfl (ad2.add (j * 34)) rfl (HLX.out V hs)) (some 34) rfl #[p3,p3,p3,p3,p3,p3,p3,p3,p3,p3,p3,p3,p3,q3,q3] (by kernel_rfl) ?_
            simp only [Act.put, List.setIfInBounds_toArray, List.set_cons_zero, List.set_cons_succ]
            refine Held.wpAnyG_take (i := 13) (v := (.bool true)) rfl (by kernel_rfl) (by kernel_rfl) (by kernel_rfl) (fun _ _ _ h => h) HSS.out (by first | (with_reducible rfl) | (simp [Region.wanted, yielded, Act.put]; done) | rfl) (fun V hs => (run_neqKF (.tmp 30) (.tmp 34) rfl y x HY34.out HX34.out rfl rfl V).trans (by rw [HYX.out]; rfl)) (some 35) rfl #[p3,p3,p3,p3,p3,p3,p3,p3,p3,p3,p3,p3,p3,p3,q3] (by kernel_rfl) ?_
            simp only [Act.put, List.setIfInBounds_toArray, List.set_cons_zero, List.set_cons_succ]
            refine Held.wpAnyG_take (i := 14) (v := (.bool true)) rfl (by kernel_rfl) (by kernel_rfl) (by kernel_rfl) (fun _ _ _ h => h) HSS.out (by first | (with_reducible rfl) | (simp [Region.wanted, yielded, Act.put]; done) | rfl) (fun V hs => by go_simp) (some 36) rfl #[p3,p3,p3,p3,p3,p3,p3,p3,p3,p3,p3,p3,p3,p3,p3] (by kernel_rfl) ?_
            simp only [Act.put, List.setIfInBounds_toArray, List.set_cons_zero, List.set_cons_succ]
            refine Held.wpAnyG_done (by kernel_rfl) ?_ _
            go_wp2_with fail
            go_roundw
            case rel => exact ⟨p + 1, by have := HPL.out; omega, by go_num, HS1, HBD⟩
            case measure => have := HPL.out; simp [intOf]; omega
      · have hjq : j = n2 := by omega
        subst hjq
        clear hlt hj
        go_wp2_with fail
        go_ret
        exact ⟨rfl, HB0.out.trans (HBW.out.mono HB0.out.size)⟩
end Go.Proofs.Ytikpgmajiafhgaa.Fl
/- flow, plain: what a call does to the order of use. -/
namespace Go.Proofs.Ytikpgmajiafhgaa.Fl
open Go.RowKit Go.Proofs.YtikpgmajiafhgaaW.PrintWords Go.Proofs.YtikpgmajiafhgaaW.PrintLast Go.Proofs.YtikpgmajiafhgaaW.PrintMore Go.Proofs.Ytikpgmajiafhgaa.X Go.Proofs.Ytikpgmajiafhgaa.M
set_option linter.unusedVariables false
set_option linter.unusedSimpArgs false
def stepS (m i : Int) (R : List Rw) (c : Cal) : List Rw × Bool :=
  if c.what = 0 then ((putS m i R c.ky c.bk c.now).1, decide ((putS m i R c.ky c.bk c.now).2.2.2 = 0))
  else if c.what = 1 then ((getS i R c.ky c.now).1, (getS i R c.ky c.now).2.2)
  else if c.what = 2 then (sweepS R i c.now, false)
  else if c.what = 3 then (forgetS R c.bk, false) else (R, false)
def cz : Cal := ⟨0, 0, kz, 0⟩
def runS (m i : Int) (cs : List Cal) : Nat → List Rw
  | 0 => []
  | j + 1 => (stepS m i (runS m i cs j) (cs.getD j cz)).1
theorem cut_sub (R : List Rw) (k : List Int) : (cutS R k).Sublist R := List.eraseP_sublist
theorem sweep_sub (R : List Rw) (i t : Int) : (sweepS R i t).Sublist R := List.filter_sublist
theorem forget_sub (R : List Rw) (bk : Int) : (forgetS R bk).Sublist R := List.filter_sublist
theorem room_sub (m i t : Int) (R : List Rw) : (roomS m i t R).Sublist R := by
  unfold roomS
  split
  · exact List.Sublist.refl _
  · exact sweep_sub ..
theorem make_sub (m i t : Int) (R : List Rw) : (makeS m i t R).1.Sublist R := by
  unfold makeS
  split
  · exact room_sub ..
  · exact (List.tail_sublist _).trans (room_sub ..)
theorem put_order {m i bk now : Int} {R : List Rw} {k : List Int} (hn : (R.map Rw.ky).Nodup) :
    ((putS m i R k bk now).2.2.2 = 0 → ∃ pre : List Rw, (putS m i R k bk now).1 = pre ++ [⟨k, bk, now⟩] ∧ pre.Sublist R ∧ ∀ r ∈ pre, r.ky ≠ k) ∧ ((putS m i R k bk now).2.2.2 ≠ 0 → (putS m i R k bk now).1 = R) := by
  unfold putS
  split
  · exact ⟨fun h => absurd (show (11 : Int) = 0 from h) (by decide), fun _ => rfl⟩
  · cases hf : fnd R k with
    | none =>
      dsimp only
      exact ⟨fun _ => ⟨_, rfl, make_sub .., fun r hr => fnd_ne hf r (makeS_sub hr)⟩, fun h => absurd rfl h⟩
    | some q =>
      dsimp only
      split
      · exact ⟨fun _ => ⟨_, rfl, (make_sub ..).trans (cut_sub ..), fun r hr => cutS_ne hn (makeS_sub hr)⟩, fun h => absurd rfl h⟩
      · exact ⟨fun h => absurd (show (16 : Int) = 0 from h) (by decide), fun _ => rfl⟩
theorem get_order {i now : Int} {R : List Rw} {k : List Int} (hn : (R.map Rw.ky).Nodup) :
    ((getS i R k now).2.2 = true → ∃ (pre : List Rw) (r : Rw), (getS i R k now).1 = pre ++ [r] ∧ r.ky = k ∧ pre.Sublist R ∧ ∀ x ∈ pre, x.ky ≠ k) ∧ ((getS i R k now).2.2 = false → (getS i R k now).1.Sublist R) := by
  unfold getS
  cases hf : fnd R k with
  | none => exact ⟨fun h => absurd (show false = true from h) (by decide), fun _ => List.Sublist.refl _⟩
  | some q =>
    dsimp only
    split
    · exact ⟨fun h => absurd (show false = true from h) (by decide), fun _ => cut_sub ..⟩
    · exact ⟨fun _ => ⟨_, _, rfl, (fnd_some hf).2, cut_sub .., fun x hx => cutS_ne hn hx⟩, fun h => absurd (show true = false from h) (by decide)⟩
/-- What the law asks of the order. -/
structure Ord (B A : List (List Int)) (k : List Int) (used : Bool) : Prop where
  yes : used = true → ∃ pre, A = pre ++ [k] ∧ pre.Sublist B ∧ k ∉ pre
  no : used = false → A.Sublist B
theorem ord_put {m i bk now : Int} {R : List Rw} {k : List Int} {u : Bool} (hn : (R.map Rw.ky).Nodup) (hu : decide ((putS m i R k bk now).2.2.2 = 0) = u) : Ord (R.map Rw.ky) ((putS m i R k bk now).1.map Rw.ky) k u := by
  obtain ⟨h1, h2⟩ := put_order (m := m) (i := i) (bk := bk) (now := now) (k := k) hn
  refine ⟨fun h => ?_, fun h => ?_⟩
  · subst h
    obtain ⟨pre, e, hs, hx⟩ := h1 (of_decide_eq_true hu)
    exact ⟨pre.map Rw.ky, by rw [e, List.map_append]; rfl, hs.map _, fun h => by obtain ⟨r, hr, e⟩ := List.mem_map.1 h; exact hx r hr e⟩
  · subst h
    rw [h2 (of_decide_eq_false hu)]
    exact List.Sublist.refl _
theorem ord_get {i now : Int} {R : List Rw} {k : List Int} {u : Bool} (hn : (R.map Rw.ky).Nodup) (hu : (getS i R k now).2.2 = u) : Ord (R.map Rw.ky) ((getS i R k now).1.map Rw.ky) k u := by
  obtain ⟨h1, h2⟩ := get_order (i := i) (now := now) (k := k) hn
  refine ⟨fun h => ?_, fun h => ?_⟩
  · subst h
    obtain ⟨pre, r, e, hr, hs, hx⟩ := h1 hu
    exact ⟨pre.map Rw.ky, by rw [e, List.map_append, ← hr]; rfl, hs.map _, fun h => by obtain ⟨r, hr, e⟩ := List.mem_map.1 h; exact hx r hr e⟩
  · subst h
    exact (h2 hu).map _
theorem ord_sub {R R' : List Rw} (k : List Int) (h : R'.Sublist R) : Ord (R.map Rw.ky) (R'.map Rw.ky) k false := ⟨fun h => absurd h (by decide), fun _ => h.map _⟩
theorem make_key {m i t : Int} {R : List Rw} (h : ∀ x ∈ R.map Rw.ky, x.length = 34) : (makeS m i t R).2.1.length = 34 := by
  unfold makeS
  split
  · rfl
  · cases hr : roomS m i t R with
    | nil => rfl
    | cons r l => exact h _ (List.mem_map.2 ⟨r, roomS_mem (by rw [hr]; exact List.mem_cons_self), rfl⟩)
theorem put_key {m i bk now : Int} {R : List Rw} {k : List Int} (h : ∀ x ∈ R.map Rw.ky, x.length = 34) : (putS m i R k bk now).2.1.length = 34 := by
  unfold putS
  split
  · rfl
  · split
    · split
      · exact make_key (fun x hx => by obtain ⟨r, hr, rfl⟩ := List.mem_map.1 hx; exact h _ (List.mem_map.2 ⟨r, cutS_sub hr, rfl⟩))
      · rfl
    · exact make_key h
theorem Env.sub {w W : World} {ts ts' : List Th} (h : Env w W ts) (hs : ts'.Sublist ts) : Env w W ts' := ⟨h.bel, fun t ht => h.tab t (hs.subset ht), h.apart.sublist hs⟩
theorem R_rd {W : World} {O : Nat → Prop} {A : Option Addr} {n c : Nat} {ks : List (List Int)} (h : Kd.R kK 29 W 0 O (.slice A n c) ks) : n = ks.length ∧ n ≤ c ∧ kK.C W A n ks := by
  obtain ⟨h1, h2, h3⟩ := Kd.R_reads' h
  refine ⟨h1, h2, ?_⟩
  rw [h1]
  first | exact h3 | (rw [← h1]; exact h3)
theorem wrap_pred {a q : Int} (h : a - 1 = q) (h0 : 0 ≤ q) (h1 : q ≤ 1000000) : IntKind.i64.wrap (a - 1) = q := by
  rw [h]
  simp [IntKind.wrap, IntKind.min, IntKind.max, IntKind.signed, IntKind.bits]
  omega
/-! ### a call in memory -/
section
variable {W : World} {g : Nat} {c : Cal}
theorem encC_36 (h : c.ky.length = 34) : (encC c)[36]? = some (.int .u64 c.now) := by
  unfold encC
  rw [show (36 : Nat) = 34 + 1 + 1 from rfl, List.getElem?_cons_succ, List.getElem?_cons_succ, List.getElem?_append_right (by rw [encK_length, h]; exact Nat.le_refl _), encK_length, h]
  rfl
theorem cal_ints (h34 : c.ky.length = 34) (h : W.heap[g]? = some (.cells (encC c).toArray 31 (0, 0))) : W.cell? ⟨g, 0, none⟩ = some (.int .i64 c.what) ∧ W.cell? ⟨g, 1, none⟩ = some (.int .i64 c.bk) ∧ W.cell? ⟨g, 36, none⟩ = some (.int .u64 c.now) :=
  ⟨(blk_cell h 0).trans (by rw [List.getElem?_toArray]; rfl), (blk_cell h 1).trans (by rw [List.getElem?_toArray]; rfl), (blk_cell h 36).trans (by rw [List.getElem?_toArray]; exact encC_36 h34)⟩
theorem cal_key (h34 : c.ky.length = 34) (h : W.heap[g]? = some (.cells (encC c).toArray 31 (0, 0))) : (loadVar 29 ⟨g, 2, none⟩).run Try.prog W = .ok (kv c.ky) W := by
  refine load_key h34 (fun j v hv => ?_)
  rw [Addr.add_mid]
  refine (blk_cell h (2 + j)).trans ?_
  rw [List.getElem?_toArray]
  unfold encC
  rw [show 2 + j = j + 1 + 1 by omega, List.getElem?_cons_succ, List.getElem?_cons_succ, List.getElem?_append_left (List.getElem?_eq_some_iff.1 hv).1]
  exact hv
theorem zeroC : ∀ w : World, (zeroValue 31).run Try.prog w = .ok (cav cz) w := fun w => by kernel_rfl
theorem encCA (h : c.ky.length = 34) : (encC c).toArray.size = 37 := by simp [encC_length c h]
theorem encCA_one (c : Cal) : (encC c).toArray.all (·.oneCell') = true := by
  rw [Array.all_eq_true']
  intro v hv
  exact encC_one c v (by simpa using hv)
theorem pl_boxC {ops : Array Oper} {rest : List Oper} {o1 o2 : Oper} {a : Act} {Q : Exit → Act → World → Prop} {w : World} (d : Tmp) (x : Operand) (c : Cal) (h1 : o1.op = .alloc 31) (hg1 : o1.guard = none) (hg2 : o2.guard = none) (hd : o1.dst = some d) (h2 : o2.op = .store 31 (.tmp d) x) (hd2 : o2.dst = none) (h34 : c.ky.length = 34)
    (hp : (a.put (some d) (.pointer (some ⟨w.heap.size, 0, none⟩))).eval (.tmp d) = .pointer (some ⟨w.heap.size, 0, none⟩)) (hx : (a.put (some d) (.pointer (some ⟨w.heap.size, 0, none⟩))).eval x = cav c)
    (hk : wpList Try.prog ops Q rest (a.put (some d) (.pointer (some ⟨w.heap.size, 0, none⟩))) (w.alloc (.cells (encC c).toArray 31))) : wpList Try.prog ops Q (o1 :: o2 :: rest) a w :=
  pl_box hg1 hg2 _ d x h1 hd h2 hd2 zeroC (by rw [encCA h34]; exact encCA rfl) (encCA_one c) (by rw [encCA h34]; exact infoC1) hp hx hk
end
end Go.Proofs.Ytikpgmajiafhgaa.Fl
/- flow: the walk of FlowOrder. Written by wip/gen/flod.py. -/
namespace Go.Proofs.Ytikpgmajiafhgaa.Fl
open Go.RowKit Go.Proofs.YtikpgmajiafhgaaW.PrintWords Go.Proofs.YtikpgmajiafhgaaW.PrintLast Go.Proofs.YtikpgmajiafhgaaW.PrintMore Go.Proofs.Ytikpgmajiafhgaa.X Go.Proofs.Ytikpgmajiafhgaa.M
set_option linter.unusedVariables false
set_option linter.unusedSimpArgs false

set_option maxRecDepth 100000 in
set_option maxHeartbeats 4000000 in
theorem order_calls (m i : Int) (cs : List Cal) (n : Nat) (hn : n = cs.length) (A : Option Addr) (c : Nat) (w : World) (hC : kC.C w A n cs) (hc : n ≤ c) (hk : ∀ k ∈ cs, CalOk k) :
    Calls Try.prog 6 #[.int .i64 m, .int .u64 i, .slice A n c] w fun en w' => en = .returned (.bool true) ∧ Below w.heap.size w w' := by
  have HN := Aside0.mk hn
  clear hn
  by_cases h1 : 100 < n
  · have e1 : ((100 : Int) < (n : Int)) = True := eq_true (by omega)
    have d1 : decide ((100 : Int) < (n : Int)) = true := decide_eq_true (by omega)
    clear h1 hC hk
    go_enter Try.func6, Try.ntmps6
    go_wp2_with fail
    (with_reducible refine (alive_calls w).mono ?_)
    rintro en w1 ⟨rfl, hb⟩
    have HB := Aside0.mk hb
    clear hb
    go_wp2_with fail
    go_ret
    exact ⟨rfl, HB.out⟩
  have e1 : ((100 : Int) < (n : Int)) = False := eq_false (by omega)
  have d1 : decide ((100 : Int) < (n : Int)) = false := decide_eq_false (by omega)
  have HNL := Aside0.mk (show n ≤ 100 by omega)
  have HK := Aside0.mk hk
  have HC0 := Aside0.mk hC
  have HCC := Aside0.mk hc
  clear h1 hC hc hk
  by_cases hok : NewOk m i
  · have HOK := Aside0.mk hok
    clear hok
    go_enter Try.func6, Try.ntmps6
    go_wp2_with fail
    (with_reducible refine (alive_calls w).mono ?_)
    rintro en w1 ⟨rfl, hb⟩
    have E0 := Aside0.mk (Env.start w |>.below hb)
    clear hb
    go_wp2_with fail
    (with_reducible refine (new_tw m i HOK.out _).mono ?_)
    rintro en w2 ⟨b, rfl, ⟨O1, hT, hO⟩, hb⟩
    have E1 := Aside0.mk (E0.out.new (thT O1 b m i []) hT hO hb)
    clear E0
    clear hT hO hb
    go_wp2_with fail
    have E5 := Aside0.mk (E1.out.new (thR (fun k => w2.heap.size ≤ k) (.slice (some ⟨w2.heap.size, 0, none⟩) 0 0) []) (R_emptyK (Nat.le_refl _)) (fun k hk => hk.2) (below_alloc (Below.refl _ _) (.cells #[] 29)))
    clear E1
    go_loopw [9, 10] (fun rv iv wr => ∃ j : Nat, j ≤ n ∧ iv = .int .i64 (j : Int) ∧ ∃ (O : Nat → Prop) (lo n9 c9 : Nat) (A9 : Option Addr), rv = .slice A9 n9 c9 ∧ n9 = (runS m i cs j).length ∧ Aside0 (Env w wr [thR (fun k => lo ≤ k) (.slice A9 n9 c9) ((runS m i cs j).map Rw.ky), thT O b m i (runS m i cs j)])) (fun _ iv _ => n - (intOf iv).toNat)
    case atStart => exact ⟨0, Nat.zero_le _, rfl, O1, w2.heap.size, 0, 0, some ⟨w2.heap.size, 0, none⟩, rfl, rfl, E5⟩
    case round =>
      obtain ⟨j, hj, rfl, O, lo, n9, c9, A9, rfl, hn9, E10⟩ := hrel
      clear E5
      by_cases hlt : j < n
      · obtain ⟨cc, hcc⟩ : ∃ x, x = cs.getD j cz := ⟨_, rfl⟩
        obtain ⟨R, hR⟩ : ∃ x, x = runS m i cs j := ⟨_, rfl⟩
        rw [← hR] at hn9 E10
        have hcj : cs[j]? = some cc := by rw [hcc, List.getD_eq_getElem?_getD, List.getElem?_eq_getElem (by have := HN.out; omega)]; rfl
        have HRS := Aside0.mk (show runS m i cs (j + 1) = (stepS m i R cc).1 by rw [hR, hcc]; rfl)
        have HOKC := Aside0.mk (HK.out cc (List.mem_of_getElem? hcj))
        have HKOK := Aside0.mk (show KeyOk cc.ky from HOKC.out.2.2.1)
        have H34 := Aside0.mk (HKOK.out.len)
        have HC1 := Aside0.mk (Kd.C_below HC0.out E10.out.bel)
        obtain ⟨ad, hA⟩ := C_ad HC1.out (by have := HN.out; omega)
        have HCX := Aside0.mk HC1.out
        rw [hA] at HCX
        have HLD := Aside0.mk (C_cal HCX.out hcj)
        have HND := Aside0.mk (Tw.keys (E10.out.at 1 rfl : Tw _ O b m i R))
        have HKB := Aside0.mk (show ∀ x ∈ R.map Rw.ky, x.length = 34 from fun x hx => by obtain ⟨r, hr, rfl⟩ := List.mem_map.1 hx; exact (Tw.keyOk (E10.out.at 1 rfl : Tw _ O b m i R) hr).len)
        have HBD := Aside0.mk (Tw.bound (E10.out.at 1 rfl : Tw _ O b m i R))
        have f1 : ((j : Int) < (n : Int)) = True := eq_true (by omega)
        have f2 : decide ((j : Int) < (n : Int)) = true := decide_eq_true (by omega)
        have f3 : (0 : Int) ≤ (j : Int) := by omega
        have f4 : (j : Int) ≤ 100 := by have := HNL.out; omega
        have HJ := Aside0.mk hlt
        have HN9 := Aside0.mk hn9
        have HAA := Aside0.mk hA
        subst hA
        obtain ⟨gC, hgC⟩ : ∃ g, g = wr.heap.size := ⟨_, rfl⟩
        obtain ⟨wc, hwc⟩ : ∃ W, W = wr.alloc (.cells (encC cc).toArray 31) := ⟨_, rfl⟩
        have E11 := Aside0.mk (show Env w wc [thB gC (encC cc).toArray 31, thR (fun k => lo ≤ k) (.slice A9 n9 c9) (R.map Rw.ky), thT O b m i R] by rw [hwc, hgC]; exact E10.out.alloc _ _)
        have HWC := Aside0.mk (And.intro hwc hgC)
        clear E10 hcj hlt hj hR hcc hn9 hwc hgC
        go_upto_region 14 with (first | (refine wpList_load_of (by rfl) 31 (.tmp 45) (by rfl) (ad.add (j * 37)) (by rfl) HLD.out ?_) | (refine pl_boxC 11 (.tmp 46) cc (by rfl) (by rfl) (by rfl) (by rfl) (by rfl) (by rfl) H34.out (by rfl) (by rfl) ?_))
        rw [← HWC.out.1, ← HWC.out.2]
        have HCI := Aside0.mk (cal_ints H34.out (E11.out.at 0 rfl))
        have HCK := Aside0.mk (cal_key H34.out (E11.out.at 0 rfl))
        obtain ⟨hc0, hc1, hc36⟩ := HCI.out
        clear HWC
        by_cases hw0 : cc.what = 0
        · rw [hw0] at hc0
          obtain ⟨R', key, evd, er, hp⟩ : ∃ a b c d, putS m i R cc.ky cc.bk cc.now = (a, b, c, d) := ⟨_, _, _, _, rfl⟩
          have HP := Aside0.mk hp
          have HK34 := Aside0.mk (show key.length = 34 by have h := put_key (m := m) (i := i) (bk := cc.bk) (now := cc.now) (k := cc.ky) HKB.out; rw [hp] at h; exact h)
          have HS0 := Aside0.mk (show stepS m i R cc = (R', decide (er = 0)) by unfold stepS; rw [if_pos hw0, hp])
          have HOP := Aside0.mk (fun u hu => ord_put (m := m) (i := i) (bk := cc.bk) (now := cc.now) (k := cc.ky) (u := u) HND.out hu)
          rw [hp] at HOP
          clear hp hw0
          go_wp2_with (refine wpList_load_of (by rfl) 29 (.tmp 53) (by rfl) ⟨gC, 2, none⟩ (by rfl) HCK.out ?_)
          (with_reducible refine (put_is (E11.out.at 2 rfl) HKOK.out HP.out).mono ?_)
          rintro en w21 ⟨rfl, ho⟩
          obtain ⟨Ow21, hE⟩ := E11.out.out [thB gC (encC cc).toArray 31, thR (fun k => lo ≤ k) (.slice A9 n9 c9) (R.map Rw.ky)] ho
          have E12 := Aside0.mk hE
          clear hE ho E11
          by_cases her : er = 0
          · subst her
            have HORD := Aside0.mk (HOP.out true (decide_eq_true rfl))
            have HRN := Aside0.mk (show (stepS m i R cc).1 = R' by rw [HS0.out])
            clear HS0 HOP HP
            obtain ⟨wb, hwb⟩ : ∃ W, W = w21.alloc (.cells (encK key).toArray 29) := ⟨_, rfl⟩
            have E13 := Aside0.mk (E12.out.alloc (encK key).toArray 29)
            clear E12
            rw [← hwb] at E13
            go_upto_region 24 with (refine pl_boxK (by rfl) (by rfl) 13 (.tmp 60) (by rfl) (by rfl) (by rfl) (by rfl) key HK34.out (by rfl) (by rfl) ?_)
            rw [← hwb]
            clear hwb
            go_wp2_with fail
            have HKA := Aside0.mk (show ∀ x ∈ (R').map Rw.ky, x.length = 34 from fun x hx => by obtain ⟨r, hr, rfl⟩ := List.mem_map.1 hx; exact (Tw.keyOk ((E13.out.at 3 rfl) : Tw _ _ b m i R') hr).len)
            have HBA := Aside0.mk (Tw.bound ((E13.out.at 3 rfl) : Tw _ _ b m i R'))
            (with_reducible refine (keys_calls _ (E13.out.at 3 rfl)).mono ?_)
            rintro en w22 ⟨A16, n16, c16, rfl, hn16, hR, hb⟩
            have E14 := Aside0.mk (E13.out.new (thR (fun k => wb.heap.size ≤ k) (.slice A16 n16 c16) ((R').map Rw.ky)) hR (fun k hk => hk.2) hb)
            clear E13
            have HN16 := Aside0.mk hn16
            clear hR hb hn16
            have HRB := Aside0.mk (R_rd (E14.out.at 3 rfl))
            have HRA := Aside0.mk (R_rd (E14.out.at 0 rfl))
            obtain ⟨pre, hpre, hps, hpk⟩ := HORD.out.yes rfl
            obtain ⟨q, hq⟩ : ∃ q, q = pre.length := ⟨_, rfl⟩
            have HLN := Aside0.mk (show n16 = q + 1 by rw [HN16.out, ← List.length_map (f := Rw.ky), hpre, hq]; simp)
            have HTK := Aside0.mk (show ((R').map Rw.ky).take q = pre by rw [hpre, hq]; simp)
            have HAT := Aside0.mk (show ((R').map Rw.ky)[q]? = some cc.ky by rw [hpre, hq]; simp)
            obtain ⟨ad16, hA16⟩ := C_ad HRA.out.2.2 (by rw [List.length_map, ← HN16.out, HLN.out]; omega)
            subst hA16
            have HFS := Aside0.mk (show (((R').map Rw.ky).take q).Sublist (R.map Rw.ky) by rw [HTK.out]; exact hps)
            have HFU := Aside0.mk (show ∀ x ∈ ((R').map Rw.ky).take q, x ≠ cc.ky from fun x hx => by rw [HTK.out] at hx; intro e; rw [e] at hx; exact hpk hx)
            have k1 : ((n16 : Int) = 0) = False := eq_false (by have := HLN.out; omega)
            have k2 : (n16 = 0) = False := eq_false (by have := HLN.out; omega)
            have k3 : wrap64 ((n16 : Int) - 1) = (q : Int) := by have := HLN.out; have := HBA.out; have := HN16.out; unfold wrap64; omega
            have K6 := Aside0.mk (wrap_pred (a := (n16 : Int)) (q := (q : Int)) (by have := HLN.out; omega) (by omega) (by have := HLN.out; have := HBA.out; have := HN16.out; omega))
            have k4 : ((q : Int) < (n16 : Int)) = True := eq_true (by have := HLN.out; omega)
            have k5 : ((0 : Int) ≤ (q : Int)) = True := eq_true (by omega)
            clear hpre hps hpk hq
            obtain ⟨wd, hwd⟩ : ∃ W, W = w22.drew := ⟨_, rfl⟩
            have hB_ := below_drew (Below.refl w22.heap.size w22)
            rw [← hwd] at hB_
            have E15 := Aside0.mk (E14.out.below hB_)
            clear E14
            clear hB_
            have HSS := Aside0.mk (Below.refl wd.heap.size wd)
            have HBX := Aside0.mk (E15.out.at 2 rfl)
            have HCB := Aside0.mk (R_rd (E15.out.at 3 rfl))
            have HCA := Aside0.mk (R_rd (E15.out.at 0 rfl))
            clear HRB HRA
            go_wp2_with fail
            refine Held.wp_region_G (S := (fun V : World => Below wd.heap.size wd V)) (by kernel_rfl) ?_
            change Held.wpAnyG _ _ _ _ _ 26 _ _ _
            rw [← hwd]
            clear hwd
            refine Held.wpAnyG_take (i := 0) (v := (.bool true)) rfl (by kernel_rfl) (by kernel_rfl) (by kernel_rfl) (fun _ _ _ h => h) HSS.out (by first | (with_reducible rfl) | (simp [Region.wanted, yielded, Act.put]; done) | rfl) (fun V hs => by go_simp) (some 90) rfl #[p3,q3,q3,q3,q3,q3,q3,q3,q3,q3,q3,q3,q3,q3,q3,q3,q3,q3,q3,q3,q3,q3,q3,q3,q3,q3] (by kernel_rfl) ?_
            simp only [Act.put, List.setIfInBounds_toArray, List.set_cons_zero, List.set_cons_succ]
            refine Held.wpAnyG_take (i := 1) (v := (.bool true)) rfl (by kernel_rfl) (by kernel_rfl) (by kernel_rfl) (fun _ _ _ h => h) HSS.out (by first | (with_reducible rfl) | (simp [Region.wanted, yielded, Act.put]; done) | rfl) (fun V hs => by go_simp) (some 91) rfl #[p3,p3,q3,q3,q3,q3,q3,q3,q3,q3,q3,q3,q3,q3,q3,q3,q3,q3,q3,q3,q3,q3,q3,q3,q3,q3] (by kernel_rfl) ?_
            simp only [Act.put, List.setIfInBounds_toArray, List.set_cons_zero, List.set_cons_succ]
            refine Held.wpAnyG_take (i := 2) (v := (.slice (some ad16) n16 c16)) rfl (by kernel_rfl) (by kernel_rfl) (by kernel_rfl) (fun _ _ _ h => h) HSS.out (by first | (with_reducible rfl) | (simp [Region.wanted, yielded, Act.put]; done) | rfl) (fun V hs => by go_simp) (some 92) rfl #[p3,p3,p3,q3,q3,q3,q3,q3,q3,q3,q3,q3,q3,q3,q3,q3,q3,q3,q3,q3,q3,q3,q3,q3,q3,q3] (by kernel_rfl) ?_
            simp only [Act.put, List.setIfInBounds_toArray, List.set_cons_zero, List.set_cons_succ]
            refine Held.wpAnyG_take (i := 3) (v := (.int .i64 (n16 : Int))) rfl (by kernel_rfl) (by kernel_rfl) (by kernel_rfl) (fun _ _ _ h => h) HSS.out (by first | (with_reducible rfl) | (simp [Region.wanted, yielded, Act.put]; done) | rfl) (fun V hs => by go_simp) (some 93) rfl #[p3,p3,p3,p3,q3,q3,q3,q3,q3,q3,q3,q3,q3,q3,q3,q3,q3,q3,q3,q3,q3,q3,q3,q3,q3,q3] (by kernel_rfl) ?_
            simp only [Act.put, List.setIfInBounds_toArray, List.set_cons_zero, List.set_cons_succ]
            refine Held.wpAnyG_take (i := 4) (v := (.bool false)) rfl (by kernel_rfl) (by kernel_rfl) (by kernel_rfl) (fun _ _ _ h => h) HSS.out (by first | (with_reducible rfl) | (simp [Region.wanted, yielded, Act.put]; done) | rfl) (fun V hs => by go_simp) (some 94) rfl #[p3,p3,p3,p3,p3,q3,q3,q3,q3,q3,q3,q3,q3,q3,q3,q3,q3,q3,q3,q3,q3,q3,q3,q3,q3,q3] (by kernel_rfl) ?_
            simp only [Act.put, List.setIfInBounds_toArray, List.set_cons_zero, List.set_cons_succ]
            refine Held.wpAnyG_take (i := 5) (v := (.bool false)) rfl (by kernel_rfl) (by kernel_rfl) (by kernel_rfl) (fun _ _ _ h => h) HSS.out (by first | (with_reducible rfl) | (simp [Region.wanted, yielded, Act.put]; done) | rfl) (fun V hs => by go_simp) (some 95) rfl #[p3,p3,p3,p3,p3,p3,q3,q3,q3,q3,q3,q3,q3,q3,q3,q3,q3,q3,q3,q3,q3,q3,q3,q3,q3,q3] (by kernel_rfl) ?_
            simp only [Act.put, List.setIfInBounds_toArray, List.set_cons_zero, List.set_cons_succ]
            refine Held.wpAnyG_take (i := 6) (v := (.slice (some ad16) n16 c16)) rfl (by kernel_rfl) (by kernel_rfl) (by kernel_rfl) (fun _ _ _ h => h) HSS.out (by first | (with_reducible rfl) | (simp [Region.wanted, yielded, Act.put]; done) | rfl) (fun V hs => by go_simp) (some 96) rfl #[p3,p3,p3,p3,p3,p3,p3,q3,q3,q3,q3,q3,q3,q3,q3,q3,q3,q3,q3,q3,q3,q3,q3,q3,q3,q3] (by kernel_rfl) ?_
            simp only [Act.put, List.setIfInBounds_toArray, List.set_cons_zero, List.set_cons_succ]
            refine Held.wpAnyG_take (i := 7) (v := (.slice (some ad16) n16 c16)) rfl (by kernel_rfl) (by kernel_rfl) (by kernel_rfl) (fun _ _ _ h => h) HSS.out (by first | (with_reducible rfl) | (simp [Region.wanted, yielded, Act.put]; done) | rfl) (fun V hs => by go_simp) (some 97) rfl #[p3,p3,p3,p3,p3,p3,p3,p3,q3,q3,q3,q3,q3,q3,q3,q3,q3,q3,q3,q3,q3,q3,q3,q3,q3,q3] (by kernel_rfl) ?_
            simp only [Act.put, List.setIfInBounds_toArray, List.set_cons_zero, List.set_cons_succ]
            refine Held.wpAnyG_take (i := 8) (v := (.int .i64 (n16 : Int))) rfl (by kernel_rfl) (by kernel_rfl) (by kernel_rfl) (fun _ _ _ h => h) HSS.out (by first | (with_reducible rfl) | (simp [Region.wanted, yielded, Act.put]; done) | rfl) (fun V hs => by go_simp) (some 98) rfl #[p3,p3,p3,p3,p3,p3,p3,p3,p3,q3,q3,q3,q3,q3,q3,q3,q3,q3,q3,q3,q3,q3,q3,q3,q3,q3] (by kernel_rfl) ?_
            simp only [Act.put, List.setIfInBounds_toArray, List.set_cons_zero, List.set_cons_succ]
            refine Held.wpAnyG_take (i := 9) (v := (.int .i64 (q : Int))) rfl (by kernel_rfl) (by kernel_rfl) (by kernel_rfl) (fun _ _ _ h => h) HSS.out (by first | (with_reducible rfl) | (simp [Region.wanted, yielded, Act.put]; done) | rfl) (fun V hs => by go_simp; exact K6.out) (some 99) rfl #[p3,p3,p3,p3,p3,p3,p3,p3,p3,p3,q3,q3,q3,q3,q3,q3,q3,q3,q3,q3,q3,q3,q3,q3,q3,q3] (by kernel_rfl) ?_
            simp only [Act.put, List.setIfInBounds_toArray, List.set_cons_zero, List.set_cons_succ]
            refine Held.wpAnyG_take (i := 10) (v := (.pointer (some (ad16.add (q * 34))))) rfl (by kernel_rfl) (by kernel_rfl) (by kernel_rfl) (fun _ _ _ h => h) HSS.out (by first | (with_reducible rfl) | (simp [Region.wanted, yielded, Act.put]; done) | rfl) (fun V hs => by go_simp) (some 100) rfl #[p3,p3,p3,p3,p3,p3,p3,p3,p3,p3,p3,q3,q3,q3,q3,q3,q3,q3,q3,q3,q3,q3,q3,q3,q3,q3] (by kernel_rfl) ?_
            simp only [Act.put, List.setIfInBounds_toArray, List.set_cons_zero, List.set_cons_succ]
            refine Held.wpAnyG_take (i := 11) (v := (kv cc.ky)) rfl (by kernel_rfl) (by kernel_rfl) (by kernel_rfl) (fun _ _ _ h => h) HSS.out (by first | (with_reducible rfl) | (simp [Region.wanted, yielded, Act.put]; done) | rfl) (fun V hs => Held.run_load_of 29 (.tmp 100) rfl (ad16.add (q * 34)) rfl (C_key (Kd.C_below HCA.out.2.2 hs) HAT.out)) (some 101) rfl #[p3,p3,p3,p3,p3,p3,p3,p3,p3,p3,p3,p3,q3,q3,q3,q3,q3,q3,q3,q3,q3,q3,q3,q3,q3,q3] (by kernel_rfl) ?_
            simp only [Act.put, List.setIfInBounds_toArray, List.set_cons_zero, List.set_cons_succ]
            refine Held.wpAnyG_take (i := 12) (v := (.pointer (some ⟨gC, 2, none⟩))) rfl (by kernel_rfl) (by kernel_rfl) (by kernel_rfl) (fun _ _ _ h => h) HSS.out (by first | (with_reducible rfl) | (simp [Region.wanted, yielded, Act.put]; done) | rfl) (fun V hs => by go_simp) (some 102) rfl #[p3,p3,p3,p3,p3,p3,p3,p3,p3,p3,p3,p3,p3,q3,q3,q3,q3,q3,q3,q3,q3,q3,q3,q3,q3,q3] (by kernel_rfl) ?_
            simp only [Act.put, List.setIfInBounds_toArray, List.set_cons_zero, List.set_cons_succ]
            refine Held.wpAnyG_take (i := 13) (v := (kv cc.ky)) rfl (by kernel_rfl) (by kernel_rfl) (by kernel_rfl) (fun _ _ _ h => h) HSS.out (by first | (with_reducible rfl) | (simp [Region.wanted, yielded, Act.put]; done) | rfl) (fun V hs => Held.run_load_of 29 (.tmp 102) rfl ⟨gC, 2, none⟩ rfl (cal_key H34.out (blk_below HBX.out hs))) (some 103) rfl #[p3,p3,p3,p3,p3,p3,p3,p3,p3,p3,p3,p3,p3,p3,q3,q3,q3,q3,q3,q3,q3,q3,q3,q3,q3,q3] (by kernel_rfl) ?_
            simp only [Act.put, List.setIfInBounds_toArray, List.set_cons_zero, List.set_cons_succ]
            refine Held.wpAnyG_take (i := 14) (v := (.bool false)) rfl (by kernel_rfl) (by kernel_rfl) (by kernel_rfl) (fun _ _ _ h => h) HSS.out (by first | (with_reducible rfl) | (simp [Region.wanted, yielded, Act.put]; done) | rfl) (fun V hs => (run_neqKF (.tmp 101) (.tmp 103) rfl cc.ky cc.ky H34.out H34.out rfl rfl V).trans (by rw [decide_eq_true rfl]; rfl)) (some 104) rfl #[p3,p3,p3,p3,p3,p3,p3,p3,p3,p3,p3,p3,p3,p3,p3,q3,q3,q3,q3,q3,q3,q3,q3,q3,q3,q3] (by kernel_rfl) ?_
            simp only [Act.put, List.setIfInBounds_toArray, List.set_cons_zero, List.set_cons_succ]
            refine Held.wpAnyG_take (i := 15) (v := (.bool false)) rfl (by kernel_rfl) (by kernel_rfl) (by kernel_rfl) (fun _ _ _ h => h) HSS.out (by first | (with_reducible rfl) | (simp [Region.wanted, yielded, Act.put]; done) | rfl) (fun V hs => by go_simp) (some 105) rfl #[p3,p3,p3,p3,p3,p3,p3,p3,p3,p3,p3,p3,p3,p3,p3,p3,q3,q3,q3,q3,q3,q3,q3,q3,q3,q3] (by kernel_rfl) ?_
            simp only [Act.put, List.setIfInBounds_toArray, List.set_cons_zero, List.set_cons_succ]
            refine Held.wpAnyG_take (i := 16) (v := (.bool false)) rfl (by kernel_rfl) (by kernel_rfl) (by kernel_rfl) (fun _ _ _ h => h) HSS.out (by first | (with_reducible rfl) | (simp [Region.wanted, yielded, Act.put]; done) | rfl) (fun V hs => by go_simp) (some 106) rfl #[p3,p3,p3,p3,p3,p3,p3,p3,p3,p3,p3,p3,p3,p3,p3,p3,p3,q3,q3,q3,q3,q3,q3,q3,q3,q3] (by kernel_rfl) ?_
            simp only [Act.put, List.setIfInBounds_toArray, List.set_cons_zero, List.set_cons_succ]
            refine Held.wpAnyG_take (i := 17) (v := (.bool false)) rfl (by kernel_rfl) (by kernel_rfl) (by kernel_rfl) (fun _ _ _ h => h) HSS.out (by first | (with_reducible rfl) | (simp [Region.wanted, yielded, Act.put]; done) | rfl) (fun V hs => by go_simp) (some 107) rfl #[p3,p3,p3,p3,p3,p3,p3,p3,p3,p3,p3,p3,p3,p3,p3,p3,p3,p3,q3,q3,q3,q3,q3,q3,q3,q3] (by kernel_rfl) ?_
            simp only [Act.put, List.setIfInBounds_toArray, List.set_cons_zero, List.set_cons_succ]
            refine Held.wpAnyG_take (i := 18) (v := (.slice A9 n9 c9)) rfl (by kernel_rfl) (by kernel_rfl) (by kernel_rfl) (fun _ _ _ h => h) HSS.out (by first | (with_reducible rfl) | (simp [Region.wanted, yielded, Act.put]; done) | rfl) (fun V hs => by go_simp) (some 108) rfl #[p3,p3,p3,p3,p3,p3,p3,p3,p3,p3,p3,p3,p3,p3,p3,p3,p3,p3,p3,q3,q3,q3,q3,q3,q3,q3] (by kernel_rfl) ?_
            simp only [Act.put, List.setIfInBounds_toArray, List.set_cons_zero, List.set_cons_succ]
            refine Held.wpAnyG_take (i := 19) (v := (.slice (some ad16) n16 c16)) rfl (by kernel_rfl) (by kernel_rfl) (by kernel_rfl) (fun _ _ _ h => h) HSS.out (by first | (with_reducible rfl) | (simp [Region.wanted, yielded, Act.put]; done) | rfl) (fun V hs => by go_simp) (some 109) rfl #[p3,p3,p3,p3,p3,p3,p3,p3,p3,p3,p3,p3,p3,p3,p3,p3,p3,p3,p3,p3,q3,q3,q3,q3,q3,q3] (by kernel_rfl) ?_
            simp only [Act.put, List.setIfInBounds_toArray, List.set_cons_zero, List.set_cons_succ]
            refine Held.wpAnyG_take (i := 20) (v := (.pointer (some ⟨gC, 2, none⟩))) rfl (by kernel_rfl) (by kernel_rfl) (by kernel_rfl) (fun _ _ _ h => h) HSS.out (by first | (with_reducible rfl) | (simp [Region.wanted, yielded, Act.put]; done) | rfl) (fun V hs => by go_simp) (some 110) rfl #[p3,p3,p3,p3,p3,p3,p3,p3,p3,p3,p3,p3,p3,p3,p3,p3,p3,p3,p3,p3,p3,q3,q3,q3,q3,q3] (by kernel_rfl) ?_
            simp only [Act.put, List.setIfInBounds_toArray, List.set_cons_zero, List.set_cons_succ]
            refine Held.wpAnyG_take (i := 21) (v := (kv cc.ky)) rfl (by kernel_rfl) (by kernel_rfl) (by kernel_rfl) (fun _ _ _ h => h) HSS.out (by first | (with_reducible rfl) | (simp [Region.wanted, yielded, Act.put]; done) | rfl) (fun V hs => Held.run_load_of 29 (.tmp 110) rfl ⟨gC, 2, none⟩ rfl (cal_key H34.out (blk_below HBX.out hs))) (some 111) rfl #[p3,p3,p3,p3,p3,p3,p3,p3,p3,p3,p3,p3,p3,p3,p3,p3,p3,p3,p3,p3,p3,p3,q3,q3,q3,q3] (by kernel_rfl) ?_
            simp only [Act.put, List.setIfInBounds_toArray, List.set_cons_zero, List.set_cons_succ]
            refine Held.wpAnyG_take (i := 22) (v := (.bool true)) rfl (by kernel_rfl) (by kernel_rfl) (by kernel_rfl) (fun _ _ _ h => h) HSS.out (by first | (with_reducible rfl) | (simp [Region.wanted, yielded, Act.put]; done) | rfl) (fun V hs => by go_simp) (some 112) rfl #[p3,p3,p3,p3,p3,p3,p3,p3,p3,p3,p3,p3,p3,p3,p3,p3,p3,p3,p3,p3,p3,p3,p3,q3,q3,q3] (by kernel_rfl) ?_
            simp only [Act.put, List.setIfInBounds_toArray, List.set_cons_zero, List.set_cons_succ]
            refine Held.wpAnyG_one 23 (by kernel_rfl) rfl #[p3,p3,p3,p3,p3,p3,p3,p3,p3,p3,p3,p3,p3,p3,p3,p3,p3,p3,p3,p3,p3,p3,p3,p3,q3,q3] (by kernel_rfl) (fun K hK => ?_)
            go_wp2_with fail
            (with_reducible refine (follows_calls (R.map Rw.ky) ((R').map Rw.ky) cc.ky true _ _ n9 c9 n16 c16 q wd HCB.out.2.2 HCB.out.2.1 HCA.out.2.2 HCA.out.2.1 H34.out HKB.out HKA.out (by have := HBD.out; have := HN9.out; omega) (by have := HBA.out; have := HN16.out; omega) (by rw [if_pos rfl]; exact HLN.out) HFS.out (fun _ => HFU.out)).mono ?_)
            rintro en wf ⟨rfl, hb⟩
            have n1_ := Aside0.mk hb
            clear HSS hb
            have HSS := n1_
            clear n1_
            go_wp2_with fail
            refine hK _ _ HSS.out ?_
            clear hK K
            refine Held.wpAnyG_take (i := 24) (v := (.bool false)) rfl (by kernel_rfl) (by kernel_rfl) (by kernel_rfl) (fun _ _ _ h => h) HSS.out (by first | (with_reducible rfl) | (simp [Region.wanted, yielded, Act.put]; done) | rfl) (fun V hs => by go_simp) (some 114) rfl #[p3,p3,p3,p3,p3,p3,p3,p3,p3,p3,p3,p3,p3,p3,p3,p3,p3,p3,p3,p3,p3,p3,p3,p3,p3,q3] (by kernel_rfl) ?_
            simp only [Act.put, List.setIfInBounds_toArray, List.set_cons_zero, List.set_cons_succ]
            refine Held.wpAnyG_take (i := 25) (v := (.bool false)) rfl (by kernel_rfl) (by kernel_rfl) (by kernel_rfl) (fun _ _ _ h => h) HSS.out (by first | (with_reducible rfl) | (simp [Region.wanted, yielded, Act.put]; done) | rfl) (fun V hs => by go_simp) (some 115) rfl #[p3,p3,p3,p3,p3,p3,p3,p3,p3,p3,p3,p3,p3,p3,p3,p3,p3,p3,p3,p3,p3,p3,p3,p3,p3,p3] (by kernel_rfl) ?_
            simp only [Act.put, List.setIfInBounds_toArray, List.set_cons_zero, List.set_cons_succ]
            refine Held.wpAnyG_done (by kernel_rfl) ?_ _
            have E16 := Aside0.mk (E15.out.below HSS.out)
            clear E15
            clear HCB HCA HBX
            have HEF := Aside0.mk (E16.out.sub (ts' := [thR (fun k => wb.heap.size ≤ k) (.slice (some ad16) n16 c16) ((R').map Rw.ky), thT Ow21 b m i R']) (List.Sublist.cons_cons _ (List.Sublist.cons _ (List.Sublist.cons _ (List.Sublist.cons _ (List.Sublist.cons_cons _ (List.Sublist.slnil)))))))
            go_wp2_with fail
            go_roundw
            case rel => exact ⟨j + 1, by have := HJ.out; omega, by go_num, _, _, n16, c16, _, rfl, by rw [HRS.out, HRN.out]; exact HN16.out, by rw [HRS.out, HRN.out]; exact HEF⟩
            case measure => have := HJ.out; simp [intOf]; omega
          · have e5 : (er = 0) = False := eq_false her
            have HORD := Aside0.mk (HOP.out false (decide_eq_false her))
            have HRN := Aside0.mk (show (stepS m i R cc).1 = R' by rw [HS0.out])
            clear HS0 HOP HP her
            obtain ⟨wb, hwb⟩ : ∃ W, W = w21.alloc (.cells (encK key).toArray 29) := ⟨_, rfl⟩
            have E13 := Aside0.mk (E12.out.alloc (encK key).toArray 29)
            clear E12
            rw [← hwb] at E13
            go_upto_region 24 with (refine pl_boxK (by rfl) (by rfl) 13 (.tmp 60) (by rfl) (by rfl) (by rfl) (by rfl) key HK34.out (by rfl) (by rfl) ?_)
            rw [← hwb]
            clear hwb
            go_wp2_with fail
            have HKA := Aside0.mk (show ∀ x ∈ (R').map Rw.ky, x.length = 34 from fun x hx => by obtain ⟨r, hr, rfl⟩ := List.mem_map.1 hx; exact (Tw.keyOk ((E13.out.at 3 rfl) : Tw _ _ b m i R') hr).len)
            have HBA := Aside0.mk (Tw.bound ((E13.out.at 3 rfl) : Tw _ _ b m i R'))
            (with_reducible refine (keys_calls _ (E13.out.at 3 rfl)).mono ?_)
            rintro en w22 ⟨A16, n16, c16, rfl, hn16, hR, hb⟩
            have E14 := Aside0.mk (E13.out.new (thR (fun k => wb.heap.size ≤ k) (.slice A16 n16 c16) ((R').map Rw.ky)) hR (fun k hk => hk.2) hb)
            clear E13
            have HN16 := Aside0.mk hn16
            clear hR hb hn16
            have HRB := Aside0.mk (R_rd (E14.out.at 3 rfl))
            have HRA := Aside0.mk (R_rd (E14.out.at 0 rfl))
            have HFS := Aside0.mk (show (((R').map Rw.ky).take n16).Sublist (R.map Rw.ky) by rw [List.take_of_length_le (by rw [List.length_map, HN16.out]; exact Nat.le_refl _)]; exact HORD.out.no rfl)
            obtain ⟨wd, hwd⟩ : ∃ W, W = w22.drew := ⟨_, rfl⟩
            have hB_ := below_drew (Below.refl w22.heap.size w22)
            rw [← hwd] at hB_
            have E15 := Aside0.mk (E14.out.below hB_)
            clear E14
            clear hB_
            have HSS := Aside0.mk (Below.refl wd.heap.size wd)
            have HBX := Aside0.mk (E15.out.at 2 rfl)
            have HCB := Aside0.mk (R_rd (E15.out.at 3 rfl))
            have HCA := Aside0.mk (R_rd (E15.out.at 0 rfl))
            clear HRB HRA
            go_wp2_with fail
            refine Held.wp_region_G (S := (fun V : World => Below wd.heap.size wd V)) (by kernel_rfl) ?_
            change Held.wpAnyG _ _ _ _ _ 26 _ _ _
            rw [← hwd]
            clear hwd
            refine Held.wpAnyG_take (i := 0) (v := (.bool false)) rfl (by kernel_rfl) (by kernel_rfl) (by kernel_rfl) (fun _ _ _ h => h) HSS.out (by first | (with_reducible rfl) | (simp [Region.wanted, yielded, Act.put]; done) | rfl) (fun V hs => by go_simp) (some 90) rfl #[p3,q3,q3,q3,q3,q3,q3,q3,q3,q3,q3,q3,q3,q3,q3,q3,q3,q3,q3,q3,q3,q3,q3,q3,q3,q3] (by kernel_rfl) ?_
            simp only [Act.put, List.setIfInBounds_toArray, List.set_cons_zero, List.set_cons_succ]
            refine Held.wpAnyG_take (i := 1) (v := (.bool false)) rfl (by kernel_rfl) (by kernel_rfl) (by kernel_rfl) (fun _ _ _ h => h) HSS.out (by first | (with_reducible rfl) | (simp [Region.wanted, yielded, Act.put]; done) | rfl) (fun V hs => by go_simp) (some 91) rfl #[p3,p3,q3,q3,q3,q3,q3,q3,q3,q3,q3,q3,q3,q3,q3,q3,q3,q3,q3,q3,q3,q3,q3,q3,q3,q3] (by kernel_rfl) ?_
            simp only [Act.put, List.setIfInBounds_toArray, List.set_cons_zero, List.set_cons_succ]
            refine Held.wpAnyG_skip (i := 2) rfl (by kernel_rfl) (by kernel_rfl) (by kernel_rfl) (fun _ _ _ h => h) HSS.out (by first | (with_reducible rfl) | (simp [Region.wanted, yielded, Act.put]; done) | rfl) (some 92) rfl #[p3,p3,p3,q3,q3,q3,q3,q3,q3,q3,q3,q3,q3,q3,q3,q3,q3,q3,q3,q3,q3,q3,q3,q3,q3,q3] (by kernel_rfl) ?_
            simp only [Act.put, List.setIfInBounds_toArray, List.set_cons_zero, List.set_cons_succ]
            refine Held.wpAnyG_skip (i := 3) rfl (by kernel_rfl) (by kernel_rfl) (by kernel_rfl) (fun _ _ _ h => h) HSS.out (by first | (with_reducible rfl) | (simp [Region.wanted, yielded, Act.put]; done) | rfl) (some 93) rfl #[p3,p3,p3,p3,q3,q3,q3,q3,q3,q3,q3,q3,q3,q3,q3,q3,q3,q3,q3,q3,q3,q3,q3,q3,q3,q3] (by kernel_rfl) ?_
            simp only [Act.put, List.setIfInBounds_toArray, List.set_cons_zero, List.set_cons_succ]
            refine Held.wpAnyG_skip (i := 4) rfl (by kernel_rfl) (by kernel_rfl) (by kernel_rfl) (fun _ _ _ h => h) HSS.out (by first | (with_reducible rfl) | (simp [Region.wanted, yielded, Act.put]; done) | rfl) (some 94) rfl #[p3,p3,p3,p3,p3,q3,q3,q3,q3,q3,q3,q3,q3,q3,q3,q3,q3,q3,q3,q3,q3,q3,q3,q3,q3,q3] (by kernel_rfl) ?_
            simp only [Act.put, List.setIfInBounds_toArray, List.set_cons_zero, List.set_cons_succ]
            refine Held.wpAnyG_skip (i := 5) rfl (by kernel_rfl) (by kernel_rfl) (by kernel_rfl) (fun _ _ _ h => h) HSS.out (by first | (with_reducible rfl) | (simp [Region.wanted, yielded, Act.put]; done) | rfl) (some 95) rfl #[p3,p3,p3,p3,p3,p3,q3,q3,q3,q3,q3,q3,q3,q3,q3,q3,q3,q3,q3,q3,q3,q3,q3,q3,q3,q3] (by kernel_rfl) ?_
            simp only [Act.put, List.setIfInBounds_toArray, List.set_cons_zero, List.set_cons_succ]
            refine Held.wpAnyG_skip (i := 6) rfl (by kernel_rfl) (by kernel_rfl) (by kernel_rfl) (fun _ _ _ h => h) HSS.out (by first | (with_reducible rfl) | (simp [Region.wanted, yielded, Act.put]; done) | rfl) (some 96) rfl #[p3,p3,p3,p3,p3,p3,p3,q3,q3,q3,q3,q3,q3,q3,q3,q3,q3,q3,q3,q3,q3,q3,q3,q3,q3,q3] (by kernel_rfl) ?_
            simp only [Act.put, List.setIfInBounds_toArray, List.set_cons_zero, List.set_cons_succ]
            refine Held.wpAnyG_skip (i := 7) rfl (by kernel_rfl) (by kernel_rfl) (by kernel_rfl) (fun _ _ _ h => h) HSS.out (by first | (with_reducible rfl) | (simp [Region.wanted, yielded, Act.put]; done) | rfl) (some 97) rfl #[p3,p3,p3,p3,p3,p3,p3,p3,q3,q3,q3,q3,q3,q3,q3,q3,q3,q3,q3,q3,q3,q3,q3,q3,q3,q3] (by kernel_rfl) ?_
            simp only [Act.put, List.setIfInBounds_toArray, List.set_cons_zero, List.set_cons_succ]
            refine Held.wpAnyG_skip (i := 8) rfl (by kernel_rfl) (by kernel_rfl) (by kernel_rfl) (fun _ _ _ h => h) HSS.out (by first | (with_reducible rfl) | (simp [Region.wanted, yielded, Act.put]; done) | rfl) (some 98) rfl #[p3,p3,p3,p3,p3,p3,p3,p3,p3,q3,q3,q3,q3,q3,q3,q3,q3,q3,q3,q3,q3,q3,q3,q3,q3,q3] (by kernel_rfl) ?_
            simp only [Act.put, List.setIfInBounds_toArray, List.set_cons_zero, List.set_cons_succ]
            refine Held.wpAnyG_skip (i := 9) rfl (by kernel_rfl) (by kernel_rfl) (by kernel_rfl) (fun _ _ _ h => h) HSS.out (by first | (with_reducible rfl) | (simp [Region.wanted, yielded, Act.put]; done) | rfl) (some 99) rfl #[p3,p3,p3,p3,p3,p3,p3,p3,p3,p3,q3,q3,q3,q3,q3,q3,q3,q3,q3,q3,q3,q3,q3,q3,q3,q3] (by kernel_rfl) ?_
            simp only [Act.put, List.setIfInBounds_toArray, List.set_cons_zero, List.set_cons_succ]
            refine Held.wpAnyG_skip (i := 10) rfl (by kernel_rfl) (by kernel_rfl) (by kernel_rfl) (fun _ _ _ h => h) HSS.out (by first | (with_reducible rfl) | (simp [Region.wanted, yielded, Act.put]; done) | rfl) (some 100) rfl #[p3,p3,p3,p3,p3,p3,p3,p3,p3,p3,p3,q3,q3,q3,q3,q3,q3,q3,q3,q3,q3,q3,q3,q3,q3,q3] (by kernel_rfl) ?_
            simp only [Act.put, List.setIfInBounds_toArray, List.set_cons_zero, List.set_cons_succ]
            refine Held.wpAnyG_skip (i := 11) rfl (by kernel_rfl) (by kernel_rfl) (by kernel_rfl) (fun _ _ _ h => h) HSS.out (by first | (with_reducible rfl) | (simp [Region.wanted, yielded, Act.put]; done) | rfl) (some 101) rfl #[p3,p3,p3,p3,p3,p3,p3,p3,p3,p3,p3,p3,q3,q3,q3,q3,q3,q3,q3,q3,q3,q3,q3,q3,q3,q3] (by kernel_rfl) ?_
            simp only [Act.put, List.setIfInBounds_toArray, List.set_cons_zero, List.set_cons_succ]
            refine Held.wpAnyG_skip (i := 12) rfl (by kernel_rfl) (by kernel_rfl) (by kernel_rfl) (fun _ _ _ h => h) HSS.out (by first | (with_reducible rfl) | (simp [Region.wanted, yielded, Act.put]; done) | rfl) (some 102) rfl #[p3,p3,p3,p3,p3,p3,p3,p3,p3,p3,p3,p3,p3,q3,q3,q3,q3,q3,q3,q3,q3,q3,q3,q3,q3,q3] (by kernel_rfl) ?_
            simp only [Act.put, List.setIfInBounds_toArray, List.set_cons_zero, List.set_cons_succ]
            refine Held.wpAnyG_skip (i := 13) rfl (by kernel_rfl) (by kernel_rfl) (by kernel_rfl) (fun _ _ _ h => h) HSS.out (by first | (with_reducible rfl) | (simp [Region.wanted, yielded, Act.put]; done) | rfl) (some 103) rfl #[p3,p3,p3,p3,p3,p3,p3,p3,p3,p3,p3,p3,p3,p3,q3,q3,q3,q3,q3,q3,q3,q3,q3,q3,q3,q3] (by kernel_rfl) ?_
            simp only [Act.put, List.setIfInBounds_toArray, List.set_cons_zero, List.set_cons_succ]
            refine Held.wpAnyG_skip (i := 14) rfl (by kernel_rfl) (by kernel_rfl) (by kernel_rfl) (fun _ _ _ h => h) HSS.out (by first | (with_reducible rfl) | (simp [Region.wanted, yielded, Act.put]; done) | rfl) (some 104) rfl #[p3,p3,p3,p3,p3,p3,p3,p3,p3,p3,p3,p3,p3,p3,p3,q3,q3,q3,q3,q3,q3,q3,q3,q3,q3,q3] (by kernel_rfl) ?_
            simp only [Act.put, List.setIfInBounds_toArray, List.set_cons_zero, List.set_cons_succ]
            refine Held.wpAnyG_skip (i := 15) rfl (by kernel_rfl) (by kernel_rfl) (by kernel_rfl) (fun _ _ _ h => h) HSS.out (by first | (with_reducible rfl) | (simp [Region.wanted, yielded, Act.put]; done) | rfl) (some 105) rfl #[p3,p3,p3,p3,p3,p3,p3,p3,p3,p3,p3,p3,p3,p3,p3,p3,q3,q3,q3,q3,q3,q3,q3,q3,q3,q3] (by kernel_rfl) ?_
            simp only [Act.put, List.setIfInBounds_toArray, List.set_cons_zero, List.set_cons_succ]
            refine Held.wpAnyG_take (i := 16) (v := (.bool false)) rfl (by kernel_rfl) (by kernel_rfl) (by kernel_rfl) (fun _ _ _ h => h) HSS.out (by first | (with_reducible rfl) | (simp [Region.wanted, yielded, Act.put]; done) | rfl) (fun V hs => by go_simp) (some 106) rfl #[p3,p3,p3,p3,p3,p3,p3,p3,p3,p3,p3,p3,p3,p3,p3,p3,p3,q3,q3,q3,q3,q3,q3,q3,q3,q3] (by kernel_rfl) ?_
            simp only [Act.put, List.setIfInBounds_toArray, List.set_cons_zero, List.set_cons_succ]
            refine Held.wpAnyG_take (i := 17) (v := (.bool false)) rfl (by kernel_rfl) (by kernel_rfl) (by kernel_rfl) (fun _ _ _ h => h) HSS.out (by first | (with_reducible rfl) | (simp [Region.wanted, yielded, Act.put]; done) | rfl) (fun V hs => by go_simp) (some 107) rfl #[p3,p3,p3,p3,p3,p3,p3,p3,p3,p3,p3,p3,p3,p3,p3,p3,p3,p3,q3,q3,q3,q3,q3,q3,q3,q3] (by kernel_rfl) ?_
            simp only [Act.put, List.setIfInBounds_toArray, List.set_cons_zero, List.set_cons_succ]
            refine Held.wpAnyG_take (i := 18) (v := (.slice A9 n9 c9)) rfl (by kernel_rfl) (by kernel_rfl) (by kernel_rfl) (fun _ _ _ h => h) HSS.out (by first | (with_reducible rfl) | (simp [Region.wanted, yielded, Act.put]; done) | rfl) (fun V hs => by go_simp) (some 108) rfl #[p3,p3,p3,p3,p3,p3,p3,p3,p3,p3,p3,p3,p3,p3,p3,p3,p3,p3,p3,q3,q3,q3,q3,q3,q3,q3] (by kernel_rfl) ?_
            simp only [Act.put, List.setIfInBounds_toArray, List.set_cons_zero, List.set_cons_succ]
            refine Held.wpAnyG_take (i := 19) (v := (.slice A16 n16 c16)) rfl (by kernel_rfl) (by kernel_rfl) (by kernel_rfl) (fun _ _ _ h => h) HSS.out (by first | (with_reducible rfl) | (simp [Region.wanted, yielded, Act.put]; done) | rfl) (fun V hs => by go_simp) (some 109) rfl #[p3,p3,p3,p3,p3,p3,p3,p3,p3,p3,p3,p3,p3,p3,p3,p3,p3,p3,p3,p3,q3,q3,q3,q3,q3,q3] (by kernel_rfl) ?_
            simp only [Act.put, List.setIfInBounds_toArray, List.set_cons_zero, List.set_cons_succ]
            refine Held.wpAnyG_take (i := 20) (v := (.pointer (some ⟨gC, 2, none⟩))) rfl (by kernel_rfl) (by kernel_rfl) (by kernel_rfl) (fun _ _ _ h => h) HSS.out (by first | (with_reducible rfl) | (simp [Region.wanted, yielded, Act.put]; done) | rfl) (fun V hs => by go_simp) (some 110) rfl #[p3,p3,p3,p3,p3,p3,p3,p3,p3,p3,p3,p3,p3,p3,p3,p3,p3,p3,p3,p3,p3,q3,q3,q3,q3,q3] (by kernel_rfl) ?_
            simp only [Act.put, List.setIfInBounds_toArray, List.set_cons_zero, List.set_cons_succ]
            refine Held.wpAnyG_take (i := 21) (v := (kv cc.ky)) rfl (by kernel_rfl) (by kernel_rfl) (by kernel_rfl) (fun _ _ _ h => h) HSS.out (by first | (with_reducible rfl) | (simp [Region.wanted, yielded, Act.put]; done) | rfl) (fun V hs => Held.run_load_of 29 (.tmp 110) rfl ⟨gC, 2, none⟩ rfl (cal_key H34.out (blk_below HBX.out hs))) (some 111) rfl #[p3,p3,p3,p3,p3,p3,p3,p3,p3,p3,p3,p3,p3,p3,p3,p3,p3,p3,p3,p3,p3,p3,q3,q3,q3,q3] (by kernel_rfl) ?_
            simp only [Act.put, List.setIfInBounds_toArray, List.set_cons_zero, List.set_cons_succ]
            refine Held.wpAnyG_take (i := 22) (v := (.bool false)) rfl (by kernel_rfl) (by kernel_rfl) (by kernel_rfl) (fun _ _ _ h => h) HSS.out (by first | (with_reducible rfl) | (simp [Region.wanted, yielded, Act.put]; done) | rfl) (fun V hs => by go_simp) (some 112) rfl #[p3,p3,p3,p3,p3,p3,p3,p3,p3,p3,p3,p3,p3,p3,p3,p3,p3,p3,p3,p3,p3,p3,p3,q3,q3,q3] (by kernel_rfl) ?_
            simp only [Act.put, List.setIfInBounds_toArray, List.set_cons_zero, List.set_cons_succ]
            refine Held.wpAnyG_one 23 (by kernel_rfl) rfl #[p3,p3,p3,p3,p3,p3,p3,p3,p3,p3,p3,p3,p3,p3,p3,p3,p3,p3,p3,p3,p3,p3,p3,p3,q3,q3] (by kernel_rfl) (fun K hK => ?_)
            go_wp2_with fail
            (with_reducible refine (follows_calls (R.map Rw.ky) ((R').map Rw.ky) cc.ky false _ _ n9 c9 n16 c16 n16 wd HCB.out.2.2 HCB.out.2.1 HCA.out.2.2 HCA.out.2.1 H34.out HKB.out HKA.out (by have := HBD.out; have := HN9.out; omega) (by have := HBA.out; have := HN16.out; omega) (by rw [if_neg Bool.false_ne_true]) HFS.out (fun h => absurd h (by decide))).mono ?_)
            rintro en wf ⟨rfl, hb⟩
            have n1_ := Aside0.mk hb
            clear HSS hb
            have HSS := n1_
            clear n1_
            go_wp2_with fail
            refine hK _ _ HSS.out ?_
            clear hK K
            refine Held.wpAnyG_take (i := 24) (v := (.bool false)) rfl (by kernel_rfl) (by kernel_rfl) (by kernel_rfl) (fun _ _ _ h => h) HSS.out (by first | (with_reducible rfl) | (simp [Region.wanted, yielded, Act.put]; done) | rfl) (fun V hs => by go_simp) (some 114) rfl #[p3,p3,p3,p3,p3,p3,p3,p3,p3,p3,p3,p3,p3,p3,p3,p3,p3,p3,p3,p3,p3,p3,p3,p3,p3,q3] (by kernel_rfl) ?_
            simp only [Act.put, List.setIfInBounds_toArray, List.set_cons_zero, List.set_cons_succ]
            refine Held.wpAnyG_take (i := 25) (v := (.bool false)) rfl (by kernel_rfl) (by kernel_rfl) (by kernel_rfl) (fun _ _ _ h => h) HSS.out (by first | (with_reducible rfl) | (simp [Region.wanted, yielded, Act.put]; done) | rfl) (fun V hs => by go_simp) (some 115) rfl #[p3,p3,p3,p3,p3,p3,p3,p3,p3,p3,p3,p3,p3,p3,p3,p3,p3,p3,p3,p3,p3,p3,p3,p3,p3,p3] (by kernel_rfl) ?_
            simp only [Act.put, List.setIfInBounds_toArray, List.set_cons_zero, List.set_cons_succ]
            refine Held.wpAnyG_done (by kernel_rfl) ?_ _
            have E16 := Aside0.mk (E15.out.below HSS.out)
            clear E15
            clear HCB HCA HBX
            have HEF := Aside0.mk (E16.out.sub (ts' := [thR (fun k => wb.heap.size ≤ k) (.slice A16 n16 c16) ((R').map Rw.ky), thT Ow21 b m i R']) (List.Sublist.cons_cons _ (List.Sublist.cons _ (List.Sublist.cons _ (List.Sublist.cons _ (List.Sublist.cons_cons _ (List.Sublist.slnil)))))))
            go_wp2_with fail
            go_roundw
            case rel => exact ⟨j + 1, by have := HJ.out; omega, by go_num, _, _, n16, c16, _, rfl, by rw [HRS.out, HRN.out]; exact HN16.out, by rw [HRS.out, HRN.out]; exact HEF⟩
            case measure => have := HJ.out; simp [intOf]; omega
        · by_cases hw1 : cc.what = 1
          · rw [hw1] at hc0
            obtain ⟨R', gb, gu, hp⟩ : ∃ a b c, getS i R cc.ky cc.now = (a, b, c) := ⟨_, _, _, rfl⟩
            have HP := Aside0.mk hp
            have HRN := Aside0.mk (show (stepS m i R cc).1 = R' by unfold stepS; rw [if_neg hw0, if_pos hw1, hp])
            have HOP := Aside0.mk (fun u hu => ord_get (i := i) (now := cc.now) (k := cc.ky) (u := u) HND.out hu)
            rw [hp] at HOP
            clear hp hw0 hw1
            go_wp2_with (refine wpList_load_of (by rfl) 29 (.tmp 69) (by rfl) ⟨gC, 2, none⟩ (by rfl) HCK.out ?_)
            (with_reducible refine (get_is (E11.out.at 2 rfl) HKOK.out HP.out).mono ?_)
            rintro en w41 ⟨rfl, ho⟩
            obtain ⟨Ow41, hE⟩ := E11.out.out [thB gC (encC cc).toArray 31, thR (fun k => lo ≤ k) (.slice A9 n9 c9) (R.map Rw.ky)] ho
            have E12 := Aside0.mk hE
            clear hE ho E11
            cases gu with
            | true =>
              have HORD := Aside0.mk (HOP.out true rfl)
              clear HOP HP
              go_wp2_with fail
              have HKA := Aside0.mk (show ∀ x ∈ (R').map Rw.ky, x.length = 34 from fun x hx => by obtain ⟨r, hr, rfl⟩ := List.mem_map.1 hx; exact (Tw.keyOk ((E12.out.at 2 rfl) : Tw _ _ b m i R') hr).len)
              have HBA := Aside0.mk (Tw.bound ((E12.out.at 2 rfl) : Tw _ _ b m i R'))
              (with_reducible refine (keys_calls _ (E12.out.at 2 rfl)).mono ?_)
              rintro en w42 ⟨A16, n16, c16, rfl, hn16, hR, hb⟩
              have E13 := Aside0.mk (E12.out.new (thR (fun k => w41.heap.size ≤ k) (.slice A16 n16 c16) ((R').map Rw.ky)) hR (fun k hk => hk.2) hb)
              clear E12
              have HN16 := Aside0.mk hn16
              clear hR hb hn16
              have HRB := Aside0.mk (R_rd (E13.out.at 2 rfl))
              have HRA := Aside0.mk (R_rd (E13.out.at 0 rfl))
              obtain ⟨pre, hpre, hps, hpk⟩ := HORD.out.yes rfl
              obtain ⟨q, hq⟩ : ∃ q, q = pre.length := ⟨_, rfl⟩
              have HLN := Aside0.mk (show n16 = q + 1 by rw [HN16.out, ← List.length_map (f := Rw.ky), hpre, hq]; simp)
              have HTK := Aside0.mk (show ((R').map Rw.ky).take q = pre by rw [hpre, hq]; simp)
              have HAT := Aside0.mk (show ((R').map Rw.ky)[q]? = some cc.ky by rw [hpre, hq]; simp)
              obtain ⟨ad16, hA16⟩ := C_ad HRA.out.2.2 (by rw [List.length_map, ← HN16.out, HLN.out]; omega)
              subst hA16
              have HFS := Aside0.mk (show (((R').map Rw.ky).take q).Sublist (R.map Rw.ky) by rw [HTK.out]; exact hps)
              have HFU := Aside0.mk (show ∀ x ∈ ((R').map Rw.ky).take q, x ≠ cc.ky from fun x hx => by rw [HTK.out] at hx; intro e; rw [e] at hx; exact hpk hx)
              have k1 : ((n16 : Int) = 0) = False := eq_false (by have := HLN.out; omega)
              have k2 : (n16 = 0) = False := eq_false (by have := HLN.out; omega)
              have k3 : wrap64 ((n16 : Int) - 1) = (q : Int) := by have := HLN.out; have := HBA.out; have := HN16.out; unfold wrap64; omega
              have K6 := Aside0.mk (wrap_pred (a := (n16 : Int)) (q := (q : Int)) (by have := HLN.out; omega) (by omega) (by have := HLN.out; have := HBA.out; have := HN16.out; omega))
              have k4 : ((q : Int) < (n16 : Int)) = True := eq_true (by have := HLN.out; omega)
              have k5 : ((0 : Int) ≤ (q : Int)) = True := eq_true (by omega)
              clear hpre hps hpk hq
              obtain ⟨wd, hwd⟩ : ∃ W, W = w42.drew := ⟨_, rfl⟩
              have hB_ := below_drew (Below.refl w42.heap.size w42)
              rw [← hwd] at hB_
              have E14 := Aside0.mk (E13.out.below hB_)
              clear E13
              clear hB_
              have HSS := Aside0.mk (Below.refl wd.heap.size wd)
              have HBX := Aside0.mk (E14.out.at 1 rfl)
              have HCB := Aside0.mk (R_rd (E14.out.at 2 rfl))
              have HCA := Aside0.mk (R_rd (E14.out.at 0 rfl))
              clear HRB HRA
              go_wp2_with fail
              refine Held.wp_region_G (S := (fun V : World => Below wd.heap.size wd V)) (by kernel_rfl) ?_
              change Held.wpAnyG _ _ _ _ _ 26 _ _ _
              rw [← hwd]
              clear hwd
              refine Held.wpAnyG_take (i := 0) (v := (.bool true)) rfl (by kernel_rfl) (by kernel_rfl) (by kernel_rfl) (fun _ _ _ h => h) HSS.out (by first | (with_reducible rfl) | (simp [Region.wanted, yielded, Act.put]; done) | rfl) (fun V hs => by go_simp) (some 90) rfl #[p3,q3,q3,q3,q3,q3,q3,q3,q3,q3,q3,q3,q3,q3,q3,q3,q3,q3,q3,q3,q3,q3,q3,q3,q3,q3] (by kernel_rfl) ?_
              simp only [Act.put, List.setIfInBounds_toArray, List.set_cons_zero, List.set_cons_succ]
              refine Held.wpAnyG_take (i := 1) (v := (.bool true)) rfl (by kernel_rfl) (by kernel_rfl) (by kernel_rfl) (fun _ _ _ h => h) HSS.out (by first | (with_reducible rfl) | (simp [Region.wanted, yielded, Act.put]; done) | rfl) (fun V hs => by go_simp) (some 91) rfl #[p3,p3,q3,q3,q3,q3,q3,q3,q3,q3,q3,q3,q3,q3,q3,q3,q3,q3,q3,q3,q3,q3,q3,q3,q3,q3] (by kernel_rfl) ?_
              simp only [Act.put, List.setIfInBounds_toArray, List.set_cons_zero, List.set_cons_succ]
              refine Held.wpAnyG_take (i := 2) (v := (.slice (some ad16) n16 c16)) rfl (by kernel_rfl) (by kernel_rfl) (by kernel_rfl) (fun _ _ _ h => h) HSS.out (by first | (with_reducible rfl) | (simp [Region.wanted, yielded, Act.put]; done) | rfl) (fun V hs => by go_simp) (some 92) rfl #[p3,p3,p3,q3,q3,q3,q3,q3,q3,q3,q3,q3,q3,q3,q3,q3,q3,q3,q3,q3,q3,q3,q3,q3,q3,q3] (by kernel_rfl) ?_
              simp only [Act.put, List.setIfInBounds_toArray, List.set_cons_zero, List.set_cons_succ]
              refine Held.wpAnyG_take (i := 3) (v := (.int .i64 (n16 : Int))) rfl (by kernel_rfl) (by kernel_rfl) (by kernel_rfl) (fun _ _ _ h => h) HSS.out (by first | (with_reducible rfl) | (simp [Region.wanted, yielded, Act.put]; done) | rfl) (fun V hs => by go_simp) (some 93) rfl #[p3,p3,p3,p3,q3,q3,q3,q3,q3,q3,q3,q3,q3,q3,q3,q3,q3,q3,q3,q3,q3,q3,q3,q3,q3,q3] (by kernel_rfl) ?_
              simp only [Act.put, List.setIfInBounds_toArray, List.set_cons_zero, List.set_cons_succ]
              refine Held.wpAnyG_take (i := 4) (v := (.bool false)) rfl (by kernel_rfl) (by kernel_rfl) (by kernel_rfl) (fun _ _ _ h => h) HSS.out (by first | (with_reducible rfl) | (simp [Region.wanted, yielded, Act.put]; done) | rfl) (fun V hs => by go_simp) (some 94) rfl #[p3,p3,p3,p3,p3,q3,q3,q3,q3,q3,q3,q3,q3,q3,q3,q3,q3,q3,q3,q3,q3,q3,q3,q3,q3,q3] (by kernel_rfl) ?_
              simp only [Act.put, List.setIfInBounds_toArray, List.set_cons_zero, List.set_cons_succ]
              refine Held.wpAnyG_take (i := 5) (v := (.bool false)) rfl (by kernel_rfl) (by kernel_rfl) (by kernel_rfl) (fun _ _ _ h => h) HSS.out (by first | (with_reducible rfl) | (simp [Region.wanted, yielded, Act.put]; done) | rfl) (fun V hs => by go_simp) (some 95) rfl #[p3,p3,p3,p3,p3,p3,q3,q3,q3,q3,q3,q3,q3,q3,q3,q3,q3,q3,q3,q3,q3,q3,q3,q3,q3,q3] (by kernel_rfl) ?_
              simp only [Act.put, List.setIfInBounds_toArray, List.set_cons_zero, List.set_cons_succ]
              refine Held.wpAnyG_take (i := 6) (v := (.slice (some ad16) n16 c16)) rfl (by kernel_rfl) (by kernel_rfl) (by kernel_rfl) (fun _ _ _ h => h) HSS.out (by first | (with_reducible rfl) | (simp [Region.wanted, yielded, Act.put]; done) | rfl) (fun V hs => by go_simp) (some 96) rfl #[p3,p3,p3,p3,p3,p3,p3,q3,q3,q3,q3,q3,q3,q3,q3,q3,q3,q3,q3,q3,q3,q3,q3,q3,q3,q3] (by kernel_rfl) ?_
              simp only [Act.put, List.setIfInBounds_toArray, List.set_cons_zero, List.set_cons_succ]
              refine Held.wpAnyG_take (i := 7) (v := (.slice (some ad16) n16 c16)) rfl (by kernel_rfl) (by kernel_rfl) (by kernel_rfl) (fun _ _ _ h => h) HSS.out (by first | (with_reducible rfl) | (simp [Region.wanted, yielded, Act.put]; done) | rfl) (fun V hs => by go_simp) (some 97) rfl #[p3,p3,p3,p3,p3,p3,p3,p3,q3,q3,q3,q3,q3,q3,q3,q3,q3,q3,q3,q3,q3,q3,q3,q3,q3,q3] (by kernel_rfl) ?_
              simp only [Act.put, List.setIfInBounds_toArray, List.set_cons_zero, List.set_cons_succ]
              refine Held.wpAnyG_take (i := 8) (v := (.int .i64 (n16 : Int))) rfl (by kernel_rfl) (by kernel_rfl) (by kernel_rfl) (fun _ _ _ h => h) HSS.out (by first | (with_reducible rfl) | (simp [Region.wanted, yielded, Act.put]; done) | rfl) (fun V hs => by go_simp) (some 98) rfl #[p3,p3,p3,p3,p3,p3,p3,p3,p3,q3,q3,q3,q3,q3,q3,q3,q3,q3,q3,q3,q3,q3,q3,q3,q3,q3] (by kernel_rfl) ?_
              simp only [Act.put, List.setIfInBounds_toArray, List.set_cons_zero, List.set_cons_succ]
              refine Held.wpAnyG_take (i := 9) (v := (.int .i64 (q : Int))) rfl (by kernel_rfl) (by kernel_rfl) (by kernel_rfl) (fun _ _ _ h => h) HSS.out (by first | (with_reducible rfl) | (simp [Region.wanted, yielded, Act.put]; done) | rfl) (fun V hs => by go_simp; exact K6.out) (some 99) rfl #[p3,p3,p3,p3,p3,p3,p3,p3,p3,p3,q3,q3,q3,q3,q3,q3,q3,q3,q3,q3,q3,q3,q3,q3,q3,q3] (by kernel_rfl) ?_
              simp only [Act.put, List.setIfInBounds_toArray, List.set_cons_zero, List.set_cons_succ]
              refine Held.wpAnyG_take (i := 10) (v := (.pointer (some (ad16.add (q * 34))))) rfl (by kernel_rfl) (by kernel_rfl) (by kernel_rfl) (fun _ _ _ h => h) HSS.out (by first | (with_reducible rfl) | (simp [Region.wanted, yielded, Act.put]; done) | rfl) (fun V hs => by go_simp) (some 100) rfl #[p3,p3,p3,p3,p3,p3,p3,p3,p3,p3,p3,q3,q3,q3,q3,q3,q3,q3,q3,q3,q3,q3,q3,q3,q3,q3] (by kernel_rfl) ?_
              simp only [Act.put, List.setIfInBounds_toArray, List.set_cons_zero, List.set_cons_succ]
              refine Held.wpAnyG_take (i := 11) (v := (kv cc.ky)) rfl (by kernel_rfl) (by kernel_rfl) (by kernel_rfl) (fun _ _ _ h => h) HSS.out (by first | (with_reducible rfl) | (simp [Region.wanted, yielded, Act.put]; done) | rfl) (fun V hs => Held.run_load_of 29 (.tmp 100) rfl (ad16.add (q * 34)) rfl (C_key (Kd.C_below HCA.out.2.2 hs) HAT.out)) (some 101) rfl #[p3,p3,p3,p3,p3,p3,p3,p3,p3,p3,p3,p3,q3,q3,q3,q3,q3,q3,q3,q3,q3,q3,q3,q3,q3,q3] (by kernel_rfl) ?_
              simp only [Act.put, List.setIfInBounds_toArray, List.set_cons_zero, List.set_cons_succ]
              refine Held.wpAnyG_take (i := 12) (v := (.pointer (some ⟨gC, 2, none⟩))) rfl (by kernel_rfl) (by kernel_rfl) (by kernel_rfl) (fun _ _ _ h => h) HSS.out (by first | (with_reducible rfl) | (simp [Region.wanted, yielded, Act.put]; done) | rfl) (fun V hs => by go_simp) (some 102) rfl #[p3,p3,p3,p3,p3,p3,p3,p3,p3,p3,p3,p3,p3,q3,q3,q3,q3,q3,q3,q3,q3,q3,q3,q3,q3,q3] (by kernel_rfl) ?_
              simp only [Act.put, List.setIfInBounds_toArray, List.set_cons_zero, List.set_cons_succ]
              refine Held.wpAnyG_take (i := 13) (v := (kv cc.ky)) rfl (by kernel_rfl) (by kernel_rfl) (by kernel_rfl) (fun _ _ _ h => h) HSS.out (by first | (with_reducible rfl) | (simp [Region.wanted, yielded, Act.put]; done) | rfl) (fun V hs => Held.run_load_of 29 (.tmp 102) rfl ⟨gC, 2, none⟩ rfl (cal_key H34.out (blk_below HBX.out hs))) (some 103) rfl #[p3,p3,p3,p3,p3,p3,p3,p3,p3,p3,p3,p3,p3,p3,q3,q3,q3,q3,q3,q3,q3,q3,q3,q3,q3,q3] (by kernel_rfl) ?_
              simp only [Act.put, List.setIfInBounds_toArray, List.set_cons_zero, List.set_cons_succ]
              refine Held.wpAnyG_take (i := 14) (v := (.bool false)) rfl (by kernel_rfl) (by kernel_rfl) (by kernel_rfl) (fun _ _ _ h => h) HSS.out (by first | (with_reducible rfl) | (simp [Region.wanted, yielded, Act.put]; done) | rfl) (fun V hs => (run_neqKF (.tmp 101) (.tmp 103) rfl cc.ky cc.ky H34.out H34.out rfl rfl V).trans (by rw [decide_eq_true rfl]; rfl)) (some 104) rfl #[p3,p3,p3,p3,p3,p3,p3,p3,p3,p3,p3,p3,p3,p3,p3,q3,q3,q3,q3,q3,q3,q3,q3,q3,q3,q3] (by kernel_rfl) ?_
              simp only [Act.put, List.setIfInBounds_toArray, List.set_cons_zero, List.set_cons_succ]
              refine Held.wpAnyG_take (i := 15) (v := (.bool false)) rfl (by kernel_rfl) (by kernel_rfl) (by kernel_rfl) (fun _ _ _ h => h) HSS.out (by first | (with_reducible rfl) | (simp [Region.wanted, yielded, Act.put]; done) | rfl) (fun V hs => by go_simp) (some 105) rfl #[p3,p3,p3,p3,p3,p3,p3,p3,p3,p3,p3,p3,p3,p3,p3,p3,q3,q3,q3,q3,q3,q3,q3,q3,q3,q3] (by kernel_rfl) ?_
              simp only [Act.put, List.setIfInBounds_toArray, List.set_cons_zero, List.set_cons_succ]
              refine Held.wpAnyG_take (i := 16) (v := (.bool false)) rfl (by kernel_rfl) (by kernel_rfl) (by kernel_rfl) (fun _ _ _ h => h) HSS.out (by first | (with_reducible rfl) | (simp [Region.wanted, yielded, Act.put]; done) | rfl) (fun V hs => by go_simp) (some 106) rfl #[p3,p3,p3,p3,p3,p3,p3,p3,p3,p3,p3,p3,p3,p3,p3,p3,p3,q3,q3,q3,q3,q3,q3,q3,q3,q3] (by kernel_rfl) ?_
              simp only [Act.put, List.setIfInBounds_toArray, List.set_cons_zero, List.set_cons_succ]
              refine Held.wpAnyG_take (i := 17) (v := (.bool false)) rfl (by kernel_rfl) (by kernel_rfl) (by kernel_rfl) (fun _ _ _ h => h) HSS.out (by first | (with_reducible rfl) | (simp [Region.wanted, yielded, Act.put]; done) | rfl) (fun V hs => by go_simp) (some 107) rfl #[p3,p3,p3,p3,p3,p3,p3,p3,p3,p3,p3,p3,p3,p3,p3,p3,p3,p3,q3,q3,q3,q3,q3,q3,q3,q3] (by kernel_rfl) ?_
              simp only [Act.put, List.setIfInBounds_toArray, List.set_cons_zero, List.set_cons_succ]
              refine Held.wpAnyG_take (i := 18) (v := (.slice A9 n9 c9)) rfl (by kernel_rfl) (by kernel_rfl) (by kernel_rfl) (fun _ _ _ h => h) HSS.out (by first | (with_reducible rfl) | (simp [Region.wanted, yielded, Act.put]; done) | rfl) (fun V hs => by go_simp) (some 108) rfl #[p3,p3,p3,p3,p3,p3,p3,p3,p3,p3,p3,p3,p3,p3,p3,p3,p3,p3,p3,q3,q3,q3,q3,q3,q3,q3] (by kernel_rfl) ?_
              simp only [Act.put, List.setIfInBounds_toArray, List.set_cons_zero, List.set_cons_succ]
              refine Held.wpAnyG_take (i := 19) (v := (.slice (some ad16) n16 c16)) rfl (by kernel_rfl) (by kernel_rfl) (by kernel_rfl) (fun _ _ _ h => h) HSS.out (by first | (with_reducible rfl) | (simp [Region.wanted, yielded, Act.put]; done) | rfl) (fun V hs => by go_simp) (some 109) rfl #[p3,p3,p3,p3,p3,p3,p3,p3,p3,p3,p3,p3,p3,p3,p3,p3,p3,p3,p3,p3,q3,q3,q3,q3,q3,q3] (by kernel_rfl) ?_
              simp only [Act.put, List.setIfInBounds_toArray, List.set_cons_zero, List.set_cons_succ]
              refine Held.wpAnyG_take (i := 20) (v := (.pointer (some ⟨gC, 2, none⟩))) rfl (by kernel_rfl) (by kernel_rfl) (by kernel_rfl) (fun _ _ _ h => h) HSS.out (by first | (with_reducible rfl) | (simp [Region.wanted, yielded, Act.put]; done) | rfl) (fun V hs => by go_simp) (some 110) rfl #[p3,p3,p3,p3,p3,p3,p3,p3,p3,p3,p3,p3,p3,p3,p3,p3,p3,p3,p3,p3,p3,q3,q3,q3,q3,q3] (by kernel_rfl) ?_
              simp only [Act.put, List.setIfInBounds_toArray, List.set_cons_zero, List.set_cons_succ]
              refine Held.wpAnyG_take (i := 21) (v := (kv cc.ky)) rfl (by kernel_rfl) (by kernel_rfl) (by kernel_rfl) (fun _ _ _ h => h) HSS.out (by first | (with_reducible rfl) | (simp [Region.wanted, yielded, Act.put]; done) | rfl) (fun V hs => Held.run_load_of 29 (.tmp 110) rfl ⟨gC, 2, none⟩ rfl (cal_key H34.out (blk_below HBX.out hs))) (some 111) rfl #[p3,p3,p3,p3,p3,p3,p3,p3,p3,p3,p3,p3,p3,p3,p3,p3,p3,p3,p3,p3,p3,p3,q3,q3,q3,q3] (by kernel_rfl) ?_
              simp only [Act.put, List.setIfInBounds_toArray, List.set_cons_zero, List.set_cons_succ]
              refine Held.wpAnyG_take (i := 22) (v := (.bool true)) rfl (by kernel_rfl) (by kernel_rfl) (by kernel_rfl) (fun _ _ _ h => h) HSS.out (by first | (with_reducible rfl) | (simp [Region.wanted, yielded, Act.put]; done) | rfl) (fun V hs => by go_simp) (some 112) rfl #[p3,p3,p3,p3,p3,p3,p3,p3,p3,p3,p3,p3,p3,p3,p3,p3,p3,p3,p3,p3,p3,p3,p3,q3,q3,q3] (by kernel_rfl) ?_
              simp only [Act.put, List.setIfInBounds_toArray, List.set_cons_zero, List.set_cons_succ]
              refine Held.wpAnyG_one 23 (by kernel_rfl) rfl #[p3,p3,p3,p3,p3,p3,p3,p3,p3,p3,p3,p3,p3,p3,p3,p3,p3,p3,p3,p3,p3,p3,p3,p3,q3,q3] (by kernel_rfl) (fun K hK => ?_)
              go_wp2_with fail
              (with_reducible refine (follows_calls (R.map Rw.ky) ((R').map Rw.ky) cc.ky true _ _ n9 c9 n16 c16 q wd HCB.out.2.2 HCB.out.2.1 HCA.out.2.2 HCA.out.2.1 H34.out HKB.out HKA.out (by have := HBD.out; have := HN9.out; omega) (by have := HBA.out; have := HN16.out; omega) (by rw [if_pos rfl]; exact HLN.out) HFS.out (fun _ => HFU.out)).mono ?_)
              rintro en wf ⟨rfl, hb⟩
              have n1_ := Aside0.mk hb
              clear HSS hb
              have HSS := n1_
              clear n1_
              go_wp2_with fail
              refine hK _ _ HSS.out ?_
              clear hK K
              refine Held.wpAnyG_take (i := 24) (v := (.bool false)) rfl (by kernel_rfl) (by kernel_rfl) (by kernel_rfl) (fun _ _ _ h => h) HSS.out (by first | (with_reducible rfl) | (simp [Region.wanted, yielded, Act.put]; done) | rfl) (fun V hs => by go_simp) (some 114) rfl #[p3,p3,p3,p3,p3,p3,p3,p3,p3,p3,p3,p3,p3,p3,p3,p3,p3,p3,p3,p3,p3,p3,p3,p3,p3,q3] (by kernel_rfl) ?_
              simp only [Act.put, List.setIfInBounds_toArray, List.set_cons_zero, List.set_cons_succ]
              refine Held.wpAnyG_take (i := 25) (v := (.bool false)) rfl (by kernel_rfl) (by kernel_rfl) (by kernel_rfl) (fun _ _ _ h => h) HSS.out (by first | (with_reducible rfl) | (simp [Region.wanted, yielded, Act.put]; done) | rfl) (fun V hs => by go_simp) (some 115) rfl #[p3,p3,p3,p3,p3,p3,p3,p3,p3,p3,p3,p3,p3,p3,p3,p3,p3,p3,p3,p3,p3,p3,p3,p3,p3,p3] (by kernel_rfl) ?_
              simp only [Act.put, List.setIfInBounds_toArray, List.set_cons_zero, List.set_cons_succ]
              refine Held.wpAnyG_done (by kernel_rfl) ?_ _
              have E15 := Aside0.mk (E14.out.below HSS.out)
              clear E14
              clear HCB HCA HBX
              have HEF := Aside0.mk (E15.out.sub (ts' := [thR (fun k => w41.heap.size ≤ k) (.slice (some ad16) n16 c16) ((R').map Rw.ky), thT Ow41 b m i R']) (List.Sublist.cons_cons _ (List.Sublist.cons _ (List.Sublist.cons _ (List.Sublist.cons_cons _ (List.Sublist.slnil))))))
              go_wp2_with fail
              go_roundw
              case rel => exact ⟨j + 1, by have := HJ.out; omega, by go_num, _, _, n16, c16, _, rfl, by rw [HRS.out, HRN.out]; exact HN16.out, by rw [HRS.out, HRN.out]; exact HEF⟩
              case measure => have := HJ.out; simp [intOf]; omega
            | false =>
              have HORD := Aside0.mk (HOP.out false rfl)
              clear HOP HP
              go_wp2_with fail
              have HKA := Aside0.mk (show ∀ x ∈ (R').map Rw.ky, x.length = 34 from fun x hx => by obtain ⟨r, hr, rfl⟩ := List.mem_map.1 hx; exact (Tw.keyOk ((E12.out.at 2 rfl) : Tw _ _ b m i R') hr).len)
              have HBA := Aside0.mk (Tw.bound ((E12.out.at 2 rfl) : Tw _ _ b m i R'))
              (with_reducible refine (keys_calls _ (E12.out.at 2 rfl)).mono ?_)
              rintro en w42 ⟨A16, n16, c16, rfl, hn16, hR, hb⟩
              have E13 := Aside0.mk (E12.out.new (thR (fun k => w41.heap.size ≤ k) (.slice A16 n16 c16) ((R').map Rw.ky)) hR (fun k hk => hk.2) hb)
              clear E12
              have HN16 := Aside0.mk hn16
              clear hR hb hn16
              have HRB := Aside0.mk (R_rd (E13.out.at 2 rfl))
              have HRA := Aside0.mk (R_rd (E13.out.at 0 rfl))
              have HFS := Aside0.mk (show (((R').map Rw.ky).take n16).Sublist (R.map Rw.ky) by rw [List.take_of_length_le (by rw [List.length_map, HN16.out]; exact Nat.le_refl _)]; exact HORD.out.no rfl)
              obtain ⟨wd, hwd⟩ : ∃ W, W = w42.drew := ⟨_, rfl⟩
              have hB_ := below_drew (Below.refl w42.heap.size w42)
              rw [← hwd] at hB_
              have E14 := Aside0.mk (E13.out.below hB_)
              clear E13
              clear hB_
              have HSS := Aside0.mk (Below.refl wd.heap.size wd)
              have HBX := Aside0.mk (E14.out.at 1 rfl)
              have HCB := Aside0.mk (R_rd (E14.out.at 2 rfl))
              have HCA := Aside0.mk (R_rd (E14.out.at 0 rfl))
              clear HRB HRA
              go_wp2_with fail
              refine Held.wp_region_G (S := (fun V : World => Below wd.heap.size wd V)) (by kernel_rfl) ?_
              change Held.wpAnyG _ _ _ _ _ 26 _ _ _
              rw [← hwd]
              clear hwd
              refine Held.wpAnyG_take (i := 0) (v := (.bool false)) rfl (by kernel_rfl) (by kernel_rfl) (by kernel_rfl) (fun _ _ _ h => h) HSS.out (by first | (with_reducible rfl) | (simp [Region.wanted, yielded, Act.put]; done) | rfl) (fun V hs => by go_simp) (some 90) rfl #[p3,q3,q3,q3,q3,q3,q3,q3,q3,q3,q3,q3,q3,q3,q3,q3,q3,q3,q3,q3,q3,q3,q3,q3,q3,q3] (by kernel_rfl) ?_
              simp only [Act.put, List.setIfInBounds_toArray, List.set_cons_zero, List.set_cons_succ]
              refine Held.wpAnyG_take (i := 1) (v := (.bool false)) rfl (by kernel_rfl) (by kernel_rfl) (by kernel_rfl) (fun _ _ _ h => h) HSS.out (by first | (with_reducible rfl) | (simp [Region.wanted, yielded, Act.put]; done) | rfl) (fun V hs => by go_simp) (some 91) rfl #[p3,p3,q3,q3,q3,q3,q3,q3,q3,q3,q3,q3,q3,q3,q3,q3,q3,q3,q3,q3,q3,q3,q3,q3,q3,q3] (by kernel_rfl) ?_
              simp only [Act.put, List.setIfInBounds_toArray, List.set_cons_zero, List.set_cons_succ]
              refine Held.wpAnyG_skip (i := 2) rfl (by kernel_rfl) (by kernel_rfl) (by kernel_rfl) (fun _ _ _ h => h) HSS.out (by first | (with_reducible rfl) | (simp [Region.wanted, yielded, Act.put]; done) | rfl) (some 92) rfl #[p3,p3,p3,q3,q3,q3,q3,q3,q3,q3,q3,q3,q3,q3,q3,q3,q3,q3,q3,q3,q3,q3,q3,q3,q3,q3] (by kernel_rfl) ?_
              simp only [Act.put, List.setIfInBounds_toArray, List.set_cons_zero, List.set_cons_succ]
              refine Held.wpAnyG_skip (i := 3) rfl (by kernel_rfl) (by kernel_rfl) (by kernel_rfl) (fun _ _ _ h => h) HSS.out (by first | (with_reducible rfl) | (simp [Region.wanted, yielded, Act.put]; done) | rfl) (some 93) rfl #[p3,p3,p3,p3,q3,q3,q3,q3,q3,q3,q3,q3,q3,q3,q3,q3,q3,q3,q3,q3,q3,q3,q3,q3,q3,q3] (by kernel_rfl) ?_
              simp only [Act.put, List.setIfInBounds_toArray, List.set_cons_zero, List.set_cons_succ]
              refine Held.wpAnyG_skip (i := 4) rfl (by kernel_rfl) (by kernel_rfl) (by kernel_rfl) (fun _ _ _ h => h) HSS.out (by first | (with_reducible rfl) | (simp [Region.wanted, yielded, Act.put]; done) | rfl) (some 94) rfl #[p3,p3,p3,p3,p3,q3,q3,q3,q3,q3,q3,q3,q3,q3,q3,q3,q3,q3,q3,q3,q3,q3,q3,q3,q3,q3] (by kernel_rfl) ?_
              simp only [Act.put, List.setIfInBounds_toArray, List.set_cons_zero, List.set_cons_succ]
              refine Held.wpAnyG_skip (i := 5) rfl (by kernel_rfl) (by kernel_rfl) (by kernel_rfl) (fun _ _ _ h => h) HSS.out (by first | (with_reducible rfl) | (simp [Region.wanted, yielded, Act.put]; done) | rfl) (some 95) rfl #[p3,p3,p3,p3,p3,p3,q3,q3,q3,q3,q3,q3,q3,q3,q3,q3,q3,q3,q3,q3,q3,q3,q3,q3,q3,q3] (by kernel_rfl) ?_
              simp only [Act.put, List.setIfInBounds_toArray, List.set_cons_zero, List.set_cons_succ]
              refine Held.wpAnyG_skip (i := 6) rfl (by kernel_rfl) (by kernel_rfl) (by kernel_rfl) (fun _ _ _ h => h) HSS.out (by first | (with_reducible rfl) | (simp [Region.wanted, yielded, Act.put]; done) | rfl) (some 96) rfl #[p3,p3,p3,p3,p3,p3,p3,q3,q3,q3,q3,q3,q3,q3,q3,q3,q3,q3,q3,q3,q3,q3,q3,q3,q3,q3] (by kernel_rfl) ?_
              simp only [Act.put, List.setIfInBounds_toArray, List.set_cons_zero, List.set_cons_succ]
              refine Held.wpAnyG_skip (i := 7) rfl (by kernel_rfl) (by kernel_rfl) (by kernel_rfl) (fun _ _ _ h => h) HSS.out (by first | (with_reducible rfl) | (simp [Region.wanted, yielded, Act.put]; done) | rfl) (some 97) rfl #[p3,p3,p3,p3,p3,p3,p3,p3,q3,q3,q3,q3,q3,q3,q3,q3,q3,q3,q3,q3,q3,q3,q3,q3,q3,q3] (by kernel_rfl) ?_
              simp only [Act.put, List.setIfInBounds_toArray, List.set_cons_zero, List.set_cons_succ]
              refine Held.wpAnyG_skip (i := 8) rfl (by kernel_rfl) (by kernel_rfl) (by kernel_rfl) (fun _ _ _ h => h) HSS.out (by first | (with_reducible rfl) | (simp [Region.wanted, yielded, Act.put]; done) | rfl) (some 98) rfl #[p3,p3,p3,p3,p3,p3,p3,p3,p3,q3,q3,q3,q3,q3,q3,q3,q3,q3,q3,q3,q3,q3,q3,q3,q3,q3] (by kernel_rfl) ?_
              simp only [Act.put, List.setIfInBounds_toArray, List.set_cons_zero, List.set_cons_succ]
              refine Held.wpAnyG_skip (i := 9) rfl (by kernel_rfl) (by kernel_rfl) (by kernel_rfl) (fun _ _ _ h => h) HSS.out (by first | (with_reducible rfl) | (simp [Region.wanted, yielded, Act.put]; done) | rfl) (some 99) rfl #[p3,p3,p3,p3,p3,p3,p3,p3,p3,p3,q3,q3,q3,q3,q3,q3,q3,q3,q3,q3,q3,q3,q3,q3,q3,q3] (by kernel_rfl) ?_
              simp only [Act.put, List.setIfInBounds_toArray, List.set_cons_zero, List.set_cons_succ]
              refine Held.wpAnyG_skip (i := 10) rfl (by kernel_rfl) (by kernel_rfl) (by kernel_rfl) (fun _ _ _ h => h) HSS.out (by first | (with_reducible rfl) | (simp [Region.wanted, yielded, Act.put]; done) | rfl) (some 100) rfl #[p3,p3,p3,p3,p3,p3,p3,p3,p3,p3,p3,q3,q3,q3,q3,q3,q3,q3,q3,q3,q3,q3,q3,q3,q3,q3] (by kernel_rfl) ?_
              simp only [Act.put, List.setIfInBounds_toArray, List.set_cons_zero, List.set_cons_succ]
              refine Held.wpAnyG_skip (i := 11) rfl (by kernel_rfl) (by kernel_rfl) (by kernel_rfl) (fun _ _ _ h => h) HSS.out (by first | (with_reducible rfl) | (simp [Region.wanted, yielded, Act.put]; done) | rfl) (some 101) rfl #[p3,p3,p3,p3,p3,p3,p3,p3,p3,p3,p3,p3,q3,q3,q3,q3,q3,q3,q3,q3,q3,q3,q3,q3,q3,q3] (by kernel_rfl) ?_
              simp only [Act.put, List.setIfInBounds_toArray, List.set_cons_zero, List.set_cons_succ]
              refine Held.wpAnyG_skip (i := 12) rfl (by kernel_rfl) (by kernel_rfl) (by kernel_rfl) (fun _ _ _ h => h) HSS.out (by first | (with_reducible rfl) | (simp [Region.wanted, yielded, Act.put]; done) | rfl) (some 102) rfl #[p3,p3,p3,p3,p3,p3,p3,p3,p3,p3,p3,p3,p3,q3,q3,q3,q3,q3,q3,q3,q3,q3,q3,q3,q3,q3] (by kernel_rfl) ?_
              simp only [Act.put, List.setIfInBounds_toArray, List.set_cons_zero, List.set_cons_succ]
              refine Held.wpAnyG_skip (i := 13) rfl (by kernel_rfl) (by kernel_rfl) (by kernel_rfl) (fun _ _ _ h => h) HSS.out (by first | (with_reducible rfl) | (simp [Region.wanted, yielded, Act.put]; done) | rfl) (some 103) rfl #[p3,p3,p3,p3,p3,p3,p3,p3,p3,p3,p3,p3,p3,p3,q3,q3,q3,q3,q3,q3,q3,q3,q3,q3,q3,q3] (by kernel_rfl) ?_
              simp only [Act.put, List.setIfInBounds_toArray, List.set_cons_zero, List.set_cons_succ]
              refine Held.wpAnyG_skip (i := 14) rfl (by kernel_rfl) (by kernel_rfl) (by kernel_rfl) (fun _ _ _ h => h) HSS.out (by first | (with_reducible rfl) | (simp [Region.wanted, yielded, Act.put]; done) | rfl) (some 104) rfl #[p3,p3,p3,p3,p3,p3,p3,p3,p3,p3,p3,p3,p3,p3,p3,q3,q3,q3,q3,q3,q3,q3,q3,q3,q3,q3] (by kernel_rfl) ?_
              simp only [Act.put, List.setIfInBounds_toArray, List.set_cons_zero, List.set_cons_succ]
              refine Held.wpAnyG_skip (i := 15) rfl (by kernel_rfl) (by kernel_rfl) (by kernel_rfl) (fun _ _ _ h => h) HSS.out (by first | (with_reducible rfl) | (simp [Region.wanted, yielded, Act.put]; done) | rfl) (some 105) rfl #[p3,p3,p3,p3,p3,p3,p3,p3,p3,p3,p3,p3,p3,p3,p3,p3,q3,q3,q3,q3,q3,q3,q3,q3,q3,q3] (by kernel_rfl) ?_
              simp only [Act.put, List.setIfInBounds_toArray, List.set_cons_zero, List.set_cons_succ]
              refine Held.wpAnyG_take (i := 16) (v := (.bool false)) rfl (by kernel_rfl) (by kernel_rfl) (by kernel_rfl) (fun _ _ _ h => h) HSS.out (by first | (with_reducible rfl) | (simp [Region.wanted, yielded, Act.put]; done) | rfl) (fun V hs => by go_simp) (some 106) rfl #[p3,p3,p3,p3,p3,p3,p3,p3,p3,p3,p3,p3,p3,p3,p3,p3,p3,q3,q3,q3,q3,q3,q3,q3,q3,q3] (by kernel_rfl) ?_
              simp only [Act.put, List.setIfInBounds_toArray, List.set_cons_zero, List.set_cons_succ]
              refine Held.wpAnyG_take (i := 17) (v := (.bool false)) rfl (by kernel_rfl) (by kernel_rfl) (by kernel_rfl) (fun _ _ _ h => h) HSS.out (by first | (with_reducible rfl) | (simp [Region.wanted, yielded, Act.put]; done) | rfl) (fun V hs => by go_simp) (some 107) rfl #[p3,p3,p3,p3,p3,p3,p3,p3,p3,p3,p3,p3,p3,p3,p3,p3,p3,p3,q3,q3,q3,q3,q3,q3,q3,q3] (by kernel_rfl) ?_
              simp only [Act.put, List.setIfInBounds_toArray, List.set_cons_zero, List.set_cons_succ]
              refine Held.wpAnyG_take (i := 18) (v := (.slice A9 n9 c9)) rfl (by kernel_rfl) (by kernel_rfl) (by kernel_rfl) (fun _ _ _ h => h) HSS.out (by first | (with_reducible rfl) | (simp [Region.wanted, yielded, Act.put]; done) | rfl) (fun V hs => by go_simp) (some 108) rfl #[p3,p3,p3,p3,p3,p3,p3,p3,p3,p3,p3,p3,p3,p3,p3,p3,p3,p3,p3,q3,q3,q3,q3,q3,q3,q3] (by kernel_rfl) ?_
              simp only [Act.put, List.setIfInBounds_toArray, List.set_cons_zero, List.set_cons_succ]
              refine Held.wpAnyG_take (i := 19) (v := (.slice A16 n16 c16)) rfl (by kernel_rfl) (by kernel_rfl) (by kernel_rfl) (fun _ _ _ h => h) HSS.out (by first | (with_reducible rfl) | (simp [Region.wanted, yielded, Act.put]; done) | rfl) (fun V hs => by go_simp) (some 109) rfl #[p3,p3,p3,p3,p3,p3,p3,p3,p3,p3,p3,p3,p3,p3,p3,p3,p3,p3,p3,p3,q3,q3,q3,q3,q3,q3] (by kernel_rfl) ?_
              simp only [Act.put, List.setIfInBounds_toArray, List.set_cons_zero, List.set_cons_succ]
              refine Held.wpAnyG_take (i := 20) (v := (.pointer (some ⟨gC, 2, none⟩))) rfl (by kernel_rfl) (by kernel_rfl) (by kernel_rfl) (fun _ _ _ h => h) HSS.out (by first | (with_reducible rfl) | (simp [Region.wanted, yielded, Act.put]; done) | rfl) (fun V hs => by go_simp) (some 110) rfl #[p3,p3,p3,p3,p3,p3,p3,p3,p3,p3,p3,p3,p3,p3,p3,p3,p3,p3,p3,p3,p3,q3,q3,q3,q3,q3] (by kernel_rfl) ?_
              simp only [Act.put, List.setIfInBounds_toArray, List.set_cons_zero, List.set_cons_succ]
              refine Held.wpAnyG_take (i := 21) (v := (kv cc.ky)) rfl (by kernel_rfl) (by kernel_rfl) (by kernel_rfl) (fun _ _ _ h => h) HSS.out (by first | (with_reducible rfl) | (simp [Region.wanted, yielded, Act.put]; done) | rfl) (fun V hs => Held.run_load_of 29 (.tmp 110) rfl ⟨gC, 2, none⟩ rfl (cal_key H34.out (blk_below HBX.out hs))) (some 111) rfl #[p3,p3,p3,p3,p3,p3,p3,p3,p3,p3,p3,p3,p3,p3,p3,p3,p3,p3,p3,p3,p3,p3,q3,q3,q3,q3] (by kernel_rfl) ?_
              simp only [Act.put, List.setIfInBounds_toArray, List.set_cons_zero, List.set_cons_succ]
              refine Held.wpAnyG_take (i := 22) (v := (.bool false)) rfl (by kernel_rfl) (by kernel_rfl) (by kernel_rfl) (fun _ _ _ h => h) HSS.out (by first | (with_reducible rfl) | (simp [Region.wanted, yielded, Act.put]; done) | rfl) (fun V hs => by go_simp) (some 112) rfl #[p3,p3,p3,p3,p3,p3,p3,p3,p3,p3,p3,p3,p3,p3,p3,p3,p3,p3,p3,p3,p3,p3,p3,q3,q3,q3] (by kernel_rfl) ?_
              simp only [Act.put, List.setIfInBounds_toArray, List.set_cons_zero, List.set_cons_succ]
              refine Held.wpAnyG_one 23 (by kernel_rfl) rfl #[p3,p3,p3,p3,p3,p3,p3,p3,p3,p3,p3,p3,p3,p3,p3,p3,p3,p3,p3,p3,p3,p3,p3,p3,q3,q3] (by kernel_rfl) (fun K hK => ?_)
              go_wp2_with fail
              (with_reducible refine (follows_calls (R.map Rw.ky) ((R').map Rw.ky) cc.ky false _ _ n9 c9 n16 c16 n16 wd HCB.out.2.2 HCB.out.2.1 HCA.out.2.2 HCA.out.2.1 H34.out HKB.out HKA.out (by have := HBD.out; have := HN9.out; omega) (by have := HBA.out; have := HN16.out; omega) (by rw [if_neg Bool.false_ne_true]) HFS.out (fun h => absurd h (by decide))).mono ?_)
              rintro en wf ⟨rfl, hb⟩
              have n1_ := Aside0.mk hb
              clear HSS hb
              have HSS := n1_
              clear n1_
              go_wp2_with fail
              refine hK _ _ HSS.out ?_
              clear hK K
              refine Held.wpAnyG_take (i := 24) (v := (.bool false)) rfl (by kernel_rfl) (by kernel_rfl) (by kernel_rfl) (fun _ _ _ h => h) HSS.out (by first | (with_reducible rfl) | (simp [Region.wanted, yielded, Act.put]; done) | rfl) (fun V hs => by go_simp) (some 114) rfl #[p3,p3,p3,p3,p3,p3,p3,p3,p3,p3,p3,p3,p3,p3,p3,p3,p3,p3,p3,p3,p3,p3,p3,p3,p3,q3] (by kernel_rfl) ?_
              simp only [Act.put, List.setIfInBounds_toArray, List.set_cons_zero, List.set_cons_succ]
              refine Held.wpAnyG_take (i := 25) (v := (.bool false)) rfl (by kernel_rfl) (by kernel_rfl) (by kernel_rfl) (fun _ _ _ h => h) HSS.out (by first | (with_reducible rfl) | (simp [Region.wanted, yielded, Act.put]; done) | rfl) (fun V hs => by go_simp) (some 115) rfl #[p3,p3,p3,p3,p3,p3,p3,p3,p3,p3,p3,p3,p3,p3,p3,p3,p3,p3,p3,p3,p3,p3,p3,p3,p3,p3] (by kernel_rfl) ?_
              simp only [Act.put, List.setIfInBounds_toArray, List.set_cons_zero, List.set_cons_succ]
              refine Held.wpAnyG_done (by kernel_rfl) ?_ _
              have E15 := Aside0.mk (E14.out.below HSS.out)
              clear E14
              clear HCB HCA HBX
              have HEF := Aside0.mk (E15.out.sub (ts' := [thR (fun k => w41.heap.size ≤ k) (.slice A16 n16 c16) ((R').map Rw.ky), thT Ow41 b m i R']) (List.Sublist.cons_cons _ (List.Sublist.cons _ (List.Sublist.cons _ (List.Sublist.cons_cons _ (List.Sublist.slnil))))))
              go_wp2_with fail
              go_roundw
              case rel => exact ⟨j + 1, by have := HJ.out; omega, by go_num, _, _, n16, c16, _, rfl, by rw [HRS.out, HRN.out]; exact HN16.out, by rw [HRS.out, HRN.out]; exact HEF⟩
              case measure => have := HJ.out; simp [intOf]; omega
          · by_cases hw2 : cc.what = 2
            · rw [hw2] at hc0
              have HRN := Aside0.mk (show (stepS m i R cc).1 = sweepS R i cc.now by unfold stepS; rw [if_neg hw0, if_neg hw1, if_pos hw2])
              have HORD := Aside0.mk (ord_sub cc.ky (sweep_sub R i cc.now))
              clear hw0 hw1 hw2
              go_wp2_with fail
              (with_reducible refine (sweep_tw (E11.out.at 2 rfl) cc.now).mono ?_)
              rintro en w61 ⟨rfl, ho⟩
              obtain ⟨Ow61, hE⟩ := E11.out.out [thB gC (encC cc).toArray 31, thR (fun k => lo ≤ k) (.slice A9 n9 c9) (R.map Rw.ky)] ho
              have E12 := Aside0.mk hE
              clear hE ho E11
              go_wp2_with fail
              have HKA := Aside0.mk (show ∀ x ∈ ((sweepS R i cc.now)).map Rw.ky, x.length = 34 from fun x hx => by obtain ⟨r, hr, rfl⟩ := List.mem_map.1 hx; exact (Tw.keyOk ((E12.out.at 2 rfl) : Tw _ _ b m i (sweepS R i cc.now)) hr).len)
              have HBA := Aside0.mk (Tw.bound ((E12.out.at 2 rfl) : Tw _ _ b m i (sweepS R i cc.now)))
              (with_reducible refine (keys_calls _ (E12.out.at 2 rfl)).mono ?_)
              rintro en w62 ⟨A16, n16, c16, rfl, hn16, hR, hb⟩
              have E13 := Aside0.mk (E12.out.new (thR (fun k => w61.heap.size ≤ k) (.slice A16 n16 c16) (((sweepS R i cc.now)).map Rw.ky)) hR (fun k hk => hk.2) hb)
              clear E12
              have HN16 := Aside0.mk hn16
              clear hR hb hn16
              have HRB := Aside0.mk (R_rd (E13.out.at 2 rfl))
              have HRA := Aside0.mk (R_rd (E13.out.at 0 rfl))
              have HFS := Aside0.mk (show ((((sweepS R i cc.now)).map Rw.ky).take n16).Sublist (R.map Rw.ky) by rw [List.take_of_length_le (by rw [List.length_map, HN16.out]; exact Nat.le_refl _)]; exact HORD.out.no rfl)
              obtain ⟨wd, hwd⟩ : ∃ W, W = w62.drew := ⟨_, rfl⟩
              have hB_ := below_drew (Below.refl w62.heap.size w62)
              rw [← hwd] at hB_
              have E14 := Aside0.mk (E13.out.below hB_)
              clear E13
              clear hB_
              have HSS := Aside0.mk (Below.refl wd.heap.size wd)
              have HBX := Aside0.mk (E14.out.at 1 rfl)
              have HCB := Aside0.mk (R_rd (E14.out.at 2 rfl))
              have HCA := Aside0.mk (R_rd (E14.out.at 0 rfl))
              clear HRB HRA
              go_wp2_with fail
              refine Held.wp_region_G (S := (fun V : World => Below wd.heap.size wd V)) (by kernel_rfl) ?_
              change Held.wpAnyG _ _ _ _ _ 26 _ _ _
              rw [← hwd]
              clear hwd
              refine Held.wpAnyG_take (i := 0) (v := (.bool false)) rfl (by kernel_rfl) (by kernel_rfl) (by kernel_rfl) (fun _ _ _ h => h) HSS.out (by first | (with_reducible rfl) | (simp [Region.wanted, yielded, Act.put]; done) | rfl) (fun V hs => by go_simp) (some 90) rfl #[p3,q3,q3,q3,q3,q3,q3,q3,q3,q3,q3,q3,q3,q3,q3,q3,q3,q3,q3,q3,q3,q3,q3,q3,q3,q3] (by kernel_rfl) ?_
              simp only [Act.put, List.setIfInBounds_toArray, List.set_cons_zero, List.set_cons_succ]
              refine Held.wpAnyG_take (i := 1) (v := (.bool false)) rfl (by kernel_rfl) (by kernel_rfl) (by kernel_rfl) (fun _ _ _ h => h) HSS.out (by first | (with_reducible rfl) | (simp [Region.wanted, yielded, Act.put]; done) | rfl) (fun V hs => by go_simp) (some 91) rfl #[p3,p3,q3,q3,q3,q3,q3,q3,q3,q3,q3,q3,q3,q3,q3,q3,q3,q3,q3,q3,q3,q3,q3,q3,q3,q3] (by kernel_rfl) ?_
              simp only [Act.put, List.setIfInBounds_toArray, List.set_cons_zero, List.set_cons_succ]
              refine Held.wpAnyG_skip (i := 2) rfl (by kernel_rfl) (by kernel_rfl) (by kernel_rfl) (fun _ _ _ h => h) HSS.out (by first | (with_reducible rfl) | (simp [Region.wanted, yielded, Act.put]; done) | rfl) (some 92) rfl #[p3,p3,p3,q3,q3,q3,q3,q3,q3,q3,q3,q3,q3,q3,q3,q3,q3,q3,q3,q3,q3,q3,q3,q3,q3,q3] (by kernel_rfl) ?_
              simp only [Act.put, List.setIfInBounds_toArray, List.set_cons_zero, List.set_cons_succ]
              refine Held.wpAnyG_skip (i := 3) rfl (by kernel_rfl) (by kernel_rfl) (by kernel_rfl) (fun _ _ _ h => h) HSS.out (by first | (with_reducible rfl) | (simp [Region.wanted, yielded, Act.put]; done) | rfl) (some 93) rfl #[p3,p3,p3,p3,q3,q3,q3,q3,q3,q3,q3,q3,q3,q3,q3,q3,q3,q3,q3,q3,q3,q3,q3,q3,q3,q3] (by kernel_rfl) ?_
              simp only [Act.put, List.setIfInBounds_toArray, List.set_cons_zero, List.set_cons_succ]
              refine Held.wpAnyG_skip (i := 4) rfl (by kernel_rfl) (by kernel_rfl) (by kernel_rfl) (fun _ _ _ h => h) HSS.out (by first | (with_reducible rfl) | (simp [Region.wanted, yielded, Act.put]; done) | rfl) (some 94) rfl #[p3,p3,p3,p3,p3,q3,q3,q3,q3,q3,q3,q3,q3,q3,q3,q3,q3,q3,q3,q3,q3,q3,q3,q3,q3,q3] (by kernel_rfl) ?_
              simp only [Act.put, List.setIfInBounds_toArray, List.set_cons_zero, List.set_cons_succ]
              refine Held.wpAnyG_skip (i := 5) rfl (by kernel_rfl) (by kernel_rfl) (by kernel_rfl) (fun _ _ _ h => h) HSS.out (by first | (with_reducible rfl) | (simp [Region.wanted, yielded, Act.put]; done) | rfl) (some 95) rfl #[p3,p3,p3,p3,p3,p3,q3,q3,q3,q3,q3,q3,q3,q3,q3,q3,q3,q3,q3,q3,q3,q3,q3,q3,q3,q3] (by kernel_rfl) ?_
              simp only [Act.put, List.setIfInBounds_toArray, List.set_cons_zero, List.set_cons_succ]
              refine Held.wpAnyG_skip (i := 6) rfl (by kernel_rfl) (by kernel_rfl) (by kernel_rfl) (fun _ _ _ h => h) HSS.out (by first | (with_reducible rfl) | (simp [Region.wanted, yielded, Act.put]; done) | rfl) (some 96) rfl #[p3,p3,p3,p3,p3,p3,p3,q3,q3,q3,q3,q3,q3,q3,q3,q3,q3,q3,q3,q3,q3,q3,q3,q3,q3,q3] (by kernel_rfl) ?_
              simp only [Act.put, List.setIfInBounds_toArray, List.set_cons_zero, List.set_cons_succ]
              refine Held.wpAnyG_skip (i := 7) rfl (by kernel_rfl) (by kernel_rfl) (by kernel_rfl) (fun _ _ _ h => h) HSS.out (by first | (with_reducible rfl) | (simp [Region.wanted, yielded, Act.put]; done) | rfl) (some 97) rfl #[p3,p3,p3,p3,p3,p3,p3,p3,q3,q3,q3,q3,q3,q3,q3,q3,q3,q3,q3,q3,q3,q3,q3,q3,q3,q3] (by kernel_rfl) ?_
              simp only [Act.put, List.setIfInBounds_toArray, List.set_cons_zero, List.set_cons_succ]
              refine Held.wpAnyG_skip (i := 8) rfl (by kernel_rfl) (by kernel_rfl) (by kernel_rfl) (fun _ _ _ h => h) HSS.out (by first | (with_reducible rfl) | (simp [Region.wanted, yielded, Act.put]; done) | rfl) (some 98) rfl #[p3,p3,p3,p3,p3,p3,p3,p3,p3,q3,q3,q3,q3,q3,q3,q3,q3,q3,q3,q3,q3,q3,q3,q3,q3,q3] (by kernel_rfl) ?_
              simp only [Act.put, List.setIfInBounds_toArray, List.set_cons_zero, List.set_cons_succ]
              refine Held.wpAnyG_skip (i := 9) rfl (by kernel_rfl) (by kernel_rfl) (by kernel_rfl) (fun _ _ _ h => h) HSS.out (by first | (with_reducible rfl) | (simp [Region.wanted, yielded, Act.put]; done) | rfl) (some 99) rfl #[p3,p3,p3,p3,p3,p3,p3,p3,p3,p3,q3,q3,q3,q3,q3,q3,q3,q3,q3,q3,q3,q3,q3,q3,q3,q3] (by kernel_rfl) ?_
              simp only [Act.put, List.setIfInBounds_toArray, List.set_cons_zero, List.set_cons_succ]
              refine Held.wpAnyG_skip (i := 10) rfl (by kernel_rfl) (by kernel_rfl) (by kernel_rfl) (fun _ _ _ h => h) HSS.out (by first | (with_reducible rfl) | (simp [Region.wanted, yielded, Act.put]; done) | rfl) (some 100) rfl #[p3,p3,p3,p3,p3,p3,p3,p3,p3,p3,p3,q3,q3,q3,q3,q3,q3,q3,q3,q3,q3,q3,q3,q3,q3,q3] (by kernel_rfl) ?_
              simp only [Act.put, List.setIfInBounds_toArray, List.set_cons_zero, List.set_cons_succ]
              refine Held.wpAnyG_skip (i := 11) rfl (by kernel_rfl) (by kernel_rfl) (by kernel_rfl) (fun _ _ _ h => h) HSS.out (by first | (with_reducible rfl) | (simp [Region.wanted, yielded, Act.put]; done) | rfl) (some 101) rfl #[p3,p3,p3,p3,p3,p3,p3,p3,p3,p3,p3,p3,q3,q3,q3,q3,q3,q3,q3,q3,q3,q3,q3,q3,q3,q3] (by kernel_rfl) ?_
              simp only [Act.put, List.setIfInBounds_toArray, List.set_cons_zero, List.set_cons_succ]
              refine Held.wpAnyG_skip (i := 12) rfl (by kernel_rfl) (by kernel_rfl) (by kernel_rfl) (fun _ _ _ h => h) HSS.out (by first | (with_reducible rfl) | (simp [Region.wanted, yielded, Act.put]; done) | rfl) (some 102) rfl #[p3,p3,p3,p3,p3,p3,p3,p3,p3,p3,p3,p3,p3,q3,q3,q3,q3,q3,q3,q3,q3,q3,q3,q3,q3,q3] (by kernel_rfl) ?_
              simp only [Act.put, List.setIfInBounds_toArray, List.set_cons_zero, List.set_cons_succ]
              refine Held.wpAnyG_skip (i := 13) rfl (by kernel_rfl) (by kernel_rfl) (by kernel_rfl) (fun _ _ _ h => h) HSS.out (by first | (with_reducible rfl) | (simp [Region.wanted, yielded, Act.put]; done) | rfl) (some 103) rfl #[p3,p3,p3,p3,p3,p3,p3,p3,p3,p3,p3,p3,p3,p3,q3,q3,q3,q3,q3,q3,q3,q3,q3,q3,q3,q3] (by kernel_rfl) ?_
              simp only [Act.put, List.setIfInBounds_toArray, List.set_cons_zero, List.set_cons_succ]
              refine Held.wpAnyG_skip (i := 14) rfl (by kernel_rfl) (by kernel_rfl) (by kernel_rfl) (fun _ _ _ h => h) HSS.out (by first | (with_reducible rfl) | (simp [Region.wanted, yielded, Act.put]; done) | rfl) (some 104) rfl #[p3,p3,p3,p3,p3,p3,p3,p3,p3,p3,p3,p3,p3,p3,p3,q3,q3,q3,q3,q3,q3,q3,q3,q3,q3,q3] (by kernel_rfl) ?_
              simp only [Act.put, List.setIfInBounds_toArray, List.set_cons_zero, List.set_cons_succ]
              refine Held.wpAnyG_skip (i := 15) rfl (by kernel_rfl) (by kernel_rfl) (by kernel_rfl) (fun _ _ _ h => h) HSS.out (by first | (with_reducible rfl) | (simp [Region.wanted, yielded, Act.put]; done) | rfl) (some 105) rfl #[p3,p3,p3,p3,p3,p3,p3,p3,p3,p3,p3,p3,p3,p3,p3,p3,q3,q3,q3,q3,q3,q3,q3,q3,q3,q3] (by kernel_rfl) ?_
              simp only [Act.put, List.setIfInBounds_toArray, List.set_cons_zero, List.set_cons_succ]
              refine Held.wpAnyG_take (i := 16) (v := (.bool false)) rfl (by kernel_rfl) (by kernel_rfl) (by kernel_rfl) (fun _ _ _ h => h) HSS.out (by first | (with_reducible rfl) | (simp [Region.wanted, yielded, Act.put]; done) | rfl) (fun V hs => by go_simp) (some 106) rfl #[p3,p3,p3,p3,p3,p3,p3,p3,p3,p3,p3,p3,p3,p3,p3,p3,p3,q3,q3,q3,q3,q3,q3,q3,q3,q3] (by kernel_rfl) ?_
              simp only [Act.put, List.setIfInBounds_toArray, List.set_cons_zero, List.set_cons_succ]
              refine Held.wpAnyG_take (i := 17) (v := (.bool false)) rfl (by kernel_rfl) (by kernel_rfl) (by kernel_rfl) (fun _ _ _ h => h) HSS.out (by first | (with_reducible rfl) | (simp [Region.wanted, yielded, Act.put]; done) | rfl) (fun V hs => by go_simp) (some 107) rfl #[p3,p3,p3,p3,p3,p3,p3,p3,p3,p3,p3,p3,p3,p3,p3,p3,p3,p3,q3,q3,q3,q3,q3,q3,q3,q3] (by kernel_rfl) ?_
              simp only [Act.put, List.setIfInBounds_toArray, List.set_cons_zero, List.set_cons_succ]
              refine Held.wpAnyG_take (i := 18) (v := (.slice A9 n9 c9)) rfl (by kernel_rfl) (by kernel_rfl) (by kernel_rfl) (fun _ _ _ h => h) HSS.out (by first | (with_reducible rfl) | (simp [Region.wanted, yielded, Act.put]; done) | rfl) (fun V hs => by go_simp) (some 108) rfl #[p3,p3,p3,p3,p3,p3,p3,p3,p3,p3,p3,p3,p3,p3,p3,p3,p3,p3,p3,q3,q3,q3,q3,q3,q3,q3] (by kernel_rfl) ?_
              simp only [Act.put, List.setIfInBounds_toArray, List.set_cons_zero, List.set_cons_succ]
              refine Held.wpAnyG_take (i := 19) (v := (.slice A16 n16 c16)) rfl (by kernel_rfl) (by kernel_rfl) (by kernel_rfl) (fun _ _ _ h => h) HSS.out (by first | (with_reducible rfl) | (simp [Region.wanted, yielded, Act.put]; done) | rfl) (fun V hs => by go_simp) (some 109) rfl #[p3,p3,p3,p3,p3,p3,p3,p3,p3,p3,p3,p3,p3,p3,p3,p3,p3,p3,p3,p3,q3,q3,q3,q3,q3,q3] (by kernel_rfl) ?_
              simp only [Act.put, List.setIfInBounds_toArray, List.set_cons_zero, List.set_cons_succ]
              refine Held.wpAnyG_take (i := 20) (v := (.pointer (some ⟨gC, 2, none⟩))) rfl (by kernel_rfl) (by kernel_rfl) (by kernel_rfl) (fun _ _ _ h => h) HSS.out (by first | (with_reducible rfl) | (simp [Region.wanted, yielded, Act.put]; done) | rfl) (fun V hs => by go_simp) (some 110) rfl #[p3,p3,p3,p3,p3,p3,p3,p3,p3,p3,p3,p3,p3,p3,p3,p3,p3,p3,p3,p3,p3,q3,q3,q3,q3,q3] (by kernel_rfl) ?_
              simp only [Act.put, List.setIfInBounds_toArray, List.set_cons_zero, List.set_cons_succ]
              refine Held.wpAnyG_take (i := 21) (v := (kv cc.ky)) rfl (by kernel_rfl) (by kernel_rfl) (by kernel_rfl) (fun _ _ _ h => h) HSS.out (by first | (with_reducible rfl) | (simp [Region.wanted, yielded, Act.put]; done) | rfl) (fun V hs => Held.run_load_of 29 (.tmp 110) rfl ⟨gC, 2, none⟩ rfl (cal_key H34.out (blk_below HBX.out hs))) (some 111) rfl #[p3,p3,p3,p3,p3,p3,p3,p3,p3,p3,p3,p3,p3,p3,p3,p3,p3,p3,p3,p3,p3,p3,q3,q3,q3,q3] (by kernel_rfl) ?_
              simp only [Act.put, List.setIfInBounds_toArray, List.set_cons_zero, List.set_cons_succ]
              refine Held.wpAnyG_take (i := 22) (v := (.bool false)) rfl (by kernel_rfl) (by kernel_rfl) (by kernel_rfl) (fun _ _ _ h => h) HSS.out (by first | (with_reducible rfl) | (simp [Region.wanted, yielded, Act.put]; done) | rfl) (fun V hs => by go_simp) (some 112) rfl #[p3,p3,p3,p3,p3,p3,p3,p3,p3,p3,p3,p3,p3,p3,p3,p3,p3,p3,p3,p3,p3,p3,p3,q3,q3,q3] (by kernel_rfl) ?_
              simp only [Act.put, List.setIfInBounds_toArray, List.set_cons_zero, List.set_cons_succ]
              refine Held.wpAnyG_one 23 (by kernel_rfl) rfl #[p3,p3,p3,p3,p3,p3,p3,p3,p3,p3,p3,p3,p3,p3,p3,p3,p3,p3,p3,p3,p3,p3,p3,p3,q3,q3] (by kernel_rfl) (fun K hK => ?_)
              go_wp2_with fail
              (with_reducible refine (follows_calls (R.map Rw.ky) (((sweepS R i cc.now)).map Rw.ky) cc.ky false _ _ n9 c9 n16 c16 n16 wd HCB.out.2.2 HCB.out.2.1 HCA.out.2.2 HCA.out.2.1 H34.out HKB.out HKA.out (by have := HBD.out; have := HN9.out; omega) (by have := HBA.out; have := HN16.out; omega) (by rw [if_neg Bool.false_ne_true]) HFS.out (fun h => absurd h (by decide))).mono ?_)
              rintro en wf ⟨rfl, hb⟩
              have n1_ := Aside0.mk hb
              clear HSS hb
              have HSS := n1_
              clear n1_
              go_wp2_with fail
              refine hK _ _ HSS.out ?_
              clear hK K
              refine Held.wpAnyG_take (i := 24) (v := (.bool false)) rfl (by kernel_rfl) (by kernel_rfl) (by kernel_rfl) (fun _ _ _ h => h) HSS.out (by first | (with_reducible rfl) | (simp [Region.wanted, yielded, Act.put]; done) | rfl) (fun V hs => by go_simp) (some 114) rfl #[p3,p3,p3,p3,p3,p3,p3,p3,p3,p3,p3,p3,p3,p3,p3,p3,p3,p3,p3,p3,p3,p3,p3,p3,p3,q3] (by kernel_rfl) ?_
              simp only [Act.put, List.setIfInBounds_toArray, List.set_cons_zero, List.set_cons_succ]
              refine Held.wpAnyG_take (i := 25) (v := (.bool false)) rfl (by kernel_rfl) (by kernel_rfl) (by kernel_rfl) (fun _ _ _ h => h) HSS.out (by first | (with_reducible rfl) | (simp [Region.wanted, yielded, Act.put]; done) | rfl) (fun V hs => by go_simp) (some 115) rfl #[p3,p3,p3,p3,p3,p3,p3,p3,p3,p3,p3,p3,p3,p3,p3,p3,p3,p3,p3,p3,p3,p3,p3,p3,p3,p3] (by kernel_rfl) ?_
              simp only [Act.put, List.setIfInBounds_toArray, List.set_cons_zero, List.set_cons_succ]
              refine Held.wpAnyG_done (by kernel_rfl) ?_ _
              have E15 := Aside0.mk (E14.out.below HSS.out)
              clear E14
              clear HCB HCA HBX
              have HEF := Aside0.mk (E15.out.sub (ts' := [thR (fun k => w61.heap.size ≤ k) (.slice A16 n16 c16) (((sweepS R i cc.now)).map Rw.ky), thT Ow61 b m i (sweepS R i cc.now)]) (List.Sublist.cons_cons _ (List.Sublist.cons _ (List.Sublist.cons _ (List.Sublist.cons_cons _ (List.Sublist.slnil))))))
              go_wp2_with fail
              go_roundw
              case rel => exact ⟨j + 1, by have := HJ.out; omega, by go_num, _, _, n16, c16, _, rfl, by rw [HRS.out, HRN.out]; exact HN16.out, by rw [HRS.out, HRN.out]; exact HEF⟩
              case measure => have := HJ.out; simp [intOf]; omega
            · by_cases hw3 : cc.what = 3
              · rw [hw3] at hc0
                have HRN := Aside0.mk (show (stepS m i R cc).1 = forgetS R cc.bk by unfold stepS; rw [if_neg hw0, if_neg hw1, if_neg hw2, if_pos hw3])
                have HORD := Aside0.mk (ord_sub cc.ky (forget_sub R cc.bk))
                clear hw0 hw1 hw2 hw3
                go_wp2_with fail
                (with_reducible refine (forget_tw (E11.out.at 2 rfl) cc.bk).mono ?_)
                rintro en w71 ⟨rfl, ho⟩
                obtain ⟨Ow71, hE⟩ := E11.out.out [thB gC (encC cc).toArray 31, thR (fun k => lo ≤ k) (.slice A9 n9 c9) (R.map Rw.ky)] ho
                have E12 := Aside0.mk hE
                clear hE ho E11
                go_wp2_with fail
                have HKA := Aside0.mk (show ∀ x ∈ ((forgetS R cc.bk)).map Rw.ky, x.length = 34 from fun x hx => by obtain ⟨r, hr, rfl⟩ := List.mem_map.1 hx; exact (Tw.keyOk ((E12.out.at 2 rfl) : Tw _ _ b m i (forgetS R cc.bk)) hr).len)
                have HBA := Aside0.mk (Tw.bound ((E12.out.at 2 rfl) : Tw _ _ b m i (forgetS R cc.bk)))
                (with_reducible refine (keys_calls _ (E12.out.at 2 rfl)).mono ?_)
                rintro en w72 ⟨A16, n16, c16, rfl, hn16, hR, hb⟩
                have E13 := Aside0.mk (E12.out.new (thR (fun k => w71.heap.size ≤ k) (.slice A16 n16 c16) (((forgetS R cc.bk)).map Rw.ky)) hR (fun k hk => hk.2) hb)
                clear E12
                have HN16 := Aside0.mk hn16
                clear hR hb hn16
                have HRB := Aside0.mk (R_rd (E13.out.at 2 rfl))
                have HRA := Aside0.mk (R_rd (E13.out.at 0 rfl))
                have HFS := Aside0.mk (show ((((forgetS R cc.bk)).map Rw.ky).take n16).Sublist (R.map Rw.ky) by rw [List.take_of_length_le (by rw [List.length_map, HN16.out]; exact Nat.le_refl _)]; exact HORD.out.no rfl)
                obtain ⟨wd, hwd⟩ : ∃ W, W = w72.drew := ⟨_, rfl⟩
                have hB_ := below_drew (Below.refl w72.heap.size w72)
                rw [← hwd] at hB_
                have E14 := Aside0.mk (E13.out.below hB_)
                clear E13
                clear hB_
                have HSS := Aside0.mk (Below.refl wd.heap.size wd)
                have HBX := Aside0.mk (E14.out.at 1 rfl)
                have HCB := Aside0.mk (R_rd (E14.out.at 2 rfl))
                have HCA := Aside0.mk (R_rd (E14.out.at 0 rfl))
                clear HRB HRA
                go_wp2_with fail
                refine Held.wp_region_G (S := (fun V : World => Below wd.heap.size wd V)) (by kernel_rfl) ?_
                change Held.wpAnyG _ _ _ _ _ 26 _ _ _
                rw [← hwd]
                clear hwd
                refine Held.wpAnyG_take (i := 0) (v := (.bool false)) rfl (by kernel_rfl) (by kernel_rfl) (by kernel_rfl) (fun _ _ _ h => h) HSS.out (by first | (with_reducible rfl) | (simp [Region.wanted, yielded, Act.put]; done) | rfl) (fun V hs => by go_simp) (some 90) rfl #[p3,q3,q3,q3,q3,q3,q3,q3,q3,q3,q3,q3,q3,q3,q3,q3,q3,q3,q3,q3,q3,q3,q3,q3,q3,q3] (by kernel_rfl) ?_
                simp only [Act.put, List.setIfInBounds_toArray, List.set_cons_zero, List.set_cons_succ]
                refine Held.wpAnyG_take (i := 1) (v := (.bool false)) rfl (by kernel_rfl) (by kernel_rfl) (by kernel_rfl) (fun _ _ _ h => h) HSS.out (by first | (with_reducible rfl) | (simp [Region.wanted, yielded, Act.put]; done) | rfl) (fun V hs => by go_simp) (some 91) rfl #[p3,p3,q3,q3,q3,q3,q3,q3,q3,q3,q3,q3,q3,q3,q3,q3,q3,q3,q3,q3,q3,q3,q3,q3,q3,q3] (by kernel_rfl) ?_
                simp only [Act.put, List.setIfInBounds_toArray, List.set_cons_zero, List.set_cons_succ]
                refine Held.wpAnyG_skip (i := 2) rfl (by kernel_rfl) (by kernel_rfl) (by kernel_rfl) (fun _ _ _ h => h) HSS.out (by first | (with_reducible rfl) | (simp [Region.wanted, yielded, Act.put]; done) | rfl) (some 92) rfl #[p3,p3,p3,q3,q3,q3,q3,q3,q3,q3,q3,q3,q3,q3,q3,q3,q3,q3,q3,q3,q3,q3,q3,q3,q3,q3] (by kernel_rfl) ?_
                simp only [Act.put, List.setIfInBounds_toArray, List.set_cons_zero, List.set_cons_succ]
                refine Held.wpAnyG_skip (i := 3) rfl (by kernel_rfl) (by kernel_rfl) (by kernel_rfl) (fun _ _ _ h => h) HSS.out (by first | (with_reducible rfl) | (simp [Region.wanted, yielded, Act.put]; done) | rfl) (some 93) rfl #[p3,p3,p3,p3,q3,q3,q3,q3,q3,q3,q3,q3,q3,q3,q3,q3,q3,q3,q3,q3,q3,q3,q3,q3,q3,q3] (by kernel_rfl) ?_
                simp only [Act.put, List.setIfInBounds_toArray, List.set_cons_zero, List.set_cons_succ]
                refine Held.wpAnyG_skip (i := 4) rfl (by kernel_rfl) (by kernel_rfl) (by kernel_rfl) (fun _ _ _ h => h) HSS.out (by first | (with_reducible rfl) | (simp [Region.wanted, yielded, Act.put]; done) | rfl) (some 94) rfl #[p3,p3,p3,p3,p3,q3,q3,q3,q3,q3,q3,q3,q3,q3,q3,q3,q3,q3,q3,q3,q3,q3,q3,q3,q3,q3] (by kernel_rfl) ?_
                simp only [Act.put, List.setIfInBounds_toArray, List.set_cons_zero, List.set_cons_succ]
                refine Held.wpAnyG_skip (i := 5) rfl (by kernel_rfl) (by kernel_rfl) (by kernel_rfl) (fun _ _ _ h => h) HSS.out (by first | (with_reducible rfl) | (simp [Region.wanted, yielded, Act.put]; done) | rfl) (some 95) rfl #[p3,p3,p3,p3,p3,p3,q3,q3,q3,q3,q3,q3,q3,q3,q3,q3,q3,q3,q3,q3,q3,q3,q3,q3,q3,q3] (by kernel_rfl) ?_
                simp only [Act.put, List.setIfInBounds_toArray, List.set_cons_zero, List.set_cons_succ]
                refine Held.wpAnyG_skip (i := 6) rfl (by kernel_rfl) (by kernel_rfl) (by kernel_rfl) (fun _ _ _ h => h) HSS.out (by first | (with_reducible rfl) | (simp [Region.wanted, yielded, Act.put]; done) | rfl) (some 96) rfl #[p3,p3,p3,p3,p3,p3,p3,q3,q3,q3,q3,q3,q3,q3,q3,q3,q3,q3,q3,q3,q3,q3,q3,q3,q3,q3] (by kernel_rfl) ?_
                simp only [Act.put, List.setIfInBounds_toArray, List.set_cons_zero, List.set_cons_succ]
                refine Held.wpAnyG_skip (i := 7) rfl (by kernel_rfl) (by kernel_rfl) (by kernel_rfl) (fun _ _ _ h => h) HSS.out (by first | (with_reducible rfl) | (simp [Region.wanted, yielded, Act.put]; done) | rfl) (some 97) rfl #[p3,p3,p3,p3,p3,p3,p3,p3,q3,q3,q3,q3,q3,q3,q3,q3,q3,q3,q3,q3,q3,q3,q3,q3,q3,q3] (by kernel_rfl) ?_
                simp only [Act.put, List.setIfInBounds_toArray, List.set_cons_zero, List.set_cons_succ]
                refine Held.wpAnyG_skip (i := 8) rfl (by kernel_rfl) (by kernel_rfl) (by kernel_rfl) (fun _ _ _ h => h) HSS.out (by first | (with_reducible rfl) | (simp [Region.wanted, yielded, Act.put]; done) | rfl) (some 98) rfl #[p3,p3,p3,p3,p3,p3,p3,p3,p3,q3,q3,q3,q3,q3,q3,q3,q3,q3,q3,q3,q3,q3,q3,q3,q3,q3] (by kernel_rfl) ?_
                simp only [Act.put, List.setIfInBounds_toArray, List.set_cons_zero, List.set_cons_succ]
                refine Held.wpAnyG_skip (i := 9) rfl (by kernel_rfl) (by kernel_rfl) (by kernel_rfl) (fun _ _ _ h => h) HSS.out (by first | (with_reducible rfl) | (simp [Region.wanted, yielded, Act.put]; done) | rfl) (some 99) rfl #[p3,p3,p3,p3,p3,p3,p3,p3,p3,p3,q3,q3,q3,q3,q3,q3,q3,q3,q3,q3,q3,q3,q3,q3,q3,q3] (by kernel_rfl) ?_
                simp only [Act.put, List.setIfInBounds_toArray, List.set_cons_zero, List.set_cons_succ]
                refine Held.wpAnyG_skip (i := 10) rfl (by kernel_rfl) (by kernel_rfl) (by kernel_rfl) (fun _ _ _ h => h) HSS.out (by first | (with_reducible rfl) | (simp [Region.wanted, yielded, Act.put]; done) | rfl) (some 100) rfl #[p3,p3,p3,p3,p3,p3,p3,p3,p3,p3,p3,q3,q3,q3,q3,q3,q3,q3,q3,q3,q3,q3,q3,q3,q3,q3] (by kernel_rfl) ?_
                simp only [Act.put, List.setIfInBounds_toArray, List.set_cons_zero, List.set_cons_succ]
                refine Held.wpAnyG_skip (i := 11) rfl (by kernel_rfl) (by kernel_rfl) (by kernel_rfl) (fun _ _ _ h => h) HSS.out (by first | (with_reducible rfl) | (simp [Region.wanted, yielded, Act.put]; done) | rfl) (some 101) rfl #[p3,p3,p3,p3,p3,p3,p3,p3,p3,p3,p3,p3,q3,q3,q3,q3,q3,q3,q3,q3,q3,q3,q3,q3,q3,q3] (by kernel_rfl) ?_
                simp only [Act.put, List.setIfInBounds_toArray, List.set_cons_zero, List.set_cons_succ]
                refine Held.wpAnyG_skip (i := 12) rfl (by kernel_rfl) (by kernel_rfl) (by kernel_rfl) (fun _ _ _ h => h) HSS.out (by first | (with_reducible rfl) | (simp [Region.wanted, yielded, Act.put]; done) | rfl) (some 102) rfl #[p3,p3,p3,p3,p3,p3,p3,p3,p3,p3,p3,p3,p3,q3,q3,q3,q3,q3,q3,q3,q3,q3,q3,q3,q3,q3] (by kernel_rfl) ?_
                simp only [Act.put, List.setIfInBounds_toArray, List.set_cons_zero, List.set_cons_succ]
                refine Held.wpAnyG_skip (i := 13) rfl (by kernel_rfl) (by kernel_rfl) (by kernel_rfl) (fun _ _ _ h => h) HSS.out (by first | (with_reducible rfl) | (simp [Region.wanted, yielded, Act.put]; done) | rfl) (some 103) rfl #[p3,p3,p3,p3,p3,p3,p3,p3,p3,p3,p3,p3,p3,p3,q3,q3,q3,q3,q3,q3,q3,q3,q3,q3,q3,q3] (by kernel_rfl) ?_
                simp only [Act.put, List.setIfInBounds_toArray, List.set_cons_zero, List.set_cons_succ]
                refine Held.wpAnyG_skip (i := 14) rfl (by kernel_rfl) (by kernel_rfl) (by kernel_rfl) (fun _ _ _ h => h) HSS.out (by first | (with_reducible rfl) | (simp [Region.wanted, yielded, Act.put]; done) | rfl) (some 104) rfl #[p3,p3,p3,p3,p3,p3,p3,p3,p3,p3,p3,p3,p3,p3,p3,q3,q3,q3,q3,q3,q3,q3,q3,q3,q3,q3] (by kernel_rfl) ?_
                simp only [Act.put, List.setIfInBounds_toArray, List.set_cons_zero, List.set_cons_succ]
                refine Held.wpAnyG_skip (i := 15) rfl (by kernel_rfl) (by kernel_rfl) (by kernel_rfl) (fun _ _ _ h => h) HSS.out (by first | (with_reducible rfl) | (simp [Region.wanted, yielded, Act.put]; done) | rfl) (some 105) rfl #[p3,p3,p3,p3,p3,p3,p3,p3,p3,p3,p3,p3,p3,p3,p3,p3,q3,q3,q3,q3,q3,q3,q3,q3,q3,q3] (by kernel_rfl) ?_
                simp only [Act.put, List.setIfInBounds_toArray, List.set_cons_zero, List.set_cons_succ]
                refine Held.wpAnyG_take (i := 16) (v := (.bool false)) rfl (by kernel_rfl) (by kernel_rfl) (by kernel_rfl) (fun _ _ _ h => h) HSS.out (by first | (with_reducible rfl) | (simp [Region.wanted, yielded, Act.put]; done) | rfl) (fun V hs => by go_simp) (some 106) rfl #[p3,p3,p3,p3,p3,p3,p3,p3,p3,p3,p3,p3,p3,p3,p3,p3,p3,q3,q3,q3,q3,q3,q3,q3,q3,q3] (by kernel_rfl) ?_
                simp only [Act.put, List.setIfInBounds_toArray, List.set_cons_zero, List.set_cons_succ]
                refine Held.wpAnyG_take (i := 17) (v := (.bool false)) rfl (by kernel_rfl) (by kernel_rfl) (by kernel_rfl) (fun _ _ _ h => h) HSS.out (by first | (with_reducible rfl) | (simp [Region.wanted, yielded, Act.put]; done) | rfl) (fun V hs => by go_simp) (some 107) rfl #[p3,p3,p3,p3,p3,p3,p3,p3,p3,p3,p3,p3,p3,p3,p3,p3,p3,p3,q3,q3,q3,q3,q3,q3,q3,q3] (by kernel_rfl) ?_
                simp only [Act.put, List.setIfInBounds_toArray, List.set_cons_zero, List.set_cons_succ]
                refine Held.wpAnyG_take (i := 18) (v := (.slice A9 n9 c9)) rfl (by kernel_rfl) (by kernel_rfl) (by kernel_rfl) (fun _ _ _ h => h) HSS.out (by first | (with_reducible rfl) | (simp [Region.wanted, yielded, Act.put]; done) | rfl) (fun V hs => by go_simp) (some 108) rfl #[p3,p3,p3,p3,p3,p3,p3,p3,p3,p3,p3,p3,p3,p3,p3,p3,p3,p3,p3,q3,q3,q3,q3,q3,q3,q3] (by kernel_rfl) ?_
                simp only [Act.put, List.setIfInBounds_toArray, List.set_cons_zero, List.set_cons_succ]
                refine Held.wpAnyG_take (i := 19) (v := (.slice A16 n16 c16)) rfl (by kernel_rfl) (by kernel_rfl) (by kernel_rfl) (fun _ _ _ h => h) HSS.out (by first | (with_reducible rfl) | (simp [Region.wanted, yielded, Act.put]; done) | rfl) (fun V hs => by go_simp) (some 109) rfl #[p3,p3,p3,p3,p3,p3,p3,p3,p3,p3,p3,p3,p3,p3,p3,p3,p3,p3,p3,p3,q3,q3,q3,q3,q3,q3] (by kernel_rfl) ?_
                simp only [Act.put, List.setIfInBounds_toArray, List.set_cons_zero, List.set_cons_succ]
                refine Held.wpAnyG_take (i := 20) (v := (.pointer (some ⟨gC, 2, none⟩))) rfl (by kernel_rfl) (by kernel_rfl) (by kernel_rfl) (fun _ _ _ h => h) HSS.out (by first | (with_reducible rfl) | (simp [Region.wanted, yielded, Act.put]; done) | rfl) (fun V hs => by go_simp) (some 110) rfl #[p3,p3,p3,p3,p3,p3,p3,p3,p3,p3,p3,p3,p3,p3,p3,p3,p3,p3,p3,p3,p3,q3,q3,q3,q3,q3] (by kernel_rfl) ?_
                simp only [Act.put, List.setIfInBounds_toArray, List.set_cons_zero, List.set_cons_succ]
                refine Held.wpAnyG_take (i := 21) (v := (kv cc.ky)) rfl (by kernel_rfl) (by kernel_rfl) (by kernel_rfl) (fun _ _ _ h => h) HSS.out (by first | (with_reducible rfl) | (simp [Region.wanted, yielded, Act.put]; done) | rfl) (fun V hs => Held.run_load_of 29 (.tmp 110) rfl ⟨gC, 2, none⟩ rfl (cal_key H34.out (blk_below HBX.out hs))) (some 111) rfl #[p3,p3,p3,p3,p3,p3,p3,p3,p3,p3,p3,p3,p3,p3,p3,p3,p3,p3,p3,p3,p3,p3,q3,q3,q3,q3] (by kernel_rfl) ?_
                simp only [Act.put, List.setIfInBounds_toArray, List.set_cons_zero, List.set_cons_succ]
                refine Held.wpAnyG_take (i := 22) (v := (.bool false)) rfl (by kernel_rfl) (by kernel_rfl) (by kernel_rfl) (fun _ _ _ h => h) HSS.out (by first | (with_reducible rfl) | (simp [Region.wanted, yielded, Act.put]; done) | rfl) (fun V hs => by go_simp) (some 112) rfl #[p3,p3,p3,p3,p3,p3,p3,p3,p3,p3,p3,p3,p3,p3,p3,p3,p3,p3,p3,p3,p3,p3,p3,q3,q3,q3] (by kernel_rfl) ?_
                simp only [Act.put, List.setIfInBounds_toArray, List.set_cons_zero, List.set_cons_succ]
                refine Held.wpAnyG_one 23 (by kernel_rfl) rfl #[p3,p3,p3,p3,p3,p3,p3,p3,p3,p3,p3,p3,p3,p3,p3,p3,p3,p3,p3,p3,p3,p3,p3,p3,q3,q3] (by kernel_rfl) (fun K hK => ?_)
                go_wp2_with fail
                (with_reducible refine (follows_calls (R.map Rw.ky) (((forgetS R cc.bk)).map Rw.ky) cc.ky false _ _ n9 c9 n16 c16 n16 wd HCB.out.2.2 HCB.out.2.1 HCA.out.2.2 HCA.out.2.1 H34.out HKB.out HKA.out (by have := HBD.out; have := HN9.out; omega) (by have := HBA.out; have := HN16.out; omega) (by rw [if_neg Bool.false_ne_true]) HFS.out (fun h => absurd h (by decide))).mono ?_)
                rintro en wf ⟨rfl, hb⟩
                have n1_ := Aside0.mk hb
                clear HSS hb
                have HSS := n1_
                clear n1_
                go_wp2_with fail
                refine hK _ _ HSS.out ?_
                clear hK K
                refine Held.wpAnyG_take (i := 24) (v := (.bool false)) rfl (by kernel_rfl) (by kernel_rfl) (by kernel_rfl) (fun _ _ _ h => h) HSS.out (by first | (with_reducible rfl) | (simp [Region.wanted, yielded, Act.put]; done) | rfl) (fun V hs => by go_simp) (some 114) rfl #[p3,p3,p3,p3,p3,p3,p3,p3,p3,p3,p3,p3,p3,p3,p3,p3,p3,p3,p3,p3,p3,p3,p3,p3,p3,q3] (by kernel_rfl) ?_
                simp only [Act.put, List.setIfInBounds_toArray, List.set_cons_zero, List.set_cons_succ]
                refine Held.wpAnyG_take (i := 25) (v := (.bool false)) rfl (by kernel_rfl) (by kernel_rfl) (by kernel_rfl) (fun _ _ _ h => h) HSS.out (by first | (with_reducible rfl) | (simp [Region.wanted, yielded, Act.put]; done) | rfl) (fun V hs => by go_simp) (some 115) rfl #[p3,p3,p3,p3,p3,p3,p3,p3,p3,p3,p3,p3,p3,p3,p3,p3,p3,p3,p3,p3,p3,p3,p3,p3,p3,p3] (by kernel_rfl) ?_
                simp only [Act.put, List.setIfInBounds_toArray, List.set_cons_zero, List.set_cons_succ]
                refine Held.wpAnyG_done (by kernel_rfl) ?_ _
                have E15 := Aside0.mk (E14.out.below HSS.out)
                clear E14
                clear HCB HCA HBX
                have HEF := Aside0.mk (E15.out.sub (ts' := [thR (fun k => w71.heap.size ≤ k) (.slice A16 n16 c16) (((forgetS R cc.bk)).map Rw.ky), thT Ow71 b m i (forgetS R cc.bk)]) (List.Sublist.cons_cons _ (List.Sublist.cons _ (List.Sublist.cons _ (List.Sublist.cons_cons _ (List.Sublist.slnil))))))
                go_wp2_with fail
                go_roundw
                case rel => exact ⟨j + 1, by have := HJ.out; omega, by go_num, _, _, n16, c16, _, rfl, by rw [HRS.out, HRN.out]; exact HN16.out, by rw [HRS.out, HRN.out]; exact HEF⟩
                case measure => have := HJ.out; simp [intOf]; omega
              · have HRN := Aside0.mk (show (stepS m i R cc).1 = R by unfold stepS; rw [if_neg hw0, if_neg hw1, if_neg hw2, if_neg hw3])
                have HORD := Aside0.mk (ord_sub cc.ky (List.Sublist.refl R))
                obtain ⟨wq, hwq⟩ : ∃ x, x = cc.what := ⟨_, rfl⟩
                rw [← hwq] at hc0 hw0 hw1 hw2 hw3
                have b0 : (wq = 0) = False := eq_false hw0
                have b1 : (wq = 1) = False := eq_false hw1
                have b2 : (wq = 2) = False := eq_false hw2
                have b3 : (wq = 3) = False := eq_false hw3
                have d0 : (wq == 0) = false := beq_eq_false_iff_ne.2 hw0
                have d1 : (wq == 1) = false := beq_eq_false_iff_ne.2 hw1
                have d2 : (wq == 2) = false := beq_eq_false_iff_ne.2 hw2
                have d3 : (wq == 3) = false := beq_eq_false_iff_ne.2 hw3
                clear hw0 hw1 hw2 hw3 hwq
                go_wp2_with fail
                have HKA := Aside0.mk (show ∀ x ∈ (R).map Rw.ky, x.length = 34 from fun x hx => by obtain ⟨r, hr, rfl⟩ := List.mem_map.1 hx; exact (Tw.keyOk ((E11.out.at 2 rfl) : Tw _ _ b m i R) hr).len)
                have HBA := Aside0.mk (Tw.bound ((E11.out.at 2 rfl) : Tw _ _ b m i R))
                (with_reducible refine (keys_calls _ (E11.out.at 2 rfl)).mono ?_)
                rintro en w81 ⟨A16, n16, c16, rfl, hn16, hR, hb⟩
                have E12 := Aside0.mk (E11.out.new (thR (fun k => wc.heap.size ≤ k) (.slice A16 n16 c16) ((R).map Rw.ky)) hR (fun k hk => hk.2) hb)
                clear E11
                have HN16 := Aside0.mk hn16
                clear hR hb hn16
                have HRB := Aside0.mk (R_rd (E12.out.at 2 rfl))
                have HRA := Aside0.mk (R_rd (E12.out.at 0 rfl))
                have HFS := Aside0.mk (show (((R).map Rw.ky).take n16).Sublist (R.map Rw.ky) by rw [List.take_of_length_le (by rw [List.length_map, HN16.out]; exact Nat.le_refl _)]; exact HORD.out.no rfl)
                obtain ⟨wd, hwd⟩ : ∃ W, W = w81.drew := ⟨_, rfl⟩
                have hB_ := below_drew (Below.refl w81.heap.size w81)
                rw [← hwd] at hB_
                have E13 := Aside0.mk (E12.out.below hB_)
                clear E12
                clear hB_
                have HSS := Aside0.mk (Below.refl wd.heap.size wd)
                have HBX := Aside0.mk (E13.out.at 1 rfl)
                have HCB := Aside0.mk (R_rd (E13.out.at 2 rfl))
                have HCA := Aside0.mk (R_rd (E13.out.at 0 rfl))
                clear HRB HRA
                go_wp2_with fail
                refine Held.wp_region_G (S := (fun V : World => Below wd.heap.size wd V)) (by kernel_rfl) ?_
                change Held.wpAnyG _ _ _ _ _ 26 _ _ _
                rw [← hwd]
                clear hwd
                refine Held.wpAnyG_take (i := 0) (v := (.bool false)) rfl (by kernel_rfl) (by kernel_rfl) (by kernel_rfl) (fun _ _ _ h => h) HSS.out (by first | (with_reducible rfl) | (simp [Region.wanted, yielded, Act.put]; done) | rfl) (fun V hs => by go_simp) (some 90) rfl #[p3,q3,q3,q3,q3,q3,q3,q3,q3,q3,q3,q3,q3,q3,q3,q3,q3,q3,q3,q3,q3,q3,q3,q3,q3,q3] (by kernel_rfl) ?_
                simp only [Act.put, List.setIfInBounds_toArray, List.set_cons_zero, List.set_cons_succ]
                refine Held.wpAnyG_take (i := 1) (v := (.bool false)) rfl (by kernel_rfl) (by kernel_rfl) (by kernel_rfl) (fun _ _ _ h => h) HSS.out (by first | (with_reducible rfl) | (simp [Region.wanted, yielded, Act.put]; done) | rfl) (fun V hs => by go_simp) (some 91) rfl #[p3,p3,q3,q3,q3,q3,q3,q3,q3,q3,q3,q3,q3,q3,q3,q3,q3,q3,q3,q3,q3,q3,q3,q3,q3,q3] (by kernel_rfl) ?_
                simp only [Act.put, List.setIfInBounds_toArray, List.set_cons_zero, List.set_cons_succ]
                refine Held.wpAnyG_skip (i := 2) rfl (by kernel_rfl) (by kernel_rfl) (by kernel_rfl) (fun _ _ _ h => h) HSS.out (by first | (with_reducible rfl) | (simp [Region.wanted, yielded, Act.put]; done) | rfl) (some 92) rfl #[p3,p3,p3,q3,q3,q3,q3,q3,q3,q3,q3,q3,q3,q3,q3,q3,q3,q3,q3,q3,q3,q3,q3,q3,q3,q3] (by kernel_rfl) ?_
                simp only [Act.put, List.setIfInBounds_toArray, List.set_cons_zero, List.set_cons_succ]
                refine Held.wpAnyG_skip (i := 3) rfl (by kernel_rfl) (by kernel_rfl) (by kernel_rfl) (fun _ _ _ h => h) HSS.out (by first | (with_reducible rfl) | (simp [Region.wanted, yielded, Act.put]; done) | rfl) (some 93) rfl #[p3,p3,p3,p3,q3,q3,q3,q3,q3,q3,q3,q3,q3,q3,q3,q3,q3,q3,q3,q3,q3,q3,q3,q3,q3,q3] (by kernel_rfl) ?_
                simp only [Act.put, List.setIfInBounds_toArray, List.set_cons_zero, List.set_cons_succ]
                refine Held.wpAnyG_skip (i := 4) rfl (by kernel_rfl) (by kernel_rfl) (by kernel_rfl) (fun _ _ _ h => h) HSS.out (by first | (with_reducible rfl) | (simp [Region.wanted, yielded, Act.put]; done) | rfl) (some 94) rfl #[p3,p3,p3,p3,p3,q3,q3,q3,q3,q3,q3,q3,q3,q3,q3,q3,q3,q3,q3,q3,q3,q3,q3,q3,q3,q3] (by kernel_rfl) ?_
                simp only [Act.put, List.setIfInBounds_toArray, List.set_cons_zero, List.set_cons_succ]
                refine Held.wpAnyG_skip (i := 5) rfl (by kernel_rfl) (by kernel_rfl) (by kernel_rfl) (fun _ _ _ h => h) HSS.out (by first | (with_reducible rfl) | (simp [Region.wanted, yielded, Act.put]; done) | rfl) (some 95) rfl #[p3,p3,p3,p3,p3,p3,q3,q3,q3,q3,q3,q3,q3,q3,q3,q3,q3,q3,q3,q3,q3,q3,q3,q3,q3,q3] (by kernel_rfl) ?_
                simp only [Act.put, List.setIfInBounds_toArray, List.set_cons_zero, List.set_cons_succ]
                refine Held.wpAnyG_skip (i := 6) rfl (by kernel_rfl) (by kernel_rfl) (by kernel_rfl) (fun _ _ _ h => h) HSS.out (by first | (with_reducible rfl) | (simp [Region.wanted, yielded, Act.put]; done) | rfl) (some 96) rfl #[p3,p3,p3,p3,p3,p3,p3,q3,q3,q3,q3,q3,q3,q3,q3,q3,q3,q3,q3,q3,q3,q3,q3,q3,q3,q3] (by kernel_rfl) ?_
                simp only [Act.put, List.setIfInBounds_toArray, List.set_cons_zero, List.set_cons_succ]
                refine Held.wpAnyG_skip (i := 7) rfl (by kernel_rfl) (by kernel_rfl) (by kernel_rfl) (fun _ _ _ h => h) HSS.out (by first | (with_reducible rfl) | (simp [Region.wanted, yielded, Act.put]; done) | rfl) (some 97) rfl #[p3,p3,p3,p3,p3,p3,p3,p3,q3,q3,q3,q3,q3,q3,q3,q3,q3,q3,q3,q3,q3,q3,q3,q3,q3,q3] (by kernel_rfl) ?_
                simp only [Act.put, List.setIfInBounds_toArray, List.set_cons_zero, List.set_cons_succ]
                refine Held.wpAnyG_skip (i := 8) rfl (by kernel_rfl) (by kernel_rfl) (by kernel_rfl) (fun _ _ _ h => h) HSS.out (by first | (with_reducible rfl) | (simp [Region.wanted, yielded, Act.put]; done) | rfl) (some 98) rfl #[p3,p3,p3,p3,p3,p3,p3,p3,p3,q3,q3,q3,q3,q3,q3,q3,q3,q3,q3,q3,q3,q3,q3,q3,q3,q3] (by kernel_rfl) ?_
                simp only [Act.put, List.setIfInBounds_toArray, List.set_cons_zero, List.set_cons_succ]
                refine Held.wpAnyG_skip (i := 9) rfl (by kernel_rfl) (by kernel_rfl) (by kernel_rfl) (fun _ _ _ h => h) HSS.out (by first | (with_reducible rfl) | (simp [Region.wanted, yielded, Act.put]; done) | rfl) (some 99) rfl #[p3,p3,p3,p3,p3,p3,p3,p3,p3,p3,q3,q3,q3,q3,q3,q3,q3,q3,q3,q3,q3,q3,q3,q3,q3,q3] (by kernel_rfl) ?_
                simp only [Act.put, List.setIfInBounds_toArray, List.set_cons_zero, List.set_cons_succ]
                refine Held.wpAnyG_skip (i := 10) rfl (by kernel_rfl) (by kernel_rfl) (by kernel_rfl) (fun _ _ _ h => h) HSS.out (by first | (with_reducible rfl) | (simp [Region.wanted, yielded, Act.put]; done) | rfl) (some 100) rfl #[p3,p3,p3,p3,p3,p3,p3,p3,p3,p3,p3,q3,q3,q3,q3,q3,q3,q3,q3,q3,q3,q3,q3,q3,q3,q3] (by kernel_rfl) ?_
                simp only [Act.put, List.setIfInBounds_toArray, List.set_cons_zero, List.set_cons_succ]
                refine Held.wpAnyG_skip (i := 11) rfl (by kernel_rfl) (by kernel_rfl) (by kernel_rfl) (fun _ _ _ h => h) HSS.out (by first | (with_reducible rfl) | (simp [Region.wanted, yielded, Act.put]; done) | rfl) (some 101) rfl #[p3,p3,p3,p3,p3,p3,p3,p3,p3,p3,p3,p3,q3,q3,q3,q3,q3,q3,q3,q3,q3,q3,q3,q3,q3,q3] (by kernel_rfl) ?_
                simp only [Act.put, List.setIfInBounds_toArray, List.set_cons_zero, List.set_cons_succ]
                refine Held.wpAnyG_skip (i := 12) rfl (by kernel_rfl) (by kernel_rfl) (by kernel_rfl) (fun _ _ _ h => h) HSS.out (by first | (with_reducible rfl) | (simp [Region.wanted, yielded, Act.put]; done) | rfl) (some 102) rfl #[p3,p3,p3,p3,p3,p3,p3,p3,p3,p3,p3,p3,p3,q3,q3,q3,q3,q3,q3,q3,q3,q3,q3,q3,q3,q3] (by kernel_rfl) ?_
                simp only [Act.put, List.setIfInBounds_toArray, List.set_cons_zero, List.set_cons_succ]
                refine Held.wpAnyG_skip (i := 13) rfl (by kernel_rfl) (by kernel_rfl) (by kernel_rfl) (fun _ _ _ h => h) HSS.out (by first | (with_reducible rfl) | (simp [Region.wanted, yielded, Act.put]; done) | rfl) (some 103) rfl #[p3,p3,p3,p3,p3,p3,p3,p3,p3,p3,p3,p3,p3,p3,q3,q3,q3,q3,q3,q3,q3,q3,q3,q3,q3,q3] (by kernel_rfl) ?_
                simp only [Act.put, List.setIfInBounds_toArray, List.set_cons_zero, List.set_cons_succ]
                refine Held.wpAnyG_skip (i := 14) rfl (by kernel_rfl) (by kernel_rfl) (by kernel_rfl) (fun _ _ _ h => h) HSS.out (by first | (with_reducible rfl) | (simp [Region.wanted, yielded, Act.put]; done) | rfl) (some 104) rfl #[p3,p3,p3,p3,p3,p3,p3,p3,p3,p3,p3,p3,p3,p3,p3,q3,q3,q3,q3,q3,q3,q3,q3,q3,q3,q3] (by kernel_rfl) ?_
                simp only [Act.put, List.setIfInBounds_toArray, List.set_cons_zero, List.set_cons_succ]
                refine Held.wpAnyG_skip (i := 15) rfl (by kernel_rfl) (by kernel_rfl) (by kernel_rfl) (fun _ _ _ h => h) HSS.out (by first | (with_reducible rfl) | (simp [Region.wanted, yielded, Act.put]; done) | rfl) (some 105) rfl #[p3,p3,p3,p3,p3,p3,p3,p3,p3,p3,p3,p3,p3,p3,p3,p3,q3,q3,q3,q3,q3,q3,q3,q3,q3,q3] (by kernel_rfl) ?_
                simp only [Act.put, List.setIfInBounds_toArray, List.set_cons_zero, List.set_cons_succ]
                refine Held.wpAnyG_take (i := 16) (v := (.bool false)) rfl (by kernel_rfl) (by kernel_rfl) (by kernel_rfl) (fun _ _ _ h => h) HSS.out (by first | (with_reducible rfl) | (simp [Region.wanted, yielded, Act.put]; done) | rfl) (fun V hs => by go_simp) (some 106) rfl #[p3,p3,p3,p3,p3,p3,p3,p3,p3,p3,p3,p3,p3,p3,p3,p3,p3,q3,q3,q3,q3,q3,q3,q3,q3,q3] (by kernel_rfl) ?_
                simp only [Act.put, List.setIfInBounds_toArray, List.set_cons_zero, List.set_cons_succ]
                refine Held.wpAnyG_take (i := 17) (v := (.bool false)) rfl (by kernel_rfl) (by kernel_rfl) (by kernel_rfl) (fun _ _ _ h => h) HSS.out (by first | (with_reducible rfl) | (simp [Region.wanted, yielded, Act.put]; done) | rfl) (fun V hs => by go_simp) (some 107) rfl #[p3,p3,p3,p3,p3,p3,p3,p3,p3,p3,p3,p3,p3,p3,p3,p3,p3,p3,q3,q3,q3,q3,q3,q3,q3,q3] (by kernel_rfl) ?_
                simp only [Act.put, List.setIfInBounds_toArray, List.set_cons_zero, List.set_cons_succ]
                refine Held.wpAnyG_take (i := 18) (v := (.slice A9 n9 c9)) rfl (by kernel_rfl) (by kernel_rfl) (by kernel_rfl) (fun _ _ _ h => h) HSS.out (by first | (with_reducible rfl) | (simp [Region.wanted, yielded, Act.put]; done) | rfl) (fun V hs => by go_simp) (some 108) rfl #[p3,p3,p3,p3,p3,p3,p3,p3,p3,p3,p3,p3,p3,p3,p3,p3,p3,p3,p3,q3,q3,q3,q3,q3,q3,q3] (by kernel_rfl) ?_
                simp only [Act.put, List.setIfInBounds_toArray, List.set_cons_zero, List.set_cons_succ]
                refine Held.wpAnyG_take (i := 19) (v := (.slice A16 n16 c16)) rfl (by kernel_rfl) (by kernel_rfl) (by kernel_rfl) (fun _ _ _ h => h) HSS.out (by first | (with_reducible rfl) | (simp [Region.wanted, yielded, Act.put]; done) | rfl) (fun V hs => by go_simp) (some 109) rfl #[p3,p3,p3,p3,p3,p3,p3,p3,p3,p3,p3,p3,p3,p3,p3,p3,p3,p3,p3,p3,q3,q3,q3,q3,q3,q3] (by kernel_rfl) ?_
                simp only [Act.put, List.setIfInBounds_toArray, List.set_cons_zero, List.set_cons_succ]
                refine Held.wpAnyG_take (i := 20) (v := (.pointer (some ⟨gC, 2, none⟩))) rfl (by kernel_rfl) (by kernel_rfl) (by kernel_rfl) (fun _ _ _ h => h) HSS.out (by first | (with_reducible rfl) | (simp [Region.wanted, yielded, Act.put]; done) | rfl) (fun V hs => by go_simp) (some 110) rfl #[p3,p3,p3,p3,p3,p3,p3,p3,p3,p3,p3,p3,p3,p3,p3,p3,p3,p3,p3,p3,p3,q3,q3,q3,q3,q3] (by kernel_rfl) ?_
                simp only [Act.put, List.setIfInBounds_toArray, List.set_cons_zero, List.set_cons_succ]
                refine Held.wpAnyG_take (i := 21) (v := (kv cc.ky)) rfl (by kernel_rfl) (by kernel_rfl) (by kernel_rfl) (fun _ _ _ h => h) HSS.out (by first | (with_reducible rfl) | (simp [Region.wanted, yielded, Act.put]; done) | rfl) (fun V hs => Held.run_load_of 29 (.tmp 110) rfl ⟨gC, 2, none⟩ rfl (cal_key H34.out (blk_below HBX.out hs))) (some 111) rfl #[p3,p3,p3,p3,p3,p3,p3,p3,p3,p3,p3,p3,p3,p3,p3,p3,p3,p3,p3,p3,p3,p3,q3,q3,q3,q3] (by kernel_rfl) ?_
                simp only [Act.put, List.setIfInBounds_toArray, List.set_cons_zero, List.set_cons_succ]
                refine Held.wpAnyG_take (i := 22) (v := (.bool false)) rfl (by kernel_rfl) (by kernel_rfl) (by kernel_rfl) (fun _ _ _ h => h) HSS.out (by first | (with_reducible rfl) | (simp [Region.wanted, yielded, Act.put]; done) | rfl) (fun V hs => by go_simp) (some 112) rfl #[p3,p3,p3,p3,p3,p3,p3,p3,p3,p3,p3,p3,p3,p3,p3,p3,p3,p3,p3,p3,p3,p3,p3,q3,q3,q3] (by kernel_rfl) ?_
                simp only [Act.put, List.setIfInBounds_toArray, List.set_cons_zero, List.set_cons_succ]
                refine Held.wpAnyG_one 23 (by kernel_rfl) rfl #[p3,p3,p3,p3,p3,p3,p3,p3,p3,p3,p3,p3,p3,p3,p3,p3,p3,p3,p3,p3,p3,p3,p3,p3,q3,q3] (by kernel_rfl) (fun K hK => ?_)
                go_wp2_with fail
                (with_reducible refine (follows_calls (R.map Rw.ky) ((R).map Rw.ky) cc.ky false _ _ n9 c9 n16 c16 n16 wd HCB.out.2.2 HCB.out.2.1 HCA.out.2.2 HCA.out.2.1 H34.out HKB.out HKA.out (by have := HBD.out; have := HN9.out; omega) (by have := HBA.out; have := HN16.out; omega) (by rw [if_neg Bool.false_ne_true]) HFS.out (fun h => absurd h (by decide))).mono ?_)
                rintro en wf ⟨rfl, hb⟩
                have n1_ := Aside0.mk hb
                clear HSS hb
                have HSS := n1_
                clear n1_
                go_wp2_with fail
                refine hK _ _ HSS.out ?_
                clear hK K
                refine Held.wpAnyG_take (i := 24) (v := (.bool false)) rfl (by kernel_rfl) (by kernel_rfl) (by kernel_rfl) (fun _ _ _ h => h) HSS.out (by first | (with_reducible rfl) | (simp [Region.wanted, yielded, Act.put]; done) | rfl) (fun V hs => by go_simp) (some 114) rfl #[p3,p3,p3,p3,p3,p3,p3,p3,p3,p3,p3,p3,p3,p3,p3,p3,p3,p3,p3,p3,p3,p3,p3,p3,p3,q3] (by kernel_rfl) ?_
                simp only [Act.put, List.setIfInBounds_toArray, List.set_cons_zero, List.set_cons_succ]
                refine Held.wpAnyG_take (i := 25) (v := (.bool false)) rfl (by kernel_rfl) (by kernel_rfl) (by kernel_rfl) (fun _ _ _ h => h) HSS.out (by first | (with_reducible rfl) | (simp [Region.wanted, yielded, Act.put]; done) | rfl) (fun V hs => by go_simp) (some 115) rfl #[p3,p3,p3,p3,p3,p3,p3,p3,p3,p3,p3,p3,p3,p3,p3,p3,p3,p3,p3,p3,p3,p3,p3,p3,p3,p3] (by kernel_rfl) ?_
                simp only [Act.put, List.setIfInBounds_toArray, List.set_cons_zero, List.set_cons_succ]
                refine Held.wpAnyG_done (by kernel_rfl) ?_ _
                have E14 := Aside0.mk (E13.out.below HSS.out)
                clear E13
                clear HCB HCA HBX
                have HEF := Aside0.mk (E14.out.sub (ts' := [thR (fun k => wc.heap.size ≤ k) (.slice A16 n16 c16) ((R).map Rw.ky), thT O b m i R]) (List.Sublist.cons_cons _ (List.Sublist.cons _ (List.Sublist.cons _ (List.Sublist.cons_cons _ (List.Sublist.slnil))))))
                go_wp2_with fail
                go_roundw
                case rel => exact ⟨j + 1, by have := HJ.out; omega, by go_num, _, _, n16, c16, _, rfl, by rw [HRS.out, HRN.out]; exact HN16.out, by rw [HRS.out, HRN.out]; exact HEF⟩
                case measure => have := HJ.out; simp [intOf]; omega
      · have hjn : j = n := by omega
        subst hjn
        clear hlt hj
        have g1 : ((j : Int) < (j : Int)) = False := eq_false (by omega)
        go_wp2_with fail
        go_ret
        exact ⟨rfl, E10.out.bel⟩
  · have HB2 := Aside0.mk (new_bad m i hok)
    clear hok
    go_enter Try.func6, Try.ntmps6
    go_wp2_with fail
    (with_reducible refine (alive_calls w).mono ?_)
    rintro en w1 ⟨rfl, hb⟩
    have HB := Aside0.mk hb
    clear hb
    go_wp2_with fail
    (with_reducible refine (HB2.out _).mono ?_)
    rintro en w_ ⟨rfl, hw⟩
    have hw2 := hw.symm
    subst hw2
    clear hw
    go_wp2_with fail
    go_ret
    exact ⟨rfl, HB.out⟩
end Go.Proofs.Ytikpgmajiafhgaa.Fl
/- The row of the law FlowOrder: for every input it returns true and its arguments read as they did (what is put or got is the last in the order of use; the others keep theirs). No condition. -/
namespace Go.Proofs.Ytikpgmajiafhgaa.flowOrder
open Go.ChangeShapes Go.WideShapes Go.ChangeAt Go.RowKit
open Go.ChangeMaps (open_string shut_string)
open Go.Proofs.YtikpgmajiafhgaaW.PrintWords Go.Proofs.YtikpgmajiafhgaaW.PrintMore Go.Proofs.Ytikpgmajiafhgaa.X Go.Proofs.Ytikpgmajiafhgaa.M Go.Proofs.Ytikpgmajiafhgaa.Fl
theorem own : ownKnob Try.prog.godebug = none := by kernel_rfl
theorem laidOut : laidOutB Try.prog = true := by kernel_rfl
set_option maxRecDepth 100000 in
theorem lifted (os : Os) (started : os.Started) (H : Type) (enc : TypeId × Value → H) :
    ReturnsInHanded {} Try.checked os 6 .any (Rows.flowOrderSpec.pre6 enc Try.prog Try.f6 Rows.flowOrderRow.domain false) (Rows.flowOrderSpec.post enc Try.prog Try.f6 false true false false) := by
  refine returnsInHanded_of_change_sized (C := Try.checked) own started (by kernel_rfl) Try.func6
    (ChangeSpec.witness6 (enc := enc) (C := Try.checked) false ⟨#[], #[.int .i64 0, .int .u64 0, .slice none 0 0], []⟩ 8 (by kernel_rfl) (by kernel_rfl) (by kernel_rfl) (by kernel_rfl)) ?_
  intro W base args ds gs before hval0 hW hcnd hsz0 _
  have hval : ∀ (j : Nat) t v, Try.f6.params[j]? = some t → args[j]? = some v → Value.okWide Try.prog W .any base t v := hval0
  have hW' := hW
  obtain ⟨p, q, hA0, hV, rfl, hfz, hnd⟩ := hW
  have hA : DataW.TrodAll enc Try.prog W 0 (fun _ => true) true Try.f6.params.toList args.toList ds p := hA0
  rw [Try.params6] at hA hval
  obtain ⟨v0, vs0, d0, ds0, p0, q0, hargs, rfl, rfl, h0, r0⟩ := trodAll_cons hA
  obtain ⟨v1, vs1, d1, ds1, p1, q1, rfl, rfl, rfl, h1, r1⟩ := trodAll_cons r0
  obtain ⟨v2, vs2, d2, ds2, p2, q2, rfl, rfl, rfl, h2, r2⟩ := trodAll_cons r1
  obtain ⟨rfl, rfl, rfl⟩ := trodAll_nil r2
  obtain rfl : args = #[v0, v1, v2] := by cases args; simp_all
  obtain ⟨rfl, rfl⟩ := trodVars_none hV
  obtain ⟨a0, rfl, rfl, rfl, w0⟩ := open_int Try.underlying3 (hval 0 3 v0 rfl rfl) h0
  obtain ⟨a1, rfl, rfl, rfl, w1⟩ := open_int Try.underlying22 (hval 1 22 v1 rfl rfl) h1
  have k2 := h2
  have lt2 : ∀ x ∈ p2, x.block < W.heap.size := by obtain ⟨m, hm⟩ := k2; exact DataW.trod_lt m _ _ _ hm
  obtain ⟨a2, len2, cap2, rfl⟩ := okWide_slice Try.underlying23 (hval 2 23 v2 rfl rfl)
  obtain ⟨l2, ⟨b2, c2, e2, hc2, hr2⟩, hm2, hw2⟩ : ∃ v, (Kd.slice 31 kC).K W v [.slice a2 len2 cap2] ∧ (v.length ≤ maxLen ∧ ∀ xv ∈ v, CalOk xv) := by
    obtain ⟨fuel, hf⟩ := h2
    exact (opens_slice Try.underlying23 (by kernel_rfl) open_cal) H enc W fuel _ _ (by simpa [Value.cells] using hf)
  simp only [List.cons.injEq, Value.slice.injEq, and_true] at e2
  obtain ⟨rfl, rfl, rfl⟩ := e2
  clear hA0 hval0 hsz0
  refine (order_calls a0 a1 l2 _ rfl _ _ W hr2 hc2 hw2).mono fun e W' ⟨he, bel0⟩ => ?_
  have bel : Below W.heap.size W W' := bel0
  subst he
  exact ⟨_, rfl, _, _, _, [], _, [], hW', trodAll_mk1 (shut_bool Try.underlying4 _), (trodAll_cons_mk (shut_int Try.underlying3 w0) (trodAll_cons_mk (shut_int Try.underlying22 w1) (trodAll_cons_mk (Below.trod laidOut (by kernel_rfl) (of_decide_eq_true (by kernel_rfl)) k2 bel lt2) trodAll_mk0))), rfl, bel.frame _, fun h => by cases h⟩
theorem over : Rows.flowOrderRow.holds Try.pinned (OpenSpec.ofChange Rows.flowOrderSpec) :=
  OpenClaim.holds_of_wide 6 Try.f6 rfl rfl rfl rfl rfl rfl rfl ⟨rfl, rfl, rfl, rfl, rfl⟩ rfl rfl rfl rfl rfl (by kernel_rfl) Try.func6 (by kernel_rfl)
    (of_decide_eq_true (by kernel_rfl)) (by unfold Func.isWrapper; first | (rw [if_pos (by decide +kernel)]; kernel_rfl) | (rw [if_neg (by decide +kernel)]; exact ⟨rfl, rfl⟩))
    (fun os started H enc _ => lifted os started H enc)
theorem proved : Rows.FlowOrderSaid := over
end Go.Proofs.Ytikpgmajiafhgaa.flowOrder
namespace Go.Proofs.Ytikpgmajiafhgaa
/-- The row, under a short name, for the claim. -/
theorem flowOrder_holds : Rows.FlowOrderSaid := flowOrder.proved
#print axioms flowOrder_holds
end Go.Proofs.Ytikpgmajiafhgaa
