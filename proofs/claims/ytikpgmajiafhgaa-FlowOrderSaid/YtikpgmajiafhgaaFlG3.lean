/- flow: what All tells; things in memory; what comes in -/
-- MERGED by wip/tools/merge.py
import Derived.Test.YtikpgmajiafhgaaHeld
import Derived.OrdersIn
import Derived.OwnWalkIn
import Derived.Test.YtikpgmajiafhgaaFlG2
import Derived.RangeFuncNested
import Derived.RangeFuncBound
import Derived.RangeFuncCalls
import Derived.RangeFuncLeaves
import Derived.Shelf.Abstract
import Derived.Shelf.RegionOpen
import Derived.TacticsInMore
import Derived.LoopNIn
import Derived.LoopIn
import Derived.OpenShut
/- XHeld inside a fence (a round of a range over a function, too): a region that draws its order; a load may be taken first if every operation but one that waits for all others keeps what it reads. -/
namespace Go.Proofs.Ytikpgmajiafhgaa.HeldIn
open Go Go.Proofs.Ytikpgmajiafhgaa.Held
section
variable {F : Fence} {n : Nat} {P : Program} {ops : Array Oper} {Q : Exit → Act → World → Prop} {md : Region.Mode} {S : World → Prop} {L : List Nat}
def noDefer (ops : Array Oper) : Bool := ops.all fun o => match o.op with | .defer _ => false | _ => true
theorem noDefer_spec (h : noDefer ops = true) {j : Nat} {o : Oper} (ho : ops[j]? = some o) : ∀ c, o.op ≠ .defer c := by
  intro c heq
  have := Array.all_eq_true_iff_forall_mem.1 h o (Array.mem_of_getElem? ho)
  simp [heq] at this
/-- What is listed waits for nothing that isn't. -/
def closedB (md : Region.Mode) (ops : Array Oper) (listed : Array Bool) : Bool :=
  (List.range ops.size).all fun k => !(listed.getD k true) || (match ops[k]? with | some o => o.after.all fun e => !(Region.binds md e) || listed.getD e.on true | none => true)
def Closed (md : Region.Mode) (ops : Array Oper) (listed : Array Bool) : Prop := ∀ k o, ops[k]? = some o → listed.getD k true = true → ∀ e ∈ o.after, Region.binds md e = true → listed.getD e.on true = true
theorem closedB_spec {listed : Array Bool} (h : closedB md ops listed = true) : Closed md ops listed := by
  intro k o hk hl e he hb
  have h1 := List.all_eq_true.1 h k (List.mem_range.2 (Array.getElem?_eq_some_iff.1 hk).1)
  rw [hk, hl] at h1
  simp only [Bool.not_true, Bool.false_or, Array.all_eq_true_iff_forall_mem] at h1
  have h2 := h1 e he
  rw [hb] at h2
  simpa using h2
/-- M tells for each operation some that must come ahead of it. -/
def certB (md : Region.Mode) (ops : Array Oper) (M : List (List Nat)) : Bool :=
  (List.range ops.size).all fun j => (M.getD j []).all fun i => match ops[j]? with | some o => o.after.any (fun e => Region.binds md e && decide (e.on < j) && (e.on == i || (M.getD e.on []).contains i)) | none => false
def midB (ops : Array Oper) (M : List (List Nat)) (j : Nat) : Bool := (List.range ops.size).all fun i => i == j || (M.getD j []).contains i || (M.getD i []).contains j
def exemptB (md : Region.Mode) (ops : Array Oper) (M : List (List Nat)) (L : List Nat) : Bool := certB md ops M && L.all fun j => decide (j < ops.size) && midB ops M j
theorem cert_listed {M : List (List Nat)} (hc : certB md ops M = true) {listed : Array Bool} (hcl : Closed md ops listed) : ∀ (b j : Nat), j < b → ∀ (o : Oper) (i : Nat), ops[j]? = some o → (∀ e ∈ o.after, Region.binds md e = true → listed.getD e.on true = true) → i ∈ M.getD j [] → listed.getD i true = true
  | 0, _, h, _, _, _, _, _ => absurd h (Nat.not_lt_zero _)
  | b + 1, j, hb, o, i, ho, hall, hi => by
    have h1 := List.all_eq_true.1 hc j (List.mem_range.2 (Array.getElem?_eq_some_iff.1 ho).1)
    have h2 := List.all_eq_true.1 h1 i hi
    rw [ho] at h2
    simp only [Array.any_eq_true] at h2
    obtain ⟨x, hx, h3⟩ := h2
    simp only [Bool.and_eq_true, decide_eq_true_eq, Bool.or_eq_true, beq_iff_eq] at h3
    obtain ⟨⟨h4, h5⟩, h6⟩ := h3
    have h7 := hall o.after[x] (Array.getElem_mem hx) h4
    rcases h6 with h6 | h6
    · rw [← h6]; exact h7
    · have h8 : o.after[x].on < ops.size := by have := (Array.getElem?_eq_some_iff.1 ho).1; omega
      exact cert_listed hc hcl b o.after[x].on (by omega) ops[o.after[x].on] i (Array.getElem?_eq_getElem h8) (hcl _ _ (Array.getElem?_eq_getElem h8) h7) (by simpa using h6)
theorem exempt_false {M : List (List Nat)} {L : List Nat} (h : exemptB md ops M L = true) {listed : Array Bool} (hcl : Closed md ops listed) {i j : Nat} (hj : j ∈ L) (hrj : j ∈ Region.ready md ops listed) (hri : i ∈ Region.ready md ops listed) (hne : j ≠ i) : False := by
  simp only [exemptB, Bool.and_eq_true, List.all_eq_true, decide_eq_true_eq] at h
  obtain ⟨hc, hL⟩ := h
  obtain ⟨hjs, hm⟩ := hL j hj
  obtain ⟨hiun, oi, hoi, hiall⟩ := mem_ready.1 hri
  obtain ⟨hjun, oj, hoj, hjall⟩ := mem_ready.1 hrj
  have hil : i < ops.size := (Array.getElem?_eq_some_iff.1 hoi).1
  have h4 := List.all_eq_true.1 hm i (List.mem_range.2 hil)
  simp only [Bool.or_eq_true, beq_iff_eq, List.contains_iff_mem] at h4
  have hgi : ∀ {k : Nat}, listed.getD k false = true → listed.getD k true = true := fun {k} hk => by
    unfold Array.getD at hk ⊢
    split at hk
    · rename_i hlt; rw [dif_pos hlt]; exact hk
    · cases hk
  rcases h4 with (h4 | h4) | h4
  · exact hne h4.symm
  · have h5 := cert_listed hc hcl (j + 1) j (by omega) oj i hoj (fun e he hb => hgi (hjall e he hb)) h4
    rw [hiun] at h5; cases h5
  · have h5 := cert_listed hc hcl (i + 1) i (by omega) oi j hoi (fun e he hb => hgi (hiall e he hb)) h4
    rw [hjun] at h5; cases h5
theorem Closed.ready {listed : Array Bool} (hcl : Closed md ops listed) {j : Nat} (hj : j ∈ Region.ready md ops listed) : Closed md ops (listed.setIfInBounds j true) := by
  obtain ⟨hjun, oj, hoj, hjall⟩ := mem_ready.1 hj
  have hmono : ∀ k, listed.getD k true = true → (listed.setIfInBounds j true).getD k true = true := fun k hk => by
    by_cases hkj : j = k
    · subst hkj
      unfold Array.getD
      split
      · simp
      · rfl
    · rw [getD_set_ne true hkj]; exact hk
  have hgi : ∀ {k : Nat}, listed.getD k false = true → listed.getD k true = true := fun {k} hk => by
    unfold Array.getD at hk ⊢
    split at hk
    · rename_i hlt; rw [dif_pos hlt]; exact hk
    · cases hk
  intro k o hk hl e he hb
  by_cases hkj : j = k
  · subst hkj
    obtain rfl : o = oj := Option.some.inj (hk.symm.trans hoj)
    exact hmono _ (hgi (hjall e he hb))
  · rw [getD_set_ne true hkj] at hl
    exact hmono _ (hcl k o hk hl e he hb)
/-- Whatever order is picked from here on; 'S' holds behind every operation but those of L. -/
def wpAnyG (F : Fence) (n : Nat) (P : Program) (md : Region.Mode) (ops : Array Oper) (Q : Exit → Act → World → Prop) (S : World → Prop) (L : List Nat) : Nat → Array Bool → Act → World → Prop
  | 0, listed, a, w => Region.ready md ops listed = [] ∧ Q .normal a w
  | fuel + 1, listed, a, w =>
    (Region.ready md ops listed = [] → Q .normal a w) ∧
    ∀ i ∈ Region.ready md ops listed, wpOpIn F n P ops Q i (fun a' w' => (i ∉ L → S w') ∧ wpAnyG F n P md ops Q S L fuel (listed.setIfInBounds i true) a' w') a w
theorem wpAny_of_G : ∀ (fuel : Nat) (listed : Array Bool) (a : Act) (w : World), wpAnyG F n P md ops Q S L fuel listed a w → wpAnyIn F n P md ops Q fuel listed a w
  | 0, _, _, _, h => h
  | fuel + 1, _, _, _, h => ⟨h.1, fun i hi => wpOpIn_mono (fun a' w' h' => wpAny_of_G fuel _ a' w' h'.2) (h.2 i hi)⟩
theorem wpAnyG_to {S S' : World → Prop} (hs : ∀ w, S' w → S w) : ∀ (fuel : Nat) (listed : Array Bool) (a : Act) (w : World), wpAnyG F n P md ops Q S' L fuel listed a w → wpAnyG F n P md ops Q S L fuel listed a w
  | 0, _, _, _, h => h
  | fuel + 1, _, _, _, h => ⟨h.1, fun i hi => wpOpIn_mono (fun a' w' h' => ⟨fun hb => hs _ (h'.1 hb), wpAnyG_to hs fuel _ a' w' h'.2⟩) (h.2 i hi)⟩
theorem yields_wpOpIn (hF : ∀ f, F.fn f) {i : Nat} {o : Oper} {v : Value} {a : Act} (hp : ∀ c, o.op ≠ .defer c) (hi : ops[i]? = some o) (hy : YieldsIf P ops S o v a)
    {K : Act → World → Prop} {w : World} (hS : S w) (h : K (a.put o.dst v) w) : wpOpIn F n P ops Q i K a w := by
  unfold Go.wpOpIn
  simp only [hi]
  rcases hy with ⟨hw, hv⟩ | ⟨hw, rfl⟩
  · simp only [hw, if_true, Oper.wpIn, Oper.semAt_plain F _ _ hp, hv w hS, Oper.uponIn]; exact ⟨fun f _ => hF f, h⟩
  · simp only [hw, Bool.false_eq_true, if_false]; exact ⟨fun f _ => hF f, h⟩
theorem wpOpIn_putIf (hF : ∀ f, F.fn f) {j : Nat} {oi oj : Oper} {v : Value} (hpj : ∀ c, oj.op ≠ .defer c) (hj : ops[j]? = some oj) (hap : oi.apart ops oj = true)
    (hsi : ∀ cs b, oi.op ≠ .select cs b) (hsj : ∀ cs b, oj.op ≠ .select cs b)
    (hQ : ∀ c a w, Q (.panic c) (a.put oi.dst v) w → Q (.panic c) a w) {K : Act → World → Prop} {a : Act} {w : World}
    (hy : YieldsIf P ops S oi v a) (h : wpOpIn F n P ops Q j K (a.put oi.dst v) w) :
    wpOpIn F n P ops Q j (fun a' w' => YieldsIf P ops S oi v a' ∧ K (a'.put oi.dst v) w') a w := by
  obtain ⟨h1, h2, h3⟩ := Oper.apart_spec hap
  have keep : ∀ (a : Act), YieldsIf P ops S oi v a → ∀ u, YieldsIf P ops S oi v (a.put oj.dst u) := fun a hy u =>
    hy.of_same (execOp_put oi hsi a oj.dst u h3) (wanted_put oi a oj.dst u h3)
  have keepD : ∀ d, YieldsIf P ops S oi v { a with defers := d :: a.defers } := fun d => hy.of_same rfl rfl
  unfold wpOpIn at *
  simp only [hj] at *
  rw [wanted_put oj a oi.dst v h1] at h
  split
  · rename_i hw
    simp only [hw, if_true] at h
    unfold Oper.wpIn at *
    refine ⟨fun f _ => hF f, ?_⟩
    have h := h.2
    rw [Oper.semAt_plain F _ _ hpj, execOp_put oj hsj a oi.dst v h1] at h
    rw [Oper.semAt_plain F _ _ hpj]
    generalize (execOp a.eval oj).run P w = r at *
    cases r with
    | ok x w' =>
      cases x <;> simp only [Oper.uponIn] at h ⊢
      case value u => exact ⟨keep a hy u, by rw [← Act.put_comm a v u h2]; exact h⟩
      case skip => exact ⟨keep a hy _, by rw [← Act.put_comm a v undef h2]; exact h⟩
      case defer d =>
        refine ⟨keep _ (keepD d) _, ?_⟩
        rw [← Act.put_comm _ v undef h2, ← Act.put_defers]
        exact h
      case enter f args =>
        refine ⟨h.1, CallsIn.mono h.2 fun e w'' he => ?_⟩
        cases e with
        | returned u => exact ⟨keep a hy u, by rw [← Act.put_comm a v u h2]; exact he⟩
        | panicked c => exact hQ _ _ _ he
        | outgrown => exact he
      case row row args => exact ⟨h.1, RowsIn.mono h.2 fun u w'' he => ⟨keep a hy u, by rw [← Act.put_comm a v u h2]; exact he⟩⟩
      case round l f tmps assign body =>
        refine ⟨h.1, RoundIn.mono h.2 fun e w'' he => ?_⟩
        cases e with
        | returned u => exact ⟨keep a hy u, by rw [← Act.put_comm a v u h2]; exact he⟩
        | panicked c => exact hQ _ _ _ he
        | outgrown => exact he
    | halt x w' =>
      cases x <;> simp only [Oper.uponIn] at h ⊢
      case panic u => exact hQ _ _ _ h
  · rename_i hw
    simp only [hw] at h
    exact ⟨fun f _ => hF f, keep a hy _, by rw [← Act.put_comm a v undef h2]; exact h.2⟩
theorem wpAnyG_first (hF : ∀ f, F.fn f) (hnd : noDefer ops = true) (M : List (List Nat)) (hex : exemptB md ops M L = true) {i : Nat} {oi : Oper} {v : Value} (hi : ops[i]? = some oi) (hsel : ∀ (j : Nat) (o : Oper) cs b, ops[j]? = some o → o.op ≠ .select cs b)
    (hQ : ∀ c a w, Q (.panic c) (a.put oi.dst v) w → Q (.panic c) a w) :
    ∀ (fuel : Nat) (listed : Array Bool) (a : Act) (w : World), Closed md ops listed →
      (∀ j oj, ops[j]? = some oj → j ≠ i → listed.getD j true = false → (∀ e ∈ oj.after, Region.binds md e = true → e.on ≠ i) → oi.apart ops oj = true) →
      i ∈ Region.ready md ops listed → YieldsIf P ops S oi v a → S w →
      wpAnyG F n P md ops Q S L fuel (listed.setIfInBounds i true) (a.put oi.dst v) w → wpAnyG F n P md ops Q S L (fuel + 1) listed a w := by
  intro fuel
  induction fuel with
  | zero =>
    intro listed a w _ _ hr hy hS H
    refine ⟨fun h => (by rw [h] at hr; cases hr), fun j hj => ?_⟩
    by_cases hji : j = i
    · subst hji; exact yields_wpOpIn hF (noDefer_spec hnd hi) hi hy hS ⟨fun _ => hS, H⟩
    · have := ready_mono hj hji
      rw [H.1] at this
      cases this
  | succ fuel ih =>
    intro listed a w hcl hfree hr hy hS H
    refine ⟨fun h => (by rw [h] at hr; cases hr), fun j hj => ?_⟩
    by_cases hji : j = i
    · subst hji; exact yields_wpOpIn hF (noDefer_spec hnd hi) hi hy hS ⟨fun _ => hS, H⟩
    · have h1 := H.2 j (ready_mono hj hji)
      obtain ⟨hjun, oj, hoj, hall⟩ := mem_ready.1 hj
      have hnot : ∀ e ∈ oj.after, Region.binds md e = true → e.on ≠ i := fun e he hb heq => by
        have h1 := hall e he hb
        have h0 := (mem_ready.1 hr).1
        rw [heq] at h1
        rcases Nat.lt_or_ge i listed.size with h' | h'
        · simp [h'] at h0 h1; rw [h0] at h1; cases h1
        · simp [Array.getElem?_eq_none h'] at h1
      have hrj : i ∈ Region.ready md ops (listed.setIfInBounds j true) := ready_mono hr (Ne.symm hji)
      have h2 := wpOpIn_putIf hF (noDefer_spec hnd hoj) hoj (hfree j oj hoj hji hjun hnot) (fun cs b => hsel i oi cs b hi) (fun cs b => hsel j oj cs b hoj) hQ hy h1
      have hfree' : ∀ k ok, ops[k]? = some ok → k ≠ i → (listed.setIfInBounds j true).getD k true = false →
          (∀ e ∈ ok.after, Region.binds md e = true → e.on ≠ i) → oi.apart ops ok = true := fun k ok hk hki hun hno => by
        refine hfree k ok hk hki ?_ hno
        by_cases hjk : j = k
        · subst hjk; exact hjun
        · rw [getD_set_ne true hjk] at hun; exact hun
      have hlast : j ∉ L := fun hjL => exempt_false hex hcl hjL hj hr hji
      refine wpOpIn_mono (fun a' w' h3 => ⟨fun _ => h3.2.1 hlast, ih (listed.setIfInBounds j true) a' w' (hcl.ready hj) hfree' hrj h3.1 (h3.2.1 hlast) ?_⟩) h2
      rw [Array.setIfInBounds_comm _ _ hji]
      exact h3.2.2
/-- Number i is taken first: it may come up, yields v in every world that meets S, and nobody who could come before it touches its temporaries. -/
theorem wpAnyG_take (hF : ∀ f, F.fn f) (hnd : noDefer ops = true) (M : List (List Nat)) (hex : exemptB md ops M L = true) {i : Nat} {oi : Oper} {v : Value} {fuel : Nat} {listed : Array Bool} {a : Act} {w : World} (hi : ops[i]? = some oi)
    (hs : Region.noSelect ops = true) (hf : Region.free md ops listed i = true) (hr : (Region.ready md ops listed).contains i = true) (hcb : closedB md ops listed = true)
    (hQ : ∀ c a w, Q (.panic c) (a.put oi.dst v) w → Q (.panic c) a w) (hS : S w) (hw : Region.wanted oi (yielded ops a.tmps) = true) (hy : ∀ w, S w → (execOp a.eval oi).run P w = .ok (.value v) w) (d : Option Tmp) (hd : oi.dst = d)
    (listed' : Array Bool) (hl : listed.setIfInBounds i true = listed')
    (h : wpAnyG F n P md ops Q S L fuel listed' (a.put d v) w) : wpAnyG F n P md ops Q S L (fuel + 1) listed a w := by
  subst hl
  subst hd
  exact wpAnyG_first hF hnd M hex hi (Region.noSelect_spec hs) hQ fuel listed a w (closedB_spec hcb) (Region.free_spec hi hf) (by simpa using hr) (.inl ⟨hw, hy⟩) hS h
/-- An operation whose guard is not met is passed over. -/
theorem wpAnyG_skip (hF : ∀ f, F.fn f) (hnd : noDefer ops = true) (M : List (List Nat)) (hex : exemptB md ops M L = true) {i : Nat} {oi : Oper} {fuel : Nat} {listed : Array Bool} {a : Act} {w : World} (hi : ops[i]? = some oi)
    (hs : Region.noSelect ops = true) (hf : Region.free md ops listed i = true) (hr : (Region.ready md ops listed).contains i = true) (hcb : closedB md ops listed = true)
    (hQ : ∀ c a w, Q (.panic c) (a.put oi.dst undef) w → Q (.panic c) a w) (hS : S w) (hw : Region.wanted oi (yielded ops a.tmps) = false) (d : Option Tmp) (hd : oi.dst = d)
    (listed' : Array Bool) (hl : listed.setIfInBounds i true = listed')
    (h : wpAnyG F n P md ops Q S L fuel listed' (a.put d undef) w) : wpAnyG F n P md ops Q S L (fuel + 1) listed a w := by
  subst hl
  subst hd
  exact wpAnyG_first hF hnd M hex hi (Region.noSelect_spec hs) hQ fuel listed a w (closedB_spec hcb) (Region.free_spec hi hf) (by simpa using hr) (.inr ⟨hw, rfl⟩) hS h
theorem upon_nrm {o : Oper} {a : Act} {K next : Act → World → Prop} {r : Result Next} (h : o.uponIn F n P a next (Nrm K Q) r) : o.uponIn F n P a next Q r := by
  cases r with
  | ok x w' =>
    cases x <;> simp only [Oper.uponIn] at h ⊢ <;>
      first
        | exact h
        | exact ⟨h.1, CallsIn.mono h.2 (fun e w'' he => by cases e <;> exact he)⟩
        | exact ⟨h.1, RoundIn.mono h.2 (fun e w'' he => by cases e <;> exact he)⟩
  | halt x w' => cases x <;> simp only [Oper.uponIn] at h ⊢ <;> exact h
/-- One alone may come up: it is walked as a list of one. -/
theorem wpAnyG_one (k : Nat) {o : Oper} {fuel : Nat} {listed : Array Bool} {a : Act} {w : World} (hr : Region.ready md ops listed = [k]) (ho : ops[k]? = some o)
    (listed' : Array Bool) (hl : listed.setIfInBounds k true = listed')
    (h : ∀ K : Act → World → Prop, (∀ a' w', (L.contains k = false → S w') → wpAnyG F n P md ops Q S L fuel listed' a' w' → K a' w') → wpListIn F n P ops (Nrm K Q) [o] a w) : wpAnyG F n P md ops Q S L (fuel + 1) listed a w := by
  subst hl
  have h := h (fun a' w' => (k ∉ L → S w') ∧ wpAnyG F n P md ops Q S L fuel (listed.setIfInBounds k true) a' w') (fun a' w' h1 h2 => ⟨fun h3 => h1 (by simpa using h3), h2⟩)
  refine ⟨fun h0 => (by rw [h0] at hr; cases hr), fun i hi => ?_⟩
  rw [hr] at hi
  obtain rfl : i = k := by simpa using hi
  unfold wpOpIn
  simp only [ho]
  unfold wpListIn at h
  split
  · rename_i hw
    rw [if_pos hw] at h
    unfold Oper.wpIn at h ⊢
    exact ⟨h.1, upon_nrm h.2⟩
  · rename_i hw
    rw [if_neg hw] at h
    exact h
/-- The last one, that waits for all others. -/
theorem wpAnyG_last (k : Nat) {o : Oper} {fuel : Nat} {listed : Array Bool} {a : Act} {w : World} (hr : Region.ready md ops listed = [k]) (ho : ops[k]? = some o) (hb : L.contains k = true)
    (hd : Region.ready md ops (listed.setIfInBounds k true) = []) (h : wpListIn F n P ops Q [o] a w) : wpAnyG F n P md ops Q S L (fuel + 1) listed a w := by
  refine ⟨fun h0 => (by rw [h0] at hr; cases hr), fun i hi => ?_⟩
  rw [hr] at hi
  obtain rfl : i = k := by simpa using hi
  have he : ∀ a' w', Q .normal a' w' → (i ∉ L → S w') ∧ wpAnyG F n P md ops Q S L fuel (listed.setIfInBounds i true) a' w' := fun a' w' hq => by
    refine ⟨fun h0 => absurd (by simpa using hb) h0, ?_⟩
    cases fuel with
    | zero => exact ⟨hd, hq⟩
    | succ f => exact ⟨fun _ => hq, by rw [hd]; simp⟩
  unfold wpOpIn
  simp only [ho]
  unfold wpListIn at h
  split
  · rename_i hw
    rw [if_pos hw] at h
    exact Oper.wpIn_mono he h
  · rename_i hw
    rw [if_neg hw] at h
    exact ⟨h.1, he _ _ h.2⟩
/-- All have come up. -/
theorem wpAnyG_done {listed : Array Bool} {a : Act} {w : World} (hr : Region.ready md ops listed = []) (h : Q .normal a w) : ∀ fuel, wpAnyG F n P md ops Q S L fuel listed a w
  | 0 => ⟨hr, h⟩
  | _ + 1 => ⟨fun _ => h, by rw [hr]; simp⟩
/-- A region's operations, out of the code that holds it. -/
def regO (id : Nat) : Code → Option (Array Oper)
  | .region i ops _ => if i = id then some ops else none
  | .seq a b => match regO id a with | some o => some o | none => regO id b
  | .cond _ a b => match regO id a with | some o => some o | none => regO id b
  | .block _ b => regO id b
  | .loop b => regO id b
  | .rangeFunc _ _ a b => match regO id a with | some o => some o | none => regO id b
  | .scope b => regO id b
  | _ => none
def regF (fn : Func) (id : Nat) : Array Oper := match fn.body with | some c => (regO id c).getD #[] | none => #[]
/-- All that is asked where an operation is taken first. -/
def takeB (ops : Array Oper) (M : List (List Nat)) (L : List Nat) (listed : Array Bool) (i : Nat) : Bool :=
  Region.noSelect ops && (noDefer ops && (exemptB .any ops M L && (Region.free .any ops listed i && ((Region.ready .any ops listed).contains i && closedB .any ops listed))))
def oneB (ops : Array Oper) (listed : Array Bool) (k : Nat) : Bool := decide (Region.ready .any ops listed = [k])
theorem wpAnyG_takeQ (hF : ∀ f, F.fn f) (M : List (List Nat)) {i : Nat} {listed : Array Bool} {ops' : Array Oper} (hO : ops = ops') (hq : takeB ops' M L listed i = true) {oi : Oper} {v : Value} {fuel : Nat} {a : Act} {w : World} (hi : ops[i]? = some oi)
    (hQ : ∀ c a w, Q (.panic c) (a.put oi.dst v) w → Q (.panic c) a w) (hS : S w) (hw : Region.wanted oi (yielded ops a.tmps) = true) (hy : ∀ w, S w → (execOp a.eval oi).run P w = .ok (.value v) w) (d : Option Tmp) (hd : oi.dst = d)
    (listed' : Array Bool) (hl : listed.setIfInBounds i true = listed')
    (h : wpAnyG F n P .any ops Q S L fuel listed' (a.put d v) w) : wpAnyG F n P .any ops Q S L (fuel + 1) listed a w := by
  rw [← hO] at hq
  simp only [takeB, Bool.and_eq_true] at hq
  obtain ⟨h1, h2, h3, h4, h5, h6⟩ := hq
  exact wpAnyG_take hF h2 M h3 hi h1 h4 h5 h6 hQ hS hw hy d hd listed' hl h
theorem wpAnyG_skipQ (hF : ∀ f, F.fn f) (M : List (List Nat)) {i : Nat} {listed : Array Bool} {ops' : Array Oper} (hO : ops = ops') (hq : takeB ops' M L listed i = true) {oi : Oper} {fuel : Nat} {a : Act} {w : World} (hi : ops[i]? = some oi)
    (hQ : ∀ c a w, Q (.panic c) (a.put oi.dst undef) w → Q (.panic c) a w) (hS : S w) (hw : Region.wanted oi (yielded ops a.tmps) = false) (d : Option Tmp) (hd : oi.dst = d)
    (listed' : Array Bool) (hl : listed.setIfInBounds i true = listed')
    (h : wpAnyG F n P .any ops Q S L fuel listed' (a.put d undef) w) : wpAnyG F n P .any ops Q S L (fuel + 1) listed a w := by
  rw [← hO] at hq
  simp only [takeB, Bool.and_eq_true] at hq
  obtain ⟨h1, h2, h3, h4, h5, h6⟩ := hq
  exact wpAnyG_skip hF h2 M h3 hi h1 h4 h5 h6 hQ hS hw d hd listed' hl h
theorem wpAnyG_oneQ (k : Nat) {listed : Array Bool} {ops' : Array Oper} (hO : ops = ops') (hq : oneB ops' listed k = true) {o : Oper} {fuel : Nat} {a : Act} {w : World} (ho : ops[k]? = some o)
    (listed' : Array Bool) (hl : listed.setIfInBounds k true = listed')
    (h : ∀ K : Act → World → Prop, (∀ a' w', (L.contains k = false → S w') → wpAnyG F n P .any ops Q S L fuel listed' a' w' → K a' w') → wpListIn F n P ops (Nrm K Q) [o] a w) : wpAnyG F n P .any ops Q S L (fuel + 1) listed a w :=
  wpAnyG_one k (of_decide_eq_true (by rw [← hO] at hq; exact hq)) ho listed' hl h
/-- An equation that simp does not see. -/
structure Same (a b : Array Oper) : Prop where
  out : a = b
theorem with_ops (ops' : Array Oper) {fuel : Nat} {listed : Array Bool} {a : Act} {w : World} (hO : ops = ops') (h : Same ops ops' → wpAnyG F n P .any ops Q S L fuel listed a w) : wpAnyG F n P .any ops Q S L fuel listed a w := h ⟨hO⟩
/-- No operation panics. -/
def NP (Q : Exit → Act → World → Prop) : Exit → Act → World → Prop
  | .normal, a, w => Q .normal a w
  | _, _, _ => False
/-- The beginning: from the world behind the draw. -/
theorem wp_region_G (S : World → Prop) (L : List Nat) {id : Nat} {a : Act} {w : World} (hm : P.follows .mixedOrders = true)
    (h : wpAnyG F n P .any ops (NP Q) S L ops.size (Array.replicate ops.size false) a w.drew) : (Code.region id ops true).wpIn F n P Q a w :=
  wpIn_mono (wpIn_region_any hm (wpAny_of_G _ _ _ _ h)) (fun e a w he => by cases e <;> first | exact he | exact he.elim)
end
end Go.Proofs.Ytikpgmajiafhgaa.HeldIn
/- flow: what All tells, one entry by one. -/
namespace Go.Proofs.Ytikpgmajiafhgaa.Fl
open Go.Shelf
open Go.RowKit Go.Proofs.YtikpgmajiafhgaaW.PrintWords Go.Proofs.YtikpgmajiafhgaaW.PrintLast Go.Proofs.YtikpgmajiafhgaaW.PrintMore Go.Proofs.Ytikpgmajiafhgaa.X Go.Proofs.Ytikpgmajiafhgaa.M Go.Proofs.Ytikpgmajiafhgaa.Bv Go.Proofs.Ytikpgmajiafhgaa.PuLib Go.Proofs.Ytikpgmajiafhgaa.PuMix Go.Proofs.Ytikpgmajiafhgaa.PuCat
attribute [local go_sem] Oper.semAt_some
set_option linter.unusedVariables false
set_option linter.unusedSimpArgs false
theorem wpListIn_load_of {F : Fence} {m : Nat} {ops : Array Oper} {rest : List Oper} {o : Oper} {a : Act} {Q : Exit → Act → World → Prop} {w : World} (hgd : o.guard = none) (ty : TypeId) (x : Operand) (ho : o.op = .load ty x) (p : Addr) (hx : a.eval x = .pointer (some p)) {v : Value} (h : (loadVar ty p).run Try.prog w = .ok v w) (hk : wpListIn F m Try.prog ops Q rest (a.put o.dst v) w) : wpListIn F m Try.prog ops Q (o :: rest) a w := by
  refine wpListIn_plain hgd fun K hK' => ?_
  unfold Oper.wpIn
  refine ⟨?_, ?_⟩
  · simp [Oper.about, ho, resolve, Target.leads, Sem.run_pure]
  · rw [Oper.semAt_plain F _ _ (by rw [ho]; intro c hc'; cases hc')]
    simp only [Held.run_load_of ty x ho p hx h]
    exact hK' _ _ hk
/-- What a round keeps of what was made behind n: all but rows of keys. -/
def KpT (n : Nat) (A B : World) : Prop := A.heap.size ≤ B.heap.size ∧ ∀ (k : Nat) (cs : Array Value) (t : TypeId), n ≤ k → A.heap[k]? = some (.cells cs t (0, 0)) → t ≠ 29 → B.heap[k]? = A.heap[k]?
theorem KpT.trans {n : Nat} {A B C : World} (h : KpT n A B) (h2 : KpT n B C) : KpT n A C :=
  ⟨Nat.le_trans h.1 h2.1, fun k cs t hk ha ht => (h2.2 k cs t hk ((h.2 k cs t hk ha ht).trans ha) ht).trans (h.2 k cs t hk ha ht)⟩
theorem KpT.bk {n : Nat} {w : World} (W : World) (l : Nat) (o o' : Obj) (hl : w.heap.size ≤ l) (h : W.heap[l]? = some o) (hc : o.isCells = false) (_ : o.isWalk = false) : KpT n W (W.putObj l o') :=
  ⟨by simp, fun k cs t _ ha _ => World.putObj_heap_other (fun e => by subst e; rw [ha] at h; cases h; cases hc)⟩
theorem tKI : 3 ≠ 29 := by decide
theorem tKN : 91 ≠ 29 := by decide
theorem tKT : 85 ≠ 29 := by decide
/-- A table stays over a round. -/
theorem TabAt.round {W W' : World} {O : Nat → Prop} {b : Nat} {T : Tb} {vc vn vf : Value} (h : TabAt W O b T vc vn vf) {n : Nat} (hn : ∀ k, O k → n ≤ k) (hk : KpT n W W') : TabAt W' O b T vc vn vf := by
  have hb := (hk.2 b _ _ (hn b h.ob) h.blk tKT).trans h.blk
  have hc := R_same (R_tight h.rc rfl (fun _ _ _ _ _ _ h => h)) (W' := W') (fun k hk2 => by
    obtain ⟨cs, hcs⟩ := typeC h hk2.1
    exact hk.2 k _ _ (hn k hk2.2.1) hcs tKI)
  have hnn := R_same (R_tight h.rn rfl (fun _ _ _ _ _ _ h => h)) (W' := W') (fun k hk2 => by
    obtain ⟨cs, hcs⟩ := typeN h hk2.1
    exact hk.2 k _ _ (hn k hk2.2.1) hcs tKN)
  have hf := R_same (R_tight h.rf rfl (fun _ _ _ _ _ _ h => h)) (W' := W') (fun k hk2 => by
    obtain ⟨cs, hcs⟩ := typeF h hk2.1
    exact hk.2 k _ _ (hn k hk2.2.1) hcs tKI)
  exact ⟨hb, h.ob, Kd.R_mono hc (fun _ h => h.2), Kd.R_mono hnn (fun _ h => h.2), Kd.R_mono hf (fun _ h => h.2), fun k hk2 => Nat.lt_of_lt_of_le (h.lt k hk2) hk.1⟩
theorem tw_len (done rest : List Nat) (hnd : (done ++ rest).Nodup) : ((done ++ rest).takeWhile (fun q : Nat => !((q : Int) == hdI rest (-1)))).length = done.length := by
  have h1 : ∀ q ∈ done, (!((q : Int) == hdI rest (-1))) = true := fun q hq => by
    rw [Bool.not_eq_true', beq_eq_false_iff_ne]
    intro he
    cases rest with
    | nil => simp only [hdI] at he; omega
    | cons r rest =>
      simp only [hdI] at he
      exact (List.nodup_append.1 hnd).2.2 q hq r List.mem_cons_self (by omega)
  rw [List.takeWhile_append_of_pos h1, List.length_append]
  cases rest with
  | nil => rfl
  | cons r rest => simp [hdI]
/-- What a round is told: an entry whose key is a key. -/
abbrev Rk := { r : Rw // KeyOk r.ky }
theorem ndD_ok {T : Tb} (h : NodesOk T) (n : Nat) : KeyOk (ndD T.nodes n).ky := by
  by_cases hn : n < T.nodes.length
  · exact h _ (List.mem_of_getElem? (ndD_some hn))
  · unfold ndD
    rw [List.getD_eq_getElem?_getD, List.getElem?_eq_none (by omega)]
    exact keyOk_kz
def rkT (T : Tb) (h : NodesOk T) (n : Nat) : Rk := ⟨(ndD T.nodes n).row, ndD_ok h n⟩
theorem rkT_map (T : Tb) (h : NodesOk T) (ns : List Nat) : (ns.map (rkT T h)).map (fun r => r.1) = rws T ns := by
  rw [List.map_map]; rfl
def mJ : List (List Nat) := [[], [], [1], [1, 2], [1, 2, 3], [], [1, 2, 3, 4, 5], [1, 2, 3, 4, 5, 6], [1, 2, 3, 4, 5, 6, 7], [], [9], [9, 10], [9, 10, 11], [], [9, 10, 11, 12, 13], [9, 10, 11, 12, 13, 14], [9, 10, 11, 12, 13, 14, 15], [0, 1, 2, 3, 4, 5, 6, 7, 8, 9, 10, 11, 12, 13, 14, 15, 16], [0, 1, 2, 3, 4, 5, 6, 7, 8, 9, 10, 11, 12, 13, 14, 15, 16, 17]]
theorem qxAll1_4_1 : HeldIn.takeB (HeldIn.regF Try.f50 4) mJ [17, 18] (Array.replicate 19 false) 0 = true := by kernel_rfl
theorem qxAll1_4_2 : HeldIn.takeB (HeldIn.regF Try.f50 4) mJ [17, 18] #[true, false, false, false, false, false, false, false, false, false, false, false, false, false, false, false, false, false, false] 1 = true := by kernel_rfl
theorem qxAll1_4_3 : HeldIn.takeB (HeldIn.regF Try.f50 4) mJ [17, 18] #[true, true, false, false, false, false, false, false, false, false, false, false, false, false, false, false, false, false, false] 2 = true := by kernel_rfl
theorem qxAll1_4_4 : HeldIn.takeB (HeldIn.regF Try.f50 4) mJ [17, 18] #[true, true, true, false, false, false, false, false, false, false, false, false, false, false, false, false, false, false, false] 3 = true := by kernel_rfl
theorem qxAll1_4_5 : HeldIn.takeB (HeldIn.regF Try.f50 4) mJ [17, 18] #[true, true, true, true, false, false, false, false, false, false, false, false, false, false, false, false, false, false, false] 4 = true := by kernel_rfl
theorem qxAll1_4_6 : HeldIn.takeB (HeldIn.regF Try.f50 4) mJ [17, 18] #[true, true, true, true, true, false, false, false, false, false, false, false, false, false, false, false, false, false, false] 5 = true := by kernel_rfl
theorem qxAll1_4_7 : HeldIn.takeB (HeldIn.regF Try.f50 4) mJ [17, 18] #[true, true, true, true, true, true, false, false, false, false, false, false, false, false, false, false, false, false, false] 6 = true := by kernel_rfl
theorem qxAll1_4_8 : HeldIn.takeB (HeldIn.regF Try.f50 4) mJ [17, 18] #[true, true, true, true, true, true, true, false, false, false, false, false, false, false, false, false, false, false, false] 7 = true := by kernel_rfl
theorem qxAll1_4_9 : HeldIn.takeB (HeldIn.regF Try.f50 4) mJ [17, 18] #[true, true, true, true, true, true, true, true, false, false, false, false, false, false, false, false, false, false, false] 8 = true := by kernel_rfl
theorem qxAll1_4_10 : HeldIn.takeB (HeldIn.regF Try.f50 4) mJ [17, 18] #[true, true, true, true, true, true, true, true, true, false, false, false, false, false, false, false, false, false, false] 9 = true := by kernel_rfl
theorem qxAll1_4_11 : HeldIn.takeB (HeldIn.regF Try.f50 4) mJ [17, 18] #[true, true, true, true, true, true, true, true, true, true, false, false, false, false, false, false, false, false, false] 10 = true := by kernel_rfl
theorem qxAll1_4_12 : HeldIn.takeB (HeldIn.regF Try.f50 4) mJ [17, 18] #[true, true, true, true, true, true, true, true, true, true, true, false, false, false, false, false, false, false, false] 11 = true := by kernel_rfl
theorem qxAll1_4_13 : HeldIn.takeB (HeldIn.regF Try.f50 4) mJ [17, 18] #[true, true, true, true, true, true, true, true, true, true, true, true, false, false, false, false, false, false, false] 12 = true := by kernel_rfl
theorem qxAll1_4_14 : HeldIn.takeB (HeldIn.regF Try.f50 4) mJ [17, 18] #[true, true, true, true, true, true, true, true, true, true, true, true, true, false, false, false, false, false, false] 13 = true := by kernel_rfl
theorem qxAll1_4_15 : HeldIn.takeB (HeldIn.regF Try.f50 4) mJ [17, 18] #[true, true, true, true, true, true, true, true, true, true, true, true, true, true, false, false, false, false, false] 14 = true := by kernel_rfl
theorem qxAll1_4_16 : HeldIn.takeB (HeldIn.regF Try.f50 4) mJ [17, 18] #[true, true, true, true, true, true, true, true, true, true, true, true, true, true, true, false, false, false, false] 15 = true := by kernel_rfl
theorem qxAll1_4_17 : HeldIn.takeB (HeldIn.regF Try.f50 4) mJ [17, 18] #[true, true, true, true, true, true, true, true, true, true, true, true, true, true, true, true, false, false, false] 16 = true := by kernel_rfl
theorem qxAll1_4_18 : HeldIn.oneB (HeldIn.regF Try.f50 4) #[true, true, true, true, true, true, true, true, true, true, true, true, true, true, true, true, true, false, false] 17 = true := by kernel_rfl
theorem qxAll1_4_19 : HeldIn.oneB (HeldIn.regF Try.f50 4) #[true, true, true, true, true, true, true, true, true, true, true, true, true, true, true, true, true, true, false] 18 = true := by kernel_rfl
set_option maxRecDepth 100000 in
set_option maxHeartbeats 4000000 in
theorem all1_in (n : Nat) (hn : 1 ≤ n) (l Bs b n0 : Nat) (m i : Int) (R : List Rw) (O : Nat → Prop) (J Jx : List Rk → World → Prop) (W : World) (hJ : ∀ xs A B, J xs A → Below A.heap.size A B → J xs B)
    (hY : ∀ pre x W1, J pre W1 → pre.length < 2000 → YieldAt Fence.wide (n - 1) Try.prog l #[kv x.1.ky, ev x.1.bk x.1.la] W1 fun e W' =>
      (e = .returned (.bool true) ∧ J (pre ++ [x]) W' ∧ KpT n0 W1 W') ∨ (e = .returned (.bool false) ∧ Jx (pre ++ [x]) W'))
    (hB : W.heap[Bs]? = some (.cells #[.pointer (some ⟨b, 0, none⟩)] 33 (0, 0))) (hT : Tw W O b m i R) (hn0 : n0 ≤ W.heap.size) (h0 : J [] W) :
    CallsIn Fence.wide n Try.prog 50 #[.func (.yield l) #[] #[], .pointer (some ⟨Bs, 0, none⟩)] W fun e W' => (∃ v, e = .returned v) ∧
      ((∃ ys : List Rk, ys.map (fun r => r.1) = R ∧ J ys W') ∨ (∃ pre : List Rk, pre.map (fun r => r.1) <+: R ∧ Jx pre W')) := by
  refine callsIn_of_wp Try.func50 rfl trivial ?_ rfl
  simp only [Try.ntmps50, List.size_toArray, List.length_cons, List.length_nil, Nat.reduceAdd, Nat.reduceSub, Array.replicate_succ, Array.replicate_zero, List.push_toArray, List.append_toArray, List.nil_append, List.cons_append]
  have HY := Aside0.mk hY
  have HJ := Aside0.mk hJ
  have HJ0 := Aside0.mk h0
  have HT := Aside0.mk hT
  have HN := Aside0.mk hn0
  have hb0 := blk_cell hB 0
  simp at hb0
  clear hY hJ h0 hT hn0 hB
  gi_wp2_with (refine ⟨trivial, ?_⟩; gi_at_call 16; refine (callsIn_wide.2 (clone_tw HT.out)).mono ?_; rintro e W1 ⟨b2, rfl, ⟨O2, ⟨T, vc, vn, vf, hTb, ⟨ns, hinv, hR⟩, hTm, hTi⟩, hO2⟩, hb⟩; have h5 := hTb.cell 5; simp at h5; have HT2 := Aside0.mk hTb; have HIV := Aside0.mk hinv; have HR := Aside0.mk hR; have HO2 := Aside0.mk hO2; have HB2 := Aside0.mk hb; clear hTb hinv hR hO2 hb hb0)
  have HJ1 := Aside0.mk (HJ.out _ _ _ HJ0.out HB2.out)
  have HON := Aside0.mk (show ∀ k, O2 k → n0 ≤ k from fun k hk => Nat.le_trans HN.out (HO2.out k hk))
  clear h5 hTm hTi
  obtain ⟨HOK, _⟩ : ∃ h : NodesOk T, True := by obtain ⟨fs, h2, _⟩ := HIV.out; exact ⟨h2.ok, trivial⟩
  gi_loopw [4] (fun iv wr => ∃ done rest : List Nat, iv = .int .i64 (hdI rest (-1)) ∧ ns = done ++ rest ∧ Aside0 (J (done.map (rkT T HOK)) wr) ∧ Aside0 (TabAt wr O2 b2 T vc vn vf))
    (fun iv wr => ns.length - ((ns.takeWhile (fun q : Nat => !((q : Int) == intOf iv))).length))
  case atStart => exact ⟨[], ns, by obtain ⟨fs, h2, _⟩ := HIV.out; rw [← h2.ch.first], rfl, HJ1, HT2⟩
  case round =>
    obtain ⟨done, rest, rfl, hns, HJr, HTr⟩ := hrel
    cases rest with
    | nil =>
      simp only [hdI]
      have HD := Aside0.mk hns
      gi_wp2
      go_end0
      exact ⟨⟨_, rfl⟩, .inl ⟨_, by rw [rkT_map, HR.out, HD.out, List.append_nil], HJr.out⟩⟩
    | cons nd rest =>
      simp only [hdI]
      obtain ⟨x, hx, hnx, hlen⟩ : ∃ x, T.nodes[nd]? = some x ∧ x.nx = hdI rest (-1) ∧ (done ++ nd :: rest).length ≤ 1024 := by
        obtain ⟨fs, h2, _⟩ := HIV.out
        rw [hns] at h2
        obtain ⟨x, h3, _, h4⟩ := h2.ch.node
        exact ⟨x, h3, h4, by have := h2.nl; have := h2.small; have := h2.most; omega⟩
      have hnl := (List.getElem?_eq_some_iff.1 hx).1
      obtain ⟨gn, cn, hvn⟩ := HTr.out.vnForm (by omega)
      have hT3 := HTr.out
      rw [hvn] at hT3
      have HX := Aside0.mk hx
      have HXK := Aside0.mk (show KeyOk x.row.ky from HOK _ (List.mem_of_getElem? hx))
      have HH := Aside0.mk (And.intro hns (And.intro hnx hlen))
      obtain ⟨N, hN⟩ : ∃ N, N = T.nodes.length := ⟨_, rfl⟩
      rw [← hN] at hT3 hnl hvn
      have HVN := Aside0.mk hvn
      have e1 : ((0 : Int) ≤ (nd : Int)) = True := eq_true (by omega)
      have e2 : ((nd : Int) < (N : Int)) = True := eq_true (by omega)
      have e3 : ((nd : Int) = -1) = False := eq_false (by omega)
      have e4 : decide ((nd : Int) = -1) = false := decide_eq_false (by omega)
      obtain ⟨wd, hwd⟩ : ∃ wd, wd = wr.drew := ⟨_, rfl⟩
      have HBD := Aside0.mk (show Below wr.heap.size wr wd by rw [hwd]; exact below_drew (Below.refl _ _))
      have HSS := Aside0.mk (hT3.below HBD.out)
      obtain ⟨fn, tmps, assign, body, hyl, hRR⟩ := HY.out (done.map (rkT T HOK)) ⟨x.row, HXK.out⟩ wd (HJ.out _ _ _ HJr.out HBD.out) (by rw [List.length_map]; simp at hlen; omega)
      change (Instr.yield l #[kv x.ky, ev x.bk x.la]).run _ _ = _ at hyl
      have HRR := Aside0.mk hRR
      clear hRR hx hnx hlen hns hT3 hN hnl hvn
      gi_wp2
      refine HeldIn.wp_region_G (S := (fun W : World => TabAt W O2 b2 T vc (.slice (some ⟨gn, 0, none⟩) N cn) vf)) (L := [17, 18]) (by kernel_rfl) ?_
      change HeldIn.wpAnyG _ _ _ _ _ _ _ _ 19 (Array.replicate 19 false) _ _
      refine HeldIn.with_ops (HeldIn.regF Try.f50 4) (by kernel_rfl) (fun HO => ?_)
      rw [← hwd]
      clear hwd
      refine HeldIn.wpAnyG_takeQ (fun _ => trivial) mJ (i := 0) HO.out qxAll1_4_1 (v := (.func (.yield l) #[] #[])) rfl (fun _ _ _ h => h) HSS.out (by first | (with_reducible rfl) | (simp [Region.wanted, yielded, Act.put]; done) | rfl) (fun W h => by go_simp) (some 21) rfl #[true, false, false, false, false, false, false, false, false, false, false, false, false, false, false, false, false, false, false] (by kernel_rfl) ?_
      simp only [Act.put, List.setIfInBounds_toArray, List.set_cons_zero, List.set_cons_succ]
      refine HeldIn.wpAnyG_takeQ (fun _ => trivial) mJ (i := 1) HO.out qxAll1_4_2 (v := (.pointer (some ⟨b2, 0, none⟩))) rfl (fun _ _ _ h => h) HSS.out (by first | (with_reducible rfl) | (simp [Region.wanted, yielded, Act.put]; done) | rfl) (fun W h => by go_simp) (some 22) rfl #[true, true, false, false, false, false, false, false, false, false, false, false, false, false, false, false, false, false, false] (by kernel_rfl) ?_
      simp only [Act.put, List.setIfInBounds_toArray, List.set_cons_zero, List.set_cons_succ]
      refine HeldIn.wpAnyG_takeQ (fun _ => trivial) mJ (i := 2) HO.out qxAll1_4_3 (v := (.pointer (some ⟨b2, 0, none⟩))) rfl (fun _ _ _ h => h) HSS.out (by first | (with_reducible rfl) | (simp [Region.wanted, yielded, Act.put]; done) | rfl) (fun W hs => by go_simp) (some 23) rfl #[true, true, true, false, false, false, false, false, false, false, false, false, false, false, false, false, false, false, false] (by kernel_rfl) ?_
      simp only [Act.put, List.setIfInBounds_toArray, List.set_cons_zero, List.set_cons_succ]
      refine HeldIn.wpAnyG_takeQ (fun _ => trivial) mJ (i := 3) HO.out qxAll1_4_4 (v := (.pointer (some ⟨b2, 3, none⟩))) rfl (fun _ _ _ h => h) HSS.out (by first | (with_reducible rfl) | (simp [Region.wanted, yielded, Act.put]; done) | rfl) (fun W hs => by go_simp) (some 24) rfl #[true, true, true, true, false, false, false, false, false, false, false, false, false, false, false, false, false, false, false] (by kernel_rfl) ?_
      simp only [Act.put, List.setIfInBounds_toArray, List.set_cons_zero, List.set_cons_succ]
      refine HeldIn.wpAnyG_takeQ (fun _ => trivial) mJ (i := 4) HO.out qxAll1_4_5 (v := (.slice (some ⟨gn, 0, none⟩) N cn)) rfl (fun _ _ _ h => h) HSS.out (by first | (with_reducible rfl) | (simp [Region.wanted, yielded, Act.put]; done) | rfl) (fun W hs => by have hc := hs.cell 3; simp at hc; go_simp) (some 25) rfl #[true, true, true, true, true, false, false, false, false, false, false, false, false, false, false, false, false, false, false] (by kernel_rfl) ?_
      simp only [Act.put, List.setIfInBounds_toArray, List.set_cons_zero, List.set_cons_succ]
      refine HeldIn.wpAnyG_takeQ (fun _ => trivial) mJ (i := 5) HO.out qxAll1_4_6 (v := (.int .i64 (nd : Int))) rfl (fun _ _ _ h => h) HSS.out (by first | (with_reducible rfl) | (simp [Region.wanted, yielded, Act.put]; done) | rfl) (fun W h => by go_simp) (some 26) rfl #[true, true, true, true, true, true, false, false, false, false, false, false, false, false, false, false, false, false, false] (by kernel_rfl) ?_
      simp only [Act.put, List.setIfInBounds_toArray, List.set_cons_zero, List.set_cons_succ]
      refine HeldIn.wpAnyG_takeQ (fun _ => trivial) mJ (i := 6) HO.out qxAll1_4_7 (v := (.pointer (some ⟨gn, nd * 38, none⟩))) rfl (fun _ _ _ h => h) HSS.out (by first | (with_reducible rfl) | (simp [Region.wanted, yielded, Act.put]; done) | rfl) (fun W hs => by go_simp) (some 27) rfl #[true, true, true, true, true, true, true, false, false, false, false, false, false, false, false, false, false, false, false] (by kernel_rfl) ?_
      simp only [Act.put, List.setIfInBounds_toArray, List.set_cons_zero, List.set_cons_succ]
      refine HeldIn.wpAnyG_takeQ (fun _ => trivial) mJ (i := 7) HO.out qxAll1_4_8 (v := (.pointer (some ⟨gn, nd * 38 + 2, none⟩))) rfl (fun _ _ _ h => h) HSS.out (by first | (with_reducible rfl) | (simp [Region.wanted, yielded, Act.put]; done) | rfl) (fun W hs => by go_simp) (some 28) rfl #[true, true, true, true, true, true, true, true, false, false, false, false, false, false, false, false, false, false, false] (by kernel_rfl) ?_
      simp only [Act.put, List.setIfInBounds_toArray, List.set_cons_zero, List.set_cons_succ]
      refine HeldIn.wpAnyG_takeQ (fun _ => trivial) mJ (i := 8) HO.out qxAll1_4_9 (v := (kv x.ky)) rfl (fun _ _ _ h => h) HSS.out (by first | (with_reducible rfl) | (simp [Region.wanted, yielded, Act.put]; done) | rfl) (fun W hs => Held.run_load_of 29 (.tmp 28) rfl ⟨gn, nd * 38 + 2, none⟩ rfl (node_key (hs.nd HX.out))) (some 29) rfl #[true, true, true, true, true, true, true, true, true, false, false, false, false, false, false, false, false, false, false] (by kernel_rfl) ?_
      simp only [Act.put, List.setIfInBounds_toArray, List.set_cons_zero, List.set_cons_succ]
      refine HeldIn.wpAnyG_takeQ (fun _ => trivial) mJ (i := 9) HO.out qxAll1_4_10 (v := (.pointer (some ⟨b2, 0, none⟩))) rfl (fun _ _ _ h => h) HSS.out (by first | (with_reducible rfl) | (simp [Region.wanted, yielded, Act.put]; done) | rfl) (fun W h => by go_simp) (some 30) rfl #[true, true, true, true, true, true, true, true, true, true, false, false, false, false, false, false, false, false, false] (by kernel_rfl) ?_
      simp only [Act.put, List.setIfInBounds_toArray, List.set_cons_zero, List.set_cons_succ]
      refine HeldIn.wpAnyG_takeQ (fun _ => trivial) mJ (i := 10) HO.out qxAll1_4_11 (v := (.pointer (some ⟨b2, 0, none⟩))) rfl (fun _ _ _ h => h) HSS.out (by first | (with_reducible rfl) | (simp [Region.wanted, yielded, Act.put]; done) | rfl) (fun W hs => by go_simp) (some 31) rfl #[true, true, true, true, true, true, true, true, true, true, true, false, false, false, false, false, false, false, false] (by kernel_rfl) ?_
      simp only [Act.put, List.setIfInBounds_toArray, List.set_cons_zero, List.set_cons_succ]
      refine HeldIn.wpAnyG_takeQ (fun _ => trivial) mJ (i := 11) HO.out qxAll1_4_12 (v := (.pointer (some ⟨b2, 3, none⟩))) rfl (fun _ _ _ h => h) HSS.out (by first | (with_reducible rfl) | (simp [Region.wanted, yielded, Act.put]; done) | rfl) (fun W hs => by go_simp) (some 32) rfl #[true, true, true, true, true, true, true, true, true, true, true, true, false, false, false, false, false, false, false] (by kernel_rfl) ?_
      simp only [Act.put, List.setIfInBounds_toArray, List.set_cons_zero, List.set_cons_succ]
      refine HeldIn.wpAnyG_takeQ (fun _ => trivial) mJ (i := 12) HO.out qxAll1_4_13 (v := (.slice (some ⟨gn, 0, none⟩) N cn)) rfl (fun _ _ _ h => h) HSS.out (by first | (with_reducible rfl) | (simp [Region.wanted, yielded, Act.put]; done) | rfl) (fun W hs => by have hc := hs.cell 3; simp at hc; go_simp) (some 33) rfl #[true, true, true, true, true, true, true, true, true, true, true, true, true, false, false, false, false, false, false] (by kernel_rfl) ?_
      simp only [Act.put, List.setIfInBounds_toArray, List.set_cons_zero, List.set_cons_succ]
      refine HeldIn.wpAnyG_takeQ (fun _ => trivial) mJ (i := 13) HO.out qxAll1_4_14 (v := (.int .i64 (nd : Int))) rfl (fun _ _ _ h => h) HSS.out (by first | (with_reducible rfl) | (simp [Region.wanted, yielded, Act.put]; done) | rfl) (fun W h => by go_simp) (some 34) rfl #[true, true, true, true, true, true, true, true, true, true, true, true, true, true, false, false, false, false, false] (by kernel_rfl) ?_
      simp only [Act.put, List.setIfInBounds_toArray, List.set_cons_zero, List.set_cons_succ]
      refine HeldIn.wpAnyG_takeQ (fun _ => trivial) mJ (i := 14) HO.out qxAll1_4_15 (v := (.pointer (some ⟨gn, nd * 38, none⟩))) rfl (fun _ _ _ h => h) HSS.out (by first | (with_reducible rfl) | (simp [Region.wanted, yielded, Act.put]; done) | rfl) (fun W hs => by go_simp) (some 35) rfl #[true, true, true, true, true, true, true, true, true, true, true, true, true, true, true, false, false, false, false] (by kernel_rfl) ?_
      simp only [Act.put, List.setIfInBounds_toArray, List.set_cons_zero, List.set_cons_succ]
      refine HeldIn.wpAnyG_takeQ (fun _ => trivial) mJ (i := 15) HO.out qxAll1_4_16 (v := (.pointer (some ⟨gn, nd * 38, none⟩))) rfl (fun _ _ _ h => h) HSS.out (by first | (with_reducible rfl) | (simp [Region.wanted, yielded, Act.put]; done) | rfl) (fun W hs => by go_simp) (some 36) rfl #[true, true, true, true, true, true, true, true, true, true, true, true, true, true, true, true, false, false, false] (by kernel_rfl) ?_
      simp only [Act.put, List.setIfInBounds_toArray, List.set_cons_zero, List.set_cons_succ]
      refine HeldIn.wpAnyG_takeQ (fun _ => trivial) mJ (i := 16) HO.out qxAll1_4_17 (v := (ev x.bk x.la)) rfl (fun _ _ _ h => h) HSS.out (by first | (with_reducible rfl) | (simp [Region.wanted, yielded, Act.put]; done) | rfl) (fun W hs => Held.run_load_of 43 (.tmp 36) rfl ⟨gn, nd * 38, none⟩ rfl (load_entry (hs.nd HX.out))) (some 37) rfl #[true, true, true, true, true, true, true, true, true, true, true, true, true, true, true, true, true, false, false] (by kernel_rfl) ?_
      simp only [Act.put, List.setIfInBounds_toArray, List.set_cons_zero, List.set_cons_succ]
      refine HeldIn.wpAnyG_oneQ 17 HO.out qxAll1_4_18 rfl #[true, true, true, true, true, true, true, true, true, true, true, true, true, true, true, true, true, true, false] (by kernel_rfl) (fun K hK => ?_)
      gi_wp2
      refine HRR.out.mono ?_
      rintro e W3 (⟨rfl, hJ3, hk3⟩ | ⟨rfl, hJx3⟩)
      · gi_wp2
        refine hK _ _ (fun h => absurd h (by decide)) ?_
        clear hK K
        have HS3 := Aside0.mk (HSS.out.round HON.out hk3)
        have HJ3 := Aside0.mk hJ3
        clear hk3 hJ3 HSS HRR
        have hc3 := HS3.out.cell 3
        simp at hc3
        have hn37 := (HS3.out.nd HX.out).2 37 _ (encN_37 (HS3.out.nd HX.out).1)
        refine HeldIn.wpAnyG_oneQ 18 HO.out qxAll1_4_19 rfl #[true, true, true, true, true, true, true, true, true, true, true, true, true, true, true, true, true, true, true] (by kernel_rfl) (fun K hK => ?_)
        gi_wp2_with fail
        refine hK _ _ (fun h => absurd h (by decide)) ?_
        clear hK K
        refine HeldIn.wpAnyG_done (by kernel_rfl) ?_ _
        simp only [HeldIn.NP]
        gi_wp2
        obtain ⟨hns, hnx, hlen⟩ := HH.out
        rw [hnx]
        have hnd : (done ++ nd :: rest).Nodup := by obtain ⟨fs, h2, _⟩ := HIV.out; rw [← hns]; exact h2.nodup
        have hw1 := tw_len done (nd :: rest) hnd
        have hw2 := tw_len (done ++ [nd]) rest (by rw [List.append_assoc]; exact hnd)
        rw [List.append_assoc] at hw2
        change ((done ++ nd :: rest).takeWhile (fun q : Nat => !((q : Int) == hdI rest (-1)))).length = _ at hw2
        refine ⟨⟨done ++ [nd], rest, rfl, by rw [hns, List.append_assoc]; rfl, ⟨?_⟩, ⟨by rw [HVN.out]; exact HS3.out⟩⟩, ?_⟩
        · have h3 := HJ3.out
          have h5 : rkT T HOK nd = ⟨x.row, HXK.out⟩ := Subtype.ext (by show (ndD T.nodes nd).row = x.row; rw [ndD_of HX.out])
          rw [List.map_append, List.map_cons, List.map_nil, h5]
          exact h3
        · rw [hns]
          simp only [intOf]
          simp only [hdI] at hw1
          rw [hw2]
          have h4 : (List.takeWhile (fun q : Nat => !((q : Int) == (nd : Int))) (done ++ nd :: rest)).length = done.length := hw1
          rw [h4]
          simp only [List.length_append, List.length_cons, List.length_nil]
          omega
      · gi_wp2
        refine hK _ _ (fun h => absurd h (by decide)) ?_
        clear hK K
        have HJx3 := Aside0.mk hJx3
        clear hJx3 HSS HRR
        refine HeldIn.wpAnyG_oneQ 18 HO.out qxAll1_4_19 rfl #[true, true, true, true, true, true, true, true, true, true, true, true, true, true, true, true, true, true, true] (by kernel_rfl) (fun K hK => ?_)
        gi_wp2_with fail
        refine hK _ _ (fun h => absurd h (by decide)) ?_
        clear hK K
        refine HeldIn.wpAnyG_done (by kernel_rfl) ?_ _
        simp only [HeldIn.NP]
        gi_wp2
        refine bodyPost_ret (results_none rfl _ _ _) rfl ?_
        exact ⟨⟨_, rfl⟩, .inr ⟨_, by have hp := rkT_map T HOK done; rw [List.map_append, hp, HR.out, HH.out.1]; refine ⟨rws T rest, ?_⟩; unfold rws; simp [ndD_of HX.out], HJx3.out⟩⟩
theorem all_stops (n : Nat) (hn : 1 ≤ n) (Bs b n0 : Nat) (m i : Int) (R : List Rw) (O : Nat → Prop) (w : World) (hB : w.heap[Bs]? = some (.cells #[.pointer (some ⟨b, 0, none⟩)] 33 (0, 0))) (hT : Tw w O b m i R) (hn0 : n0 ≤ w.heap.size) :
    SeqStopsK Fence.wide n Try.prog 50 #[.pointer (some ⟨Bs, 0, none⟩)] (fun r : Rk => #[kv r.1.ky, ev r.1.bk r.1.la]) (KpT n0) (fun xs => xs.map (fun r => r.1) = R) (fun pre => pre.map (fun r => r.1) <+: R) 2000 w := by
  intro l J Jx W hW hJ hJx hY h0
  exact all1_in n hn l Bs b n0 m i R O J Jx W (fun xs A B h hb => hJ xs A B none h (grown_of_below hb none) (fun r e => by cases e)) hY (blk_below hB hW) (hT.below hW) (Nat.le_trans hn0 hW.size) h0
end Go.Proofs.Ytikpgmajiafhgaa.Fl
/- flow: what a walk knows of memory: things that are apart from each other, all of them made since the start. -/
namespace Go.Proofs.Ytikpgmajiafhgaa.Fl
open Go.Shelf
open Go.RowKit Go.Proofs.YtikpgmajiafhgaaW.PrintWords Go.Proofs.YtikpgmajiafhgaaW.PrintLast Go.Proofs.YtikpgmajiafhgaaW.PrintMore Go.Proofs.Ytikpgmajiafhgaa.X Go.Proofs.Ytikpgmajiafhgaa.M
set_option linter.unusedVariables false
set_option linter.unusedSimpArgs false
/-- A thing in memory: its blocks, what is known of it. -/
structure Th where
  O : Nat → Prop
  P : World → Prop
  st : ∀ W W' : World, P W → (∀ k, O k → W'.heap[k]? = W.heap[k]?) → W.heap.size ≤ W'.heap.size → P W'
  lt : ∀ W : World, P W → ∀ k, O k → k < W.heap.size
/-- A table. -/
def thT (O : Nat → Prop) (b : Nat) (m i : Int) (R : List Rw) : Th := ⟨O, fun W => Tw W O b m i R, fun _ _ h hs hz => h.same hs hz, fun _ h _ hk => h.lt hk⟩
/-- A block of cells. -/
def thB (g : Nat) (cs : Array Value) (t : TypeId) : Th := ⟨fun k => k = g, fun W => W.heap[g]? = some (.cells cs t (0, 0)), fun _ _ h hs _ => (hs g rfl).trans h, fun _ h k hk => by subst hk; exact blk_lt h⟩
structure Env (w W : World) (ts : List Th) : Prop where
  bel : Below w.heap.size w W
  tab : ∀ t ∈ ts, t.P W ∧ ∀ k, t.O k → w.heap.size ≤ k
  apart : ts.Pairwise (fun s t => ∀ k, s.O k → ¬ t.O k)
section
variable {w W W' : World} {ts pre post : List Th} {t t' : Th}
theorem Env.start (w : World) : Env w w [] := ⟨Below.refl _ _, fun t h => absurd h List.not_mem_nil, List.Pairwise.nil⟩
theorem Env.below (h : Env w W ts) (hb : Below W.heap.size W W') : Env w W' ts :=
  ⟨h.bel.trans (hb.mono h.bel.size), fun t ht => ⟨t.st W W' (h.tab t ht).1 (fun k hk => hb.block k (t.lt W (h.tab t ht).1 k hk)) hb.size, (h.tab t ht).2⟩, h.apart⟩
theorem Env.get (h : Env w W ts) (ht : t ∈ ts) : t.P W := (h.tab t ht).1
theorem Env.at (h : Env w W ts) (i : Nat) (ht : ts[i]? = some t) : t.P W := (h.tab t (List.mem_of_getElem? ht)).1
/-- One of the things is turned. -/
theorem Env.step (pre : List Th) (h : Env w W (pre ++ t :: post)) (t' : Th) (hP : t'.P W') (hk : Keep t.O W W') (ho : ∀ k, t'.O k → t.O k ∨ W.heap.size ≤ k) : Env w W' (pre ++ t' :: post) := by
  obtain ⟨h1, h2, h3⟩ := List.pairwise_append.1 h.apart
  obtain ⟨h4, h5⟩ := List.pairwise_cons.1 h2
  have old : ∀ s ∈ pre ++ t :: post, s.P W ∧ ∀ k, s.O k → w.heap.size ≤ k := h.tab
  have hpre : ∀ s ∈ pre, (∀ k, s.O k → ¬ t.O k) ∧ s.P W ∧ ∀ k, s.O k → w.heap.size ≤ k := fun s hs => ⟨h3 s hs t List.mem_cons_self, old s (List.mem_append_left _ hs)⟩
  have hpost : ∀ s ∈ post, (∀ k, s.O k → ¬ t.O k) ∧ s.P W ∧ ∀ k, s.O k → w.heap.size ≤ k := fun s hs => ⟨fun k hk hk2 => h4 s hs k hk2 hk, old s (List.mem_append_right _ (List.mem_cons_of_mem _ hs))⟩
  have keep : ∀ s : Th, ((∀ k, s.O k → ¬ t.O k) ∧ s.P W ∧ ∀ k, s.O k → w.heap.size ≤ k) → (s.P W' ∧ ∀ k, s.O k → w.heap.size ≤ k) ∧ ∀ k, s.O k → ¬ t'.O k := fun s hs =>
    ⟨⟨s.st W W' hs.2.1 (fun k hk2 => hk.same k (s.lt W hs.2.1 k hk2) (hs.1 k hk2)) hk.below.size, hs.2.2⟩, fun k hk2 hk3 => by
      rcases ho k hk3 with h6 | h6
      · exact hs.1 k hk2 h6
      · have := s.lt W hs.2.1 k hk2; omega⟩
  have ht : ∀ k, t.O k → w.heap.size ≤ k := (old t (List.mem_append_right _ List.mem_cons_self)).2
  refine ⟨h.bel.trans (hk.to_below h.bel.size ht), fun s hs => ?_, List.pairwise_append.2 ⟨h1, List.pairwise_cons.2 ⟨fun s hs k hk2 hk3 => (keep s (hpost s hs)).2 k hk3 hk2, h5⟩, fun s hs u hu => ?_⟩⟩
  · rcases List.mem_append.1 hs with hs | hs
    · exact (keep s (hpre s hs)).1
    · rcases List.mem_cons.1 hs with rfl | hs
      · exact ⟨hP, fun k hk2 => by rcases ho k hk2 with h6 | h6; exact ht k h6; have := h.bel.size; omega⟩
      · exact (keep s (hpost s hs)).1
  · rcases List.mem_cons.1 hu with rfl | hu
    · exact (keep s (hpre s hs)).2
    · exact h3 s hs u (List.mem_cons_of_mem _ hu)
/-- A thing more. -/
theorem Env.new (h : Env w W ts) (t : Th) (hP : t.P W') (ho : ∀ k, t.O k → W.heap.size ≤ k) (hb : Below W.heap.size W W') : Env w W' (t :: ts) := by
  have h2 := h.below hb
  refine ⟨h2.bel, fun s hs => ?_, List.pairwise_cons.2 ⟨fun s hs k hk hk2 => ?_, h.apart⟩⟩
  · rcases List.mem_cons.1 hs with rfl | hs
    · exact ⟨hP, fun k hk => Nat.le_trans h.bel.size (ho k hk)⟩
    · exact h2.tab s hs
  · have h3 := s.lt W (h.tab s hs).1 k hk2
    have h4 := ho k hk
    omega
theorem Env.alloc (h : Env w W ts) (cs : Array Value) (t : TypeId) : Env w (W.alloc (.cells cs t)) (thB W.heap.size cs t :: ts) :=
  h.new (thB W.heap.size cs t) (blk_new W _) (fun k hk => by have hk' : k = W.heap.size := hk; omega) (below_alloc (Below.refl _ _) _)
theorem Env.drop (h : Env w W (t :: ts)) : Env w W ts := ⟨h.bel, fun s hs => h.tab s (List.mem_cons_of_mem _ hs), (List.pairwise_cons.1 h.apart).2⟩
theorem Env.left (h : Env w W (pre ++ post)) : Env w W pre := ⟨h.bel, fun s hs => h.tab s (List.mem_append_left _ hs), (List.pairwise_append.1 h.apart).1⟩
theorem Env.right (h : Env w W (pre ++ post)) : Env w W post := ⟨h.bel, fun s hs => h.tab s (List.mem_append_right _ hs), (List.pairwise_append.1 h.apart).2.1⟩
/-- A box is written. -/
theorem Env.put (pre : List Th) {g : Nat} {cs : Array Value} {ty : TypeId} (h : Env w W (pre ++ thB g cs ty :: post)) (j : Nat) (v : Value) {cs' : Array Value} (hc : cs.setIfInBounds j v = cs') : Env w (W.setCell ⟨g, j, none⟩ v) (pre ++ thB g cs' ty :: post) := by
  have hb : W.heap[g]? = some (.cells cs ty (0, 0)) := (h.tab (thB g cs ty) (by simp)).1
  exact h.step pre (thB g cs' ty) (blk_put hb j v hc) (Keep.put (O := fun k => k = g) (p := ⟨g, j, none⟩) rfl v) (fun k hk => .inl hk)
theorem Env.out (pre : List Th) {O : Nat → Prop} {b : Nat} {m i : Int} {R R' : List Rw} (h : Env w W (pre ++ thT O b m i R :: post)) (ho : Out W O b m i R' W') : ∃ O', Env w W' (pre ++ thT O' b m i R' :: post) := by
  obtain ⟨O', hT, hk, hs⟩ := ho
  exact ⟨O', h.step pre (thT O' b m i R') hT hk hs⟩
/-- Things that were made before B stay, whatever becomes of other blocks that are no cells. -/
def EnvB (B : Nat) (w W : World) (ts : List Th) : Prop := Env w W ts ∧ (∀ t ∈ ts, ∀ k, t.O k → k < B) ∧ B ≤ W.heap.size
theorem EnvB.mk' (h : Env w W ts) : EnvB W.heap.size w W ts := ⟨h, fun t ht k hk => t.lt W (h.tab t ht).1 k hk, Nat.le_refl _⟩
theorem EnvB.grown {B : Nat} {row : Option Nat} (h : EnvB B w W ts) (hB : w.heap.size ≤ B) (hg : W.grownBy W' row) (hr : ∀ r, row = some r → B ≤ r) : EnvB B w W' ts := by
  refine ⟨⟨h.1.bel.grown hg h.1.bel.size (fun k e => by have := hr k e; omega), fun t ht => ⟨t.st W W' (h.1.tab t ht).1 (fun k hk => hg.block k (t.lt W (h.1.tab t ht).1 k hk) (fun e => by have h1 := hr k e.symm; have h2 := h.2.1 t ht k hk; omega)) hg.size, (h.1.tab t ht).2⟩, h.1.apart⟩, h.2.1, Nat.le_trans h.2.2 hg.size⟩
theorem EnvB.below {B : Nat} (h : EnvB B w W ts) (hb : Below W.heap.size W W') : EnvB B w W' ts := ⟨h.1.below hb, h.2.1, Nat.le_trans h.2.2 hb.size⟩
theorem ownEnv {β : Type} {B : Nat} (w : World) (hB : w.heap.size ≤ B) (ts : β → List Th) : OwnFrom B (fun s W => EnvB B w W (ts s)) := fun s A C row hs hg hr => hs.grown hB hg (fun r e => (hr r e).1)
end
end Go.Proofs.Ytikpgmajiafhgaa.Fl
/- flow: a key with a port. -/
namespace Go.Proofs.Ytikpgmajiafhgaa.Fl
open Go.Shelf
open Go.RowKit Go.Proofs.YtikpgmajiafhgaaW.PrintWords Go.Proofs.YtikpgmajiafhgaaW.PrintLast Go.Proofs.YtikpgmajiafhgaaW.PrintMore Go.Proofs.Ytikpgmajiafhgaa.X Go.Proofs.Ytikpgmajiafhgaa.M
set_option linter.unusedVariables false
set_option linter.unusedSimpArgs false
def adP (p : Int) : List Int := List.replicate 16 0 ++ [p]
def keyP (p : Int) : List Int := adP p ++ adP 0
theorem keyP_length (p : Int) : (keyP p).length = 34 := rfl
theorem keyP_ok (p : Int) (h0 : 0 ≤ p) (h1 : p < 65536) : KeyOk (keyP p) := by
  refine ⟨⟨rfl, by show ∀ x ∈ List.replicate 16 (0 : Int), _; decide, fun x hx => ?_⟩, by show (adP 0).length = 17; decide, by show ∀ x ∈ List.replicate 16 (0 : Int), _; decide, by show ∀ x ∈ [(0 : Int)], _; decide⟩
  have hx' : x ∈ [p] := hx
  rw [List.mem_singleton.1 hx']
  exact ⟨h0, h1⟩
theorem buildAP (p : Int) : ∀ w : World, (Instr.build 27 #[(1, .int .u16 p)]).run Try.prog w = .ok (va (adP p)) w := fun w => by kernel_rfl
theorem buildKP (p : Int) : ∀ w : World, (Instr.build 29 #[(0, va (adP p))]).run Try.prog w = .ok (kv (keyP p)) w := fun w => by kernel_rfl
theorem buildKQ (p : Int) : ∀ w : World, (Instr.build 29 #[(1, va (adP p))]).run Try.prog w = .ok (kv (adP 0 ++ adP p)) w := fun w => by kernel_rfl
theorem run_build_of1 {o : Oper} {a : Act} {w : World} (ty : TypeId) (i : Nat) (x : Operand) (ho : o.op = .build ty #[(i, x)]) {u r : Value} (hx : a.eval x = u) (h : (Instr.build ty #[(i, u)]).run Try.prog w = .ok r w) : (execOp a.eval o).run Try.prog w = .ok (.value r) w := by
  unfold execOp
  simp [ho, hx, h]
theorem wpList_build_of1 {ops : Array Oper} {rest : List Oper} {o : Oper} {a : Act} {Q : Exit → Act → World → Prop} {w : World} (hgd : o.guard = none) (ty : TypeId) (i : Nat) (x : Operand) (ho : o.op = .build ty #[(i, x)]) {u r : Value} (hx : a.eval x = u) (h : (Instr.build ty #[(i, u)]).run Try.prog w = .ok r w) (hk : wpList Try.prog ops Q rest (a.put o.dst r) w) : wpList Try.prog ops Q (o :: rest) a w := by
  refine wpList_plain hgd fun K hK' => ?_
  unfold Oper.wp
  simp only [run_build_of1 ty i x ho hx h]
  exact hK' _ _ hk
/-- One result, in a box. -/
theorem results_cell1 {fn : Func} {p : Tmp} {ty : TypeId} (h : fn.results = #[.cell p ty]) (tmps : Array Value) (w : World) (g : Nat) {v : Value}
    (hp : tmps.getD p undef = .pointer (some ⟨g, 0, none⟩)) (hl : (loadVar ty ⟨g, 0, none⟩).run Try.prog w = .ok v w) : (results fn tmps).run Try.prog w = .ok v w := by
  have hp' : tmps[p]?.getD undef = .pointer (some ⟨g, 0, none⟩) := by simpa using hp
  simp [results, h, hp', asAddr, hl]
set_option maxRecDepth 100000 in
set_option maxHeartbeats 4000000 in
theorem keyp_calls (p : Int) (w : World) :
    Calls Try.prog 32 #[.int .u16 p] w fun en w' => en = .returned (kv (keyP p)) ∧ Below w.heap.size w w' := by
  obtain ⟨g, hg⟩ : ∃ g, g = w.heap.size := ⟨_, rfl⟩
  obtain ⟨w0, hw0⟩ : ∃ w0, w0 = w.alloc (.cells (encK kz).toArray 29) := ⟨_, rfl⟩
  have HB0 := Aside0.mk (show Below w.heap.size w w0 by rw [hw0]; exact below_alloc (Below.refl _ _) _)
  have HG0 := Aside0.mk (show w0.heap[g]? = some (.cells (encK kz).toArray 29 (0, 0)) by rw [hw0, hg]; exact blk_new w _)
  have HGE := Aside0.mk (show w.heap.size ≤ g by omega)
  have hz := zeroK
  obtain ⟨ad, had⟩ : ∃ ad, ad = adP p := ⟨_, rfl⟩
  obtain ⟨kk, hkk⟩ : ∃ kk, kk = keyP p := ⟨_, rfl⟩
  have HBA := Aside0.mk (buildAP p)
  have HBK := Aside0.mk (buildKP p)
  rw [← had] at HBA HBK
  rw [← hkk] at HBK ⊢
  have HL := Aside0.mk (show (encK kk).toArray.size = 34 by rw [hkk]; exact encA34 (keyP_length p))
  have HK1 := Aside0.mk (encKA_one kk)
  have H34 := Aside0.mk (show kk.length = 34 by rw [hkk]; exact keyP_length p)
  clear had hkk
  go_enter Try.func32, Try.ntmps32
  go_upto_region 1 with fail
  rw [← hg, ← hw0]
  clear hg hw0 hz
  go_wp2_with (first | (refine wpList_build_of1 rfl 27 1 (.tmp 3) rfl (u := .int .u16 p) (r := va ad) rfl (HBA.out _) ?_) | (refine wpList_build_of1 rfl 29 0 (.tmp 4) rfl (u := va ad) (r := kv kk) rfl (HBK.out _) ?_) | (refine wpList_store_row rfl 29 (.tmp 2) (.tmp 5) rfl g _ rfl rfl 29 _ HG0.out (by rw [HL.out]; exact infoK1) (by rw [HL.out]; rfl) HK1.out ?_))
  exact bodyPost_ret (results_cell1 rfl _ _ g rfl (box_key H34.out (setRow_heap w0 g _ (encK kk).toArray 29 (0, 0) HG0.out))) rfl ⟨rfl, below_sr HB0.out HGE.out _⟩
end Go.Proofs.Ytikpgmajiafhgaa.Fl
/- flow: single steps inside a fence. -/
namespace Go.Proofs.Ytikpgmajiafhgaa.Fl
open Go.Shelf
open Go.RowKit Go.Proofs.YtikpgmajiafhgaaW.PrintWords Go.Proofs.YtikpgmajiafhgaaW.PrintLast Go.Proofs.YtikpgmajiafhgaaW.PrintMore Go.Proofs.Ytikpgmajiafhgaa.X Go.Proofs.Ytikpgmajiafhgaa.M
set_option linter.unusedVariables false
set_option linter.unusedSimpArgs false
section
variable {F : Fence} {n : Nat} {P : Program} {ops : Array Oper} {rest : List Oper} {o o1 o2 : Oper} {a : Act} {Q : Exit → Act → World → Prop} {w w' : World}
theorem in_value (hF : ∀ f, F.fn f) (hgd : o.guard = none) (hnd : ∀ c, o.op ≠ .defer c) {v : Value} (h : (execOp a.eval o).run P w = .ok (.value v) w') (hk : wpListIn F n P ops Q rest (a.put o.dst v) w') : wpListIn F n P ops Q (o :: rest) a w := by
  refine wpListIn_plain hgd fun K hK' => ?_
  unfold Oper.wpIn
  refine ⟨fun f _ => hF f, ?_⟩
  rw [Oper.semAt_plain F _ _ hnd, h]
  exact hK' _ _ hk
theorem in_skip (hF : ∀ f, F.fn f) (hgd : o.guard = none) (hnd : ∀ c, o.op ≠ .defer c) (h : (execOp a.eval o).run P w = .ok .skip w') (hk : wpListIn F n P ops Q rest (a.put o.dst undef) w') : wpListIn F n P ops Q (o :: rest) a w := by
  refine wpListIn_plain hgd fun K hK' => ?_
  unfold Oper.wpIn
  refine ⟨fun f _ => hF f, ?_⟩
  rw [Oper.semAt_plain F _ _ hnd, h]
  exact hK' _ _ hk
theorem run_store_of {g : Nat} {ty : TypeId} (x y : Operand) (ho : o.op = .store ty x y) (cells : Array Value) (hx : a.eval x = .pointer (some ⟨g, 0, none⟩)) (hy : a.eval y = .agg cells)
    (t : TypeId) (old : Array Value) (hg : w.heap[g]? = some (.cells old t (0, 0))) (hi : (P.info? ty).map (·.size) = some cells.size)
    (hold : old.size = cells.size) (h1 : cells.all (·.oneCell') = true) : (execOp a.eval o).run P w = .ok .skip (w.setRow g cells) := by
  unfold execOp
  simp only [ho, hx, hy, Instr.storeAt, Instr.sureAddr, Sem.run_bind, Sem.run_pure, Result.andThen_ok, run_storeVar_row w g t ty old cells hg hi hold h1]
theorem run_alloc_of {ty : TypeId} (ho : o.op = .alloc ty) {zs : Array Value} (hz : (zeroValue ty).run P w = .ok (.agg zs) w) : (execOp a.eval o).run P w = .ok (.value (.pointer (some ⟨w.heap.size, 0, none⟩))) (w.alloc (.cells zs ty)) := by
  unfold execOp
  simp only [ho]
  simp [go_sem, hz, Instr.alloc, newVar, Value.cells]
/-- A variable that is made and written. -/
theorem in_box (hF : ∀ f, F.fn f) (hg1 : o1.guard = none) (hg2 : o2.guard = none) (ty : TypeId) (d : Tmp) (x : Operand) (h1 : o1.op = .alloc ty) (hd : o1.dst = some d) (h2 : o2.op = .store ty (.tmp d) x) (hd2 : o2.dst = none)
    {zs cs : Array Value} (hz : ∀ w, (zeroValue ty).run P w = .ok (.agg zs) w) (hsz : zs.size = cs.size) (hone : cs.all (·.oneCell') = true) (hi : (P.info? ty).map (·.size) = some cs.size)
    (hp : (a.put (some d) (.pointer (some ⟨w.heap.size, 0, none⟩))).eval (.tmp d) = .pointer (some ⟨w.heap.size, 0, none⟩)) (hx : (a.put (some d) (.pointer (some ⟨w.heap.size, 0, none⟩))).eval x = .agg cs)
    (hk : wpListIn F n P ops Q rest (a.put (some d) (.pointer (some ⟨w.heap.size, 0, none⟩))) (w.alloc (.cells cs ty))) : wpListIn F n P ops Q (o1 :: o2 :: rest) a w := by
  refine in_value hF hg1 (by rw [h1]; intro c hc; cases hc) (run_alloc_of h1 (hz w)) ?_
  rw [hd]
  refine in_skip hF hg2 (by rw [h2]; intro c hc; cases hc) (run_store_of (.tmp d) x h2 cs hp hx ty zs (blk_new w _) hi hsz hone) ?_
  rw [hd2, setRow_new rfl]
  exact hk
end
theorem encK34 {k : List Int} (h : k.length = 34) : (encK kz).toArray.size = (encK k).toArray.size := by rw [encA34 h]; rfl
theorem infoK2 {k : List Int} (h : k.length = 34) : (Try.prog.info? 29).map (·.size) = some (encK k).toArray.size := by rw [encA34 h]; exact infoK1
theorem zeroE : ∀ w : World, (zeroValue 43).run Try.prog w = .ok (ev 0 0) w := fun w => by kernel_rfl
section
variable {F : Fence} {n : Nat} {ops : Array Oper} {rest : List Oper} {o1 o2 : Oper} {a : Act} {Q : Exit → Act → World → Prop} {w : World}
theorem in_boxK (hF : ∀ f, F.fn f) (hg1 : o1.guard = none) (hg2 : o2.guard = none) (d : Tmp) (x : Operand) (h1 : o1.op = .alloc 29) (hd : o1.dst = some d) (h2 : o2.op = .store 29 (.tmp d) x) (hd2 : o2.dst = none) (k : List Int) (h34 : k.length = 34)
    (hp : (a.put (some d) (.pointer (some ⟨w.heap.size, 0, none⟩))).eval (.tmp d) = .pointer (some ⟨w.heap.size, 0, none⟩)) (hx : (a.put (some d) (.pointer (some ⟨w.heap.size, 0, none⟩))).eval x = kv k)
    (hk : wpListIn F n Try.prog ops Q rest (a.put (some d) (.pointer (some ⟨w.heap.size, 0, none⟩))) (w.alloc (.cells (encK k).toArray 29))) : wpListIn F n Try.prog ops Q (o1 :: o2 :: rest) a w :=
  in_box hF hg1 hg2 _ d x h1 hd h2 hd2 zeroK (encK34 h34) (encKA_one k) (infoK2 h34) hp hx hk
theorem in_boxE (hF : ∀ f, F.fn f) (hg1 : o1.guard = none) (hg2 : o2.guard = none) (d : Tmp) (x : Operand) (h1 : o1.op = .alloc 43) (hd : o1.dst = some d) (h2 : o2.op = .store 43 (.tmp d) x) (hd2 : o2.dst = none) (bk la : Int)
    (hp : (a.put (some d) (.pointer (some ⟨w.heap.size, 0, none⟩))).eval (.tmp d) = .pointer (some ⟨w.heap.size, 0, none⟩)) (hx : (a.put (some d) (.pointer (some ⟨w.heap.size, 0, none⟩))).eval x = ev bk la)
    (hk : wpListIn F n Try.prog ops Q rest (a.put (some d) (.pointer (some ⟨w.heap.size, 0, none⟩))) (w.alloc (.cells #[.int .i64 bk, .int .u64 la] 43))) : wpListIn F n Try.prog ops Q (o1 :: o2 :: rest) a w :=
  in_box (cs := #[.int .i64 bk, .int .u64 la]) hF hg1 hg2 _ d x h1 hd h2 hd2 zeroE rfl (by rw [Array.all_eq_true']; intro v hv; simp at hv; rcases hv with rfl | rfl <;> rfl) infoE1 hp hx hk
end
section
variable {w : World} {O : Nat → Prop} {b : Nat} {m i : Int} {R R' : List Rw}
theorem put_is (h : Tw w O b m i R) {k key : List Int} {bk now er : Int} {evd : Bool} (hk : KeyOk k) (hp : putS m i R k bk now = (R', key, evd, er)) :
    Calls Try.prog 23 #[.pointer (some ⟨b, 0, none⟩), kv k, .int .i64 bk, .int .u64 now] w fun en w' => en = .returned (.tuple #[kv key, .bool evd, .int .i64 er]) ∧ Out w O b m i R' w' := by
  have h1 := put_tw h hk bk now
  rw [hp] at h1
  exact h1
theorem get_is (h : Tw w O b m i R) {k : List Int} {now bk : Int} {ok : Bool} (hk : KeyOk k) (hp : getS i R k now = (R', bk, ok)) :
    Calls Try.prog 26 #[.pointer (some ⟨b, 0, none⟩), kv k, .int .u64 now] w fun en w' => en = .returned (.tuple #[.int .i64 bk, .bool ok]) ∧ Out w O b m i R' w' := by
  have h1 := get_tw h hk now
  rw [hp] at h1
  exact h1
theorem of_is (h : Tw w O b m i R) {k : List Int} {bk la : Int} {ok : Bool} (hk : KeyOk k) (hp : ofS R k = (bk, la, ok)) :
    Calls Try.prog 13 #[.pointer (some ⟨b, 0, none⟩), kv k] w fun en w' => en = .returned (.tuple #[ev bk la, .bool ok]) ∧ Below w.heap.size w w' := by
  have h1 := of_tw h hk
  rw [hp] at h1
  exact h1
theorem sweep_is (h : Tw w O b m i R) {now c : Int} (hp : sweepS R i now = R') (hc : (R.length : Int) - (R'.length : Int) = c) :
    Calls Try.prog 27 #[.pointer (some ⟨b, 0, none⟩), .int .u64 now] w fun en w' => en = .returned (.int .i64 c) ∧ Out w O b m i R' w' := by
  have h1 := sweep_tw h now
  rw [hp, hc] at h1
  exact h1
theorem forget_is (h : Tw w O b m i R) {bk c : Int} (hp : forgetS R bk = R') (hc : (R.length : Int) - (R'.length : Int) = c) :
    Calls Try.prog 28 #[.pointer (some ⟨b, 0, none⟩), .int .i64 bk] w fun en w' => en = .returned (.int .i64 c) ∧ Out w O b m i R' w' := by
  have h1 := forget_tw h bk
  rw [hp, hc] at h1
  exact h1
theorem len_is (h : Tw w O b m i R) {c : Int} (hc : (R.length : Int) = c) :
    Calls Try.prog 22 #[.pointer (some ⟨b, 0, none⟩)] w fun en w' => en = .returned (.int .i64 c) ∧ w' = w := by
  rw [← hc]
  exact len_tw h
end
theorem rf_gen {F : Fence} {n : Nat} {P : Program} {c : Code} {Q : Exit → Act → World → Prop} {a : Act} {w : World} (h : ∀ A, A = a → c.wpIn F n P Q A w) : c.wpIn F n P Q a w := h a rfl
theorem kept_blk {W W' : World} {row : Option Nat} {b t : Nat} {cs : Array Value} (h : W.heap[b]? = some (.cells cs t (0, 0))) (hg : W.grownBy W' row) (hr : ∀ r, row = some r → ∃ o : Obj, W.heap[r]? = some o ∧ o.isCells = false) : W'.heap[b]? = some (.cells cs t (0, 0)) := by
  refine (hg.block b (Array.getElem?_eq_some_iff.1 h).1 (fun e => ?_)).trans h
  obtain ⟨o, ho, hc⟩ := hr b e.symm
  rw [h] at ho
  cases ho
  cases hc
/-- The two variables of a round. -/
def Vars (B : Nat) (x : Rk) (g6 g7 : Nat) (W : World) : Prop := W.heap[g6]? = some (.cells (encK x.1.ky).toArray 29 (0, 0)) ∧ W.heap[g7]? = some (.cells #[.int .i64 x.1.bk, .int .u64 x.1.la] 43 (0, 0)) ∧ B ≤ g6 ∧ B ≤ g7
theorem ownVars {B : Nat} (x : Rk) (p : Nat → Nat → Prop) : OwnFrom B (fun (_ : Unit) W => ∃ g6 g7, p g6 g7 ∧ Vars B x g6 g7 W) := by
  rintro _ A C row ⟨g6, g7, hp, h6, h7, hl⟩ hg hr
  exact ⟨g6, g7, hp, kept_blk h6 hg (fun r e => (hr r e).2), kept_blk h7 hg (fun r e => (hr r e).2), hl⟩
theorem keepsFrom_below {B : Nat} {W W' : World} (h : Below W.heap.size W W') : KeepsFrom B W W' := ⟨h.size, fun k o _ hk _ => (h.block k (blk_lt hk)).trans hk⟩
theorem KpT.below {n : Nat} {W W' : World} (h : Below W.heap.size W W') : KpT n W W' := ⟨h.size, fun k cs t _ hk _ => h.block k (blk_lt hk)⟩
theorem keepsFrom_put {B : Nat} (W : World) (p : Addr) (v : Value) : KeepsFrom B W (W.setCell p v) := (KeepsOthers.setCell W p v).from B
theorem KpT.put {n : Nat} (W : World) {p : Addr} (hp : p.block < n) (v : Value) : KpT n W (W.setCell p v) := ⟨by rw [size_put]; exact Nat.le_refl _, fun k cs t hk h _ => Below.heap_setCell W p v k (fun e => by omega)⟩
theorem KpT.refl (n : Nat) (W : World) : KpT n W W := ⟨Nat.le_refl _, fun _ _ _ _ _ _ => rfl⟩
theorem EnvB.put {B : Nat} {w W : World} (pre : List Th) {post : List Th} {g : Nat} {cs : Array Value} {ty : TypeId} (h : EnvB B w W (pre ++ thB g cs ty :: post)) (j : Nat) (v : Value) {cs' : Array Value} (hc : cs.setIfInBounds j v = cs') : EnvB B w (W.setCell ⟨g, j, none⟩ v) (pre ++ thB g cs' ty :: post) := by
  refine ⟨h.1.put pre j v hc, fun t ht k hk => ?_, by rw [size_put]; exact h.2.2⟩
  rcases List.mem_append.1 ht with h1 | h1
  · exact h.2.1 t (List.mem_append_left _ h1) k hk
  · rcases List.mem_cons.1 h1 with rfl | h1
    · exact h.2.1 (thB g cs ty) (List.mem_append_right _ List.mem_cons_self) k hk
    · exact h.2.1 t (List.mem_append_right _ (List.mem_cons_of_mem _ h1)) k hk
theorem EnvB.lt {B : Nat} {w W : World} {ts : List Th} (h : EnvB B w W ts) (i : Nat) {g : Nat} {cs : Array Value} {ty : TypeId} (ht : ts[i]? = some (thB g cs ty)) : g < B := h.2.1 _ (List.mem_of_getElem? ht) g rfl
theorem vars_new {B : Nat} (x : Rk) (W : World) (hB : B ≤ W.heap.size) : Vars B x W.heap.size (W.heap.size + 1) ((W.alloc (.cells (encK x.1.ky).toArray 29)).alloc (.cells #[.int .i64 x.1.bk, .int .u64 x.1.la] 43)) := by
  refine ⟨blk_alloc (blk_new W _) _, ?_, hB, by omega⟩
  have h := blk_new (W.alloc (.cells (encK x.1.ky).toArray 29)) (.cells #[.int .i64 x.1.bk, .int .u64 x.1.la] 43)
  rw [World.size_alloc] at h
  exact h
theorem Vars.below {B : Nat} {x : Rk} {g6 g7 : Nat} {W W' : World} (h : Vars B x g6 g7 W) (hb : Below W.heap.size W W') : Vars B x g6 g7 W' := ⟨blk_below h.1 hb, blk_below h.2.1 hb, h.2.2⟩
theorem zip2 (p q : Tmp) (u v : Value) (T : Array Value) : ((#[p, q] : Array Tmp).zip #[u, v]).foldl (fun t (p, v) => t.setIfInBounds p v) T = (T.setIfInBounds p u).setIfInBounds q v := by simp
/-- The block for the rounds' deferred calls. -/
def thD (D : Nat) : Th := ⟨fun k => k = D, fun W => W.heap[D]? = some (.deferred (some [])), fun _ _ h hs _ => (hs D rfl).trans h, fun _ h k hk => by subst hk; exact (Array.getElem?_eq_some_iff.1 h).1⟩
theorem EnvB.addD {B D : Nat} {w W : World} {ts : List Th} (h : EnvB B w W ts) (hB : B ≤ D) (hw : w.heap.size ≤ B) (hK : W.heap[D]? = some (.deferred (some []))) : Env w W (thD D :: ts) := by
  refine ⟨h.1.bel, fun t ht => ?_, List.pairwise_cons.2 ⟨fun s hs k hk hk2 => ?_, h.1.apart⟩⟩
  · rcases List.mem_cons.1 ht with rfl | ht
    · exact ⟨hK, fun k hk => by have hk' : k = D := hk; omega⟩
    · exact h.1.tab t ht
  · have hk' : k = D := hk
    have := h.2.1 s hs k hk2
    omega
/-- Two bytes of a row. -/
def thC (g i j : Nat) (x y : Int) : Th := ⟨fun k => k = g, fun W => W.cell? ⟨g, i, none⟩ = some (.int .u8 x) ∧ W.cell? ⟨g, j, none⟩ = some (.int .u8 y), fun W W' h hs _ => by
    have he := hs g rfl
    have hc : ∀ q, W'.cell? ⟨g, q, none⟩ = W.cell? ⟨g, q, none⟩ := fun q => by unfold World.cell?; simp only [he]
    rw [hc, hc]; exact h, fun W h k hk => by subst hk; exact World.block_lt_of_cell? _ _ h.1⟩
theorem R_u8_cell {W : World} {base n c : Nat} {ok : Nat → Prop} {A : Option Addr} {l : List Int} (h : Kd.R (Kd.int .u8) 5 W base ok (.slice A n c) l) (hn : 0 < l.length) : ∃ g, A = some ⟨g, 0, none⟩ ∧ base ≤ g ∧ ∀ j x, l[j]? = some x → W.cell? ⟨g, j, none⟩ = some (.int .u8 x) := by
  obtain ⟨g, cap, hg, hb⟩ := Kd.R_form h hn
  injection hg with h1 h2 h3
  have hR := Kd.R_reads' h
  refine ⟨g, h1, ?_, fun j x hx => ?_⟩
  · exact hb.1
  · subst h1
    obtain ⟨ad, hA, hcell⟩ := hR.2.2.2.2 hn
    injection hA with hA
    subst hA
    obtain ⟨cs, _, hK, hc⟩ := hcell j x hx
    have hK' : cs = [.int .u8 x] := hK
    subst hK'
    have h1 := hc 0 (.int .u8 x) rfl
    rw [Addr.add_mid] at h1
    rw [show 0 + (j * (Kd.int .u8).sz + 0) = j from (show 0 + (j * 1 + 0) = j by omega)] at h1
    exact h1
theorem load_b {W : World} {g : Nat} {x : Bool} (h : W.heap[g]? = some (.cells #[.bool x] 4 (0, 0))) : (loadVar 4 ⟨g, 0, none⟩).run Try.prog W = .ok (.bool x) W := by
  have hc := blk_cell h 0
  simp at hc
  go_simp
theorem Env.put_obj {w W : World} {ts : List Th} {D : Nat} (h : Env w W (thD D :: ts)) (o : Obj) : Env w (W.putObj D o) ts := by
  have hD := h.tab (thD D) List.mem_cons_self
  have hlt : D < W.heap.size := (Array.getElem?_eq_some_iff.1 hD.1).1
  refine ⟨h.bel.grown (grownBy_putObj' W D o) h.bel.size (fun k e => by cases e; exact hD.2 D rfl), fun t ht => ?_, (List.pairwise_cons.1 h.apart).2⟩
  have h2 := h.tab t (List.mem_cons_of_mem _ ht)
  exact ⟨t.st W _ h2.1 (fun k hk => World.putObj_heap_other (fun e => (List.pairwise_cons.1 h.apart).1 t ht D rfl (e ▸ hk))) (by simp), h2.2⟩
/-- A function's end behind a range over a function. -/
theorem leave_D {F : Fence} {n D : Nat} {fn : Func} {tmps : Array Value} {w W : World} {ts : List Th} {R : Ending → World → Prop} {v : Value} (h : Env w W (thD D :: ts)) (hr : ∀ W', Env w W' ts → (results fn tmps).run Try.prog W' = .ok v W' ∧ R (.returned v) W') : LeavesInM F n Try.prog fn tmps R [{ target := .collected D, args := #[] }] .returning W := by
  have hD : W.heap[D]? = some (.deferred (some [])) := (h.tab (thD D) List.mem_cons_self).1
  obtain ⟨h1, h2⟩ := hr _ (h.put_obj (.deferred none))
  exact ⟨by simp, .inl ⟨_, _, rfl, run_takeDeferred hD, v, h1, h2⟩⟩
/-! ### outside a fence -/
section
variable {P : Program} {ops : Array Oper} {rest : List Oper} {o o1 o2 : Oper} {a : Act} {Q : Exit → Act → World → Prop} {w w' : World}
theorem pl_value (hgd : o.guard = none) {v : Value} (h : (execOp a.eval o).run P w = .ok (.value v) w') (hk : wpList P ops Q rest (a.put o.dst v) w') : wpList P ops Q (o :: rest) a w := by
  refine wpList_plain hgd fun K hK' => ?_
  unfold Oper.wp
  simp only [h]
  exact hK' _ _ hk
theorem pl_skip (hgd : o.guard = none) (h : (execOp a.eval o).run P w = .ok .skip w') (hk : wpList P ops Q rest (a.put o.dst undef) w') : wpList P ops Q (o :: rest) a w := by
  refine wpList_plain hgd fun K hK' => ?_
  unfold Oper.wp
  simp only [h]
  exact hK' _ _ hk
theorem pl_box (hg1 : o1.guard = none) (hg2 : o2.guard = none) (ty : TypeId) (d : Tmp) (x : Operand) (h1 : o1.op = .alloc ty) (hd : o1.dst = some d) (h2 : o2.op = .store ty (.tmp d) x) (hd2 : o2.dst = none)
    {zs cs : Array Value} (hz : ∀ w, (zeroValue ty).run P w = .ok (.agg zs) w) (hsz : zs.size = cs.size) (hone : cs.all (·.oneCell') = true) (hi : (P.info? ty).map (·.size) = some cs.size)
    (hp : (a.put (some d) (.pointer (some ⟨w.heap.size, 0, none⟩))).eval (.tmp d) = .pointer (some ⟨w.heap.size, 0, none⟩)) (hx : (a.put (some d) (.pointer (some ⟨w.heap.size, 0, none⟩))).eval x = .agg cs)
    (hk : wpList P ops Q rest (a.put (some d) (.pointer (some ⟨w.heap.size, 0, none⟩))) (w.alloc (.cells cs ty))) : wpList P ops Q (o1 :: o2 :: rest) a w := by
  refine pl_value hg1 (run_alloc_of h1 (hz w)) ?_
  rw [hd]
  refine pl_skip hg2 (run_store_of (.tmp d) x h2 cs hp hx ty zs (blk_new w _) hi hsz hone) ?_
  rw [hd2, setRow_new rfl]
  exact hk
end
section
variable {ops : Array Oper} {rest : List Oper} {o1 o2 : Oper} {a : Act} {Q : Exit → Act → World → Prop} {w : World}
theorem pl_boxK (hg1 : o1.guard = none) (hg2 : o2.guard = none) (d : Tmp) (x : Operand) (h1 : o1.op = .alloc 29) (hd : o1.dst = some d) (h2 : o2.op = .store 29 (.tmp d) x) (hd2 : o2.dst = none) (k : List Int) (h34 : k.length = 34)
    (hp : (a.put (some d) (.pointer (some ⟨w.heap.size, 0, none⟩))).eval (.tmp d) = .pointer (some ⟨w.heap.size, 0, none⟩)) (hx : (a.put (some d) (.pointer (some ⟨w.heap.size, 0, none⟩))).eval x = kv k)
    (hk : wpList Try.prog ops Q rest (a.put (some d) (.pointer (some ⟨w.heap.size, 0, none⟩))) (w.alloc (.cells (encK k).toArray 29))) : wpList Try.prog ops Q (o1 :: o2 :: rest) a w :=
  pl_box hg1 hg2 _ d x h1 hd h2 hd2 zeroK (encK34 h34) (encKA_one k) (infoK2 h34) hp hx hk
theorem pl_boxE (hg1 : o1.guard = none) (hg2 : o2.guard = none) (d : Tmp) (x : Operand) (h1 : o1.op = .alloc 43) (hd : o1.dst = some d) (h2 : o2.op = .store 43 (.tmp d) x) (hd2 : o2.dst = none) (bk la : Int)
    (hp : (a.put (some d) (.pointer (some ⟨w.heap.size, 0, none⟩))).eval (.tmp d) = .pointer (some ⟨w.heap.size, 0, none⟩)) (hx : (a.put (some d) (.pointer (some ⟨w.heap.size, 0, none⟩))).eval x = ev bk la)
    (hk : wpList Try.prog ops Q rest (a.put (some d) (.pointer (some ⟨w.heap.size, 0, none⟩))) (w.alloc (.cells #[.int .i64 bk, .int .u64 la] 43))) : wpList Try.prog ops Q (o1 :: o2 :: rest) a w :=
  pl_box (cs := #[.int .i64 bk, .int .u64 la]) hg1 hg2 _ d x h1 hd h2 hd2 zeroE rfl (by rw [Array.all_eq_true']; intro v hv; simp at hv; rcases hv with rfl | rfl <;> rfl) infoE1 hp hx hk
end
end Go.Proofs.Ytikpgmajiafhgaa.Fl
/- flow: rows of keys, rows of calls. -/
namespace Go.Proofs.Ytikpgmajiafhgaa.Fl
open Go.RowKit Go.Proofs.YtikpgmajiafhgaaW.PrintWords Go.Proofs.YtikpgmajiafhgaaW.PrintLast Go.Proofs.YtikpgmajiafhgaaW.PrintMore Go.Proofs.Ytikpgmajiafhgaa.X Go.Proofs.Ytikpgmajiafhgaa.M
set_option linter.unusedVariables false
set_option linter.unusedSimpArgs false
def kK : Kd (List Int) where
  sz := 34
  E := []
  K := fun _ x cs => cs = encK x ∧ x.length = 34
  M := fun _ _ _ x cs => cs = encK x ∧ x.length = 34
  K_len := fun h => by rw [h.1, encK_length]; exact h.2
  K_one := fun h => by rw [h.1]; exact encK_one _
  K_below := fun _ h => h
  K_of_M := fun h => h
  M_mono := fun _ h => h
  M_bound := fun h => h
  M_move := fun _ h => h
  M_lower := fun _ h => h
/-- A call. -/
structure Cal where
  what : Int
  bk : Int
  ky : List Int
  now : Int
def encC (c : Cal) : List Value := .int .i64 c.what :: .int .i64 c.bk :: (encK c.ky ++ [.int .u64 c.now])
theorem encC_length (c : Cal) (h : c.ky.length = 34) : (encC c).length = 37 := by
  unfold encC
  simp [encK_length, h]
theorem encC_one (c : Cal) : ∀ v ∈ encC c, v.oneCell' = true := by
  intro v hv
  unfold encC at hv
  simp only [List.mem_cons, List.mem_append, List.not_mem_nil, or_false] at hv
  rcases hv with rfl | rfl | h | rfl
  · rfl
  · rfl
  · exact encK_one _ v h
  · rfl
abbrev cav (c : Cal) : Value := .agg (encC c).toArray
def kC : Kd Cal where
  sz := 37
  E := []
  K := fun _ x cs => cs = encC x ∧ x.ky.length = 34
  M := fun _ _ _ x cs => cs = encC x ∧ x.ky.length = 34
  K_len := fun h => by rw [h.1]; exact encC_length _ h.2
  K_one := fun h => by rw [h.1]; exact encC_one _
  K_below := fun _ h => h
  K_of_M := fun h => h
  M_mono := fun _ h => h
  M_bound := fun h => h
  M_move := fun _ h => h
  M_lower := fun _ h => h
section
variable {W : World} {A : Option Addr} {n : Nat}
theorem C_cells {α : Type} {d : Kd α} {l : List α} (h : d.C W A n l) {j : Nat} {x : α} (hx : l[j]? = some x) : ∃ ad cs, A = some ad ∧ d.K W x cs ∧ ∀ i v, cs[i]? = some v → W.cell? ((ad.add (j * d.sz)).add i) = some v := by
  have hj := (List.getElem?_eq_some_iff.1 hx).1
  have hn : l.length = n := h.1
  obtain ⟨ad, e, hc⟩ := h.2.2 (by omega)
  obtain ⟨cs, _, hK, hcell⟩ := hc j x hx
  exact ⟨ad, cs, e, hK, fun i v hv => by rw [Addr.add_add]; exact hcell i v hv⟩
theorem C_key {l : List (List Int)} {ad : Addr} (h : kK.C W (some ad) n l) {j : Nat} {k : List Int} (hx : l[j]? = some k) : (loadVar 29 (ad.add (j * 34))).run Try.prog W = .ok (kv k) W := by
  obtain ⟨ad2, cs, e, hK, hc⟩ := C_cells h hx
  obtain rfl := Option.some.inj e
  obtain ⟨rfl, h34⟩ : cs = encK k ∧ k.length = 34 := hK
  exact load_key h34 hc
theorem infoC1 : (Try.prog.info? 31).map (·.size) = some 37 := by kernel_rfl
theorem load_cal {ad : Addr} {c : Cal} (h34 : c.ky.length = 34) (h : ∀ j v, (encC c)[j]? = some v → W.cell? (ad.add j) = some v) : (loadVar 31 ad).run Try.prog W = .ok (cav c) W := by
  have hl := run_loadCells_list (P := Try.prog) W ad (encC c) h
  rw [encC_length c h34] at hl
  obtain ⟨i, hi, hs⟩ := Option.map_eq_some_iff.1 infoC1
  unfold loadVar
  simp [sizeOf, typeInfo, hi, hs, hl, isAgg, run_underlying (P := Try.prog) Try.underlying31]
theorem C_cal {l : List Cal} {ad : Addr} (h : kC.C W (some ad) n l) {j : Nat} {c : Cal} (hx : l[j]? = some c) : (loadVar 31 (ad.add (j * 37))).run Try.prog W = .ok (cav c) W := by
  obtain ⟨ad2, cs, e, hK, hc⟩ := C_cells h hx
  obtain rfl := Option.some.inj e
  obtain ⟨rfl, h34⟩ : cs = encC c ∧ c.ky.length = 34 := hK
  exact load_cal h34 hc
theorem C_ad {α : Type} {d : Kd α} {l : List α} (h : d.C W A n l) (hp : 0 < l.length) : ∃ ad, A = some ad := by
  obtain ⟨ad, e, _⟩ := h.2.2 (by have h1 : l.length = n := h.1; omega)
  exact ⟨ad, e⟩
end
end Go.Proofs.Ytikpgmajiafhgaa.Fl
/- flow: what comes in: keys and calls, read out of memory. -/
namespace Go.Proofs.Ytikpgmajiafhgaa.Fl
open Go.RowKit Go.Proofs.YtikpgmajiafhgaaW.PrintWords Go.Proofs.YtikpgmajiafhgaaW.PrintLast Go.Proofs.YtikpgmajiafhgaaW.PrintMore Go.Proofs.Ytikpgmajiafhgaa.X Go.Proofs.Ytikpgmajiafhgaa.M
set_option linter.unusedVariables false
set_option linter.unusedSimpArgs false
theorem co_u8 : Try.prog.cellsOf 5 = 1 := by kernel_rfl
theorem co_u16 : Try.prog.cellsOf 25 = 1 := by kernel_rfl
theorem co_int : Try.prog.cellsOf 3 = 1 := by kernel_rfl
theorem co_u64 : Try.prog.cellsOf 22 = 1 := by kernel_rfl
theorem co_ip : Try.prog.cellsOf 24 = 16 := by kernel_rfl
theorem co_A : Try.prog.cellsOf 27 = 17 := by kernel_rfl
theorem co_K : Try.prog.cellsOf 29 = 34 := by kernel_rfl
theorem co_C : Try.prog.cellsOf 31 = 37 := by kernel_rfl
section
variable {H : Type} {enc : TypeId × Value → H} {w : World} {fuel : Nat} {cs : List Value} {x : DataW H × List MemPlace}
theorem read_ip (h : DataW.trod enc Try.prog w 0 (fun _ => true) true fuel 24 cs = some x) : ∃ l : List Int, cs = l.map (Value.int .u8) ∧ l.length = 16 ∧ ∀ y ∈ l, (Lit.int .u8 y).wf = true := by
  obtain ⟨xs, m, _, _, hl, hlen, hf⟩ := DataW.trod_array Try.underlying24 h
  rw [co_ip] at hl
  have each : ∀ i, i < 16 → ∃ n : Int, cs[i]? = some (.int .u8 n) ∧ (Lit.int .u8 n).wf = true := fun i hi => by
    have h1 := hf i hi
    rw [co_u8, List.getElem?_eq_getElem (by omega)] at h1
    obtain ⟨n, hc, _, hw⟩ := DataW.trod_int Try.underlying5 h1
    refine ⟨n, ?_, hw⟩
    have h2 := congrArg (fun l => l[0]?) hc
    simp only [List.getElem?_take, List.getElem?_drop] at h2
    simpa using h2
  obtain ⟨y, hy⟩ := Go.Deep.choose_lt each
  refine ⟨(List.range 16).map y, ?_, by simp, fun z hz => ?_⟩
  · apply List.ext_getElem?
    intro i
    by_cases hi : i < 16
    · rw [(hy i hi).1]
      simp [hi]
    · rw [List.getElem?_eq_none (by omega), List.getElem?_eq_none (by simp; omega)]
  · obtain ⟨i, hi, rfl⟩ := List.mem_map.1 hz
    exact (hy i (List.mem_range.1 hi)).2
theorem read_addr (h : DataW.trod enc Try.prog w 0 (fun _ => true) true fuel 27 cs = some x) : ∃ a : List Int, cs = encA a ∧ AddrOk a := by
  obtain ⟨xs, n, _, _, hl, hlen, hf⟩ := DataW.trod_struct Try.underlying27 h
  rw [co_A] at hl
  obtain ⟨y0, e0⟩ : ∃ y, xs[0]? = some y := ⟨xs[0]'(by rw [hlen]; decide), List.getElem?_eq_getElem _⟩
  obtain ⟨y1, e1⟩ : ∃ y, xs[1]? = some y := ⟨xs[1]'(by rw [hlen]; decide), List.getElem?_eq_getElem _⟩
  have g0 := hf 0 _ rfl
  rw [e0] at g0
  change DataW.trod enc Try.prog w 0 (fun _ => true) true n 24 (List.take (Try.prog.cellsOf 24) (List.drop 0 cs)) = some y0 at g0
  have g1 := hf 1 _ rfl
  rw [e1] at g1
  change DataW.trod enc Try.prog w 0 (fun _ => true) true n 25 (List.take (Try.prog.cellsOf 25) (List.drop 16 cs)) = some y1 at g1
  rw [co_ip] at g0
  rw [co_u16] at g1
  obtain ⟨l, h0, hl0, hw0⟩ := read_ip g0
  obtain ⟨p, h1, _, hw1⟩ := DataW.trod_int Try.underlying25 g1
  rw [List.drop_zero] at h0
  have h2 : cs.drop 16 = [.int .u16 p] := by
    rw [List.take_of_length_le (by rw [List.length_drop]; omega)] at h1
    exact h1
  have hb := bounds_u16 hw1
  refine ⟨l ++ [p], ?_, by simp [hl0], ?_, ?_⟩
  · unfold encA
    rw [List.take_left' hl0, List.drop_left' hl0, ← h0]
    show cs = cs.take 16 ++ [.int .u16 p]
    rw [← h2, List.take_append_drop]
  · rw [List.take_left' hl0]; exact hw0
  · rw [List.drop_left' hl0]
    intro z hz
    rw [List.mem_singleton.1 hz]
    omega
theorem read_key (h : DataW.trod enc Try.prog w 0 (fun _ => true) true fuel 29 cs = some x) : ∃ k : List Int, cs = encK k ∧ KeyOk k := by
  obtain ⟨xs, n, _, _, hl, hlen, hf⟩ := DataW.trod_struct Try.underlying29 h
  rw [co_K] at hl
  obtain ⟨y0, e0⟩ : ∃ y, xs[0]? = some y := ⟨xs[0]'(by rw [hlen]; decide), List.getElem?_eq_getElem _⟩
  obtain ⟨y1, e1⟩ : ∃ y, xs[1]? = some y := ⟨xs[1]'(by rw [hlen]; decide), List.getElem?_eq_getElem _⟩
  have g0 := hf 0 _ rfl
  rw [e0] at g0
  change DataW.trod enc Try.prog w 0 (fun _ => true) true n 27 (List.take (Try.prog.cellsOf 27) (List.drop 0 cs)) = some y0 at g0
  have g1 := hf 1 _ rfl
  rw [e1] at g1
  change DataW.trod enc Try.prog w 0 (fun _ => true) true n 27 (List.take (Try.prog.cellsOf 27) (List.drop 17 cs)) = some y1 at g1
  rw [co_A] at g0 g1
  obtain ⟨a, h0, ha⟩ := read_addr g0
  obtain ⟨b, h1, hb⟩ := read_addr g1
  rw [List.drop_zero] at h0
  rw [List.take_of_length_le (by rw [List.length_drop]; omega)] at h1
  have e3 : (a ++ b).take 17 = a := List.take_left' ha.1
  have e4 : (a ++ b).drop 17 = b := List.drop_left' ha.1
  refine ⟨a ++ b, ?_, by unfold KeyOk; rw [e3, e4]; exact ⟨ha, hb⟩⟩
  unfold encK
  rw [e3, e4, ← h0, ← h1, List.take_append_drop]
end
theorem open_key : Opens Try.prog 29 kK KeyOk := fun H enc w fuel cs x h => by
  obtain ⟨k, hc, hk⟩ := read_key h
  exact ⟨k, ⟨hc, hk.len⟩, hk⟩
def CalOk (c : Cal) : Prop := (Lit.int .i64 c.what).wf = true ∧ (Lit.int .i64 c.bk).wf = true ∧ KeyOk c.ky ∧ (Lit.int .u64 c.now).wf = true
theorem open_cal : Opens Try.prog 31 kC CalOk := fun H enc w fuel cs x h => by
  obtain ⟨xs, n, _, _, hl, hlen, hf⟩ := DataW.trod_struct Try.underlying31 h
  rw [co_C] at hl
  obtain ⟨y0, e0⟩ : ∃ y, xs[0]? = some y := ⟨xs[0]'(by rw [hlen]; decide), List.getElem?_eq_getElem _⟩
  obtain ⟨y1, e1⟩ : ∃ y, xs[1]? = some y := ⟨xs[1]'(by rw [hlen]; decide), List.getElem?_eq_getElem _⟩
  obtain ⟨y2, e2⟩ : ∃ y, xs[2]? = some y := ⟨xs[2]'(by rw [hlen]; decide), List.getElem?_eq_getElem _⟩
  obtain ⟨y3, e3⟩ : ∃ y, xs[3]? = some y := ⟨xs[3]'(by rw [hlen]; decide), List.getElem?_eq_getElem _⟩
  have g0 := hf 0 _ rfl
  rw [e0] at g0
  change DataW.trod enc Try.prog w 0 (fun _ => true) true n 3 (List.take (Try.prog.cellsOf 3) (List.drop 0 cs)) = some y0 at g0
  have g1 := hf 1 _ rfl
  rw [e1] at g1
  change DataW.trod enc Try.prog w 0 (fun _ => true) true n 3 (List.take (Try.prog.cellsOf 3) (List.drop 1 cs)) = some y1 at g1
  have g2 := hf 2 _ rfl
  rw [e2] at g2
  change DataW.trod enc Try.prog w 0 (fun _ => true) true n 29 (List.take (Try.prog.cellsOf 29) (List.drop 2 cs)) = some y2 at g2
  have g3 := hf 3 _ rfl
  rw [e3] at g3
  change DataW.trod enc Try.prog w 0 (fun _ => true) true n 22 (List.take (Try.prog.cellsOf 22) (List.drop 36 cs)) = some y3 at g3
  rw [co_int] at g0 g1
  rw [co_K] at g2
  rw [co_u64] at g3
  obtain ⟨a, h0, _, w0⟩ := DataW.trod_int Try.underlying3 g0
  obtain ⟨b, h1, _, w1⟩ := DataW.trod_int Try.underlying3 g1
  obtain ⟨k, h2, hk⟩ := read_key g2
  obtain ⟨d, h3, _, w3⟩ := DataW.trod_int Try.underlying22 g3
  refine ⟨⟨a, b, k, d⟩, ⟨?_, hk.len⟩, w0, w1, hk, w3⟩
  rw [List.take_of_length_le (by rw [List.length_drop]; omega)] at h3
  unfold encC
  dsimp only
  rw [← h2, ← h3]
  have s1 : cs = cs.take 1 ++ cs.drop 1 := (List.take_append_drop 1 cs).symm
  have s2 : cs.drop 1 = (cs.drop 1).take 1 ++ cs.drop 2 := by rw [← List.drop_drop (i := 1) (j := 1), List.take_append_drop]
  have s3 : cs.drop 2 = (cs.drop 2).take 34 ++ cs.drop 36 := by rw [← List.drop_drop (i := 34) (j := 2), List.take_append_drop]
  rw [List.drop_zero] at h0
  rw [← s3]
  rw [h1] at s2
  rw [h0, s2] at s1
  exact s1
end Go.Proofs.Ytikpgmajiafhgaa.Fl
