/- flow: the table in memory, the walks of its inner functions -/
-- MERGED by wip/tools/merge.py
import Derived.Below
import Derived.Test.YtikpgmajiafhgaaXWords
import Derived.Test.YtikpgmajiafhgaaWEqStruct
import Derived.ChangeKeysEq
import Derived.Test.YtikpgmajiafhgaaWMore
import Derived.Test.YtikpgmajiafhgaaMB
import Derived.Test.YtikpgmajiafhgaaPuMix
import Derived.Test.YtikpgmajiafhgaaPuCat
import Derived.Test.YtikpgmajiafhgaaHeld
import Derived.Deep.LoopGhost
import Derived.Great.BuildSlice
/- flow, plain: cells in a ring, open addressing with entries that move up. -/
namespace Go.Proofs.Ytikpgmajiafhgaa.Fl
set_option linter.unusedVariables false
/-- From a on to b, in a ring of L. -/
def D (L a b : Nat) : Nat := if a ≤ b then b - a else b + L - a
/-- The next one in the ring. -/
def nxt (L c : Nat) : Nat := if c + 1 = L then 0 else c + 1
theorem D_cases (L a b : Nat) : (a ≤ b ∧ D L a b = b - a) ∨ (b < a ∧ D L a b = b + L - a) := by
  unfold D
  split
  · exact .inl ⟨by assumption, rfl⟩
  · exact .inr ⟨by omega, rfl⟩
theorem nxt_cases (L c : Nat) : (c + 1 = L ∧ nxt L c = 0) ∨ (c + 1 ≠ L ∧ nxt L c = c + 1) := by
  unfold nxt
  split
  · exact .inl ⟨by assumption, rfl⟩
  · exact .inr ⟨by assumption, rfl⟩
theorem nxt_lt {L c : Nat} (h : c < L) : nxt L c < L := by have := nxt_cases L c; omega
theorem nxt_int {L c : Nat} (h : c < L) : ((c : Int) + 1) % (L : Int) = (nxt L c : Nat) := by
  rcases nxt_cases L c with ⟨e, h2⟩ | ⟨e, h2⟩
  · rw [h2, show (c : Int) + 1 = (L : Int) by omega, Int.emod_self]
    rfl
  · rw [h2, Int.emod_eq_of_lt (by omega) (by omega)]
    omega
theorem D_lt {L a b : Nat} (ha : a < L) (hb : b < L) : D L a b < L := by have := D_cases L a b; omega
theorem D_self (L a : Nat) : D L a a = 0 := by have := D_cases L a a; omega
theorem D_zero {L a b : Nat} (ha : a < L) (hb : b < L) (h : D L a b = 0) : a = b := by have := D_cases L a b; omega
theorem D_inj {L a b c : Nat} (ha : a < L) (hb : b < L) (hc : c < L) (h : D L a b = D L a c) : b = c := by have := D_cases L a b; have := D_cases L a c; omega
theorem D_nxt {L a b : Nat} (ha : a < L) (hb : b < L) (h : nxt L b ≠ a) : D L a (nxt L b) = D L a b + 1 := by
  have := nxt_cases L b; have := D_cases L a b; have := D_cases L a (nxt L b); omega
theorem nxt_end {L a b : Nat} (ha : a < L) (hb : b < L) : nxt L b = a ↔ D L a b + 1 = L := by
  have := nxt_cases L b; have := D_cases L a b; omega
/-- Through a place on the way. -/
theorem D_through {L h e x : Nat} (hh : h < L) (he : e < L) (hx : x < L) (hp : D L h e < D L h x) : D L h x = D L h e + D L e x := by
  have := D_cases L h e; have := D_cases L h x; have := D_cases L e x; omega
theorem D_split {L h e x : Nat} (hh : h < L) (he : e < L) (hx : x < L) : (D L h e ≤ D L h x ∧ D L h x = D L h e + D L e x) ∨ (D L h x < D L h e ∧ D L h x + L = D L h e + D L e x) := by
  have := D_cases L h e; have := D_cases L h x; have := D_cases L e x; omega
/-- No way to an entry goes over an empty cell. -/
def Pr (L : Nat) (cf : Nat → Int) (hm : Int → Nat) : Prop := ∀ c, c < L → cf c ≠ -1 → ∀ d, d < L → D L (hm (cf c)) d < D L (hm (cf c)) c → cf d ≠ -1
/-- Must what is in c stay behind its home h, if e gets empty? -/
def staysN (e c h : Nat) : Bool := if e ≤ c then decide (e < h) && decide (h ≤ c) else decide (e < h) || decide (h ≤ c)
theorem stays_iff {L e c h : Nat} (he : e < L) (hc : c < L) (hh : h < L) (hec : e ≠ c) : staysN e c h = true ↔ ¬ D L h e < D L h c := by
  have h1 := D_cases L h e
  have h2 := D_cases L h c
  unfold staysN
  split <;> simp only [Bool.and_eq_true, Bool.or_eq_true, decide_eq_true_eq] <;> omega
def upd (cf : Nat → Int) (i : Nat) (v : Int) (j : Nat) : Int := if j = i then v else cf j
theorem upd_same (cf : Nat → Int) (i : Nat) (v : Int) : upd cf i v i = v := if_pos rfl
theorem upd_other (cf : Nat → Int) {i j : Nat} (v : Int) (h : j ≠ i) : upd cf i v j = cf j := if_neg h
/-- What stays while entries move up: e is empty, c is looked at. -/
structure Mv (L : Nat) (cf : Nat → Int) (hm : Int → Nat) (e c : Nat) : Prop where
  he : e < L
  hc : c < L
  ne : e ≠ c
  emp : cf e = -1
  other : ∃ z, z < L ∧ z ≠ e ∧ cf z = -1
  full : ∀ d, d < L → 0 < D L e d → D L e d < D L e c → cf d ≠ -1
  way : ∀ x, x < L → cf x ≠ -1 → ∀ d, d < L → D L (hm (cf x)) d < D L (hm (cf x)) x → d = e ∨ cf d ≠ -1
  seen : ∀ x, x < L → cf x ≠ -1 → 0 < D L e x → D L e x < D L e c → ¬ D L (hm (cf x)) e < D L (hm (cf x)) x
theorem Mv.start {L : Nat} {cf : Nat → Int} {hm : Int → Nat} (h : Pr L cf hm) (hh : ∀ n, hm n < L) {e : Nat} (he : e < L) (hL : 1 < L) (ho : ∃ z, z < L ∧ z ≠ e ∧ cf z = -1) : Mv L (upd cf e (-1)) hm e (nxt L e) := by
  have hne : e ≠ nxt L e := by have := nxt_cases L e; omega
  have h1 : D L e (nxt L e) = 1 := by rw [D_nxt he he (fun h => hne h.symm), D_self]
  refine ⟨he, nxt_lt he, hne, upd_same .., ?_, fun d _ h2 h3 => by omega, fun x hx hxe d hd hp => ?_, fun x _ _ h2 h3 => by omega⟩
  · obtain ⟨z, h2, h3, h4⟩ := ho
    exact ⟨z, h2, h3, by rw [upd_other _ _ h3]; exact h4⟩
  · have hx2 : x ≠ e := fun h2 => hxe (by rw [h2]; exact upd_same ..)
    rw [upd_other _ _ hx2] at hxe hp
    by_cases hde : d = e
    · exact .inl hde
    · right
      rw [upd_other _ _ hde]
      exact h x hx hxe d hd hp
/-- The next place is not the empty one. -/
theorem Mv.nx {L : Nat} {cf : Nat → Int} {hm : Int → Nat} {e c : Nat} (h : Mv L cf hm e c) (hc : cf c ≠ -1) : nxt L c ≠ e ∧ D L e (nxt L c) = D L e c + 1 := by
  obtain ⟨z, hz, hze, hzc⟩ := h.other
  have h1 : ¬ D L e z < D L e c := fun hlt => h.full z hz (by
    rcases Nat.eq_zero_or_pos (D L e z) with h0 | h0
    · exact absurd (D_zero h.he hz h0).symm hze
    · exact h0) hlt hzc
  have h2 : D L e z ≠ D L e c := fun he => hc (by rw [← D_inj h.he hz h.hc he]; exact hzc)
  have h3 := D_lt h.he hz
  have h4 : nxt L c ≠ e := fun he => by have := (nxt_end h.he h.hc).1 he; omega
  exact ⟨h4, D_nxt h.he h.hc h4⟩
theorem Mv.stay {L : Nat} {cf : Nat → Int} {hm : Int → Nat} {e c : Nat} (h : Mv L cf hm e c) (hh : ∀ n, hm n < L) (hc : cf c ≠ -1) (hs : staysN e c (hm (cf c)) = true) : Mv L cf hm e (nxt L c) := by
  obtain ⟨h1, h2⟩ := h.nx hc
  refine ⟨h.he, nxt_lt h.hc, fun he => h1 he.symm, h.emp, h.other, fun d hd h3 h4 => ?_, h.way, fun x hx hxe h3 h4 => ?_⟩
  · by_cases he : D L e d = D L e c
    · rw [D_inj h.he hd h.hc he]; exact hc
    · exact h.full d hd h3 (by omega)
  · by_cases he : D L e x = D L e c
    · have hxc := D_inj h.he hx h.hc he
      subst hxc
      exact (stays_iff h.he h.hc (hh _) h.ne).1 hs
    · exact h.seen x hx hxe h3 (by omega)
theorem Mv.move {L : Nat} {cf : Nat → Int} {hm : Int → Nat} {e c : Nat} (h : Mv L cf hm e c) (hh : ∀ n, hm n < L) (hc : cf c ≠ -1) (hs : ¬ staysN e c (hm (cf c)) = true) : Mv L (upd (upd cf e (cf c)) c (-1)) hm c (nxt L c) := by
  obtain ⟨h1, h2⟩ := h.nx hc
  have hne : c ≠ nxt L c := by
    intro he
    have h3 := D_lt h.he h.hc
    rw [← he] at h2
    omega
  have hp : D L (hm (cf c)) e < D L (hm (cf c)) c := by
    rcases Nat.lt_or_ge (D L (hm (cf c)) e) (D L (hm (cf c)) c) with h3 | h3
    · exact h3
    · exact absurd ((stays_iff h.he h.hc (hh _) h.ne).2 (by omega)) hs
  have hD : D L c (nxt L c) = 1 := by rw [D_nxt h.hc h.hc (fun he => hne he.symm), D_self]
  have hec : e ≠ c := h.ne
  refine ⟨h.hc, nxt_lt h.hc, hne, upd_same .., ?_, fun d _ h3 h4 => by omega, fun x hx hxe d hd hpd => ?_, fun x _ _ h3 h4 => by omega⟩
  · obtain ⟨z, hz, hze, hzc⟩ := h.other
    have hzc2 : z ≠ c := fun he => hc (by rw [← he]; exact hzc)
    exact ⟨z, hz, hzc2, by rw [upd_other _ _ hzc2, upd_other _ _ hze]; exact hzc⟩
  · have hxc : x ≠ c := fun he => hxe (by rw [he]; exact upd_same ..)
    rw [upd_other _ _ hxc] at hxe hpd
    by_cases hdc : d = c
    · exact .inl hdc
    · right
      rw [upd_other _ _ hdc]
      by_cases hde : d = e
      · rw [hde, upd_same]; exact hc
      · rw [upd_other _ _ hde]
        by_cases hxe2 : x = e
        · subst hxe2
          rw [upd_same] at hpd
          rcases h.way c h.hc hc d hd (by omega) with h3 | h3
          · exact absurd h3 hde
          · exact h3
        · rw [upd_other _ _ hxe2] at hxe hpd
          rcases h.way x hx hxe d hd hpd with h3 | h3
          · exact absurd h3 hde
          · exact h3
theorem Mv.done {L : Nat} {cf : Nat → Int} {hm : Int → Nat} {e c : Nat} (h : Mv L cf hm e c) (hh : ∀ n, hm n < L) (hc : cf c = -1) : Pr L cf hm := by
  intro x hx hxe d hd hp
  rcases h.way x hx hxe d hd hp with h1 | h1
  · subst h1
    exfalso
    have hxd : x ≠ d := fun he => hxe (by rw [he]; exact h.emp)
    have h0 : 0 < D L d x := by
      rcases Nat.eq_zero_or_pos (D L d x) with h0 | h0
      · exact absurd (D_zero hd hx h0).symm hxd
      · exact h0
    have h2 : ¬ D L d x < D L d c := fun hlt => h.seen x hx hxe h0 hlt hp
    have h3 : D L d x ≠ D L d c := fun he => hxe (by rw [D_inj hd hx h.hc he]; exact hc)
    have h4 := D_through (hh (cf x)) hd hx hp
    have h5 : D L (hm (cf x)) c < D L (hm (cf x)) x := by
      rcases D_split (hh (cf x)) hd h.hc with ⟨_, h6⟩ | ⟨h6, _⟩ <;> omega
    rcases h.way x hx hxe c h.hc h5 with h6 | h6
    · exact h.ne h6.symm
    · exact h6 hc
  · exact h1
/-- The way to an empty cell z from c gets shorter. -/
theorem to_nxt {L c z : Nat} (hc : c < L) (hz : z < L) (h : c ≠ z) : D L (nxt L c) z < D L c z := by
  have := nxt_cases L c; have := D_cases L c z; have := D_cases L (nxt L c) z; omega
end Go.Proofs.Ytikpgmajiafhgaa.Fl
/- flow: keys and nodes in memory. Written by wip/gen/flk.py. -/
namespace Go.Proofs.Ytikpgmajiafhgaa.Fl
open Go.RowKit Go.Proofs.YtikpgmajiafhgaaW.PrintWords Go.Proofs.YtikpgmajiafhgaaW.PrintLast Go.Proofs.YtikpgmajiafhgaaW.PrintMore Go.Proofs.Ytikpgmajiafhgaa.X
set_option linter.unusedVariables false
set_option linter.unusedSimpArgs false
/-- An address: sixteen bytes and a port. -/
def encA (a : List Int) : List Value := (a.take 16).map (Value.int .u8) ++ (a.drop 16).map (Value.int .u16)
/-- A key: two addresses. -/
def encK (k : List Int) : List Value := encA (k.take 17) ++ encA (k.drop 17)
theorem encA_length (a : List Int) : (encA a).length = a.length := by
  unfold encA
  rw [List.length_append, List.length_map, List.length_map, List.length_take, List.length_drop]
  omega
theorem encK_length (k : List Int) : (encK k).length = k.length := by
  unfold encK
  rw [List.length_append, encA_length, encA_length, List.length_take, List.length_drop]
  omega
abbrev va (a : List Int) : Value := .agg (encA a).toArray
abbrev kv (k : List Int) : Value := .agg (encK k).toArray
theorem encA_one (a : List Int) : ∀ v ∈ encA a, v.oneCell' = true := by
  intro v hv
  unfold encA at hv
  rcases List.mem_append.1 hv with h | h <;> (obtain ⟨x, _, rfl⟩ := List.mem_map.1 h; rfl)
theorem encK_one (k : List Int) : ∀ v ∈ encK k, v.oneCell' = true := by
  intro v hv
  unfold encK at hv
  rcases List.mem_append.1 hv with h | h
  · exact encA_one _ v h
  · exact encA_one _ v h
theorem run_eql_gen (T : TypeId) (hg : Try.prog.eqGuardType Try.prog.depth T = false) {o : Oper} {a : Act} (x y : Operand) (ho : o.op = .binOp .eql T x y T) (xs ys : Array Value) (r : Bool) (hx : a.eval x = .agg xs) (hy : a.eval y = .agg ys) (W : World) (he : (Op.equalIn 10000 T (.agg xs) (.agg ys)).run Try.prog W = .ok r W) :
    (execOp a.eval o).run Try.prog W = .ok (.value (.bool r)) W := by
  unfold execOp
  simp only [ho, hx, hy]
  go_simp
theorem run_neq_gen (T : TypeId) (hg : Try.prog.eqGuardType Try.prog.depth T = false) {o : Oper} {a : Act} (x y : Operand) (ho : o.op = .binOp .neq T x y T) (xs ys : Array Value) (r : Bool) (hx : a.eval x = .agg xs) (hy : a.eval y = .agg ys) (W : World) (he : (Op.equalIn 10000 T (.agg xs) (.agg ys)).run Try.prog W = .ok r W) :
    (execOp a.eval o).run Try.prog W = .ok (.value (.bool (!r))) W := by
  unfold execOp
  simp only [ho, hx, hy]
  go_simp
theorem part_u8 (w : World) (a : List Int) (i : Nat) (h : i < a.length) : (part 5 (a.map (Value.int .u8)).toArray (i * 1)).run Try.prog w = .ok (.int .u8 a[i]) w := by
  have hq : (a.map (Value.int .u8)).toArray[i]? = some (.int .u8 a[i]) := by simp [h]
  simp [part, isAgg, Sem.run_bind, run_underlying (P := Try.prog) Try.underlying5 w, hq]
theorem eqItems_u8 (d : Nat) (w : World) (a b : List Int) (hl : a.length = b.length) : ∀ is : List Nat, (∀ i ∈ is, i < a.length) → (Op.eqItems (d + 1) 5 1 (a.map (Value.int .u8)).toArray (b.map (Value.int .u8)).toArray is).run Try.prog w = .ok (is.all fun i => a[i]? == b[i]?) w
  | [], _ => by simp [Op.eqItems]
  | i :: is, h => by
    have hi := h i List.mem_cons_self
    have hb : i < b.length := by omega
    have he : (Op.equalIn (d + 1) 5 (.int .u8 a[i]) (.int .u8 b[i])).run Try.prog w = .ok (a[i] == b[i]) w := run_equalIn_int w d 5 .u8 .u8 _ _ Try.underlying5
    have hr := eqItems_u8 d w a b hl is (fun j hj => h j (List.mem_cons_of_mem _ hj))
    rw [Op.eqItems]
    simp only [Sem.run_bind, part_u8 w a i hi, part_u8 w b i hb, he, Result.andThen_ok]
    rw [List.all_cons, List.getElem?_eq_getElem hi, List.getElem?_eq_getElem hb]
    have hs : ((some a[i] : Option Int) == some b[i]) = (a[i] == b[i]) := by simp
    rw [hs]
    cases hc : a[i] == b[i]
    · simp
    · simpa using hr
theorem all_same (a b : List Int) (hl : a.length = b.length) (n : Nat) (hn : a.length = n) : ((List.range n).all fun i => a[i]? == b[i]?) = decide (a = b) := by
  by_cases h : a = b
  · subst h
    simp
  · rw [decide_eq_false h]
    rw [Bool.eq_false_iff]
    intro hall
    refine h (List.ext_getElem? fun i => ?_)
    rw [List.all_eq_true] at hall
    by_cases hi : i < n
    · simpa using hall i (List.mem_range.2 hi)
    · rw [List.getElem?_eq_none (by omega), List.getElem?_eq_none (by omega)]
theorem infoU8 : ∃ i, Try.prog.info? 5 = some i := by
  have : (Try.prog.info? 5).isSome = true := by kernel_rfl
  exact Option.isSome_iff_exists.1 this
theorem eq_ip (d : Nat) (w : World) (a b : List Int) (ha : a.length = 16) (hb : b.length = 16) : (Op.equalIn (d + 2) 24 (.agg (a.map (Value.int .u8)).toArray) (.agg (b.map (Value.int .u8)).toArray)).run Try.prog w = .ok (decide (a = b)) w := by
  obtain ⟨i, hi⟩ := infoU8
  rw [run_equalIn_array w (d + 1) _ _ Try.underlying24 hi, show Try.prog.cellsOf 5 = 1 by kernel_rfl, eqItems_u8 d w a b (by omega) _ (fun i hi => by have := List.mem_range.1 hi; omega), all_same a b (by omega) 16 ha]
theorem sizeIp : (Try.prog.info? 24).map (·.size) = some 16 := by kernel_rfl
theorem part_ip_run (w : World) (xs : Array Value) : (part 24 xs 0).run Try.prog w = .ok (.agg (xs.extract 0 16)) w := by
  obtain ⟨i, hi, hs⟩ := Option.map_eq_some_iff.1 sizeIp
  simp [part, isAgg, Sem.run_bind, run_underlying (P := Try.prog) Try.underlying24 w, sizeOf, typeInfo, hi, hs]
theorem part_ip (w : World) (a : List Int) (ha : a.length = 17) : (part 24 (encA a).toArray 0).run Try.prog w = .ok (.agg ((a.take 16).map (Value.int .u8)).toArray) w := by
  have he : (encA a).toArray.extract 0 16 = ((a.take 16).map (Value.int .u8)).toArray := by
    apply Array.toList_inj.1
    rw [Array.toList_extract]
    unfold encA
    simp [List.extract, ha]
  rw [part_ip_run, he]
theorem port_get (a : List Int) (ha : a.length = 17) : ∃ p, a.drop 16 = [p] := by
  have h := List.length_drop (i := 16) (l := a)
  match hd : a.drop 16, h with
  | [p], _ => exact ⟨p, rfl⟩
  | [], h => simp [ha] at h
  | _ :: _ :: _, h => simp [ha] at h
theorem part_port (w : World) (a : List Int) (ha : a.length = 17) (p : Int) (hp : a.drop 16 = [p]) : (part 25 (encA a).toArray 16).run Try.prog w = .ok (.int .u16 p) w := by
  have hq : (encA a).toArray[16]? = some (.int .u16 p) := by
    unfold encA
    rw [hp, List.getElem?_toArray, List.getElem?_append_right (by rw [List.length_map, List.length_take]; omega)]
    simp [ha]
  simp [part, isAgg, Sem.run_bind, run_underlying (P := Try.prog) Try.underlying25 w, hq]
theorem addr_same {a b : List Int} {p q : Int} (hp : a.drop 16 = [p]) (hq : b.drop 16 = [q]) : (decide (a.take 16 = b.take 16) && (p == q)) = decide (a = b) := by
  by_cases h : a = b
  · subst h
    rw [hp] at hq
    simp at hq
    simp [hq]
  · rw [decide_eq_false h, Bool.and_eq_false_iff]
    by_cases h2 : a.take 16 = b.take 16
    · right
      simp
      intro e
      refine h ?_
      rw [← List.take_append_drop 16 a, ← List.take_append_drop 16 b, h2, hp, hq, e]
    · left
      exact decide_eq_false h2
theorem ext_from (k : List Int) (hk : k.length = 34) : (encK k).toArray.extract 0 (0 + 17) = (encA (k.take 17)).toArray := by
  have h17 : (encA (k.take 17)).length = 17 := by rw [encA_length]; simp [hk]
  apply Array.toList_inj.1
  rw [Array.toList_extract]
  unfold encK
  simp [List.extract, h17]
theorem ext_to (k : List Int) (hk : k.length = 34) : (encK k).toArray.extract 17 (17 + 17) = (encA (k.drop 17)).toArray := by
  have h17 : (encA (k.take 17)).length = 17 := by rw [encA_length]; simp [hk]
  have h18 : (encA (k.drop 17)).length = 17 := by rw [encA_length]; simp [hk]
  apply Array.toList_inj.1
  rw [Array.toList_extract]
  unfold encK
  simp [List.extract, h17, h18]
  exact List.take_of_length_le (by omega)
theorem key_same (a b : List Int) : (decide (a.take 17 = b.take 17) && decide (a.drop 17 = b.drop 17)) = decide (a = b) := by
  by_cases h : a = b
  · subst h; simp
  · rw [decide_eq_false h, Bool.and_eq_false_iff]
    by_cases h2 : a.take 17 = b.take 17
    · right
      refine decide_eq_false (fun e => h ?_)
      rw [← List.take_append_drop 17 a, ← List.take_append_drop 17 b, h2, e]
    · left
      exact decide_eq_false h2
theorem stood_AF : Try.prog.stoodInHeld 27 = false := by kernel_rfl
theorem stood_KF : Try.prog.stoodInHeld 29 = false := by kernel_rfl
theorem eq_AF (d : Nat) (w : World) (a b : List Int) (ha : a.length = 17) (hb : b.length = 17) : (Op.equalIn (d + 3) 27 (va a) (va b)).run Try.prog w = .ok (decide (a = b)) w := by
  obtain ⟨p, hp⟩ := port_get a ha
  obtain ⟨q, hq⟩ := port_get b hb
  refine eqA_of Try.underlying27 stood_AF ?_
  rw [← addr_same hp hq]
  refine eqf_cons (by rfl) (part_ip w a ha) (part_ip w b hb) (eq_ip d w _ _ (by simp [ha]) (by simp [hb])) ?_
  exact eqf_last (by rfl) (part_port w a ha p hp) (part_port w b hb q hq) (run_equalIn_int w (d + 1) 25 .u16 .u16 _ _ Try.underlying25)
theorem size_AF : (Try.prog.info? 27).map (·.size) = some 17 := by kernel_rfl
theorem part_AF (w : World) (xs : Array Value) (o : Nat) : (part 27 xs o).run Try.prog w = .ok (.agg (xs.extract o (o + 17))) w := by
  obtain ⟨i, hi, hs⟩ := Option.map_eq_some_iff.1 size_AF
  simp [part, isAgg, Sem.run_bind, run_underlying (P := Try.prog) Try.underlying27 w, sizeOf, typeInfo, hi, hs]
theorem part_fromF (w : World) (k : List Int) (hk : k.length = 34) : (part 27 (encK k).toArray 0).run Try.prog w = .ok (va (k.take 17)) w := by
  rw [part_AF, ext_from k hk]
theorem part_toF (w : World) (k : List Int) (hk : k.length = 34) : (part 27 (encK k).toArray 17).run Try.prog w = .ok (va (k.drop 17)) w := by
  rw [part_AF, ext_to k hk]
theorem eq_KF (d : Nat) (w : World) (a b : List Int) (ha : a.length = 34) (hb : b.length = 34) : (Op.equalIn (d + 4) 29 (kv a) (kv b)).run Try.prog w = .ok (decide (a = b)) w := by
  refine eqA_of Try.underlying29 stood_KF ?_
  rw [← key_same a b]
  refine eqf_cons (by rfl) (part_fromF w a ha) (part_fromF w b hb) (eq_AF d w _ _ (by simp [ha]) (by simp [hb])) ?_
  exact eqf_last (by rfl) (part_toF w a ha) (part_toF w b hb) (eq_AF d w _ _ (by simp [ha]) (by simp [hb]))
theorem guard_KF : Try.prog.eqGuardType Try.prog.depth 29 = false := by kernel_rfl
theorem run_eqlKF {o : Oper} {a : Act} (x y : Operand) (ho : o.op = .binOp .eql 29 x y 29) (p q : List Int) (hp : p.length = 34) (hq : q.length = 34) (hx : a.eval x = kv p) (hy : a.eval y = kv q) (W : World) :
    (execOp a.eval o).run Try.prog W = .ok (.value (.bool (decide (p = q)))) W := by
  exact run_eql_gen 29 guard_KF x y ho _ _ _ hx hy W (eq_KF 9996 W p q hp hq)
theorem run_neqKF {o : Oper} {a : Act} (x y : Operand) (ho : o.op = .binOp .neq 29 x y 29) (p q : List Int) (hp : p.length = 34) (hq : q.length = 34) (hx : a.eval x = kv p) (hy : a.eval y = kv q) (W : World) :
    (execOp a.eval o).run Try.prog W = .ok (.value (.bool (!decide (p = q)))) W := by
  exact run_neq_gen 29 guard_KF x y ho _ _ _ hx hy W (eq_KF 9996 W p q hp hq)
theorem stood_AR : Try.prog.stoodInHeld 47 = false := by kernel_rfl
theorem stood_KR : Try.prog.stoodInHeld 49 = false := by kernel_rfl
theorem eq_AR (d : Nat) (w : World) (a b : List Int) (ha : a.length = 17) (hb : b.length = 17) : (Op.equalIn (d + 3) 47 (va a) (va b)).run Try.prog w = .ok (decide (a = b)) w := by
  obtain ⟨p, hp⟩ := port_get a ha
  obtain ⟨q, hq⟩ := port_get b hb
  refine eqA_of Try.underlying47 stood_AR ?_
  rw [← addr_same hp hq]
  refine eqf_cons (by rfl) (part_ip w a ha) (part_ip w b hb) (eq_ip d w _ _ (by simp [ha]) (by simp [hb])) ?_
  exact eqf_last (by rfl) (part_port w a ha p hp) (part_port w b hb q hq) (run_equalIn_int w (d + 1) 25 .u16 .u16 _ _ Try.underlying25)
theorem size_AR : (Try.prog.info? 47).map (·.size) = some 17 := by kernel_rfl
theorem part_AR (w : World) (xs : Array Value) (o : Nat) : (part 47 xs o).run Try.prog w = .ok (.agg (xs.extract o (o + 17))) w := by
  obtain ⟨i, hi, hs⟩ := Option.map_eq_some_iff.1 size_AR
  simp [part, isAgg, Sem.run_bind, run_underlying (P := Try.prog) Try.underlying47 w, sizeOf, typeInfo, hi, hs]
theorem part_fromR (w : World) (k : List Int) (hk : k.length = 34) : (part 47 (encK k).toArray 0).run Try.prog w = .ok (va (k.take 17)) w := by
  rw [part_AR, ext_from k hk]
theorem part_toR (w : World) (k : List Int) (hk : k.length = 34) : (part 47 (encK k).toArray 17).run Try.prog w = .ok (va (k.drop 17)) w := by
  rw [part_AR, ext_to k hk]
theorem eq_KR (d : Nat) (w : World) (a b : List Int) (ha : a.length = 34) (hb : b.length = 34) : (Op.equalIn (d + 4) 49 (kv a) (kv b)).run Try.prog w = .ok (decide (a = b)) w := by
  refine eqA_of Try.underlying49 stood_KR ?_
  rw [← key_same a b]
  refine eqf_cons (by rfl) (part_fromR w a ha) (part_fromR w b hb) (eq_AR d w _ _ (by simp [ha]) (by simp [hb])) ?_
  exact eqf_last (by rfl) (part_toR w a ha) (part_toR w b hb) (eq_AR d w _ _ (by simp [ha]) (by simp [hb]))
theorem guard_KR : Try.prog.eqGuardType Try.prog.depth 49 = false := by kernel_rfl
theorem run_eqlKR {o : Oper} {a : Act} (x y : Operand) (ho : o.op = .binOp .eql 49 x y 49) (p q : List Int) (hp : p.length = 34) (hq : q.length = 34) (hx : a.eval x = kv p) (hy : a.eval y = kv q) (W : World) :
    (execOp a.eval o).run Try.prog W = .ok (.value (.bool (decide (p = q)))) W := by
  exact run_eql_gen 49 guard_KR x y ho _ _ _ hx hy W (eq_KR 9996 W p q hp hq)
theorem run_neqKR {o : Oper} {a : Act} (x y : Operand) (ho : o.op = .binOp .neq 49 x y 49) (p q : List Int) (hp : p.length = 34) (hq : q.length = 34) (hx : a.eval x = kv p) (hy : a.eval y = kv q) (W : World) :
    (execOp a.eval o).run Try.prog W = .ok (.value (.bool (!decide (p = q)))) W := by
  exact run_neq_gen 49 guard_KR x y ho _ _ _ hx hy W (eq_KR 9996 W p q hp hq)
end Go.Proofs.Ytikpgmajiafhgaa.Fl
/- flow: a table in memory. -/
namespace Go.Proofs.Ytikpgmajiafhgaa.Fl
open Go.RowKit Go.Proofs.YtikpgmajiafhgaaW.PrintWords Go.Proofs.YtikpgmajiafhgaaW.PrintLast Go.Proofs.YtikpgmajiafhgaaW.PrintMore Go.Proofs.Ytikpgmajiafhgaa.X
set_option linter.unusedVariables false
set_option linter.unusedSimpArgs false
/-- A node: an entry's backend and last use, its key, what is ahead of it and behind it in the row of use. -/
structure Nd where
  bk : Int
  la : Int
  ky : List Int
  pv : Int
  nx : Int
def Nd.zero : Nd := ⟨0, 0, List.replicate 34 0, 0, 0⟩
def encN (x : Nd) : List Value := .int .i64 x.bk :: .int .u64 x.la :: (encK x.ky ++ [.int .i64 x.pv, .int .i64 x.nx])
theorem encN_length (x : Nd) (h : x.ky.length = 34) : (encN x).length = 38 := by
  unfold encN
  simp [encK_length, h]
theorem encN_one (x : Nd) : ∀ v ∈ encN x, v.oneCell' = true := by
  intro v hv
  unfold encN at hv
  simp only [List.mem_cons, List.mem_append, List.not_mem_nil, or_false] at hv
  rcases hv with rfl | rfl | h | rfl | rfl
  · rfl
  · rfl
  · exact encK_one _ v h
  · rfl
  · rfl
abbrev nv (x : Nd) : Value := .agg (encN x).toArray
def kN : Kd Nd where
  sz := 38
  E := []
  K := fun _ x cs => cs = encN x ∧ x.ky.length = 34
  M := fun _ _ _ x cs => cs = encN x ∧ x.ky.length = 34
  K_len := fun h => by rw [h.1]; exact encN_length _ h.2
  K_one := fun h => by rw [h.1]; exact encN_one _
  K_below := fun _ h => h
  K_of_M := fun h => h
  M_mono := fun _ h => h
  M_bound := fun h => h
  M_move := fun _ h => h
  M_lower := fun _ h => h
theorem heapN : Kd.Heap kN := ⟨fun _ h => h⟩
theorem infoN : (Try.prog.info? 91).map (fun i => (i.zero, i.size, i.bytes)) = some (some (nv Nd.zero), 38, 72) := by kernel_rfl
theorem infoI : (Try.prog.info? 3).map (fun i => (i.zero, i.size, i.bytes)) = some (some (.int .i64 0), 1, 8) := by kernel_rfl
theorem infoK : (Try.prog.info? 29).map (fun i => (i.zero, i.size, i.bytes)) = some (some (kv (List.replicate 34 0)), 34, 36) := by kernel_rfl
/-- A table. -/
structure Tb where
  most : Int
  idle : Int
  cells : List Int
  nodes : List Nd
  free : List Int
  first : Int
  last : Int
  count : Int
abbrev kI : Kd Int := Kd.int .i64
/-- A table at block b; its blocks are among O. -/
structure TabAt (W : World) (O : Nat → Prop) (b : Nat) (T : Tb) (vc vn vf : Value) : Prop where
  blk : W.heap[b]? = some (.cells #[.int .i64 T.most, .int .u64 T.idle, vc, vn, vf, .int .i64 T.first, .int .i64 T.last, .int .i64 T.count] 85 (0, 0))
  ob : O b
  rc : Kd.R kI 3 W 0 (fun k => O k ∧ k ≠ b) vc T.cells
  rn : Kd.R kN 91 W 0 (fun k => O k ∧ k ≠ b) vn T.nodes
  rf : Kd.R kI 3 W 0 (fun k => O k ∧ k ≠ b ∧ vc.ownBlock ≠ some k) vf T.free
  lt : ∀ k, O k → k < W.heap.size
/-- What is not among O stays. -/
structure Keep (O : Nat → Prop) (W W' : World) : Prop where
  below : Below 0 W W'
  same : ∀ k, k < W.heap.size → ¬ O k → W'.heap[k]? = W.heap[k]?
theorem Keep.refl (O : Nat → Prop) (W : World) : Keep O W W := ⟨Below.refl _ _, fun _ _ _ => rfl⟩
theorem Keep.trans {O O' : Nat → Prop} {W W1 W2 : World} (h : Keep O W W1) (h2 : Keep O' W1 W2) (ho : ∀ k, O' k → O k ∨ W.heap.size ≤ k) : Keep O W W2 := by
  refine ⟨h.below.trans h2.below, fun k hk hn => ?_⟩
  rw [h2.same k (Nat.lt_of_lt_of_le hk h.below.size) (fun h3 => by rcases ho k h3 with h4 | h4; exact hn h4; omega), h.same k hk hn]
theorem Keep.of_below {O : Nat → Prop} {W W' : World} (h : Below W.heap.size W W') : Keep O W W' := ⟨h.mono (Nat.zero_le _), fun k hk _ => h.block k hk⟩
/-- What lies below stays, too. -/
theorem Keep.to_below {O : Nat → Prop} {W W' : World} {n : Nat} (h : Keep O W W') (hn : n ≤ W.heap.size) (ho : ∀ k, O k → n ≤ k) : Below n W W' :=
  ⟨h.below.os, h.below.tape, h.below.output, h.below.size, fun k hk => h.same k (by omega) (fun h2 => by have := ho k h2; omega)⟩
theorem R_same {α : Type} {d : Kd α} {e : Nat} {W W' : World} {base : Nat} {ok : Nat → Prop} {v : Value} {xs : List α} (h : d.R e W base ok v xs) (hs : ∀ k, ok k → W'.heap[k]? = W.heap[k]?) : d.R e W' base ok v xs := Kd.R_move h hs
/-- A table that nobody touches. -/
theorem TabAt.same {W W' : World} {O : Nat → Prop} {b : Nat} {T : Tb} {vc vn vf : Value} (h : TabAt W O b T vc vn vf) (hs : ∀ k, O k → W'.heap[k]? = W.heap[k]?) (hz : W.heap.size ≤ W'.heap.size) : TabAt W' O b T vc vn vf :=
  ⟨(hs b h.ob).trans h.blk, h.ob, R_same h.rc (fun k hk => hs k hk.1), R_same h.rn (fun k hk => hs k hk.1), R_same h.rf (fun k hk => hs k hk.1), fun k hk => Nat.lt_of_lt_of_le (h.lt k hk) hz⟩
theorem TabAt.below {W W' : World} {O : Nat → Prop} {b : Nat} {T : Tb} {vc vn vf : Value} (h : TabAt W O b T vc vn vf) (hb : Below W.heap.size W W') : TabAt W' O b T vc vn vf :=
  h.same (fun k hk => hb.block k (h.lt k hk)) hb.size
/-- The other table's blocks are others. -/
theorem TabAt.keep {W W' : World} {O O2 : Nat → Prop} {b : Nat} {T : Tb} {vc vn vf : Value} (h : TabAt W O b T vc vn vf) (hk : Keep O2 W W') (ha : ∀ k, O k → ¬ O2 k) : TabAt W' O b T vc vn vf :=
  h.same (fun k h2 => hk.same k (h.lt k h2) (ha k h2)) hk.below.size
theorem TabAt.cell {W : World} {O : Nat → Prop} {b : Nat} {T : Tb} {vc vn vf : Value} (h : TabAt W O b T vc vn vf) (j : Nat) : W.cell? ⟨b, j, none⟩ = #[.int .i64 T.most, .int .u64 T.idle, vc, vn, vf, .int .i64 T.first, .int .i64 T.last, .int .i64 T.count][j]? := blk_cell h.blk j
end Go.Proofs.Ytikpgmajiafhgaa.Fl
/- flow: the bytes of keys, and their homes. -/
namespace Go.Proofs.Ytikpgmajiafhgaa.Fl
open Go.RowKit Go.Proofs.YtikpgmajiafhgaaW.PrintWords Go.Proofs.YtikpgmajiafhgaaW.PrintLast Go.Proofs.YtikpgmajiafhgaaW.PrintMore Go.Proofs.Ytikpgmajiafhgaa.X Go.Proofs.Ytikpgmajiafhgaa.M Go.Proofs.Ytikpgmajiafhgaa.Bv Go.Proofs.Ytikpgmajiafhgaa.PuLib Go.Proofs.Ytikpgmajiafhgaa.PuMix Go.Proofs.Ytikpgmajiafhgaa.PuCat
set_option linter.unusedVariables false
set_option linter.unusedSimpArgs false
/-- An address's numbers are in range. -/
def AddrOk (a : List Int) : Prop := a.length = 17 ∧ (∀ x ∈ a.take 16, (Lit.int .u8 x).wf = true) ∧ ∀ x ∈ a.drop 16, 0 ≤ x ∧ x < 65536
def KeyOk (k : List Int) : Prop := AddrOk (k.take 17) ∧ AddrOk (k.drop 17)
theorem KeyOk.fr {k : List Int} (h : KeyOk k) : AddrOk (k.take 17) := h.1
theorem KeyOk.to {k : List Int} (h : KeyOk k) : AddrOk (k.drop 17) := h.2
theorem AddrOk.len {a : List Int} (h : AddrOk a) : a.length = 17 := h.1
theorem KeyOk.len {k : List Int} (h : KeyOk k) : k.length = 34 := by
  have h1 := h.1.1
  have h2 := h.2.1
  rw [List.length_take] at h1
  rw [List.length_drop] at h2
  omega
/-- An address's bytes. -/
def addrB (a : List Int) : List Int := a.take 16 ++ putL ((a.drop 16).headD 0) 2
def keyB (k : List Int) : List Int := addrB (k.take 17) ++ addrB (k.drop 17)
theorem enc_port {a : List Int} (ha : a.length = 17) {p : Int} (hp : a.drop 16 = [p]) : (encA a)[16]? = some (.int .u16 p) := by
  unfold encA
  rw [hp, List.getElem?_append_right (by rw [List.length_map, List.length_take]; omega)]
  simp [ha]
theorem put2_calls (p : Int) (h0 : 0 ≤ p) (h1 : p < 65536) (w : World) : Calls Try.prog 40 #[.int .u64 p, .int .i64 2] w fun e w' => ∃ v0_ : Value, e = .returned (.tuple #[v0_, .int .i64 0]) ∧ Kd.R (Kd.int .u8) 5 w' w.heap.size (fun _ => True) v0_ (putL p 2) ∧ Below w.heap.size w w' := by
  obtain ⟨k, hk⟩ := Ev.rounds (put_ev p 2 h0 (by omega))
  have hs : putS p 2 = (putL p 2, 0) := by unfold putS; rw [if_pos ⟨by omega, by omega, by show p < 256 ^ 2; omega⟩]; rfl
  rw [hs] at hk
  exact octet_Put.calls k p 2 _ _ w hk
theorem C_u8_at {W : World} {g o : Nat} (xs : List Int) (hl : xs.length ≤ 1000000) (hc : ∀ (j : Nat) (x : Int), xs[j]? = some x → W.cell? ⟨g, o + j, none⟩ = some (.int .u8 x)) : Kd.C (Kd.int .u8) W (some ⟨g, o, none⟩) xs.length xs := by
  refine ⟨rfl, by omega, fun _ => ⟨_, rfl, fun j p hj => ⟨[.int .u8 p], rfl, rfl, fun i u hu => ?_⟩⟩⟩
  obtain ⟨hi, hv2⟩ := List.getElem?_eq_some_iff.1 hu
  obtain rfl : i = 0 := by simp at hi; omega
  simp only [List.getElem_cons_zero] at hv2
  subst hv2
  have hsz : (Kd.int .u8).sz = 1 := rfl
  rw [Addr.add_mid, hsz, Nat.mul_one, Nat.add_zero]
  exact hc j p hj
theorem enc_ip {a : List Int} {j : Nat} {x : Int} (h : (a.take 16)[j]? = some x) : (encA a)[j]? = some (.int .u8 x) := by
  unfold encA
  have hj := (List.getElem?_eq_some_iff.1 h).1
  rw [List.getElem?_append_left (by rw [List.length_map]; exact hj), List.getElem?_map, h]
  rfl
theorem join2_calls (l r : List Int) (ln rn : Nat) (hln : ln = l.length) (hrn : rn = r.length) (h1 : ln ≤ 100) (h2 : rn ≤ 100) (A B : Option Addr) (ca cb : Nat) (u : Nat) (w : World) (hA : Kd.C (Kd.int .u8) w A ln l) (hca : ln ≤ ca) (hB : Kd.C (Kd.int .u8) w B rn r) (hcb : rn ≤ cb) :
    Calls Try.prog 39 #[.slice (some ⟨w.heap.size, 0, none⟩) 2 2] (w.alloc (.cells #[.slice A ln ca, .slice B rn cb] u)) fun e w' => ∃ A' n c, e = .returned (.slice A' n c) ∧ n = ln + rn ∧ Kd.R (Kd.int .u8) 5 w' w.heap.size (fun _ => True) (.slice A' n c) (l ++ r) ∧ Below w.heap.size w w' := by
  subst hln hrn
  obtain ⟨k, hk⟩ := Ev.rounds (cat_ev [l, r] (by simp) (by intro x hx; simp at hx; rcases hx with rfl | rfl <;> omega))
  have hb0 : Below w.heap.size w (w.alloc (.cells #[.slice A l.length ca, .slice B r.length cb] u)) := below_alloc (Below.refl _ _) _
  refine (octet_Join.calls k (some ⟨w.heap.size, 0, none⟩) 2 [l, r] _ _ (two_rows hA hca hB hcb) (Nat.le_refl 2) hk).mono ?_
  rintro e w' ⟨v, rfl, hr, hb⟩
  obtain ⟨A', c', rfl⟩ := Kd.R_slice hr
  have hf : [l, r].flatten = l ++ r := by simp
  rw [hf] at hr ⊢
  exact ⟨A', _, c', rfl, List.length_append, Kd.R_lower hr hb0.size, hb0.trans (hb.mono hb0.size)⟩
set_option maxRecDepth 100000 in
theorem addr_calls (a : List Int) (ha : AddrOk a) (w : World) :
    Calls Try.prog 21 #[va a] w fun e w' => ∃ A n c, e = .returned (.slice A n c) ∧ n = (addrB a).length ∧ Kd.R (Kd.int .u8) 5 w' w.heap.size (fun _ => True) (.slice A n c) (addrB a) ∧ Below w.heap.size w w' := by
  obtain ⟨p, hp⟩ := port_get a ha.1
  have hpr : 0 ≤ p ∧ p < 65536 := ha.2.2 p (by rw [hp]; exact List.mem_singleton.2 rfl)
  have HP := Aside0.mk hpr
  have hc := enc_port ha.1 hp
  have hw : IntKind.u64.wrap p = p := wrap_id (by omega) (by omega)
  have HA := Aside0.mk ha
  have HPP := Aside0.mk hp
  clear ha hp hpr
  go_enter Try.func21, Try.ntmps21
  go_wp2_with fail
  (with_reducible refine (put2_calls p HP.out.1 HP.out.2 _).mono ?_)
  rintro en w2 ⟨v, rfl, hr, hb⟩
  obtain ⟨A2, c2, rfl⟩ := Kd.R_slice hr
  rw [putL_length] at hr ⊢
  have HC1 := Aside0.mk (show Kd.C (Kd.int .u8) w2 (some ⟨w.heap.size, 0, none⟩) 16 (a.take 16) by
    have h16 : (a.take 16).length = 16 := by rw [List.length_take, HA.out.len]; decide
    have h1 := C_u8_at (W := w2) (g := w.heap.size) (o := 0) (a.take 16) (by omega) (fun j x hx => by
      rw [Nat.zero_add]
      exact (blk_cell (blk_below (blk_new w _) hb) j).trans (by rw [List.getElem?_toArray]; exact enc_ip hx))
    rw [h16] at h1
    exact h1)
  have hrr := Kd.R_reads' hr
  rw [putL_length] at hrr
  have HC2 := Aside0.mk hrr.2.2
  have HCC := Aside0.mk hrr.2.1
  have HB2 := Aside0.mk (show Below w.heap.size w w2 from (below_alloc (Below.refl w.heap.size w) _).trans (hb.mono (below_alloc (Below.refl w.heap.size w) _).size))
  clear hc hw hr hb hrr
  go_wp2_with fail
  (with_reducible refine (join2_calls (a.take 16) (putL p 2) 16 2 (by rw [List.length_take, HA.out.len]; decide) (by rw [putL_length]) (by omega) (by omega) _ _ 16 c2 _ w2 HC1.out (Nat.le_refl _) HC2.out HCC.out).mono ?_)
  rintro en w3 ⟨A3, n3, c3, rfl, hn3, hr3, hb3⟩
  have HN3 := Aside0.mk hn3
  have HR3 := Aside0.mk (Kd.R_lower hr3 HB2.out.size)
  have HB3 := Aside0.mk (HB2.out.trans (hb3.mono HB2.out.size))
  clear hn3 hr3 hb3
  go_wp2_with fail
  go_ret
  have hab : addrB a = a.take 16 ++ putL p 2 := by unfold addrB; rw [HPP.out]; rfl
  refine ⟨_, _, _, rfl, ?_, ?_, HB3.out⟩
  · rw [hab, List.length_append, putL_length, List.length_take, HA.out.len, HN3.out]; decide
  · rw [hab]; exact HR3.out
theorem load_addr {W : World} {ad : Addr} {a : List Int} (ha : a.length = 17) (h : ∀ j v, (encA a)[j]? = some v → W.cell? (ad.add j) = some v) : (loadVar 27 ad).run Try.prog W = .ok (va a) W := by
  have hl := run_loadCells_list (P := Try.prog) W ad (encA a) h
  rw [encA_length, ha] at hl
  obtain ⟨i, hi, hz⟩ := Option.map_eq_some_iff.1 size_AF
  simp [loadVar, sizeOf, typeInfo, run_underlying Try.underlying27, hi, hz, hl]
theorem load_key {W : World} {ad : Addr} {k : List Int} (hk : k.length = 34) (h : ∀ j v, (encK k)[j]? = some v → W.cell? (ad.add j) = some v) : (loadVar 29 ad).run Try.prog W = .ok (kv k) W := by
  have hl := run_loadCells_list (P := Try.prog) W ad (encK k) h
  rw [encK_length, hk] at hl
  obtain ⟨i, hi, hz⟩ := Option.map_eq_some_iff.1 infoK
  simp only [Prod.mk.injEq] at hz
  simp [loadVar, sizeOf, typeInfo, run_underlying Try.underlying29, hi, hz.2.1, hl]
theorem encK_left {k : List Int} (hk : k.length = 34) {j : Nat} {v : Value} (h : (encA (k.take 17))[j]? = some v) : (encK k)[j]? = some v := by
  unfold encK
  rw [List.getElem?_append_left (List.getElem?_eq_some_iff.1 h).1, h]
theorem encK_right {k : List Int} (hk : k.length = 34) {j : Nat} {v : Value} (h : (encA (k.drop 17))[j]? = some v) : (encK k)[17 + j]? = some v := by
  unfold encK
  have h17 : (encA (k.take 17)).length = 17 := by rw [encA_length]; simp [hk]
  rw [List.getElem?_append_right (by omega), h17, Nat.add_sub_cancel_left, h]
theorem box_key {W : World} {g t : Nat} {k : List Int} (hk : k.length = 34) (h : W.heap[g]? = some (.cells (encK k).toArray t (0, 0))) : (loadVar 29 ⟨g, 0, none⟩).run Try.prog W = .ok (kv k) W :=
  load_key hk (fun j v hv => by rw [Addr.add_mid, Nat.zero_add]; exact (blk_cell h j).trans (by rw [List.getElem?_toArray]; exact hv))
theorem box_from {W : World} {g t : Nat} {k : List Int} (hk : k.length = 34) (h : W.heap[g]? = some (.cells (encK k).toArray t (0, 0))) : (loadVar 27 ⟨g, 0, none⟩).run Try.prog W = .ok (va (k.take 17)) W :=
  load_addr (by simp [hk]) (fun j v hv => by rw [Addr.add_mid, Nat.zero_add]; exact (blk_cell h j).trans (by rw [List.getElem?_toArray]; exact encK_left hk hv))
theorem box_to {W : World} {g t : Nat} {k : List Int} (hk : k.length = 34) (h : W.heap[g]? = some (.cells (encK k).toArray t (0, 0))) : (loadVar 27 ⟨g, 17, none⟩).run Try.prog W = .ok (va (k.drop 17)) W :=
  load_addr (by simp [hk]) (fun j v hv => by rw [Addr.add_mid]; exact (blk_cell h _).trans (by rw [List.getElem?_toArray]; exact encK_right hk hv))
theorem addrB_length {a : List Int} (h : a.length = 17) : (addrB a).length = 18 := by
  unfold addrB
  rw [List.length_append, putL_length, List.length_take, h]
  decide
set_option maxRecDepth 100000 in
set_option maxHeartbeats 1000000 in
theorem key_calls (k : List Int) (hk : KeyOk k) (w : World) :
    Calls Try.prog 19 #[kv k] w fun e w' => ∃ A c, e = .returned (.slice A 36 c) ∧ Kd.R (Kd.int .u8) 5 w' w.heap.size (fun _ => True) (.slice A 36 c) (keyB k) ∧ Below w.heap.size w w' := by
  have HK := Aside0.mk hk
  have HL := Aside0.mk hk.len
  clear hk
  go_enter Try.func19, Try.ntmps19
  go_wp2_with fail
  obtain ⟨w1, hw1⟩ : ∃ w1, w1 = w.alloc (.cells (encK k).toArray 29) := ⟨_, rfl⟩
  rw [← hw1]
  have HX1 := Aside0.mk (show w1.heap[w.heap.size]? = some (.cells (encK k).toArray 29 (0, 0)) by rw [hw1]; exact blk_new w _)
  have HB1 := Aside0.mk (show Below w.heap.size w w1 by rw [hw1]; exact below_alloc (Below.refl _ _) _)
  clear hw1
  have HSS := Aside0.mk (below_drew (Below.refl w1.heap.size w1))
  refine Held.wp_region_G (S := (fun W : World => Below w1.heap.size w1 W)) (by kernel_rfl) ?_
  change Held.wpAnyG _ _ _ _ _ 9 _ _ _
  refine Held.wpAnyG_take (i := 0) (v := (.pointer (some ⟨w.heap.size, 0, none⟩))) rfl (by kernel_rfl) (by kernel_rfl) (by kernel_rfl) (fun _ _ _ h => h) HSS.out (by first | (with_reducible rfl) | (simp [Region.wanted, yielded, Act.put]; done) | rfl) (fun W hs => by go_simp) (some 3) rfl #[true, false, false, false, false, false, false, false, false] (by kernel_rfl) ?_
  simp only [Act.put, List.setIfInBounds_toArray, List.set_cons_zero, List.set_cons_succ]
  refine Held.wpAnyG_take (i := 1) (v := (va (k.take 17))) rfl (by kernel_rfl) (by kernel_rfl) (by kernel_rfl) (fun _ _ _ h => h) HSS.out (by first | (with_reducible rfl) | (simp [Region.wanted, yielded, Act.put]; done) | rfl) (fun W hs => Held.run_load_of 27 (.tmp 3) rfl ⟨w.heap.size, 0, none⟩ rfl (box_from HL.out (blk_below HX1.out hs))) (some 4) rfl #[true, true, false, false, false, false, false, false, false] (by kernel_rfl) ?_
  simp only [Act.put, List.setIfInBounds_toArray, List.set_cons_zero, List.set_cons_succ]
  refine Held.wpAnyG_take (i := 3) (v := (.pointer (some ⟨w.heap.size, 17, none⟩))) rfl (by kernel_rfl) (by kernel_rfl) (by kernel_rfl) (fun _ _ _ h => h) HSS.out (by first | (with_reducible rfl) | (simp [Region.wanted, yielded, Act.put]; done) | rfl) (fun W hs => by go_simp) (some 6) rfl #[true, true, false, true, false, false, false, false, false] (by kernel_rfl) ?_
  simp only [Act.put, List.setIfInBounds_toArray, List.set_cons_zero, List.set_cons_succ]
  refine Held.wpAnyG_take (i := 4) (v := (va (k.drop 17))) rfl (by kernel_rfl) (by kernel_rfl) (by kernel_rfl) (fun _ _ _ h => h) HSS.out (by first | (with_reducible rfl) | (simp [Region.wanted, yielded, Act.put]; done) | rfl) (fun W hs => Held.run_load_of 27 (.tmp 6) rfl ⟨w.heap.size, 17, none⟩ rfl (box_to HL.out (blk_below HX1.out hs))) (some 7) rfl #[true, true, false, true, true, false, false, false, false] (by kernel_rfl) ?_
  simp only [Act.put, List.setIfInBounds_toArray, List.set_cons_zero, List.set_cons_succ]
  refine Held.wpAnyG_one 2 (by kernel_rfl) rfl #[true, true, true, true, true, false, false, false, false] (by kernel_rfl) (fun K hK => ?_)
  go_wp2_with fail
  (with_reducible refine (addr_calls (k.take 17) HK.out.fr _).mono ?_)
  rintro en wa ⟨A1, n1, c1, rfl, hn, hr, hbN⟩
  rw [addrB_length (by rw [List.length_take, HL.out]; decide)] at hn
  subst hn
  have hr2 := Kd.R_reads' hr
  rw [← hr2.1] at hr2
  have HC1 := Aside0.mk hr2.2.2
  have HD1 := Aside0.mk hr2.2.1
  have n1_ := Aside0.mk (HSS.out.trans (hbN.mono HSS.out.size))
  clear HSS
  have HSS := n1_
  clear n1_
  clear hr hr2 hbN
  go_wp2_with fail
  refine hK _ _ HSS.out ?_
  clear hK K
  refine Held.wpAnyG_one 5 (by kernel_rfl) rfl #[true, true, true, true, true, true, false, false, false] (by kernel_rfl) (fun K hK => ?_)
  go_wp2_with fail
  (with_reducible refine (addr_calls (k.drop 17) HK.out.to _).mono ?_)
  rintro en wb ⟨A2, n2, c2, rfl, hn, hr, hbN⟩
  rw [addrB_length (by rw [List.length_drop, HL.out])] at hn
  subst hn
  have hr2 := Kd.R_reads' hr
  rw [← hr2.1] at hr2
  have HC2 := Aside0.mk hr2.2.2
  have HD2 := Aside0.mk hr2.2.1
  have n3_ := Aside0.mk (Kd.C_below HC1.out hbN)
  clear HC1
  have HC1 := n3_
  clear n3_
  have n1_ := Aside0.mk (HSS.out.trans (hbN.mono HSS.out.size))
  clear HSS
  have HSS := n1_
  clear n1_
  clear hr hr2 hbN
  go_wp2_with fail
  refine hK _ _ HSS.out ?_
  clear hK K
  have HSX := HSS
  have HBB := Aside0.mk (HB1.out.trans (HSS.out.mono HB1.out.size))
  refine Held.wpAnyG_one 6 (by kernel_rfl) rfl #[true, true, true, true, true, true, true, false, false] (by kernel_rfl) (fun K hK => ?_)
  go_wp2_with fail
  have n1_ := Aside0.mk (below_alloc HSS.out (.cells #[.slice A1 18 c1, .slice A2 18 c2] 59))
  clear HSS
  have HSS := n1_
  clear n1_
  refine hK _ _ HSS.out ?_
  clear hK K
  refine Held.wpAnyG_one 7 (by kernel_rfl) rfl #[true, true, true, true, true, true, true, true, false] (by kernel_rfl) (fun K hK => ?_)
  go_wp2_with fail
  (with_reducible refine (join2_calls (addrB (k.take 17)) (addrB (k.drop 17)) 18 18 (addrB_length (by rw [List.length_take, HL.out]; decide)).symm (addrB_length (by rw [List.length_drop, HL.out])).symm (by omega) (by omega) A1 A2 c1 c2 _ wb HC1.out HD1.out HC2.out HD2.out).mono ?_)
  rintro en wc ⟨A3, n3, c3, rfl, hn3, hr3, hbN⟩
  subst hn3
  have HRZ := Aside0.mk (show Kd.R (Kd.int .u8) 5 wc w.heap.size (fun _ => True) (.slice A3 36 c3) (keyB k) from Kd.R_lower hr3 HBB.out.size)
  have HBZ := Aside0.mk (HBB.out.trans (hbN.mono HBB.out.size))
  have n1_ := Aside0.mk (show Below w1.heap.size w1 wc from HSX.out.trans (hbN.mono HSX.out.size))
  clear HSS hr3 hbN
  have HSS := n1_
  clear n1_
  go_wp2_with fail
  refine hK _ _ HSS.out ?_
  clear hK K
  refine Held.wpAnyG_last 8 (by kernel_rfl) rfl (by kernel_rfl) (by kernel_rfl) ?_
  go_wp2_with fail
  go_ret
  refine ⟨_, _, rfl, ?_, HBZ.out⟩
  exact HRZ.out
end Go.Proofs.Ytikpgmajiafhgaa.Fl
/- flow: home, after, over. Written by wip/gen/flm.py. -/
namespace Go.Proofs.Ytikpgmajiafhgaa.Fl
open Go.RowKit Go.Proofs.YtikpgmajiafhgaaW.PrintWords Go.Proofs.YtikpgmajiafhgaaW.PrintLast Go.Proofs.YtikpgmajiafhgaaW.PrintMore Go.Proofs.Ytikpgmajiafhgaa.X Go.Proofs.Ytikpgmajiafhgaa.M Go.Proofs.Ytikpgmajiafhgaa.Bv Go.Proofs.Ytikpgmajiafhgaa.PuLib Go.Proofs.Ytikpgmajiafhgaa.PuMix Go.Proofs.Ytikpgmajiafhgaa.PuCat
set_option linter.unusedVariables false
set_option linter.unusedSimpArgs false
/-! ### what a table's parts read -/
section
variable {W : World} {O : Nat → Prop} {b : Nat} {T : Tb} {vc vn vf : Value}
theorem TabAt.vcForm (h : TabAt W O b T vc vn vf) (hp : 0 < T.cells.length) : ∃ g cap, vc = .slice (some ⟨g, 0, none⟩) T.cells.length cap := by
  obtain ⟨g, cap, e, _⟩ := Kd.R_form h.rc hp
  exact ⟨g, cap, e⟩
theorem TabAt.vnForm (h : TabAt W O b T vc vn vf) (hp : 0 < T.nodes.length) : ∃ g cap, vn = .slice (some ⟨g, 0, none⟩) T.nodes.length cap := by
  obtain ⟨g, cap, e, _⟩ := Kd.R_form h.rn hp
  exact ⟨g, cap, e⟩
theorem C_int {A : Option Addr} {g n : Nat} {l : List Int} (h : Kd.C kI W (some ⟨g, 0, none⟩) n l) {j : Nat} {x : Int} (hx : l[j]? = some x) : W.cell? ⟨g, j, none⟩ = some (.int .i64 x) := by
  have hj := (List.getElem?_eq_some_iff.1 hx).1
  have hn : l.length = n := h.1
  obtain ⟨ad2, e, hc⟩ := h.2.2 (by omega)
  obtain rfl := Option.some.inj e
  obtain ⟨cs, _, hK, hcell⟩ := hc j x hx
  have hK' : cs = [.int .i64 x] := hK
  subst hK'
  have h1 := hcell 0 _ rfl
  have hsz : (Kd.int .i64).sz = 1 := rfl
  rw [hsz, Nat.mul_one, Nat.add_zero, Addr.add_mid, Nat.zero_add] at h1
  exact h1
theorem TabAt.cl {g n cap : Nat} (h : TabAt W O b T (.slice (some ⟨g, 0, none⟩) n cap) vn vf) {j : Nat} {x : Int} (hx : T.cells[j]? = some x) : W.cell? ⟨g, j, none⟩ = some (.int .i64 x) :=
  C_int (A := none) (Kd.R_reads' h.rc).2.2 hx
theorem C_nd {g n : Nat} {l : List Nd} (h : Kd.C kN W (some ⟨g, 0, none⟩) n l) {j : Nat} {x : Nd} (hx : l[j]? = some x) : x.ky.length = 34 ∧ ∀ i v, (encN x)[i]? = some v → W.cell? ⟨g, j * 38 + i, none⟩ = some v := by
  have hj := (List.getElem?_eq_some_iff.1 hx).1
  have hn : l.length = n := h.1
  obtain ⟨ad2, e, hc⟩ := h.2.2 (by omega)
  obtain rfl := Option.some.inj e
  obtain ⟨cs, _, hK, hcell⟩ := hc j x hx
  obtain ⟨hK1, hK2⟩ : cs = encN x ∧ x.ky.length = 34 := hK
  subst hK1
  refine ⟨hK2, fun i v hv => ?_⟩
  have h1 := hcell i v hv
  have hsz : kN.sz = 38 := rfl
  rw [hsz, Addr.add_mid, Nat.zero_add] at h1
  exact h1
theorem TabAt.nd {g n cap : Nat} (h : TabAt W O b T vc (.slice (some ⟨g, 0, none⟩) n cap) vf) {j : Nat} {x : Nd} (hx : T.nodes[j]? = some x) : x.ky.length = 34 ∧ ∀ i v, (encN x)[i]? = some v → W.cell? ⟨g, j * 38 + i, none⟩ = some v :=
  C_nd (Kd.R_reads' h.rn).2.2 hx
theorem TabAt.vcOwn {g n cap : Nat} (h : TabAt W O b T (.slice (some ⟨g, 0, none⟩) n cap) vn vf) : O g ∧ g ≠ b ∧ n = T.cells.length := ⟨(h.rc.1 g (by simp [Value.ownBlock])).1, (h.rc.1 g (by simp [Value.ownBlock])).2, (Kd.R_reads' h.rc).1⟩
theorem TabAt.vnOwn {g n cap : Nat} (h : TabAt W O b T vc (.slice (some ⟨g, 0, none⟩) n cap) vf) : O g ∧ g ≠ b ∧ n = T.nodes.length := ⟨(h.rn.1 g (by simp [Value.ownBlock])).1, (h.rn.1 g (by simp [Value.ownBlock])).2, (Kd.R_reads' h.rn).1⟩
end
/-! ### cells of a node -/
theorem encN_0 (x : Nd) : (encN x)[0]? = some (.int .i64 x.bk) := rfl
theorem encN_1 (x : Nd) : (encN x)[1]? = some (.int .u64 x.la) := rfl
theorem encN_k {x : Nd} {i : Nat} {v : Value} (h : (encK x.ky)[i]? = some v) : (encN x)[2 + i]? = some v := by
  unfold encN
  rw [show 2 + i = i + 1 + 1 by omega, List.getElem?_cons_succ, List.getElem?_cons_succ, List.getElem?_append_left (List.getElem?_eq_some_iff.1 h).1, h]
theorem encN_36 {x : Nd} (hx : x.ky.length = 34) : (encN x)[36]? = some (.int .i64 x.pv) := by
  unfold encN
  rw [show 36 = 34 + 1 + 1 by omega, List.getElem?_cons_succ, List.getElem?_cons_succ, List.getElem?_append_right (by rw [encK_length, hx]; exact Nat.le_refl _), encK_length, hx]
  rfl
theorem encN_37 {x : Nd} (hx : x.ky.length = 34) : (encN x)[37]? = some (.int .i64 x.nx) := by
  unfold encN
  rw [show 37 = 35 + 1 + 1 by omega, List.getElem?_cons_succ, List.getElem?_cons_succ, List.getElem?_append_right (by rw [encK_length, hx]; omega), encK_length, hx]
  rfl
theorem node_key {W : World} {g j : Nat} {x : Nd} (h : x.ky.length = 34 ∧ ∀ i v, (encN x)[i]? = some v → W.cell? ⟨g, j * 38 + i, none⟩ = some v) : (loadVar 29 ⟨g, j * 38 + 2, none⟩).run Try.prog W = .ok (kv x.ky) W :=
  load_key h.1 (fun i v hv => by rw [Addr.add_mid, Nat.add_assoc]; exact h.2 (2 + i) v (encN_k hv))
/-! ### home -/
def homeS (k : List Int) (L : Nat) : Int := belowS (mixS 0 [keyB k]) (L : Int)
theorem keyB_length {k : List Int} (h : k.length = 34) : (keyB k).length = 36 := by
  unfold keyB
  rw [List.length_append, addrB_length (by rw [List.length_take, h]; decide), addrB_length (by rw [List.length_drop, h])]
theorem mixS_range (a : Int) (ps : List (List Int)) : 0 ≤ mixS a ps ∧ mixS a ps < 18446744073709551616 := by
  unfold mixS endS xorsh
  exact xor_range _ _
theorem homeS_range (k : List Int) {L : Nat} (h : 0 < L) : 0 ≤ homeS k L ∧ homeS k L < L := by
  unfold homeS belowS
  rw [if_neg (by omega)]
  exact ⟨Int.emod_nonneg _ (by omega), Int.emod_lt_of_pos _ (by omega)⟩
theorem mix1_calls (l : List Int) (n : Nat) (hn : n = l.length) (hl : n ≤ 1000) (A : Option Addr) (c u : Nat) (w : World) (hA : Kd.C (Kd.int .u8) w A n l) (hc : n ≤ c) :
    Calls Try.prog 60 #[.int .u64 0, .slice (some ⟨w.heap.size, 0, none⟩) 1 1] (w.alloc (.cells #[.slice A n c] u)) fun e w' => e = .returned (.int .u64 (mixS 0 [l])) ∧ Below w.heap.size w w' := by
  subst hn
  obtain ⟨k, hk⟩ := Ev.rounds (mix_ev 0 [l] (by simp) (by intro x hx; rw [List.mem_singleton.1 hx]; omega))
  have hb0 : Below w.heap.size w (w.alloc (.cells #[.slice A l.length c] u)) := below_alloc (Below.refl _ _) _
  refine (mix_Mix.calls k 0 (some ⟨w.heap.size, 0, none⟩) 1 [l] _ _ (one_row hA hc) (Nat.le_refl 1) hk).mono ?_
  rintro e w' ⟨rfl, hb⟩
  exact ⟨rfl, hb0.trans (hb.mono hb0.size)⟩
theorem belowC (m : Int) (L : Nat) (h0 : 0 ≤ m) (hL : L ≤ 1000000) (w : World) : Calls Try.prog 59 #[.int .u64 m, .int .i64 (L : Int)] w fun e w' => e = .returned (.int .i64 (belowS m (L : Int))) ∧ Drawn0 w w' :=
  mix_Below.calls m (L : Int) _ w (below_some m (L : Int) h0 (by omega))
set_option maxRecDepth 100000 in
set_option maxHeartbeats 1000000 in
theorem home_calls (k : List Int) (hk : KeyOk k) (O : Nat → Prop) (b : Nat) (T : Tb) (vc vn vf : Value) (w : World) (hT : TabAt w O b T vc vn vf) (L : Nat) (hL : L = T.cells.length) (hL2 : L ≤ 1000000) :
    Calls Try.prog 53 #[.pointer (some ⟨b, 0, none⟩), kv k] w fun e w' => e = .returned (.int .i64 (homeS k L)) ∧ Below w.heap.size w w' := by
  have HK := Aside0.mk hk
  have HT := Aside0.mk hT
  have HL := Aside0.mk hk.len
  have HL2 := Aside0.mk hL2
  obtain ⟨Ac, cc, rfl⟩ := Kd.R_slice hT.rc
  rw [← hL] at HT
  clear hk hT hL2 hL
  go_enter Try.func53, Try.ntmps53
  go_wp2_with fail
  obtain ⟨w1, hw1⟩ : ∃ w1, w1 = w.alloc (.cells (encK k).toArray 29) := ⟨_, rfl⟩
  rw [← hw1]
  have HX1 := Aside0.mk (show w1.heap[w.heap.size]? = some (.cells (encK k).toArray 29 (0, 0)) by rw [hw1]; exact blk_new w _)
  have HB1 := Aside0.mk (show Below w.heap.size w w1 by rw [hw1]; exact below_alloc (Below.refl _ _) _)
  clear hw1
  have HTB := Aside0.mk (fun (W : World) (hb : Below w1.heap.size w1 W) => HT.out.below (HB1.out.trans (hb.mono HB1.out.size)))
  have HSS := Aside0.mk (below_drew (Below.refl w1.heap.size w1))
  refine Held.wp_region_G (S := (fun W : World => Below w1.heap.size w1 W)) (by kernel_rfl) ?_
  change Held.wpAnyG _ _ _ _ _ 11 _ _ _
  refine Held.wpAnyG_take (i := 0) (v := (kv k)) rfl (by kernel_rfl) (by kernel_rfl) (by kernel_rfl) (fun _ _ _ h => h) HSS.out (by first | (with_reducible rfl) | (simp [Region.wanted, yielded, Act.put]; done) | rfl) (fun W hs => Held.run_load_of 29 (.tmp 3) rfl ⟨w.heap.size, 0, none⟩ rfl (box_key HL.out (blk_below HX1.out hs))) (some 5) rfl #[true, false, false, false, false, false, false, false, false, false, false] (by kernel_rfl) ?_
  simp only [Act.put, List.setIfInBounds_toArray, List.set_cons_zero, List.set_cons_succ]
  refine Held.wpAnyG_take (i := 4) (v := (.pointer (some ⟨b, 0, none⟩))) rfl (by kernel_rfl) (by kernel_rfl) (by kernel_rfl) (fun _ _ _ h => h) HSS.out (by first | (with_reducible rfl) | (simp [Region.wanted, yielded, Act.put]; done) | rfl) (fun W h => by go_simp) (some 9) rfl #[true, false, false, false, true, false, false, false, false, false, false] (by kernel_rfl) ?_
  simp only [Act.put, List.setIfInBounds_toArray, List.set_cons_zero, List.set_cons_succ]
  refine Held.wpAnyG_take (i := 5) (v := (.pointer (some ⟨b, 0, none⟩))) rfl (by kernel_rfl) (by kernel_rfl) (by kernel_rfl) (fun _ _ _ h => h) HSS.out (by first | (with_reducible rfl) | (simp [Region.wanted, yielded, Act.put]; done) | rfl) (fun W hs => by go_simp) (some 10) rfl #[true, false, false, false, true, true, false, false, false, false, false] (by kernel_rfl) ?_
  simp only [Act.put, List.setIfInBounds_toArray, List.set_cons_zero, List.set_cons_succ]
  refine Held.wpAnyG_take (i := 6) (v := (.pointer (some ⟨b, 2, none⟩))) rfl (by kernel_rfl) (by kernel_rfl) (by kernel_rfl) (fun _ _ _ h => h) HSS.out (by first | (with_reducible rfl) | (simp [Region.wanted, yielded, Act.put]; done) | rfl) (fun W hs => by go_simp) (some 11) rfl #[true, false, false, false, true, true, true, false, false, false, false] (by kernel_rfl) ?_
  simp only [Act.put, List.setIfInBounds_toArray, List.set_cons_zero, List.set_cons_succ]
  refine Held.wpAnyG_take (i := 7) (v := (.slice Ac L cc)) rfl (by kernel_rfl) (by kernel_rfl) (by kernel_rfl) (fun _ _ _ h => h) HSS.out (by first | (with_reducible rfl) | (simp [Region.wanted, yielded, Act.put]; done) | rfl) (fun W hs => by have hc := (HTB.out W hs).cell 2; simp at hc; go_simp) (some 12) rfl #[true, false, false, false, true, true, true, true, false, false, false] (by kernel_rfl) ?_
  simp only [Act.put, List.setIfInBounds_toArray, List.set_cons_zero, List.set_cons_succ]
  refine Held.wpAnyG_take (i := 8) (v := (.int .i64 (L : Int))) rfl (by kernel_rfl) (by kernel_rfl) (by kernel_rfl) (fun _ _ _ h => h) HSS.out (by first | (with_reducible rfl) | (simp [Region.wanted, yielded, Act.put]; done) | rfl) (fun W hs => by go_simp) (some 13) rfl #[true, false, false, false, true, true, true, true, true, false, false] (by kernel_rfl) ?_
  simp only [Act.put, List.setIfInBounds_toArray, List.set_cons_zero, List.set_cons_succ]
  refine Held.wpAnyG_one 1 (by kernel_rfl) rfl #[true, true, false, false, true, true, true, true, true, false, false] (by kernel_rfl) (fun K hK => ?_)
  go_wp2_with fail
  (with_reducible refine (key_calls k HK.out _).mono ?_)
  rintro en wa ⟨A1, c1, rfl, hr, hbN⟩
  have hr2 := Kd.R_reads' hr
  rw [← hr2.1] at hr2
  have HC1 := Aside0.mk hr2.2.2
  have HD1 := Aside0.mk hr2.2.1
  have n1_ := Aside0.mk (HSS.out.trans (hbN.mono HSS.out.size))
  clear HSS
  have HSS := n1_
  clear n1_
  clear hr hr2 hbN
  go_wp2_with fail
  refine hK _ _ HSS.out ?_
  clear hK K
  have HSX := HSS
  refine Held.wpAnyG_one 2 (by kernel_rfl) rfl #[true, true, true, false, true, true, true, true, true, false, false] (by kernel_rfl) (fun K hK => ?_)
  go_wp2_with fail
  have n1_ := Aside0.mk (below_alloc HSS.out (.cells #[.slice A1 36 c1] 59))
  clear HSS
  have HSS := n1_
  clear n1_
  refine hK _ _ HSS.out ?_
  clear hK K
  refine Held.wpAnyG_one 3 (by kernel_rfl) rfl #[true, true, true, true, true, true, true, true, true, false, false] (by kernel_rfl) (fun K hK => ?_)
  go_wp2_with fail
  (with_reducible refine (mix1_calls (keyB k) 36 (keyB_length HL.out).symm (by omega) A1 c1 _ wa HC1.out HD1.out).mono ?_)
  rintro en wb ⟨rfl, hbN⟩
  have n1_ := Aside0.mk (HSX.out.trans (hbN.mono HSX.out.size))
  clear HSS hbN
  have HSS := n1_
  clear n1_
  obtain ⟨m, hm⟩ : ∃ m, m = mixS 0 [keyB k] := ⟨_, rfl⟩
  have HM := Aside0.mk hm
  have HM0 := Aside0.mk (show 0 ≤ m by rw [hm]; exact (mixS_range _ _).1)
  rw [← hm]
  clear hm
  go_wp2_with fail
  refine hK _ _ HSS.out ?_
  clear hK K
  refine Held.wpAnyG_one 9 (by kernel_rfl) rfl #[true, true, true, true, true, true, true, true, true, true, false] (by kernel_rfl) (fun K hK => ?_)
  go_wp2_with fail
  (with_reducible refine (belowC m L HM0.out HL2.out _).mono ?_)
  rintro en wc ⟨rfl, hds⟩
  have hbN := hds.below
  have n1_ := Aside0.mk (HSS.out.trans (hbN.mono HSS.out.size))
  clear HSS
  have HSS := n1_
  clear n1_
  clear hds hbN
  rw [HM.out]
  rw [show belowS (mixS 0 [keyB k]) (L : Int) = homeS k L from rfl]
  go_wp2_with fail
  refine hK _ _ HSS.out ?_
  clear hK K
  refine Held.wpAnyG_last 10 (by kernel_rfl) rfl (by kernel_rfl) (by kernel_rfl) ?_
  go_wp2_with fail
  go_ret
  exact ⟨rfl, HB1.out.trans (HSS.out.mono HB1.out.size)⟩
/-! ### after -/
set_option maxRecDepth 100000 in
set_option maxHeartbeats 1000000 in
theorem after_calls (c : Nat) (O : Nat → Prop) (b : Nat) (T : Tb) (vc vn vf : Value) (w : World) (hT : TabAt w O b T vc vn vf) (L : Nat) (hL : L = T.cells.length) (hL2 : L ≤ 1000000) (hc : c < L) :
    Calls Try.prog 54 #[.pointer (some ⟨b, 0, none⟩), .int .i64 (c : Int)] w fun e w' => e = .returned (.int .i64 (nxt L c : Nat)) ∧ Below w.heap.size w w' := by
  have HT := Aside0.mk hT
  have hm : Int.tmod ((c : Int) + 1) (L : Int) = (nxt L c : Nat) := by rw [Int.tmod_eq_emod_of_nonneg (by omega), nxt_int hc]
  obtain ⟨m, hmm⟩ : ∃ m : Int, m = (nxt L c : Nat) := ⟨_, rfl⟩
  rw [← hmm] at hm ⊢
  have hz : ¬ (L : Int) = 0 := by omega
  have hzb : ((L : Int) == 0) = false := beq_eq_false_iff_ne.2 hz
  have hw1 : wrap64 ((c : Int) + 1) = (c : Int) + 1 := w64_in _ (by omega) (by omega)
  have hw2 : wrap64 m = m := by have h1 := nxt_lt hc; exact w64_in _ (by omega) (by omega)
  have hn1 : (L : Int) ≠ -1 := by omega
  have hn1b : ((L : Int) == -1) = false := beq_eq_false_iff_ne.2 hn1
  obtain ⟨Ac, cc, rfl⟩ := Kd.R_slice hT.rc
  rw [← hL] at HT
  have hc2 := HT.out.cell 2
  simp at hc2
  clear hT hL2 hL hmm
  go_enter Try.func54, Try.ntmps54
  go_wp2_with fail
  go_ret
  exact ⟨rfl, Below.refl _ _⟩
/-! ### over -/
/-- Is an entry over, that was last used at la? -/
def overS (la idle now : Int) : Bool := decide (la < now) && decide (idle ≤ IntKind.u64.wrap (now - la))
set_option maxRecDepth 100000 in
set_option maxHeartbeats 1000000 in
theorem over_calls (j : Nat) (now : Int) (O : Nat → Prop) (b : Nat) (T : Tb) (vc vn vf : Value) (w : World) (hT : TabAt w O b T vc vn vf) (x : Nd) (hx : T.nodes[j]? = some x) :
    Calls Try.prog 41 #[.pointer (some ⟨b, 0, none⟩), .int .i64 (j : Int), .int .u64 now] w fun e w' => e = .returned (.bool (overS x.la T.idle now)) ∧ w' = w := by
  have hj := (List.getElem?_eq_some_iff.1 hx).1
  obtain ⟨g, cap, rfl⟩ := hT.vnForm (by omega)
  obtain ⟨hk34, hnd⟩ := hT.nd hx
  have h1 := hnd 1 _ (encN_1 x)
  have hc1 := hT.cell 1
  have hc3 := hT.cell 3
  simp at hc1 hc3
  obtain ⟨n, hn⟩ : ∃ n, n = T.nodes.length := ⟨_, rfl⟩
  rw [← hn] at hc3 hj
  obtain ⟨la, hla⟩ : ∃ la, la = x.la := ⟨_, rfl⟩
  obtain ⟨idle, hid⟩ : ∃ idle, idle = T.idle := ⟨_, rfl⟩
  rw [← hla] at h1 ⊢
  rw [← hid] at hc1 ⊢
  have e1 : ((0 : Int) ≤ (j : Int)) = True := eq_true (by omega)
  have e2 : ((j : Int) < (n : Int)) = True := eq_true (by omega)
  clear hT hx hnd hk34 hn hla hid
  unfold overS
  by_cases h2 : la < now
  · have hd : decide (la < now) = true := decide_eq_true h2
    rw [hd, Bool.true_and]
    go_enter Try.func41, Try.ntmps41
    go_wp2_with fail
    go_ret
    exact ⟨rfl, rfl⟩
  · have hd : decide (la < now) = false := decide_eq_false h2
    rw [hd, Bool.false_and]
    go_enter Try.func41, Try.ntmps41
    go_wp2_with fail
    go_ret
    exact ⟨rfl, rfl⟩
end Go.Proofs.Ytikpgmajiafhgaa.Fl
/- flow: find. Written by wip/gen/flf.py. -/
namespace Go.Proofs.Ytikpgmajiafhgaa.Fl
open Go.RowKit Go.Proofs.YtikpgmajiafhgaaW.PrintWords Go.Proofs.YtikpgmajiafhgaaW.PrintLast Go.Proofs.YtikpgmajiafhgaaW.PrintMore Go.Proofs.Ytikpgmajiafhgaa.X Go.Proofs.Ytikpgmajiafhgaa.M Go.Proofs.Ytikpgmajiafhgaa.Bv Go.Proofs.Ytikpgmajiafhgaa.PuLib Go.Proofs.Ytikpgmajiafhgaa.PuMix Go.Proofs.Ytikpgmajiafhgaa.PuCat
set_option linter.unusedVariables false
set_option linter.unusedSimpArgs false
theorem wpList_load_of {ops : Array Oper} {rest : List Oper} {o : Oper} {a : Act} {Q : Exit → Act → World → Prop} {w : World} (hgd : o.guard = none) (ty : TypeId) (x : Operand) (ho : o.op = .load ty x) (p : Addr) (hx : a.eval x = .pointer (some p)) {v : Value} (h : (loadVar ty p).run Try.prog w = .ok v w) (hk : wpList Try.prog ops Q rest (a.put o.dst v) w) : wpList Try.prog ops Q (o :: rest) a w := by
  refine wpList_plain hgd fun K hK' => ?_
  unfold Oper.wp
  simp only [Held.run_load_of ty x ho p hx h]
  exact hK' _ _ hk
/-- The search from a cell on. -/
def findF (cells : List Int) (nodes : List Nd) (k : List Int) : Nat → Nat → Option (Nat × Bool)
  | 0, _ => none
  | f + 1, c =>
    match cells[c]? with
    | none => none
    | some x =>
      if x = -1 then some (c, false)
      else if x < 0 then none
      else
        match nodes[x.toNat]? with
        | none => none
        | some nd => if nd.ky = k then some (c, true) else findF cells nodes k f (nxt cells.length c)
theorem findF_step {cells : List Int} {nodes : List Nd} {k : List Int} {f c : Nat} {o : Nat × Bool} (h : findF cells nodes k f c = some o) :
    ∃ f', f = f' + 1 ∧ ∃ x, cells[c]? = some x ∧ ((x = -1 ∧ o = (c, false)) ∨ ∃ (j : Nat) (nd : Nd), x = (j : Int) ∧ nodes[j]? = some nd ∧ ((nd.ky = k ∧ o = (c, true)) ∨ (nd.ky ≠ k ∧ findF cells nodes k f' (nxt cells.length c) = some o))) := by
  cases f with
  | zero => cases h
  | succ f =>
    refine ⟨f, rfl, ?_⟩
    unfold findF at h
    cases hc : cells[c]? with
    | none => rw [hc] at h; cases h
    | some x =>
      rw [hc] at h
      dsimp only at h
      refine ⟨x, rfl, ?_⟩
      by_cases h1 : x = -1
      · rw [if_pos h1] at h
        exact .inl ⟨h1, (Option.some.inj h).symm⟩
      · rw [if_neg h1] at h
        by_cases h2 : x < 0
        · rw [if_pos h2] at h; cases h
        · rw [if_neg h2] at h
          right
          cases hn : nodes[x.toNat]? with
          | none => rw [hn] at h; cases h
          | some nd =>
            rw [hn] at h
            dsimp only at h
            refine ⟨x.toNat, nd, by omega, hn, ?_⟩
            by_cases h3 : nd.ky = k
            · rw [if_pos h3] at h
              exact .inl ⟨h3, (Option.some.inj h).symm⟩
            · rw [if_neg h3] at h
              exact .inr ⟨h3, h⟩
set_option maxRecDepth 100000 in
set_option maxHeartbeats 2000000 in
theorem find_calls (k : List Int) (hk : KeyOk k) (O : Nat → Prop) (b : Nat) (T : Tb) (vc vn vf : Value) (w : World) (hT : TabAt w O b T vc vn vf) (hL2 : T.cells.length ≤ 1000000) (hL0 : 0 < T.cells.length) (c0 c : Nat) (hc0 : (c0 : Int) = homeS k T.cells.length) (r : Bool) (fu : Nat) (hf : findF T.cells T.nodes k fu c0 = some (c, r)) :
    Calls Try.prog 38 #[.pointer (some ⟨b, 0, none⟩), kv k] w fun e w' => e = .returned (.tuple #[.int .i64 (c : Int), .bool r]) ∧ Below w.heap.size w w' := by
  have HK := Aside0.mk hk
  have HT := Aside0.mk hT
  have HL := Aside0.mk hk.len
  have HC0 := Aside0.mk hc0
  have HF := Aside0.mk hf
  obtain ⟨L, hL⟩ : ∃ L, L = T.cells.length := ⟨_, rfl⟩
  have HLL := Aside0.mk hL
  have HL2 := Aside0.mk (show L ≤ 1000000 by omega)
  obtain ⟨gc, cc, rfl⟩ := hT.vcForm hL0
  rw [← hL] at HT HC0
  clear hk hT hL2 hL0 hc0 hf hL
  go_enter Try.func38, Try.ntmps38
  go_upto_region 1 with (fail)
  obtain ⟨w1, hw1⟩ : ∃ w1, w1 = w.alloc (.cells (encK k).toArray 29) := ⟨_, rfl⟩
  rw [← hw1]
  have HX1 := Aside0.mk (show w1.heap[w.heap.size]? = some (.cells (encK k).toArray 29 (0, 0)) by rw [hw1]; exact blk_new w _)
  have HB1 := Aside0.mk (show Below w.heap.size w w1 by rw [hw1]; exact below_alloc (Below.refl _ _) _)
  clear hw1
  have HTB := Aside0.mk (fun (W : World) (hb : Below w1.heap.size w1 W) => HT.out.below (HB1.out.trans (hb.mono HB1.out.size)))
  have HKB := Aside0.mk (fun (W : World) (hb : Below w1.heap.size w1 W) => box_key HL.out (blk_below HX1.out hb))
  go_wp2_with (refine wpList_load_of rfl 29 (.tmp 3) rfl ⟨w.heap.size, 0, none⟩ rfl (HKB.out w1 (Below.refl _ _)) ?_)
  (with_reducible refine (home_calls k HK.out O b T _ vn vf w1 (HTB.out w1 (Below.refl _ _)) L HLL.out HL2.out).mono ?_)
  rintro en w2 ⟨rfl, hb2⟩
  rw [← HC0.out]
  have HB2 := Aside0.mk hb2
  clear hb2
  go_wp2_with fail
  go_loopg [6] fu (fun kq v6 wr => ∃ c1 : Nat, v6 = .int .i64 (c1 : Int) ∧ Aside0 (findF T.cells T.nodes k kq c1 = some (c, r)) ∧ Aside0 (Below w1.heap.size w1 wr))
  case atStart => exact ⟨c0, rfl, HF, HB2⟩
  case round =>
    clear HF HB2
    obtain ⟨c1, rfl, HF, HB⟩ := hrel
    obtain ⟨f', hgk, x, hx, hor⟩ := findF_step HF.out
    have HG := Aside0.mk hgk
    have HTW := Aside0.mk (HTB.out wr HB.out)
    have hcl := HTW.out.cl hx
    have hc2 := HTW.out.cell 2
    simp at hc2
    have hlt : c1 < L := by rw [HLL.out]; exact (List.getElem?_eq_some_iff.1 hx).1
    have HLT := Aside0.mk hlt
    have e1 : ((0 : Int) ≤ (c1 : Int)) = True := eq_true (by omega)
    have e2 : ((c1 : Int) < (L : Int)) = True := eq_true (by omega)
    clear hlt hgk
    rcases hor with ⟨rfl, ho⟩ | ⟨j, nd, rfl, hn, hor⟩
    · obtain ⟨rfl, rfl⟩ := Prod.mk.inj ho
      clear ho hx HF
      go_wp2_with fail
      go_ret2
      exact ⟨rfl, HB1.out.trans (HB.out.mono HB1.out.size)⟩
    · have hjl := (List.getElem?_eq_some_iff.1 hn).1
      obtain ⟨gn, cn, rfl⟩ := HT.out.vnForm (by omega)
      obtain ⟨N, hN⟩ : ∃ N, N = T.nodes.length := ⟨_, rfl⟩
      have HND := Aside0.mk (fun (W : World) (hb : Below w1.heap.size w1 W) => (HTB.out W hb).nd hn)
      have hc3 := HTW.out.cell 3
      simp at hc3
      rw [← hN] at hc3 hjl
      have HC3 := Aside0.mk (fun (W : World) (hb : Below w1.heap.size w1 W) => show W.cell? ⟨b, 3, none⟩ = some (.slice (some ⟨gn, 0, none⟩) N cn) by have h := (HTB.out W hb).cell 3; simp at h; rw [← hN] at h; exact h)
      have HC2 := Aside0.mk (fun (W : World) (hb : Below w1.heap.size w1 W) => show W.cell? ⟨b, 2, none⟩ = some (.slice (some ⟨gc, 0, none⟩) L cc) by have h := (HTB.out W hb).cell 2; simp at h; exact h)
      have HCL := Aside0.mk (fun (W : World) (hb : Below w1.heap.size w1 W) => (HTB.out W hb).cl hx)
      have h34 : nd.ky.length = 34 := (HND.out _ HB.out).1
      have e3 : ((0 : Int) ≤ (j : Int)) = True := eq_true (by omega)
      have e4 : ((j : Int) < (N : Int)) = True := eq_true (by omega)
      have e5 : ¬ (j : Int) = -1 := by omega
      have H34 := Aside0.mk h34
      clear hx hn hN hjl h34
      rcases hor with ⟨hky, ho⟩ | ⟨hky, hf⟩
      · obtain ⟨rfl, rfl⟩ := Prod.mk.inj ho
        have HKY := Aside0.mk hky
        clear ho hky HF
        go_wp2_with fail
        have HSS := Aside0.mk (below_drew HB.out)
        clear hc2 hcl hc3
        refine Held.wp_region_G (S := (fun W : World => Below w1.heap.size w1 W)) (by kernel_rfl) ?_
        change Held.wpAnyG _ _ _ _ _ 16 _ _ _
        refine Held.wpAnyG_take (i := 0) (v := (.pointer (some ⟨b, 0, none⟩))) rfl (by kernel_rfl) (by kernel_rfl) (by kernel_rfl) (fun _ _ _ h => h) HSS.out (by first | (with_reducible rfl) | (simp [Region.wanted, yielded, Act.put]; done) | rfl) (fun W h => by go_simp) (some 18) rfl #[true, false, false, false, false, false, false, false, false, false, false, false, false, false, false, false] (by kernel_rfl) ?_
        simp only [Act.put, List.setIfInBounds_toArray, List.set_cons_zero, List.set_cons_succ]
        refine Held.wpAnyG_take (i := 1) (v := (.pointer (some ⟨b, 0, none⟩))) rfl (by kernel_rfl) (by kernel_rfl) (by kernel_rfl) (fun _ _ _ h => h) HSS.out (by first | (with_reducible rfl) | (simp [Region.wanted, yielded, Act.put]; done) | rfl) (fun W hs => by go_simp) (some 19) rfl #[true, true, false, false, false, false, false, false, false, false, false, false, false, false, false, false] (by kernel_rfl) ?_
        simp only [Act.put, List.setIfInBounds_toArray, List.set_cons_zero, List.set_cons_succ]
        refine Held.wpAnyG_take (i := 2) (v := (.pointer (some ⟨b, 3, none⟩))) rfl (by kernel_rfl) (by kernel_rfl) (by kernel_rfl) (fun _ _ _ h => h) HSS.out (by first | (with_reducible rfl) | (simp [Region.wanted, yielded, Act.put]; done) | rfl) (fun W hs => by go_simp) (some 20) rfl #[true, true, true, false, false, false, false, false, false, false, false, false, false, false, false, false] (by kernel_rfl) ?_
        simp only [Act.put, List.setIfInBounds_toArray, List.set_cons_zero, List.set_cons_succ]
        refine Held.wpAnyG_take (i := 3) (v := (.slice (some ⟨gn, 0, none⟩) N cn)) rfl (by kernel_rfl) (by kernel_rfl) (by kernel_rfl) (fun _ _ _ h => h) HSS.out (by first | (with_reducible rfl) | (simp [Region.wanted, yielded, Act.put]; done) | rfl) (fun W hs => by have hc := HC3.out W hs; go_simp) (some 21) rfl #[true, true, true, true, false, false, false, false, false, false, false, false, false, false, false, false] (by kernel_rfl) ?_
        simp only [Act.put, List.setIfInBounds_toArray, List.set_cons_zero, List.set_cons_succ]
        refine Held.wpAnyG_take (i := 4) (v := (.pointer (some ⟨b, 0, none⟩))) rfl (by kernel_rfl) (by kernel_rfl) (by kernel_rfl) (fun _ _ _ h => h) HSS.out (by first | (with_reducible rfl) | (simp [Region.wanted, yielded, Act.put]; done) | rfl) (fun W h => by go_simp) (some 22) rfl #[true, true, true, true, true, false, false, false, false, false, false, false, false, false, false, false] (by kernel_rfl) ?_
        simp only [Act.put, List.setIfInBounds_toArray, List.set_cons_zero, List.set_cons_succ]
        refine Held.wpAnyG_take (i := 5) (v := (.pointer (some ⟨b, 0, none⟩))) rfl (by kernel_rfl) (by kernel_rfl) (by kernel_rfl) (fun _ _ _ h => h) HSS.out (by first | (with_reducible rfl) | (simp [Region.wanted, yielded, Act.put]; done) | rfl) (fun W hs => by go_simp) (some 23) rfl #[true, true, true, true, true, true, false, false, false, false, false, false, false, false, false, false] (by kernel_rfl) ?_
        simp only [Act.put, List.setIfInBounds_toArray, List.set_cons_zero, List.set_cons_succ]
        refine Held.wpAnyG_take (i := 6) (v := (.pointer (some ⟨b, 2, none⟩))) rfl (by kernel_rfl) (by kernel_rfl) (by kernel_rfl) (fun _ _ _ h => h) HSS.out (by first | (with_reducible rfl) | (simp [Region.wanted, yielded, Act.put]; done) | rfl) (fun W hs => by go_simp) (some 24) rfl #[true, true, true, true, true, true, true, false, false, false, false, false, false, false, false, false] (by kernel_rfl) ?_
        simp only [Act.put, List.setIfInBounds_toArray, List.set_cons_zero, List.set_cons_succ]
        refine Held.wpAnyG_take (i := 7) (v := (.slice (some ⟨gc, 0, none⟩) L cc)) rfl (by kernel_rfl) (by kernel_rfl) (by kernel_rfl) (fun _ _ _ h => h) HSS.out (by first | (with_reducible rfl) | (simp [Region.wanted, yielded, Act.put]; done) | rfl) (fun W hs => by have hc := HC2.out W hs; go_simp) (some 25) rfl #[true, true, true, true, true, true, true, true, false, false, false, false, false, false, false, false] (by kernel_rfl) ?_
        simp only [Act.put, List.setIfInBounds_toArray, List.set_cons_zero, List.set_cons_succ]
        refine Held.wpAnyG_take (i := 8) (v := (.int .i64 (c : Int))) rfl (by kernel_rfl) (by kernel_rfl) (by kernel_rfl) (fun _ _ _ h => h) HSS.out (by first | (with_reducible rfl) | (simp [Region.wanted, yielded, Act.put]; done) | rfl) (fun W h => by go_simp) (some 26) rfl #[true, true, true, true, true, true, true, true, true, false, false, false, false, false, false, false] (by kernel_rfl) ?_
        simp only [Act.put, List.setIfInBounds_toArray, List.set_cons_zero, List.set_cons_succ]
        refine Held.wpAnyG_take (i := 9) (v := (.pointer (some ⟨gc, c, none⟩))) rfl (by kernel_rfl) (by kernel_rfl) (by kernel_rfl) (fun _ _ _ h => h) HSS.out (by first | (with_reducible rfl) | (simp [Region.wanted, yielded, Act.put]; done) | rfl) (fun W hs => by go_simp) (some 27) rfl #[true, true, true, true, true, true, true, true, true, true, false, false, false, false, false, false] (by kernel_rfl) ?_
        simp only [Act.put, List.setIfInBounds_toArray, List.set_cons_zero, List.set_cons_succ]
        refine Held.wpAnyG_take (i := 10) (v := (.int .i64 (j : Int))) rfl (by kernel_rfl) (by kernel_rfl) (by kernel_rfl) (fun _ _ _ h => h) HSS.out (by first | (with_reducible rfl) | (simp [Region.wanted, yielded, Act.put]; done) | rfl) (fun W hs => by have hc := HCL.out W hs; go_simp) (some 28) rfl #[true, true, true, true, true, true, true, true, true, true, true, false, false, false, false, false] (by kernel_rfl) ?_
        simp only [Act.put, List.setIfInBounds_toArray, List.set_cons_zero, List.set_cons_succ]
        refine Held.wpAnyG_take (i := 11) (v := (.pointer (some ⟨gn, j * 38, none⟩))) rfl (by kernel_rfl) (by kernel_rfl) (by kernel_rfl) (fun _ _ _ h => h) HSS.out (by first | (with_reducible rfl) | (simp [Region.wanted, yielded, Act.put]; done) | rfl) (fun W hs => by go_simp) (some 29) rfl #[true, true, true, true, true, true, true, true, true, true, true, true, false, false, false, false] (by kernel_rfl) ?_
        simp only [Act.put, List.setIfInBounds_toArray, List.set_cons_zero, List.set_cons_succ]
        refine Held.wpAnyG_take (i := 12) (v := (.pointer (some ⟨gn, j * 38 + 2, none⟩))) rfl (by kernel_rfl) (by kernel_rfl) (by kernel_rfl) (fun _ _ _ h => h) HSS.out (by first | (with_reducible rfl) | (simp [Region.wanted, yielded, Act.put]; done) | rfl) (fun W hs => by go_simp) (some 30) rfl #[true, true, true, true, true, true, true, true, true, true, true, true, true, false, false, false] (by kernel_rfl) ?_
        simp only [Act.put, List.setIfInBounds_toArray, List.set_cons_zero, List.set_cons_succ]
        refine Held.wpAnyG_take (i := 13) (v := (kv nd.ky)) rfl (by kernel_rfl) (by kernel_rfl) (by kernel_rfl) (fun _ _ _ h => h) HSS.out (by first | (with_reducible rfl) | (simp [Region.wanted, yielded, Act.put]; done) | rfl) (fun W hs => Held.run_load_of 29 (.tmp 30) rfl ⟨gn, j * 38 + 2, none⟩ rfl (node_key (HND.out W hs))) (some 31) rfl #[true, true, true, true, true, true, true, true, true, true, true, true, true, true, false, false] (by kernel_rfl) ?_
        simp only [Act.put, List.setIfInBounds_toArray, List.set_cons_zero, List.set_cons_succ]
        refine Held.wpAnyG_take (i := 14) (v := (kv k)) rfl (by kernel_rfl) (by kernel_rfl) (by kernel_rfl) (fun _ _ _ h => h) HSS.out (by first | (with_reducible rfl) | (simp [Region.wanted, yielded, Act.put]; done) | rfl) (fun W hs => Held.run_load_of 29 (.tmp 3) rfl ⟨w.heap.size, 0, none⟩ rfl (HKB.out W hs)) (some 32) rfl #[true, true, true, true, true, true, true, true, true, true, true, true, true, true, true, false] (by kernel_rfl) ?_
        simp only [Act.put, List.setIfInBounds_toArray, List.set_cons_zero, List.set_cons_succ]
        refine Held.wpAnyG_take (i := 15) (v := (.bool true)) rfl (by kernel_rfl) (by kernel_rfl) (by kernel_rfl) (fun _ _ _ h => h) HSS.out (by first | (with_reducible rfl) | (simp [Region.wanted, yielded, Act.put]; done) | rfl) (fun W hs => by rw [run_eqlKF (.tmp 31) (.tmp 32) rfl nd.ky k H34.out HL.out rfl rfl W, decide_eq_true HKY.out]) (some 33) rfl #[true, true, true, true, true, true, true, true, true, true, true, true, true, true, true, true] (by kernel_rfl) ?_
        simp only [Act.put, List.setIfInBounds_toArray, List.set_cons_zero, List.set_cons_succ]
        refine Held.wpAnyG_done (by kernel_rfl) ?_ _
        go_wp2_with fail
        go_ret2
        exact ⟨rfl, HB1.out.trans (HSS.out.mono HB1.out.size)⟩
      · have HFF := Aside0.mk hf
        have HKY := Aside0.mk hky
        clear hf hky HF
        go_wp2_with fail
        have HSS := Aside0.mk (below_drew HB.out)
        clear hc2 hcl hc3
        refine Held.wp_region_G (S := (fun W : World => Below w1.heap.size w1 W)) (by kernel_rfl) ?_
        change Held.wpAnyG _ _ _ _ _ 16 _ _ _
        refine Held.wpAnyG_take (i := 0) (v := (.pointer (some ⟨b, 0, none⟩))) rfl (by kernel_rfl) (by kernel_rfl) (by kernel_rfl) (fun _ _ _ h => h) HSS.out (by first | (with_reducible rfl) | (simp [Region.wanted, yielded, Act.put]; done) | rfl) (fun W h => by go_simp) (some 18) rfl #[true, false, false, false, false, false, false, false, false, false, false, false, false, false, false, false] (by kernel_rfl) ?_
        simp only [Act.put, List.setIfInBounds_toArray, List.set_cons_zero, List.set_cons_succ]
        refine Held.wpAnyG_take (i := 1) (v := (.pointer (some ⟨b, 0, none⟩))) rfl (by kernel_rfl) (by kernel_rfl) (by kernel_rfl) (fun _ _ _ h => h) HSS.out (by first | (with_reducible rfl) | (simp [Region.wanted, yielded, Act.put]; done) | rfl) (fun W hs => by go_simp) (some 19) rfl #[true, true, false, false, false, false, false, false, false, false, false, false, false, false, false, false] (by kernel_rfl) ?_
        simp only [Act.put, List.setIfInBounds_toArray, List.set_cons_zero, List.set_cons_succ]
        refine Held.wpAnyG_take (i := 2) (v := (.pointer (some ⟨b, 3, none⟩))) rfl (by kernel_rfl) (by kernel_rfl) (by kernel_rfl) (fun _ _ _ h => h) HSS.out (by first | (with_reducible rfl) | (simp [Region.wanted, yielded, Act.put]; done) | rfl) (fun W hs => by go_simp) (some 20) rfl #[true, true, true, false, false, false, false, false, false, false, false, false, false, false, false, false] (by kernel_rfl) ?_
        simp only [Act.put, List.setIfInBounds_toArray, List.set_cons_zero, List.set_cons_succ]
        refine Held.wpAnyG_take (i := 3) (v := (.slice (some ⟨gn, 0, none⟩) N cn)) rfl (by kernel_rfl) (by kernel_rfl) (by kernel_rfl) (fun _ _ _ h => h) HSS.out (by first | (with_reducible rfl) | (simp [Region.wanted, yielded, Act.put]; done) | rfl) (fun W hs => by have hc := HC3.out W hs; go_simp) (some 21) rfl #[true, true, true, true, false, false, false, false, false, false, false, false, false, false, false, false] (by kernel_rfl) ?_
        simp only [Act.put, List.setIfInBounds_toArray, List.set_cons_zero, List.set_cons_succ]
        refine Held.wpAnyG_take (i := 4) (v := (.pointer (some ⟨b, 0, none⟩))) rfl (by kernel_rfl) (by kernel_rfl) (by kernel_rfl) (fun _ _ _ h => h) HSS.out (by first | (with_reducible rfl) | (simp [Region.wanted, yielded, Act.put]; done) | rfl) (fun W h => by go_simp) (some 22) rfl #[true, true, true, true, true, false, false, false, false, false, false, false, false, false, false, false] (by kernel_rfl) ?_
        simp only [Act.put, List.setIfInBounds_toArray, List.set_cons_zero, List.set_cons_succ]
        refine Held.wpAnyG_take (i := 5) (v := (.pointer (some ⟨b, 0, none⟩))) rfl (by kernel_rfl) (by kernel_rfl) (by kernel_rfl) (fun _ _ _ h => h) HSS.out (by first | (with_reducible rfl) | (simp [Region.wanted, yielded, Act.put]; done) | rfl) (fun W hs => by go_simp) (some 23) rfl #[true, true, true, true, true, true, false, false, false, false, false, false, false, false, false, false] (by kernel_rfl) ?_
        simp only [Act.put, List.setIfInBounds_toArray, List.set_cons_zero, List.set_cons_succ]
        refine Held.wpAnyG_take (i := 6) (v := (.pointer (some ⟨b, 2, none⟩))) rfl (by kernel_rfl) (by kernel_rfl) (by kernel_rfl) (fun _ _ _ h => h) HSS.out (by first | (with_reducible rfl) | (simp [Region.wanted, yielded, Act.put]; done) | rfl) (fun W hs => by go_simp) (some 24) rfl #[true, true, true, true, true, true, true, false, false, false, false, false, false, false, false, false] (by kernel_rfl) ?_
        simp only [Act.put, List.setIfInBounds_toArray, List.set_cons_zero, List.set_cons_succ]
        refine Held.wpAnyG_take (i := 7) (v := (.slice (some ⟨gc, 0, none⟩) L cc)) rfl (by kernel_rfl) (by kernel_rfl) (by kernel_rfl) (fun _ _ _ h => h) HSS.out (by first | (with_reducible rfl) | (simp [Region.wanted, yielded, Act.put]; done) | rfl) (fun W hs => by have hc := HC2.out W hs; go_simp) (some 25) rfl #[true, true, true, true, true, true, true, true, false, false, false, false, false, false, false, false] (by kernel_rfl) ?_
        simp only [Act.put, List.setIfInBounds_toArray, List.set_cons_zero, List.set_cons_succ]
        refine Held.wpAnyG_take (i := 8) (v := (.int .i64 (c1 : Int))) rfl (by kernel_rfl) (by kernel_rfl) (by kernel_rfl) (fun _ _ _ h => h) HSS.out (by first | (with_reducible rfl) | (simp [Region.wanted, yielded, Act.put]; done) | rfl) (fun W h => by go_simp) (some 26) rfl #[true, true, true, true, true, true, true, true, true, false, false, false, false, false, false, false] (by kernel_rfl) ?_
        simp only [Act.put, List.setIfInBounds_toArray, List.set_cons_zero, List.set_cons_succ]
        refine Held.wpAnyG_take (i := 9) (v := (.pointer (some ⟨gc, c1, none⟩))) rfl (by kernel_rfl) (by kernel_rfl) (by kernel_rfl) (fun _ _ _ h => h) HSS.out (by first | (with_reducible rfl) | (simp [Region.wanted, yielded, Act.put]; done) | rfl) (fun W hs => by go_simp) (some 27) rfl #[true, true, true, true, true, true, true, true, true, true, false, false, false, false, false, false] (by kernel_rfl) ?_
        simp only [Act.put, List.setIfInBounds_toArray, List.set_cons_zero, List.set_cons_succ]
        refine Held.wpAnyG_take (i := 10) (v := (.int .i64 (j : Int))) rfl (by kernel_rfl) (by kernel_rfl) (by kernel_rfl) (fun _ _ _ h => h) HSS.out (by first | (with_reducible rfl) | (simp [Region.wanted, yielded, Act.put]; done) | rfl) (fun W hs => by have hc := HCL.out W hs; go_simp) (some 28) rfl #[true, true, true, true, true, true, true, true, true, true, true, false, false, false, false, false] (by kernel_rfl) ?_
        simp only [Act.put, List.setIfInBounds_toArray, List.set_cons_zero, List.set_cons_succ]
        refine Held.wpAnyG_take (i := 11) (v := (.pointer (some ⟨gn, j * 38, none⟩))) rfl (by kernel_rfl) (by kernel_rfl) (by kernel_rfl) (fun _ _ _ h => h) HSS.out (by first | (with_reducible rfl) | (simp [Region.wanted, yielded, Act.put]; done) | rfl) (fun W hs => by go_simp) (some 29) rfl #[true, true, true, true, true, true, true, true, true, true, true, true, false, false, false, false] (by kernel_rfl) ?_
        simp only [Act.put, List.setIfInBounds_toArray, List.set_cons_zero, List.set_cons_succ]
        refine Held.wpAnyG_take (i := 12) (v := (.pointer (some ⟨gn, j * 38 + 2, none⟩))) rfl (by kernel_rfl) (by kernel_rfl) (by kernel_rfl) (fun _ _ _ h => h) HSS.out (by first | (with_reducible rfl) | (simp [Region.wanted, yielded, Act.put]; done) | rfl) (fun W hs => by go_simp) (some 30) rfl #[true, true, true, true, true, true, true, true, true, true, true, true, true, false, false, false] (by kernel_rfl) ?_
        simp only [Act.put, List.setIfInBounds_toArray, List.set_cons_zero, List.set_cons_succ]
        refine Held.wpAnyG_take (i := 13) (v := (kv nd.ky)) rfl (by kernel_rfl) (by kernel_rfl) (by kernel_rfl) (fun _ _ _ h => h) HSS.out (by first | (with_reducible rfl) | (simp [Region.wanted, yielded, Act.put]; done) | rfl) (fun W hs => Held.run_load_of 29 (.tmp 30) rfl ⟨gn, j * 38 + 2, none⟩ rfl (node_key (HND.out W hs))) (some 31) rfl #[true, true, true, true, true, true, true, true, true, true, true, true, true, true, false, false] (by kernel_rfl) ?_
        simp only [Act.put, List.setIfInBounds_toArray, List.set_cons_zero, List.set_cons_succ]
        refine Held.wpAnyG_take (i := 14) (v := (kv k)) rfl (by kernel_rfl) (by kernel_rfl) (by kernel_rfl) (fun _ _ _ h => h) HSS.out (by first | (with_reducible rfl) | (simp [Region.wanted, yielded, Act.put]; done) | rfl) (fun W hs => Held.run_load_of 29 (.tmp 3) rfl ⟨w.heap.size, 0, none⟩ rfl (HKB.out W hs)) (some 32) rfl #[true, true, true, true, true, true, true, true, true, true, true, true, true, true, true, false] (by kernel_rfl) ?_
        simp only [Act.put, List.setIfInBounds_toArray, List.set_cons_zero, List.set_cons_succ]
        refine Held.wpAnyG_take (i := 15) (v := (.bool false)) rfl (by kernel_rfl) (by kernel_rfl) (by kernel_rfl) (fun _ _ _ h => h) HSS.out (by first | (with_reducible rfl) | (simp [Region.wanted, yielded, Act.put]; done) | rfl) (fun W hs => by rw [run_eqlKF (.tmp 31) (.tmp 32) rfl nd.ky k H34.out HL.out rfl rfl W, decide_eq_false HKY.out]) (some 33) rfl #[true, true, true, true, true, true, true, true, true, true, true, true, true, true, true, true] (by kernel_rfl) ?_
        simp only [Act.put, List.setIfInBounds_toArray, List.set_cons_zero, List.set_cons_succ]
        refine Held.wpAnyG_done (by kernel_rfl) ?_ _
        go_wp2_with fail
        (with_reducible refine (after_calls c1 O b T _ _ vf _ (HTB.out _ HSS.out) L HLL.out HL2.out HLT.out).mono ?_)
        rintro en w3 ⟨rfl, hb3⟩
        have HB3 := Aside0.mk (HSS.out.trans (hb3.mono HSS.out.size))
        clear hb3
        go_wp2_with fail
        go_roundg (gk - 1)
        case measure => have h1 := HG.out; omega
        case rel => exact ⟨nxt L c1, rfl, ⟨by have h1 := HG.out; rw [h1, Nat.add_sub_cancel, HLL.out]; exact HFF.out⟩, HB3⟩
end Go.Proofs.Ytikpgmajiafhgaa.Fl
/- flow: what stores do to a table in memory. -/
namespace Go.Proofs.Ytikpgmajiafhgaa.Fl
open Go.RowKit Go.Proofs.YtikpgmajiafhgaaW.PrintWords Go.Proofs.YtikpgmajiafhgaaW.PrintLast Go.Proofs.YtikpgmajiafhgaaW.PrintMore Go.Proofs.Ytikpgmajiafhgaa.X Go.Proofs.Ytikpgmajiafhgaa.M Go.Proofs.Ytikpgmajiafhgaa.Bv Go.Proofs.Ytikpgmajiafhgaa.PuLib Go.Proofs.Ytikpgmajiafhgaa.PuMix Go.Proofs.Ytikpgmajiafhgaa.PuCat
set_option linter.unusedVariables false
set_option linter.unusedSimpArgs false
theorem Keep.put {O : Nat → Prop} {W : World} {p : Addr} (hp : O p.block) (u : Value) : Keep O W (W.setCell p u) := by
  refine ⟨(Below.refl 0 W).setCell (Nat.zero_le _) u, fun k hk hn => ?_⟩
  exact Below.heap_setCell W p u k (fun h => hn (h ▸ hp))
section
variable {W : World} {O : Nat → Prop} {b : Nat} {T : Tb} {vc vn vf : Value}
theorem size_put (W : World) (p : Addr) (u : Value) : (W.setCell p u).heap.size = W.heap.size := by
  have h1 := ((Below.refl 0 W).setCell (p := p) (Nat.zero_le _) u).size
  simp [World.setCell]
theorem TabAt.fr (h : TabAt W O b T vc vn vf) (j : Nat) : W.frozen? ⟨b, j, none⟩ = false := blk_frozen h.blk j
theorem TabAt.setFirst (h : TabAt W O b T vc vn vf) (v : Int) : TabAt (W.setCell ⟨b, 5, none⟩ (.int .i64 v)) O b { T with first := v } vc vn vf :=
  ⟨blk_put h.blk 5 _ rfl, h.ob, Kd.R_far h.rc (fun k hk => hk.2) _, Kd.R_far h.rn (fun k hk => hk.2) _, Kd.R_far h.rf (fun k hk => hk.2.1) _, fun k hk => by rw [size_put]; exact h.lt k hk⟩
theorem TabAt.setLast (h : TabAt W O b T vc vn vf) (v : Int) : TabAt (W.setCell ⟨b, 6, none⟩ (.int .i64 v)) O b { T with last := v } vc vn vf :=
  ⟨blk_put h.blk 6 _ rfl, h.ob, Kd.R_far h.rc (fun k hk => hk.2) _, Kd.R_far h.rn (fun k hk => hk.2) _, Kd.R_far h.rf (fun k hk => hk.2.1) _, fun k hk => by rw [size_put]; exact h.lt k hk⟩
theorem TabAt.setCount (h : TabAt W O b T vc vn vf) (v : Int) : TabAt (W.setCell ⟨b, 7, none⟩ (.int .i64 v)) O b { T with count := v } vc vn vf :=
  ⟨blk_put h.blk 7 _ rfl, h.ob, Kd.R_far h.rc (fun k hk => hk.2) _, Kd.R_far h.rn (fun k hk => hk.2) _, Kd.R_far h.rf (fun k hk => hk.2.1) _, fun k hk => by rw [size_put]; exact h.lt k hk⟩
theorem TabAt.vcBlk {g n cap : Nat} (h : TabAt W O b T (.slice (some ⟨g, 0, none⟩) n cap) vn vf) : ∃ cs, W.heap[g]? = some (.cells cs 3 (0, 0)) := by
  obtain ⟨inner, ho⟩ := Kd.R_own h.rc
  exact own_typed ho g (by simp [Value.ownBlock])
theorem TabAt.vnBlk {g n cap : Nat} (h : TabAt W O b T vc (.slice (some ⟨g, 0, none⟩) n cap) vf) : ∃ cs, W.heap[g]? = some (.cells cs 91 (0, 0)) := by
  obtain ⟨inner, ho⟩ := Kd.R_own h.rn
  exact own_typed ho g (by simp [Value.ownBlock])
theorem TabAt.frC {g n cap : Nat} (h : TabAt W O b T (.slice (some ⟨g, 0, none⟩) n cap) vn vf) (j : Nat) : W.frozen? ⟨g, j, none⟩ = false := by
  obtain ⟨cs, hc⟩ := h.vcBlk
  exact blk_frozen hc j
theorem TabAt.frN {g n cap : Nat} (h : TabAt W O b T vc (.slice (some ⟨g, 0, none⟩) n cap) vf) (j : Nat) : W.frozen? ⟨g, j, none⟩ = false := by
  obtain ⟨cs, hc⟩ := h.vnBlk
  exact blk_frozen hc j
/-- A cell is written. -/
theorem TabAt.setCl {g n cap : Nat} (h : TabAt W O b T (.slice (some ⟨g, 0, none⟩) n cap) vn vf) (j : Nat) (v : Int) : TabAt (W.setCell ⟨g, j, none⟩ (.int .i64 v)) O b { T with cells := T.cells.set j v } (.slice (some ⟨g, 0, none⟩) n cap) vn vf := by
  obtain ⟨cs, hc⟩ := h.vcBlk
  have hg := h.vcOwn
  refine ⟨blk_far h.blk (fun e => hg.2.1 e.symm) _, h.ob, ?_, ?_, ?_, fun k hk => by rw [size_put]; exact h.lt k hk⟩
  · have h1 := Kd.R_putn h.rc (j : Int) v
    rw [Int.toNat_natCast] at h1
    exact h1
  · exact Kd.R_mono (Kd.R_far (p := ⟨g, j, none⟩) (Kd.R_types h.rn hc (fun q hq => by rw [List.mem_singleton.1 hq]; decide)) (fun k hk => hk.2) _) (fun k hk => hk.1)
  · exact Kd.R_far h.rf (fun k hk e => hk.2.2 (by rw [e]; rfl)) _
/-- A node's field is written. -/
theorem TabAt.setNd {g n cap : Nat} (h : TabAt W O b T vc (.slice (some ⟨g, 0, none⟩) n cap) vf) {j : Nat} {x : Nd} (hx : T.nodes[j]? = some x) (i : Nat) (hi : i < 38) (u : Value) (x' : Nd) (h34 : x'.ky.length = 34) (he : (encN x).set i u = encN x') :
    TabAt (W.setCell ⟨g, j * 38 + i, none⟩ u) O b { T with nodes := T.nodes.set j x' } vc (.slice (some ⟨g, 0, none⟩) n cap) vf := by
  obtain ⟨cs, hc⟩ := h.vnBlk
  have hg := h.vnOwn
  have hjl := (List.getElem?_eq_some_iff.1 hx).1
  have hnd := h.nd hx
  refine ⟨blk_far h.blk (fun e => hg.2.1 e.symm) _, h.ob, ?_, ?_, ?_, fun k hk => by rw [size_put]; exact h.lt k hk⟩
  · exact Kd.R_mono (Kd.R_far (p := ⟨g, j * 38 + i, none⟩) (Kd.R_types h.rc hc (fun q hq => by rw [List.mem_singleton.1 hq]; decide)) (fun k hk => hk.2) _) (fun k hk => hk.1)
  · have hlen := encN_length x hnd.1
    have hseg : (encN x).take i ++ [u] ++ (encN x).drop (i + [u].length) = encN x' := by
      rw [← he, List.set_eq_take_append_cons_drop, if_pos (by omega), List.append_assoc]
      rfl
    have h1 := (Kd.R_seg h.rn (j : Int) (by omega) (by rw [hg.2.2]; omega) (c := encN x) (seg := [u]) (j := i) (by rw [hlen]; rfl) (fun m v hv => by rw [Int.toNat_natCast]; exact hnd.2 m v hv) (show i + 1 ≤ 38 by omega) (okp := fun _ => False) (x' := x') (show _ = encN x' ∧ _ from ⟨hseg, h34⟩) (fun k hk => hk.elim)).1
    rw [Int.toNat_natCast] at h1
    exact h1
  · exact Kd.R_mono (Kd.R_far (p := ⟨g, j * 38 + i, none⟩) (Kd.R_types h.rf hc (fun q hq => by rw [List.mem_singleton.1 hq]; decide)) (fun k hk => hk.2) _) (fun k hk => hk.1)
end
theorem encN_set36 {x : Nd} (h : x.ky.length = 34) (v : Int) : (encN x).set 36 (.int .i64 v) = encN { x with pv := v } := by
  unfold encN
  have hl : (encK x.ky).length = 34 := by rw [encK_length, h]
  rw [show 36 = 34 + 1 + 1 by omega, List.set_cons_succ, List.set_cons_succ, List.set_append_right _ _ (by omega), hl]
  rfl
theorem encN_set37 {x : Nd} (h : x.ky.length = 34) (v : Int) : (encN x).set 37 (.int .i64 v) = encN { x with nx := v } := by
  unfold encN
  have hl : (encK x.ky).length = 34 := by rw [encK_length, h]
  rw [show 37 = 35 + 1 + 1 by omega, List.set_cons_succ, List.set_cons_succ, List.set_append_right _ _ (by omega), hl]
  rfl
theorem encN_set1 (x : Nd) (v : Int) : (encN x).set 1 (.int .u64 v) = encN { x with la := v } := rfl
end Go.Proofs.Ytikpgmajiafhgaa.Fl
/- flow: link and unlink. Written by wip/gen/fll.py. -/
namespace Go.Proofs.Ytikpgmajiafhgaa.Fl
open Go.RowKit Go.Proofs.YtikpgmajiafhgaaW.PrintWords Go.Proofs.YtikpgmajiafhgaaW.PrintLast Go.Proofs.YtikpgmajiafhgaaW.PrintMore Go.Proofs.Ytikpgmajiafhgaa.X Go.Proofs.Ytikpgmajiafhgaa.M Go.Proofs.Ytikpgmajiafhgaa.Bv Go.Proofs.Ytikpgmajiafhgaa.PuLib Go.Proofs.Ytikpgmajiafhgaa.PuMix Go.Proofs.Ytikpgmajiafhgaa.PuCat
set_option linter.unusedVariables false
set_option linter.unusedSimpArgs false
def ndD (l : List Nd) (n : Nat) : Nd := l.getD n Nd.zero
theorem ndD_of {l : List Nd} {n : Nat} {x : Nd} (h : l[n]? = some x) : ndD l n = x := by unfold ndD; rw [List.getD_eq_getElem?_getD, h]; rfl
/-- A node becomes the last one. -/
def Tb.link (T : Tb) (n : Nat) : Tb :=
  if T.last = -1 then { T with nodes := T.nodes.set n { ndD T.nodes n with pv := T.last, nx := -1 }, first := n, last := n }
  else { T with nodes := (T.nodes.set n { ndD T.nodes n with pv := T.last, nx := -1 }).set T.last.toNat { ndD T.nodes T.last.toNat with nx := n }, last := n }
/-- A node leaves the row. -/
def Tb.unlinkA (T : Tb) (x : Nd) : Tb := if x.pv = -1 then { T with first := x.nx } else { T with nodes := T.nodes.set x.pv.toNat { ndD T.nodes x.pv.toNat with nx := x.nx } }
def Tb.unlinkB (T : Tb) (x : Nd) : Tb := if x.nx = -1 then { T with last := x.pv } else { T with nodes := T.nodes.set x.nx.toNat { ndD T.nodes x.nx.toNat with pv := x.pv } }
def Tb.unlink (T : Tb) (n : Nat) : Tb := (T.unlinkA (ndD T.nodes n)).unlinkB (ndD T.nodes n)
theorem TabAt.blk' {W : World} {O : Nat → Prop} {b : Nat} {T : Tb} {vc vn vf : Value} (h : TabAt W O b T vc vn vf) : W.heap[b]? = some (.cells #[.int .i64 T.most, .int .u64 T.idle, vc, vn, vf, .int .i64 T.first, .int .i64 T.last, .int .i64 T.count] 85 (0, 0)) := h.blk
set_option maxRecDepth 100000 in
set_option maxHeartbeats 2000000 in
theorem link_calls (n : Nat) (O : Nat → Prop) (b : Nat) (T : Tb) (vc vn vf : Value) (w : World) (hT : TabAt w O b T vc vn vf) (x : Nd) (hx : T.nodes[n]? = some x) (hl : T.last = -1 ∨ ∃ (m : Nat) (y : Nd), T.last = (m : Int) ∧ m ≠ n ∧ T.nodes[m]? = some y) :
    Calls Try.prog 45 #[.pointer (some ⟨b, 0, none⟩), .int .i64 (n : Int)] w fun e w' => e = .returned (.tuple #[]) ∧ TabAt w' O b (T.link n) vc vn vf ∧ Keep O w w' := by
  have HX := Aside0.mk hx
  have HLL := Aside0.mk hl
  have hnl := (List.getElem?_eq_some_iff.1 hx).1
  obtain ⟨gn, cn, rfl⟩ := hT.vnForm (by omega)
  obtain ⟨wd, hwd⟩ : ∃ wd, wd = w.drew := ⟨_, rfl⟩
  have HT := Aside0.mk (show TabAt wd O b T vc (.slice (some ⟨gn, 0, none⟩) T.nodes.length cn) vf by rw [hwd]; exact hT.below (below_drew (Below.refl w.heap.size w)))
  have HKD := Aside0.mk (show Keep O w wd by rw [hwd]; exact Keep.of_below (below_drew (Below.refl _ _)))
  obtain ⟨N, hN⟩ : ∃ N, N = T.nodes.length := ⟨_, rfl⟩
  rw [← hN] at HT hnl
  have HN := Aside0.mk hN
  have HNL := Aside0.mk hnl
  have e1 : ((0 : Int) ≤ (n : Int)) = True := eq_true (by omega)
  have e2 : ((n : Int) < (N : Int)) = True := eq_true (by omega)
  have HSS := Aside0.mk HT.out.blk'
  clear hT hx hl hN hnl
  go_enter Try.func45, Try.ntmps45
  go_wp2_with fail
  refine Held.wp_region_G (S := (fun W : World => W.heap[b]? = some (.cells #[.int .i64 T.most, .int .u64 T.idle, vc, .slice (some ⟨gn, 0, none⟩) N cn, vf, .int .i64 T.first, .int .i64 T.last, .int .i64 T.count] 85 (0, 0)))) (by kernel_rfl) ?_
  change Held.wpAnyG _ _ _ _ _ 20 _ _ _
  rw [← hwd]
  clear hwd
  refine Held.wpAnyG_take (i := 0) (v := (.pointer (some ⟨b, 0, none⟩))) rfl (by kernel_rfl) (by kernel_rfl) (by kernel_rfl) (fun _ _ _ h => h) HSS.out (by first | (with_reducible rfl) | (simp [Region.wanted, yielded, Act.put]; done) | rfl) (fun W h => by go_simp) (some 4) rfl #[true, false, false, false, false, false, false, false, false, false, false, false, false, false, false, false, false, false, false, false] (by kernel_rfl) ?_
  simp only [Act.put, List.setIfInBounds_toArray, List.set_cons_zero, List.set_cons_succ]
  refine Held.wpAnyG_take (i := 1) (v := (.pointer (some ⟨b, 0, none⟩))) rfl (by kernel_rfl) (by kernel_rfl) (by kernel_rfl) (fun _ _ _ h => h) HSS.out (by first | (with_reducible rfl) | (simp [Region.wanted, yielded, Act.put]; done) | rfl) (fun W hs => by go_simp) (some 5) rfl #[true, true, false, false, false, false, false, false, false, false, false, false, false, false, false, false, false, false, false, false] (by kernel_rfl) ?_
  simp only [Act.put, List.setIfInBounds_toArray, List.set_cons_zero, List.set_cons_succ]
  refine Held.wpAnyG_take (i := 5) (v := (.pointer (some ⟨b, 0, none⟩))) rfl (by kernel_rfl) (by kernel_rfl) (by kernel_rfl) (fun _ _ _ h => h) HSS.out (by first | (with_reducible rfl) | (simp [Region.wanted, yielded, Act.put]; done) | rfl) (fun W h => by go_simp) (some 9) rfl #[true, true, false, false, false, true, false, false, false, false, false, false, false, false, false, false, false, false, false, false] (by kernel_rfl) ?_
  simp only [Act.put, List.setIfInBounds_toArray, List.set_cons_zero, List.set_cons_succ]
  refine Held.wpAnyG_take (i := 6) (v := (.pointer (some ⟨b, 0, none⟩))) rfl (by kernel_rfl) (by kernel_rfl) (by kernel_rfl) (fun _ _ _ h => h) HSS.out (by first | (with_reducible rfl) | (simp [Region.wanted, yielded, Act.put]; done) | rfl) (fun W hs => by go_simp) (some 10) rfl #[true, true, false, false, false, true, true, false, false, false, false, false, false, false, false, false, false, false, false, false] (by kernel_rfl) ?_
  simp only [Act.put, List.setIfInBounds_toArray, List.set_cons_zero, List.set_cons_succ]
  refine Held.wpAnyG_take (i := 10) (v := (.pointer (some ⟨b, 0, none⟩))) rfl (by kernel_rfl) (by kernel_rfl) (by kernel_rfl) (fun _ _ _ h => h) HSS.out (by first | (with_reducible rfl) | (simp [Region.wanted, yielded, Act.put]; done) | rfl) (fun W h => by go_simp) (some 14) rfl #[true, true, false, false, false, true, true, false, false, false, true, false, false, false, false, false, false, false, false, false] (by kernel_rfl) ?_
  simp only [Act.put, List.setIfInBounds_toArray, List.set_cons_zero, List.set_cons_succ]
  refine Held.wpAnyG_take (i := 11) (v := (.pointer (some ⟨b, 0, none⟩))) rfl (by kernel_rfl) (by kernel_rfl) (by kernel_rfl) (fun _ _ _ h => h) HSS.out (by first | (with_reducible rfl) | (simp [Region.wanted, yielded, Act.put]; done) | rfl) (fun W hs => by go_simp) (some 15) rfl #[true, true, false, false, false, true, true, false, false, false, true, true, false, false, false, false, false, false, false, false] (by kernel_rfl) ?_
  simp only [Act.put, List.setIfInBounds_toArray, List.set_cons_zero, List.set_cons_succ]
  refine Held.wpAnyG_take (i := 2) (v := (.pointer (some ⟨b, 3, none⟩))) rfl (by kernel_rfl) (by kernel_rfl) (by kernel_rfl) (fun _ _ _ h => h) HSS.out (by first | (with_reducible rfl) | (simp [Region.wanted, yielded, Act.put]; done) | rfl) (fun W hs => by go_simp) (some 6) rfl #[true, true, true, false, false, true, true, false, false, false, true, true, false, false, false, false, false, false, false, false] (by kernel_rfl) ?_
  simp only [Act.put, List.setIfInBounds_toArray, List.set_cons_zero, List.set_cons_succ]
  refine Held.wpAnyG_take (i := 3) (v := (.slice (some ⟨gn, 0, none⟩) N cn)) rfl (by kernel_rfl) (by kernel_rfl) (by kernel_rfl) (fun _ _ _ h => h) HSS.out (by first | (with_reducible rfl) | (simp [Region.wanted, yielded, Act.put]; done) | rfl) (fun W hs => by have hc := blk_cell hs 3; simp at hc; go_simp) (some 7) rfl #[true, true, true, true, false, true, true, false, false, false, true, true, false, false, false, false, false, false, false, false] (by kernel_rfl) ?_
  simp only [Act.put, List.setIfInBounds_toArray, List.set_cons_zero, List.set_cons_succ]
  refine Held.wpAnyG_take (i := 4) (v := (.int .i64 (n : Int))) rfl (by kernel_rfl) (by kernel_rfl) (by kernel_rfl) (fun _ _ _ h => h) HSS.out (by first | (with_reducible rfl) | (simp [Region.wanted, yielded, Act.put]; done) | rfl) (fun W h => by go_simp) (some 8) rfl #[true, true, true, true, true, true, true, false, false, false, true, true, false, false, false, false, false, false, false, false] (by kernel_rfl) ?_
  simp only [Act.put, List.setIfInBounds_toArray, List.set_cons_zero, List.set_cons_succ]
  refine Held.wpAnyG_take (i := 7) (v := (.pointer (some ⟨b, 3, none⟩))) rfl (by kernel_rfl) (by kernel_rfl) (by kernel_rfl) (fun _ _ _ h => h) HSS.out (by first | (with_reducible rfl) | (simp [Region.wanted, yielded, Act.put]; done) | rfl) (fun W hs => by go_simp) (some 11) rfl #[true, true, true, true, true, true, true, true, false, false, true, true, false, false, false, false, false, false, false, false] (by kernel_rfl) ?_
  simp only [Act.put, List.setIfInBounds_toArray, List.set_cons_zero, List.set_cons_succ]
  refine Held.wpAnyG_take (i := 8) (v := (.slice (some ⟨gn, 0, none⟩) N cn)) rfl (by kernel_rfl) (by kernel_rfl) (by kernel_rfl) (fun _ _ _ h => h) HSS.out (by first | (with_reducible rfl) | (simp [Region.wanted, yielded, Act.put]; done) | rfl) (fun W hs => by have hc := blk_cell hs 3; simp at hc; go_simp) (some 12) rfl #[true, true, true, true, true, true, true, true, true, false, true, true, false, false, false, false, false, false, false, false] (by kernel_rfl) ?_
  simp only [Act.put, List.setIfInBounds_toArray, List.set_cons_zero, List.set_cons_succ]
  refine Held.wpAnyG_take (i := 9) (v := (.int .i64 (n : Int))) rfl (by kernel_rfl) (by kernel_rfl) (by kernel_rfl) (fun _ _ _ h => h) HSS.out (by first | (with_reducible rfl) | (simp [Region.wanted, yielded, Act.put]; done) | rfl) (fun W h => by go_simp) (some 13) rfl #[true, true, true, true, true, true, true, true, true, true, true, true, false, false, false, false, false, false, false, false] (by kernel_rfl) ?_
  simp only [Act.put, List.setIfInBounds_toArray, List.set_cons_zero, List.set_cons_succ]
  refine Held.wpAnyG_take (i := 12) (v := (.pointer (some ⟨b, 6, none⟩))) rfl (by kernel_rfl) (by kernel_rfl) (by kernel_rfl) (fun _ _ _ h => h) HSS.out (by first | (with_reducible rfl) | (simp [Region.wanted, yielded, Act.put]; done) | rfl) (fun W hs => by go_simp) (some 16) rfl #[true, true, true, true, true, true, true, true, true, true, true, true, true, false, false, false, false, false, false, false] (by kernel_rfl) ?_
  simp only [Act.put, List.setIfInBounds_toArray, List.set_cons_zero, List.set_cons_succ]
  refine Held.wpAnyG_take (i := 13) (v := (.int .i64 T.last)) rfl (by kernel_rfl) (by kernel_rfl) (by kernel_rfl) (fun _ _ _ h => h) HSS.out (by first | (with_reducible rfl) | (simp [Region.wanted, yielded, Act.put]; done) | rfl) (fun W hs => by have hc := blk_cell hs 6; simp at hc; go_simp) (some 17) rfl #[true, true, true, true, true, true, true, true, true, true, true, true, true, true, false, false, false, false, false, false] (by kernel_rfl) ?_
  simp only [Act.put, List.setIfInBounds_toArray, List.set_cons_zero, List.set_cons_succ]
  refine Held.wpAnyG_take (i := 14) (v := (.pointer (some ⟨gn, n * 38, none⟩))) rfl (by kernel_rfl) (by kernel_rfl) (by kernel_rfl) (fun _ _ _ h => h) HSS.out (by first | (with_reducible rfl) | (simp [Region.wanted, yielded, Act.put]; done) | rfl) (fun W hs => by go_simp) (some 18) rfl #[true, true, true, true, true, true, true, true, true, true, true, true, true, true, true, false, false, false, false, false] (by kernel_rfl) ?_
  simp only [Act.put, List.setIfInBounds_toArray, List.set_cons_zero, List.set_cons_succ]
  refine Held.wpAnyG_take (i := 15) (v := (.pointer (some ⟨gn, n * 38 + 36, none⟩))) rfl (by kernel_rfl) (by kernel_rfl) (by kernel_rfl) (fun _ _ _ h => h) HSS.out (by first | (with_reducible rfl) | (simp [Region.wanted, yielded, Act.put]; done) | rfl) (fun W hs => by go_simp) (some 19) rfl #[true, true, true, true, true, true, true, true, true, true, true, true, true, true, true, true, false, false, false, false] (by kernel_rfl) ?_
  simp only [Act.put, List.setIfInBounds_toArray, List.set_cons_zero, List.set_cons_succ]
  refine Held.wpAnyG_one 16 (by kernel_rfl) rfl #[true, true, true, true, true, true, true, true, true, true, true, true, true, true, true, true, true, false, false, false] (by kernel_rfl) (fun K hK => ?_)
  have hc := (HT.out.nd HX.out).2 36 _ (encN_36 (HT.out.nd HX.out).1)
  have hfr := HT.out.frN (n * 38 + 36)
  go_wp2_with fail
  have HT1 := Aside0.mk (HT.out.setNd HX.out 36 (by omega) (.int .i64 T.last) { x with pv := T.last } (HT.out.nd HX.out).1 (encN_set36 (HT.out.nd HX.out).1 _))
  clear hc hfr HSS
  have HSS := Aside0.mk HT1.out.blk'
  refine hK _ _ HSS.out ?_
  clear hK K
  have HX1 := Aside0.mk (show (T.nodes.set n { x with pv := T.last })[n]? = some { x with pv := T.last } by rw [List.getElem?_set_self (by have h1 := HNL.out; have h2 := HN.out; omega)])
  refine Held.wpAnyG_take (i := 17) (v := (.pointer (some ⟨gn, n * 38, none⟩))) rfl (by kernel_rfl) (by kernel_rfl) (by kernel_rfl) (fun _ _ _ h => h) HSS.out (by first | (with_reducible rfl) | (simp [Region.wanted, yielded, Act.put]; done) | rfl) (fun W hs => by go_simp) (some 20) rfl #[true, true, true, true, true, true, true, true, true, true, true, true, true, true, true, true, true, true, false, false] (by kernel_rfl) ?_
  simp only [Act.put, List.setIfInBounds_toArray, List.set_cons_zero, List.set_cons_succ]
  refine Held.wpAnyG_take (i := 18) (v := (.pointer (some ⟨gn, n * 38 + 37, none⟩))) rfl (by kernel_rfl) (by kernel_rfl) (by kernel_rfl) (fun _ _ _ h => h) HSS.out (by first | (with_reducible rfl) | (simp [Region.wanted, yielded, Act.put]; done) | rfl) (fun W hs => by go_simp) (some 21) rfl #[true, true, true, true, true, true, true, true, true, true, true, true, true, true, true, true, true, true, true, false] (by kernel_rfl) ?_
  simp only [Act.put, List.setIfInBounds_toArray, List.set_cons_zero, List.set_cons_succ]
  have hc := (HT1.out.nd HX1.out).2 37 _ (encN_37 (HT1.out.nd HX1.out).1)
  have hfr := HT1.out.frN (n * 38 + 37)
  have HT2 := Aside0.mk (HT1.out.setNd HX1.out 37 (by omega) (.int .i64 (-1)) { x with pv := T.last, nx := -1 } (HT.out.nd HX.out).1 (encN_set37 (HT1.out.nd HX1.out).1 _))
  refine Held.wpAnyG_one 19 (by kernel_rfl) rfl #[true, true, true, true, true, true, true, true, true, true, true, true, true, true, true, true, true, true, true, true] (by kernel_rfl) (fun K hK => ?_)
  go_wp2_with fail
  clear hc hfr HSS
  have HSS := Aside0.mk HT2.out.blk'
  refine hK _ _ HSS.out ?_
  clear hK K
  refine Held.wpAnyG_done (by kernel_rfl) ?_ _
  have HX2 := Aside0.mk (show T.nodes.set n { ndD T.nodes n with pv := T.last, nx := -1 } = (T.nodes.set n { x with pv := T.last }).set n { x with pv := T.last, nx := -1 } by rw [ndD_of HX.out, List.set_set])
  have HT3 := Aside0.mk (show TabAt _ O b { T with nodes := T.nodes.set n { ndD T.nodes n with pv := T.last, nx := -1 } } vc _ vf by rw [HX2.out]; exact HT2.out)
  have HGN := Aside0.mk HT.out.vnOwn.1
  obtain ⟨w2, hw2⟩ : ∃ w2, w2 = (wd.setCell ⟨gn, n * 38 + 36, none⟩ (.int .i64 T.last)).setCell ⟨gn, n * 38 + 37, none⟩ (.int .i64 (-1)) := ⟨_, rfl⟩
  have HK2 := Aside0.mk (show Keep O w w2 by
    rw [hw2]
    refine Keep.trans HKD.out (Keep.trans (Keep.put (p := ⟨gn, n * 38 + 36, none⟩) HGN.out _) (Keep.put (p := ⟨gn, n * 38 + 37, none⟩) HGN.out _) (fun k hk => .inl hk)) (fun k hk => .inl hk))
  rw [← hw2] at HT3 ⊢
  clear HT HT1 HT2 HX1 HX2 HSS hw2
  rcases HLL.out with hl | ⟨m, y, hl, hmn, hy⟩
  · have hc6 := HT3.out.cell 6
    simp at hc6
    rw [hl] at hc6
    have hc5 := HT3.out.cell 5
    simp at hc5
    have hf5 := HT3.out.fr 5
    have hf6 := HT3.out.fr 6
    have HLN := Aside0.mk hl
    clear hl
    go_wp2_with fail
    go_end0
    rw [← HN.out]
    have hlk : T.link n = { T with nodes := T.nodes.set n { ndD T.nodes n with pv := T.last, nx := -1 }, first := n, last := n } := by unfold Tb.link; rw [if_pos HLN.out]
    rw [hlk]
    exact ⟨rfl, (HT3.out.setFirst n).setLast n, HK2.out.trans ((Keep.put (p := ⟨b, 5, none⟩) HT3.out.ob _).trans (Keep.put (p := ⟨b, 6, none⟩) HT3.out.ob _) (fun k hk => .inl hk)) (fun k hk => .inl hk)⟩
  · have hc6 := HT3.out.cell 6
    simp at hc6
    rw [hl] at hc6
    have HLN := Aside0.mk hl
    have hml := (List.getElem?_eq_some_iff.1 hy).1
    have f1 : ((0 : Int) ≤ (m : Int)) = True := eq_true (by omega)
    have f2 : ((m : Int) < (N : Int)) = True := eq_true (by have h1 := HN.out; omega)
    have f3 : ¬ (m : Int) = -1 := by omega
    have f4 : ((m : Int) == -1) = false := beq_eq_false_iff_ne.2 f3
    obtain ⟨l1, hl1⟩ : ∃ l1, l1 = T.nodes.set n { ndD T.nodes n with pv := T.last, nx := -1 } := ⟨_, rfl⟩
    have HL1 := Aside0.mk hl1
    have HY := Aside0.mk (show l1[m]? = some y by rw [hl1, List.getElem?_set_ne (fun e => hmn e.symm)]; exact hy)
    have HYD := Aside0.mk (ndD_of hy)
    rw [← hl1] at HT3
    obtain ⟨wd2, hwd2⟩ : ∃ wd2, wd2 = w2.drew := ⟨_, rfl⟩
    have HTD := Aside0.mk (show TabAt wd2 O b { T with nodes := l1 } vc (.slice (some ⟨gn, 0, none⟩) N cn) vf by rw [hwd2]; exact HT3.out.below (below_drew (Below.refl w2.heap.size w2)))
    have HKD2 := Aside0.mk (show Keep O w wd2 by rw [hwd2]; exact HK2.out.trans (Keep.of_below (below_drew (Below.refl _ _))) (fun k hk => .inl hk))
    have HSS := Aside0.mk (show wd2.heap[b]? = some (.cells #[.int .i64 T.most, .int .u64 T.idle, vc, .slice (some ⟨gn, 0, none⟩) N cn, vf, .int .i64 T.first, .int .i64 (m : Int), .int .i64 T.count] 85 (0, 0)) by rw [← hl]; exact HTD.out.blk')
    have HT4 := Aside0.mk (HTD.out.setNd HY.out 37 (by omega) (.int .i64 (n : Int)) { y with nx := n } (HTD.out.nd HY.out).1 (encN_set37 (HTD.out.nd HY.out).1 _))
    have hcc := (HTD.out.nd HY.out).2 37 _ (encN_37 (HTD.out.nd HY.out).1)
    have hff := HTD.out.frN (m * 38 + 37)
    have HS4 := Aside0.mk (show (wd2.setCell ⟨gn, m * 38 + 37, none⟩ (.int .i64 (n : Int))).heap[b]? = some (.cells #[.int .i64 T.most, .int .u64 T.idle, vc, .slice (some ⟨gn, 0, none⟩) N cn, vf, .int .i64 T.first, .int .i64 (m : Int), .int .i64 T.count] 85 (0, 0)) by rw [← hl]; exact HT4.out.blk')
    clear hl hy hml hl1 hmn
    go_wp2_with fail
    refine Held.wp_region_G (S := (fun W : World => W.heap[b]? = some (.cells #[.int .i64 T.most, .int .u64 T.idle, vc, .slice (some ⟨gn, 0, none⟩) N cn, vf, .int .i64 T.first, .int .i64 (m : Int), .int .i64 T.count] 85 (0, 0)))) (by kernel_rfl) ?_
    change Held.wpAnyG _ _ _ _ _ 12 _ _ _
    rw [← hwd2]
    clear hwd2
    refine Held.wpAnyG_take (i := 0) (v := (.pointer (some ⟨b, 0, none⟩))) rfl (by kernel_rfl) (by kernel_rfl) (by kernel_rfl) (fun _ _ _ h => h) HSS.out (by first | (with_reducible rfl) | (simp [Region.wanted, yielded, Act.put]; done) | rfl) (fun W h => by go_simp) (some 31) rfl #[true, false, false, false, false, false, false, false, false, false, false, false] (by kernel_rfl) ?_
    simp only [Act.put, List.setIfInBounds_toArray, List.set_cons_zero, List.set_cons_succ]
    refine Held.wpAnyG_take (i := 1) (v := (.pointer (some ⟨b, 0, none⟩))) rfl (by kernel_rfl) (by kernel_rfl) (by kernel_rfl) (fun _ _ _ h => h) HSS.out (by first | (with_reducible rfl) | (simp [Region.wanted, yielded, Act.put]; done) | rfl) (fun W hs => by go_simp) (some 32) rfl #[true, true, false, false, false, false, false, false, false, false, false, false] (by kernel_rfl) ?_
    simp only [Act.put, List.setIfInBounds_toArray, List.set_cons_zero, List.set_cons_succ]
    refine Held.wpAnyG_take (i := 2) (v := (.pointer (some ⟨b, 3, none⟩))) rfl (by kernel_rfl) (by kernel_rfl) (by kernel_rfl) (fun _ _ _ h => h) HSS.out (by first | (with_reducible rfl) | (simp [Region.wanted, yielded, Act.put]; done) | rfl) (fun W hs => by go_simp) (some 33) rfl #[true, true, true, false, false, false, false, false, false, false, false, false] (by kernel_rfl) ?_
    simp only [Act.put, List.setIfInBounds_toArray, List.set_cons_zero, List.set_cons_succ]
    refine Held.wpAnyG_take (i := 3) (v := (.slice (some ⟨gn, 0, none⟩) N cn)) rfl (by kernel_rfl) (by kernel_rfl) (by kernel_rfl) (fun _ _ _ h => h) HSS.out (by first | (with_reducible rfl) | (simp [Region.wanted, yielded, Act.put]; done) | rfl) (fun W hs => by have hc := blk_cell hs 3; simp at hc; go_simp) (some 34) rfl #[true, true, true, true, false, false, false, false, false, false, false, false] (by kernel_rfl) ?_
    simp only [Act.put, List.setIfInBounds_toArray, List.set_cons_zero, List.set_cons_succ]
    refine Held.wpAnyG_take (i := 4) (v := (.pointer (some ⟨b, 0, none⟩))) rfl (by kernel_rfl) (by kernel_rfl) (by kernel_rfl) (fun _ _ _ h => h) HSS.out (by first | (with_reducible rfl) | (simp [Region.wanted, yielded, Act.put]; done) | rfl) (fun W h => by go_simp) (some 35) rfl #[true, true, true, true, true, false, false, false, false, false, false, false] (by kernel_rfl) ?_
    simp only [Act.put, List.setIfInBounds_toArray, List.set_cons_zero, List.set_cons_succ]
    refine Held.wpAnyG_take (i := 5) (v := (.pointer (some ⟨b, 0, none⟩))) rfl (by kernel_rfl) (by kernel_rfl) (by kernel_rfl) (fun _ _ _ h => h) HSS.out (by first | (with_reducible rfl) | (simp [Region.wanted, yielded, Act.put]; done) | rfl) (fun W hs => by go_simp) (some 36) rfl #[true, true, true, true, true, true, false, false, false, false, false, false] (by kernel_rfl) ?_
    simp only [Act.put, List.setIfInBounds_toArray, List.set_cons_zero, List.set_cons_succ]
    refine Held.wpAnyG_take (i := 6) (v := (.pointer (some ⟨b, 6, none⟩))) rfl (by kernel_rfl) (by kernel_rfl) (by kernel_rfl) (fun _ _ _ h => h) HSS.out (by first | (with_reducible rfl) | (simp [Region.wanted, yielded, Act.put]; done) | rfl) (fun W hs => by go_simp) (some 37) rfl #[true, true, true, true, true, true, true, false, false, false, false, false] (by kernel_rfl) ?_
    simp only [Act.put, List.setIfInBounds_toArray, List.set_cons_zero, List.set_cons_succ]
    refine Held.wpAnyG_take (i := 7) (v := (.int .i64 (m : Int))) rfl (by kernel_rfl) (by kernel_rfl) (by kernel_rfl) (fun _ _ _ h => h) HSS.out (by first | (with_reducible rfl) | (simp [Region.wanted, yielded, Act.put]; done) | rfl) (fun W hs => by have hc := blk_cell hs 6; simp at hc; go_simp) (some 38) rfl #[true, true, true, true, true, true, true, true, false, false, false, false] (by kernel_rfl) ?_
    simp only [Act.put, List.setIfInBounds_toArray, List.set_cons_zero, List.set_cons_succ]
    refine Held.wpAnyG_take (i := 8) (v := (.int .i64 (n : Int))) rfl (by kernel_rfl) (by kernel_rfl) (by kernel_rfl) (fun _ _ _ h => h) HSS.out (by first | (with_reducible rfl) | (simp [Region.wanted, yielded, Act.put]; done) | rfl) (fun W h => by go_simp) (some 39) rfl #[true, true, true, true, true, true, true, true, true, false, false, false] (by kernel_rfl) ?_
    simp only [Act.put, List.setIfInBounds_toArray, List.set_cons_zero, List.set_cons_succ]
    refine Held.wpAnyG_take (i := 9) (v := (.pointer (some ⟨gn, m * 38, none⟩))) rfl (by kernel_rfl) (by kernel_rfl) (by kernel_rfl) (fun _ _ _ h => h) HSS.out (by first | (with_reducible rfl) | (simp [Region.wanted, yielded, Act.put]; done) | rfl) (fun W hs => by go_simp) (some 40) rfl #[true, true, true, true, true, true, true, true, true, true, false, false] (by kernel_rfl) ?_
    simp only [Act.put, List.setIfInBounds_toArray, List.set_cons_zero, List.set_cons_succ]
    refine Held.wpAnyG_take (i := 10) (v := (.pointer (some ⟨gn, m * 38 + 37, none⟩))) rfl (by kernel_rfl) (by kernel_rfl) (by kernel_rfl) (fun _ _ _ h => h) HSS.out (by first | (with_reducible rfl) | (simp [Region.wanted, yielded, Act.put]; done) | rfl) (fun W hs => by go_simp) (some 41) rfl #[true, true, true, true, true, true, true, true, true, true, true, false] (by kernel_rfl) ?_
    simp only [Act.put, List.setIfInBounds_toArray, List.set_cons_zero, List.set_cons_succ]
    refine Held.wpAnyG_one 11 (by kernel_rfl) rfl #[true, true, true, true, true, true, true, true, true, true, true, true] (by kernel_rfl) (fun K hK => ?_)
    go_wp2_with fail
    clear HSS
    have HSS := HS4
    refine hK _ _ HSS.out ?_
    clear hK K
    refine Held.wpAnyG_done (by kernel_rfl) ?_ _
    have hc5 := HT4.out.cell 6
    simp at hc5
    have hf6 := HT4.out.fr 6
    clear hc6 hcc hff
    go_wp2_with fail
    go_end0
    rw [← HN.out]
    have hlk : T.link n = { T with nodes := l1.set m { y with nx := n }, last := n } := by
      unfold Tb.link
      rw [if_neg (by rw [HLN.out]; exact f3), ← HL1.out, HLN.out, Int.toNat_natCast, HYD.out]
    rw [hlk]
    exact ⟨rfl, HT4.out.setLast n, HKD2.out.trans ((Keep.put (p := ⟨gn, m * 38 + 37, none⟩) HGN.out _).trans (Keep.put (p := ⟨b, 6, none⟩) HT4.out.ob _) (fun k hk => .inl hk)) (fun k hk => .inl hk)⟩
end Go.Proofs.Ytikpgmajiafhgaa.Fl
/- flow: unlink. Written by wip/gen/flu.py. -/
namespace Go.Proofs.Ytikpgmajiafhgaa.Fl
open Go.RowKit Go.Proofs.YtikpgmajiafhgaaW.PrintWords Go.Proofs.YtikpgmajiafhgaaW.PrintLast Go.Proofs.YtikpgmajiafhgaaW.PrintMore Go.Proofs.Ytikpgmajiafhgaa.X Go.Proofs.Ytikpgmajiafhgaa.M Go.Proofs.Ytikpgmajiafhgaa.Bv Go.Proofs.Ytikpgmajiafhgaa.PuLib Go.Proofs.Ytikpgmajiafhgaa.PuMix Go.Proofs.Ytikpgmajiafhgaa.PuCat
set_option linter.unusedVariables false
set_option linter.unusedSimpArgs false
theorem setRow_new {W : World} {N : Nat} (h : W.heap.size = N) (c1 c2 : Array Value) (t : TypeId) : (W.alloc (.cells c1 t)).setRow N c2 = W.alloc (.cells c2 t) := by
  subst h
  cases W with
  | mk heap tape drawn os output =>
    unfold World.setRow World.alloc
    congr 1
    apply Array.ext
    · simp
    · intro k h1 h2
      simp only [Array.getElem_modify]
      simp only [Array.size_modify, Array.size_push] at h1
      by_cases hk : k = heap.size
      · subst hk
        simp
      · have hlt : k < heap.size := by omega
        rw [if_neg (fun e => hk e.symm), Array.getElem_push_lt hlt, Array.getElem_push_lt hlt]
/-- What was just made is written whole. -/
theorem store_new {P : Program} {W : World} {N : Nat} (h : W.heap.size = N) (c1 c2 : List Value) (t : TypeId) (hl : c2.length = c1.length) (h1 : ∀ v ∈ c2, v.oneCell' = true) : (storeCells ⟨N, 0, none⟩ c2).run P (W.alloc (.cells c1.toArray t)) = .ok () (W.alloc (.cells c2.toArray t)) := by
  have hb : (W.alloc (.cells c1.toArray t)).heap[N]? = some (.cells c1.toArray t (0, 0)) := h ▸ heap_alloc_new W _
  rw [run_storeCells_from N t c2 0 c1.toArray _ hb (by simp; omega) (fun v hv => h1 v hv)]
  rw [List.take_zero, List.nil_append, setRow_new h]
theorem zeroN : ∀ w : World, (zeroValue 91).run Try.prog w = .ok (nv Nd.zero) w := fun w => by kernel_rfl
theorem load_node {W : World} {g j : Nat} {x : Nd} (h : x.ky.length = 34 ∧ ∀ i v, (encN x)[i]? = some v → W.cell? ⟨g, j * 38 + i, none⟩ = some v) : (loadVar 91 ⟨g, j * 38, none⟩).run Try.prog W = .ok (nv x) W := by
  have hl := run_loadCells_list (P := Try.prog) W ⟨g, j * 38, none⟩ (encN x) (fun i v hv => by rw [Addr.add_mid]; exact h.2 i v hv)
  rw [encN_length x h.1] at hl
  obtain ⟨i, hi, hz⟩ := Option.map_eq_some_iff.1 infoN
  simp only [Prod.mk.injEq] at hz
  simp [loadVar, sizeOf, typeInfo, run_underlying Try.underlying91, hi, hz.2.1, hl]
theorem xb36 {W : World} {g t : Nat} {x : Nd} (h : W.heap[g]? = some (.cells (encN x).toArray t (0, 0))) (h34 : x.ky.length = 34) : W.cell? ⟨g, 36, none⟩ = some (.int .i64 x.pv) := (blk_cell h 36).trans (by rw [List.getElem?_toArray]; exact encN_36 h34)
theorem xb37 {W : World} {g t : Nat} {x : Nd} (h : W.heap[g]? = some (.cells (encN x).toArray t (0, 0))) (h34 : x.ky.length = 34) : W.cell? ⟨g, 37, none⟩ = some (.int .i64 x.nx) := (blk_cell h 37).trans (by rw [List.getElem?_toArray]; exact encN_37 h34)
theorem unlinkA_len (T : Tb) (x : Nd) : (T.unlinkA x).nodes.length = T.nodes.length := by
  unfold Tb.unlinkA
  split
  · rfl
  · exact List.length_set
theorem ndD_some {l : List Nd} {m : Nat} (h : m < l.length) : l[m]? = some (ndD l m) := by
  unfold ndD
  rw [List.getD_eq_getElem?_getD, List.getElem?_eq_getElem h]
  rfl
set_option maxRecDepth 100000 in
set_option maxHeartbeats 4000000 in
theorem unlink_calls (n : Nat) (O : Nat → Prop) (b : Nat) (T : Tb) (vc vn vf : Value) (w : World) (hT : TabAt w O b T vc vn vf) (x : Nd) (hx : T.nodes[n]? = some x) (hp : x.pv = -1 ∨ ∃ m : Nat, x.pv = (m : Int) ∧ m < T.nodes.length) (hn : x.nx = -1 ∨ ∃ m : Nat, x.nx = (m : Int) ∧ m < T.nodes.length) :
    Calls Try.prog 46 #[.pointer (some ⟨b, 0, none⟩), .int .i64 (n : Int)] w fun e w' => e = .returned (.tuple #[]) ∧ TabAt w' O b (T.unlink n) vc vn vf ∧ Keep O w w' := by
  have HX := Aside0.mk hx
  have HPV := Aside0.mk hp
  have HNX := Aside0.mk hn
  have hnl := (List.getElem?_eq_some_iff.1 hx).1
  obtain ⟨gn, cn, rfl⟩ := hT.vnForm (by omega)
  have h34 := (hT.nd hx).1
  obtain ⟨w1, hw1⟩ : ∃ w1, w1 = w.alloc (.cells (encN x).toArray 91) := ⟨_, rfl⟩
  have HT := Aside0.mk (show TabAt w1 O b T vc (.slice (some ⟨gn, 0, none⟩) T.nodes.length cn) vf by rw [hw1]; exact hT.below (below_alloc (Below.refl w.heap.size w) _))
  have HK1 := Aside0.mk (show Keep O w w1 by rw [hw1]; exact Keep.of_below (below_alloc (Below.refl _ _) _))
  have HXB := Aside0.mk (show w1.heap[w.heap.size]? = some (.cells (encN x).toArray 91 (0, 0)) by rw [hw1]; exact blk_new w _)
  have HNO := Aside0.mk (show ¬ O w.heap.size from fun h => by have h1 := hT.lt _ h; omega)
  obtain ⟨N, hN⟩ : ∃ N, N = T.nodes.length := ⟨_, rfl⟩
  have hc3 := hT.cell 3
  simp at hc3
  have HLD := Aside0.mk (load_node (hT.nd hx))
  have hss := store_new (P := Try.prog) (W := w) rfl (encN Nd.zero) (encN x) 91 (by rw [encN_length _ h34, encN_length _ rfl]) (encN_one x)
  have hz := zeroN
  rw [← hN] at HT HPV HNX hnl hc3
  have HN := Aside0.mk hN
  have H34 := Aside0.mk h34
  have HW1 := Aside0.mk hw1
  have e1 : ((0 : Int) ≤ (n : Int)) = True := eq_true (by omega)
  have e2 : ((n : Int) < (N : Int)) = True := eq_true (by omega)
  have hlen := encN_length x h34
  have HC36 := Aside0.mk (show w1.cell? ⟨w.heap.size, 36, none⟩ = some (.int .i64 x.pv) from (blk_cell HXB.out 36).trans (by rw [List.getElem?_toArray]; exact encN_36 h34))
  have HC37 := Aside0.mk (show w1.cell? ⟨w.heap.size, 37, none⟩ = some (.int .i64 x.nx) from (blk_cell HXB.out 37).trans (by rw [List.getElem?_toArray]; exact encN_37 h34))
  have hc36 := HC36.out
  have hc37 := HC37.out
  have hd3 := HT.out.cell 3
  simp at hd3
  clear hT hx hp hn hN hnl h34 hw1 HC36 HC37
  go_enter Try.func46, Try.ntmps46
  go_upto_region 1 with (first | (refine wpList_load_of rfl 91 (.tmp 10) rfl ⟨gn, n * 38, none⟩ rfl HLD.out ?_))
  rw [← HW1.out]
  have HGN := Aside0.mk (show O gn from HT.out.vnOwn.1)
  have HBG := Aside0.mk (show w.heap.size ≠ gn from fun e => HNO.out (by rw [e]; exact HGN.out))
  have HBB := Aside0.mk (show w.heap.size ≠ b from fun e => HNO.out (by rw [e]; exact HT.out.ob))
  clear hss hz hc3 hlen HLD HW1 hc36 hc37 hd3
  rcases HPV.out with h1 | ⟨m, h1, hm⟩
  · have hc36 := xb36 HXB.out H34.out
    have hc37 := xb37 HXB.out H34.out
    have H1 := Aside0.mk h1
    rw [h1] at hc36
    have hcf := HT.out.cell 5
    simp at hcf
    have hff := HT.out.fr 5
    clear h1
    have HTn := Aside0.mk (HT.out.setFirst x.nx)
    have HKn := Aside0.mk (HK1.out.trans (Keep.put (p := ⟨b, 5, none⟩) HT.out.ob (.int .i64 x.nx)) (fun k hk => .inl hk))
    have HXn := Aside0.mk (blk_far HXB.out (p := ⟨b, 5, none⟩) HBB.out (.int .i64 x.nx))
    have HEn := Aside0.mk (show (T.unlinkA x) = { T with first := x.nx } by unfold Tb.unlinkA; rw [if_pos H1.out])
    obtain ⟨w2, hw2⟩ : ∃ w2, w2 = w1.setCell ⟨b, 5, none⟩ (.int .i64 x.nx) := ⟨_, rfl⟩
    have HW2 := Aside0.mk hw2
    rw [← hw2] at HTn HKn HXn
    rw [← HEn.out] at HTn
    clear hw2
    go_upto_region 4 with (fail)
    rw [← HW2.out]
    clear hc36 hc37 hcf hff
    have HU := Aside0.mk (show T.unlink n = (T.unlinkA x).unlinkB x by unfold Tb.unlink; rw [ndD_of HX.out])
    rcases HNX.out with h1 | ⟨m, h1, hm⟩
    · have hc36 := xb36 HXn.out H34.out
      have hc37 := xb37 HXn.out H34.out
      have H1 := Aside0.mk h1
      rw [h1] at hc37
      have hcf := HTn.out.cell 6
      simp at hcf
      have hff := HTn.out.fr 6
      clear h1
      have HTn := Aside0.mk (HTn.out.setLast x.pv)
      have HKn := Aside0.mk (HKn.out.trans (Keep.put (p := ⟨b, 6, none⟩) HTn.out.ob (.int .i64 x.pv)) (fun k hk => .inl hk))
      have HXn := Aside0.mk (blk_far HXn.out (p := ⟨b, 6, none⟩) HBB.out (.int .i64 x.pv))
      have HEn := Aside0.mk (show ((T.unlinkA x).unlinkB x) = { (T.unlinkA x) with last := x.pv } by unfold Tb.unlinkB; rw [if_pos H1.out])
      go_wp2_with fail
      go_end0
      rw [← HEn.out] at HTn
      rw [← HN.out, HU.out]
      exact ⟨rfl, HTn.out, HKn.out⟩
    · have hc36 := xb36 HXn.out H34.out
      have hc37 := xb37 HXn.out H34.out
      have H1 := Aside0.mk h1
      rw [h1] at hc37
      have f1 : ((0 : Int) ≤ (m : Int)) = True := eq_true (by omega)
      have f2 : ((m : Int) < (N : Int)) = True := eq_true (by omega)
      have f3 : ¬ (m : Int) = -1 := by omega
      have f4 : ((m : Int) == -1) = false := beq_eq_false_iff_ne.2 f3
      have HY := Aside0.mk (ndD_some (l := (T.unlinkA x).nodes) (show m < (T.unlinkA x).nodes.length by rw [unlinkA_len, ← HN.out]; exact hm))
      obtain ⟨wd, hwd⟩ : ∃ wd, wd = w2.drew := ⟨_, rfl⟩
      have HTD := Aside0.mk (show TabAt wd O b (T.unlinkA x) vc (.slice (some ⟨gn, 0, none⟩) N cn) vf by rw [hwd]; exact HTn.out.below (below_drew (Below.refl w2.heap.size w2)))
      have HKD := Aside0.mk (show Keep O w wd by rw [hwd]; exact HKn.out.trans (Keep.of_below (below_drew (Below.refl _ _))) (fun k hk => .inl hk))
      have HXD := Aside0.mk (show wd.heap[w.heap.size]? = some (.cells (encN x).toArray 91 (0, 0)) by rw [hwd]; exact blk_drew HXn.out)
      have HSS := Aside0.mk (And.intro HTD.out.blk' HXD.out)
      have HTn := Aside0.mk (HTD.out.setNd HY.out 36 (by omega) (.int .i64 x.pv) { ndD (T.unlinkA x).nodes m with pv := x.pv } (HTD.out.nd HY.out).1 (encN_set36 (HTD.out.nd HY.out).1 _))
      have hcc := (HTD.out.nd HY.out).2 36 _ (encN_36 (HTD.out.nd HY.out).1)
      have hff := HTD.out.frN (m * 38 + 36)
      have HXn := Aside0.mk (blk_far HXD.out (p := ⟨gn, m * 38 + 36, none⟩) HBG.out (.int .i64 x.pv))
      have HKn := Aside0.mk (HKD.out.trans (Keep.put (p := ⟨gn, m * 38 + 36, none⟩) HGN.out (.int .i64 x.pv)) (fun k hk => .inl hk))
      have HS4 := Aside0.mk (And.intro HTn.out.blk' HXn.out)
      have HEn := Aside0.mk (show ((T.unlinkA x).unlinkB x) = { (T.unlinkA x) with nodes := (T.unlinkA x).nodes.set m { ndD (T.unlinkA x).nodes m with pv := x.pv } } by unfold Tb.unlinkB; rw [if_neg (by rw [H1.out]; exact f3), H1.out, Int.toNat_natCast])
      clear h1 hm
      go_upto_region 6 with (fail)
      refine Held.wp_region_G (S := (fun W : World => W.heap[b]? = some (.cells #[.int .i64 (T.unlinkA x).most, .int .u64 (T.unlinkA x).idle, vc, .slice (some ⟨gn, 0, none⟩) N cn, vf, .int .i64 (T.unlinkA x).first, .int .i64 (T.unlinkA x).last, .int .i64 (T.unlinkA x).count] 85 (0, 0)) ∧ W.heap[w.heap.size]? = some (.cells (encN x).toArray 91 (0, 0)))) (by kernel_rfl) ?_
      change Held.wpAnyG _ _ _ _ _ 11 _ _ _
      rw [← hwd]
      clear hwd
      refine Held.wpAnyG_take (i := 0) (v := (.pointer (some ⟨b, 0, none⟩))) rfl (by kernel_rfl) (by kernel_rfl) (by kernel_rfl) (fun _ _ _ h => h) HSS.out (by first | (with_reducible rfl) | (simp [Region.wanted, yielded, Act.put]; done) | rfl) (fun W h => by go_simp) (some 38) rfl #[true, false, false, false, false, false, false, false, false, false, false] (by kernel_rfl) ?_
      simp only [Act.put, List.setIfInBounds_toArray, List.set_cons_zero, List.set_cons_succ]
      refine Held.wpAnyG_take (i := 1) (v := (.pointer (some ⟨b, 0, none⟩))) rfl (by kernel_rfl) (by kernel_rfl) (by kernel_rfl) (fun _ _ _ h => h) HSS.out (by first | (with_reducible rfl) | (simp [Region.wanted, yielded, Act.put]; done) | rfl) (fun W hs => by go_simp) (some 39) rfl #[true, true, false, false, false, false, false, false, false, false, false] (by kernel_rfl) ?_
      simp only [Act.put, List.setIfInBounds_toArray, List.set_cons_zero, List.set_cons_succ]
      refine Held.wpAnyG_take (i := 2) (v := (.pointer (some ⟨b, 3, none⟩))) rfl (by kernel_rfl) (by kernel_rfl) (by kernel_rfl) (fun _ _ _ h => h) HSS.out (by first | (with_reducible rfl) | (simp [Region.wanted, yielded, Act.put]; done) | rfl) (fun W hs => by go_simp) (some 40) rfl #[true, true, true, false, false, false, false, false, false, false, false] (by kernel_rfl) ?_
      simp only [Act.put, List.setIfInBounds_toArray, List.set_cons_zero, List.set_cons_succ]
      refine Held.wpAnyG_take (i := 3) (v := (.slice (some ⟨gn, 0, none⟩) N cn)) rfl (by kernel_rfl) (by kernel_rfl) (by kernel_rfl) (fun _ _ _ h => h) HSS.out (by first | (with_reducible rfl) | (simp [Region.wanted, yielded, Act.put]; done) | rfl) (fun W hs => by have hc := blk_cell hs.1 3; simp at hc; go_simp) (some 41) rfl #[true, true, true, true, false, false, false, false, false, false, false] (by kernel_rfl) ?_
      simp only [Act.put, List.setIfInBounds_toArray, List.set_cons_zero, List.set_cons_succ]
      refine Held.wpAnyG_take (i := 4) (v := (.pointer (some ⟨w.heap.size, 37, none⟩))) rfl (by kernel_rfl) (by kernel_rfl) (by kernel_rfl) (fun _ _ _ h => h) HSS.out (by first | (with_reducible rfl) | (simp [Region.wanted, yielded, Act.put]; done) | rfl) (fun W hs => by go_simp) (some 42) rfl #[true, true, true, true, true, false, false, false, false, false, false] (by kernel_rfl) ?_
      simp only [Act.put, List.setIfInBounds_toArray, List.set_cons_zero, List.set_cons_succ]
      refine Held.wpAnyG_take (i := 5) (v := (.int .i64 (m : Int))) rfl (by kernel_rfl) (by kernel_rfl) (by kernel_rfl) (fun _ _ _ h => h) HSS.out (by first | (with_reducible rfl) | (simp [Region.wanted, yielded, Act.put]; done) | rfl) (fun W hs => by have hc := xb37 hs.2 H34.out; rw [H1.out] at hc; go_simp) (some 43) rfl #[true, true, true, true, true, true, false, false, false, false, false] (by kernel_rfl) ?_
      simp only [Act.put, List.setIfInBounds_toArray, List.set_cons_zero, List.set_cons_succ]
      refine Held.wpAnyG_take (i := 6) (v := (.pointer (some ⟨w.heap.size, 36, none⟩))) rfl (by kernel_rfl) (by kernel_rfl) (by kernel_rfl) (fun _ _ _ h => h) HSS.out (by first | (with_reducible rfl) | (simp [Region.wanted, yielded, Act.put]; done) | rfl) (fun W hs => by go_simp) (some 44) rfl #[true, true, true, true, true, true, true, false, false, false, false] (by kernel_rfl) ?_
      simp only [Act.put, List.setIfInBounds_toArray, List.set_cons_zero, List.set_cons_succ]
      refine Held.wpAnyG_take (i := 7) (v := (.int .i64 x.pv)) rfl (by kernel_rfl) (by kernel_rfl) (by kernel_rfl) (fun _ _ _ h => h) HSS.out (by first | (with_reducible rfl) | (simp [Region.wanted, yielded, Act.put]; done) | rfl) (fun W hs => by have hc := xb36 hs.2 H34.out; go_simp) (some 45) rfl #[true, true, true, true, true, true, true, true, false, false, false] (by kernel_rfl) ?_
      simp only [Act.put, List.setIfInBounds_toArray, List.set_cons_zero, List.set_cons_succ]
      refine Held.wpAnyG_take (i := 8) (v := (.pointer (some ⟨gn, m * 38, none⟩))) rfl (by kernel_rfl) (by kernel_rfl) (by kernel_rfl) (fun _ _ _ h => h) HSS.out (by first | (with_reducible rfl) | (simp [Region.wanted, yielded, Act.put]; done) | rfl) (fun W hs => by go_simp) (some 46) rfl #[true, true, true, true, true, true, true, true, true, false, false] (by kernel_rfl) ?_
      simp only [Act.put, List.setIfInBounds_toArray, List.set_cons_zero, List.set_cons_succ]
      refine Held.wpAnyG_take (i := 9) (v := (.pointer (some ⟨gn, m * 38 + 36, none⟩))) rfl (by kernel_rfl) (by kernel_rfl) (by kernel_rfl) (fun _ _ _ h => h) HSS.out (by first | (with_reducible rfl) | (simp [Region.wanted, yielded, Act.put]; done) | rfl) (fun W hs => by go_simp) (some 47) rfl #[true, true, true, true, true, true, true, true, true, true, false] (by kernel_rfl) ?_
      simp only [Act.put, List.setIfInBounds_toArray, List.set_cons_zero, List.set_cons_succ]
      refine Held.wpAnyG_one 10 (by kernel_rfl) rfl #[true, true, true, true, true, true, true, true, true, true, true] (by kernel_rfl) (fun K hK => ?_)
      go_wp2_with fail
      clear HSS
      have HSS := HS4
      refine hK _ _ HSS.out ?_
      clear hK K
      refine Held.wpAnyG_done (by kernel_rfl) ?_ _
      go_wp2_with fail
      go_end0
      rw [← HEn.out] at HTn
      rw [← HN.out, HU.out]
      exact ⟨rfl, HTn.out, HKn.out⟩
  · have hc36 := xb36 HXB.out H34.out
    have hc37 := xb37 HXB.out H34.out
    have H1 := Aside0.mk h1
    rw [h1] at hc36
    have f1 : ((0 : Int) ≤ (m : Int)) = True := eq_true (by omega)
    have f2 : ((m : Int) < (N : Int)) = True := eq_true (by omega)
    have f3 : ¬ (m : Int) = -1 := by omega
    have f4 : ((m : Int) == -1) = false := beq_eq_false_iff_ne.2 f3
    have HY := Aside0.mk (ndD_some (l := T.nodes) (show m < T.nodes.length by rw [← HN.out]; exact hm))
    obtain ⟨wd, hwd⟩ : ∃ wd, wd = w1.drew := ⟨_, rfl⟩
    have HTD := Aside0.mk (show TabAt wd O b T vc (.slice (some ⟨gn, 0, none⟩) N cn) vf by rw [hwd]; exact HT.out.below (below_drew (Below.refl w1.heap.size w1)))
    have HKD := Aside0.mk (show Keep O w wd by rw [hwd]; exact HK1.out.trans (Keep.of_below (below_drew (Below.refl _ _))) (fun k hk => .inl hk))
    have HXD := Aside0.mk (show wd.heap[w.heap.size]? = some (.cells (encN x).toArray 91 (0, 0)) by rw [hwd]; exact blk_drew HXB.out)
    have HSS := Aside0.mk (And.intro HTD.out.blk' HXD.out)
    have HTn := Aside0.mk (HTD.out.setNd HY.out 37 (by omega) (.int .i64 x.nx) { ndD T.nodes m with nx := x.nx } (HTD.out.nd HY.out).1 (encN_set37 (HTD.out.nd HY.out).1 _))
    have hcc := (HTD.out.nd HY.out).2 37 _ (encN_37 (HTD.out.nd HY.out).1)
    have hff := HTD.out.frN (m * 38 + 37)
    have HXn := Aside0.mk (blk_far HXD.out (p := ⟨gn, m * 38 + 37, none⟩) HBG.out (.int .i64 x.nx))
    have HKn := Aside0.mk (HKD.out.trans (Keep.put (p := ⟨gn, m * 38 + 37, none⟩) HGN.out (.int .i64 x.nx)) (fun k hk => .inl hk))
    have HS4 := Aside0.mk (And.intro HTn.out.blk' HXn.out)
    have HEn := Aside0.mk (show (T.unlinkA x) = { T with nodes := T.nodes.set m { ndD T.nodes m with nx := x.nx } } by unfold Tb.unlinkA; rw [if_neg (by rw [H1.out]; exact f3), H1.out, Int.toNat_natCast])
    clear h1 hm
    go_upto_region 3 with (fail)
    refine Held.wp_region_G (S := (fun W : World => W.heap[b]? = some (.cells #[.int .i64 T.most, .int .u64 T.idle, vc, .slice (some ⟨gn, 0, none⟩) N cn, vf, .int .i64 T.first, .int .i64 T.last, .int .i64 T.count] 85 (0, 0)) ∧ W.heap[w.heap.size]? = some (.cells (encN x).toArray 91 (0, 0)))) (by kernel_rfl) ?_
    change Held.wpAnyG _ _ _ _ _ 11 _ _ _
    rw [← hwd]
    clear hwd
    refine Held.wpAnyG_take (i := 0) (v := (.pointer (some ⟨b, 0, none⟩))) rfl (by kernel_rfl) (by kernel_rfl) (by kernel_rfl) (fun _ _ _ h => h) HSS.out (by first | (with_reducible rfl) | (simp [Region.wanted, yielded, Act.put]; done) | rfl) (fun W h => by go_simp) (some 20) rfl #[true, false, false, false, false, false, false, false, false, false, false] (by kernel_rfl) ?_
    simp only [Act.put, List.setIfInBounds_toArray, List.set_cons_zero, List.set_cons_succ]
    refine Held.wpAnyG_take (i := 1) (v := (.pointer (some ⟨b, 0, none⟩))) rfl (by kernel_rfl) (by kernel_rfl) (by kernel_rfl) (fun _ _ _ h => h) HSS.out (by first | (with_reducible rfl) | (simp [Region.wanted, yielded, Act.put]; done) | rfl) (fun W hs => by go_simp) (some 21) rfl #[true, true, false, false, false, false, false, false, false, false, false] (by kernel_rfl) ?_
    simp only [Act.put, List.setIfInBounds_toArray, List.set_cons_zero, List.set_cons_succ]
    refine Held.wpAnyG_take (i := 2) (v := (.pointer (some ⟨b, 3, none⟩))) rfl (by kernel_rfl) (by kernel_rfl) (by kernel_rfl) (fun _ _ _ h => h) HSS.out (by first | (with_reducible rfl) | (simp [Region.wanted, yielded, Act.put]; done) | rfl) (fun W hs => by go_simp) (some 22) rfl #[true, true, true, false, false, false, false, false, false, false, false] (by kernel_rfl) ?_
    simp only [Act.put, List.setIfInBounds_toArray, List.set_cons_zero, List.set_cons_succ]
    refine Held.wpAnyG_take (i := 3) (v := (.slice (some ⟨gn, 0, none⟩) N cn)) rfl (by kernel_rfl) (by kernel_rfl) (by kernel_rfl) (fun _ _ _ h => h) HSS.out (by first | (with_reducible rfl) | (simp [Region.wanted, yielded, Act.put]; done) | rfl) (fun W hs => by have hc := blk_cell hs.1 3; simp at hc; go_simp) (some 23) rfl #[true, true, true, true, false, false, false, false, false, false, false] (by kernel_rfl) ?_
    simp only [Act.put, List.setIfInBounds_toArray, List.set_cons_zero, List.set_cons_succ]
    refine Held.wpAnyG_take (i := 4) (v := (.pointer (some ⟨w.heap.size, 36, none⟩))) rfl (by kernel_rfl) (by kernel_rfl) (by kernel_rfl) (fun _ _ _ h => h) HSS.out (by first | (with_reducible rfl) | (simp [Region.wanted, yielded, Act.put]; done) | rfl) (fun W hs => by go_simp) (some 24) rfl #[true, true, true, true, true, false, false, false, false, false, false] (by kernel_rfl) ?_
    simp only [Act.put, List.setIfInBounds_toArray, List.set_cons_zero, List.set_cons_succ]
    refine Held.wpAnyG_take (i := 5) (v := (.int .i64 (m : Int))) rfl (by kernel_rfl) (by kernel_rfl) (by kernel_rfl) (fun _ _ _ h => h) HSS.out (by first | (with_reducible rfl) | (simp [Region.wanted, yielded, Act.put]; done) | rfl) (fun W hs => by have hc := xb36 hs.2 H34.out; rw [H1.out] at hc; go_simp) (some 25) rfl #[true, true, true, true, true, true, false, false, false, false, false] (by kernel_rfl) ?_
    simp only [Act.put, List.setIfInBounds_toArray, List.set_cons_zero, List.set_cons_succ]
    refine Held.wpAnyG_take (i := 6) (v := (.pointer (some ⟨w.heap.size, 37, none⟩))) rfl (by kernel_rfl) (by kernel_rfl) (by kernel_rfl) (fun _ _ _ h => h) HSS.out (by first | (with_reducible rfl) | (simp [Region.wanted, yielded, Act.put]; done) | rfl) (fun W hs => by go_simp) (some 26) rfl #[true, true, true, true, true, true, true, false, false, false, false] (by kernel_rfl) ?_
    simp only [Act.put, List.setIfInBounds_toArray, List.set_cons_zero, List.set_cons_succ]
    refine Held.wpAnyG_take (i := 7) (v := (.int .i64 x.nx)) rfl (by kernel_rfl) (by kernel_rfl) (by kernel_rfl) (fun _ _ _ h => h) HSS.out (by first | (with_reducible rfl) | (simp [Region.wanted, yielded, Act.put]; done) | rfl) (fun W hs => by have hc := xb37 hs.2 H34.out; go_simp) (some 27) rfl #[true, true, true, true, true, true, true, true, false, false, false] (by kernel_rfl) ?_
    simp only [Act.put, List.setIfInBounds_toArray, List.set_cons_zero, List.set_cons_succ]
    refine Held.wpAnyG_take (i := 8) (v := (.pointer (some ⟨gn, m * 38, none⟩))) rfl (by kernel_rfl) (by kernel_rfl) (by kernel_rfl) (fun _ _ _ h => h) HSS.out (by first | (with_reducible rfl) | (simp [Region.wanted, yielded, Act.put]; done) | rfl) (fun W hs => by go_simp) (some 28) rfl #[true, true, true, true, true, true, true, true, true, false, false] (by kernel_rfl) ?_
    simp only [Act.put, List.setIfInBounds_toArray, List.set_cons_zero, List.set_cons_succ]
    refine Held.wpAnyG_take (i := 9) (v := (.pointer (some ⟨gn, m * 38 + 37, none⟩))) rfl (by kernel_rfl) (by kernel_rfl) (by kernel_rfl) (fun _ _ _ h => h) HSS.out (by first | (with_reducible rfl) | (simp [Region.wanted, yielded, Act.put]; done) | rfl) (fun W hs => by go_simp) (some 29) rfl #[true, true, true, true, true, true, true, true, true, true, false] (by kernel_rfl) ?_
    simp only [Act.put, List.setIfInBounds_toArray, List.set_cons_zero, List.set_cons_succ]
    refine Held.wpAnyG_one 10 (by kernel_rfl) rfl #[true, true, true, true, true, true, true, true, true, true, true] (by kernel_rfl) (fun K hK => ?_)
    go_wp2_with fail
    clear HSS
    have HSS := HS4
    refine hK _ _ HSS.out ?_
    clear hK K
    refine Held.wpAnyG_done (by kernel_rfl) ?_ _
    obtain ⟨w2, hw2⟩ : ∃ w2, w2 = wd.setCell ⟨gn, m * 38 + 37, none⟩ (.int .i64 x.nx) := ⟨_, rfl⟩
    rw [← hw2] at HTn HKn HXn ⊢
    rw [← HEn.out] at HTn
    clear hw2 HSS HS4 hcc hff hc36 hc37
    go_upto_region 4 with (fail)
    have HU := Aside0.mk (show T.unlink n = (T.unlinkA x).unlinkB x by unfold Tb.unlink; rw [ndD_of HX.out])
    rcases HNX.out with h1 | ⟨m, h1, hm⟩
    · have hc36 := xb36 HXn.out H34.out
      have hc37 := xb37 HXn.out H34.out
      have H1 := Aside0.mk h1
      rw [h1] at hc37
      have hcf := HTn.out.cell 6
      simp at hcf
      have hff := HTn.out.fr 6
      clear h1
      have HTn := Aside0.mk (HTn.out.setLast x.pv)
      have HKn := Aside0.mk (HKn.out.trans (Keep.put (p := ⟨b, 6, none⟩) HTn.out.ob (.int .i64 x.pv)) (fun k hk => .inl hk))
      have HXn := Aside0.mk (blk_far HXn.out (p := ⟨b, 6, none⟩) HBB.out (.int .i64 x.pv))
      have HEn := Aside0.mk (show ((T.unlinkA x).unlinkB x) = { (T.unlinkA x) with last := x.pv } by unfold Tb.unlinkB; rw [if_pos H1.out])
      go_wp2_with fail
      go_end0
      rw [← HEn.out] at HTn
      rw [← HN.out, HU.out]
      exact ⟨rfl, HTn.out, HKn.out⟩
    · have hc36 := xb36 HXn.out H34.out
      have hc37 := xb37 HXn.out H34.out
      have H1 := Aside0.mk h1
      rw [h1] at hc37
      have f1 : ((0 : Int) ≤ (m : Int)) = True := eq_true (by omega)
      have f2 : ((m : Int) < (N : Int)) = True := eq_true (by omega)
      have f3 : ¬ (m : Int) = -1 := by omega
      have f4 : ((m : Int) == -1) = false := beq_eq_false_iff_ne.2 f3
      have HY := Aside0.mk (ndD_some (l := (T.unlinkA x).nodes) (show m < (T.unlinkA x).nodes.length by rw [unlinkA_len, ← HN.out]; exact hm))
      obtain ⟨wd, hwd⟩ : ∃ wd, wd = w2.drew := ⟨_, rfl⟩
      have HTD := Aside0.mk (show TabAt wd O b (T.unlinkA x) vc (.slice (some ⟨gn, 0, none⟩) N cn) vf by rw [hwd]; exact HTn.out.below (below_drew (Below.refl w2.heap.size w2)))
      have HKD := Aside0.mk (show Keep O w wd by rw [hwd]; exact HKn.out.trans (Keep.of_below (below_drew (Below.refl _ _))) (fun k hk => .inl hk))
      have HXD := Aside0.mk (show wd.heap[w.heap.size]? = some (.cells (encN x).toArray 91 (0, 0)) by rw [hwd]; exact blk_drew HXn.out)
      have HSS := Aside0.mk (And.intro HTD.out.blk' HXD.out)
      have HTn := Aside0.mk (HTD.out.setNd HY.out 36 (by omega) (.int .i64 x.pv) { ndD (T.unlinkA x).nodes m with pv := x.pv } (HTD.out.nd HY.out).1 (encN_set36 (HTD.out.nd HY.out).1 _))
      have hcc := (HTD.out.nd HY.out).2 36 _ (encN_36 (HTD.out.nd HY.out).1)
      have hff := HTD.out.frN (m * 38 + 36)
      have HXn := Aside0.mk (blk_far HXD.out (p := ⟨gn, m * 38 + 36, none⟩) HBG.out (.int .i64 x.pv))
      have HKn := Aside0.mk (HKD.out.trans (Keep.put (p := ⟨gn, m * 38 + 36, none⟩) HGN.out (.int .i64 x.pv)) (fun k hk => .inl hk))
      have HS4 := Aside0.mk (And.intro HTn.out.blk' HXn.out)
      have HEn := Aside0.mk (show ((T.unlinkA x).unlinkB x) = { (T.unlinkA x) with nodes := (T.unlinkA x).nodes.set m { ndD (T.unlinkA x).nodes m with pv := x.pv } } by unfold Tb.unlinkB; rw [if_neg (by rw [H1.out]; exact f3), H1.out, Int.toNat_natCast])
      clear h1 hm
      go_upto_region 6 with (fail)
      refine Held.wp_region_G (S := (fun W : World => W.heap[b]? = some (.cells #[.int .i64 (T.unlinkA x).most, .int .u64 (T.unlinkA x).idle, vc, .slice (some ⟨gn, 0, none⟩) N cn, vf, .int .i64 (T.unlinkA x).first, .int .i64 (T.unlinkA x).last, .int .i64 (T.unlinkA x).count] 85 (0, 0)) ∧ W.heap[w.heap.size]? = some (.cells (encN x).toArray 91 (0, 0)))) (by kernel_rfl) ?_
      change Held.wpAnyG _ _ _ _ _ 11 _ _ _
      rw [← hwd]
      clear hwd
      refine Held.wpAnyG_take (i := 0) (v := (.pointer (some ⟨b, 0, none⟩))) rfl (by kernel_rfl) (by kernel_rfl) (by kernel_rfl) (fun _ _ _ h => h) HSS.out (by first | (with_reducible rfl) | (simp [Region.wanted, yielded, Act.put]; done) | rfl) (fun W h => by go_simp) (some 38) rfl #[true, false, false, false, false, false, false, false, false, false, false] (by kernel_rfl) ?_
      simp only [Act.put, List.setIfInBounds_toArray, List.set_cons_zero, List.set_cons_succ]
      refine Held.wpAnyG_take (i := 1) (v := (.pointer (some ⟨b, 0, none⟩))) rfl (by kernel_rfl) (by kernel_rfl) (by kernel_rfl) (fun _ _ _ h => h) HSS.out (by first | (with_reducible rfl) | (simp [Region.wanted, yielded, Act.put]; done) | rfl) (fun W hs => by go_simp) (some 39) rfl #[true, true, false, false, false, false, false, false, false, false, false] (by kernel_rfl) ?_
      simp only [Act.put, List.setIfInBounds_toArray, List.set_cons_zero, List.set_cons_succ]
      refine Held.wpAnyG_take (i := 2) (v := (.pointer (some ⟨b, 3, none⟩))) rfl (by kernel_rfl) (by kernel_rfl) (by kernel_rfl) (fun _ _ _ h => h) HSS.out (by first | (with_reducible rfl) | (simp [Region.wanted, yielded, Act.put]; done) | rfl) (fun W hs => by go_simp) (some 40) rfl #[true, true, true, false, false, false, false, false, false, false, false] (by kernel_rfl) ?_
      simp only [Act.put, List.setIfInBounds_toArray, List.set_cons_zero, List.set_cons_succ]
      refine Held.wpAnyG_take (i := 3) (v := (.slice (some ⟨gn, 0, none⟩) N cn)) rfl (by kernel_rfl) (by kernel_rfl) (by kernel_rfl) (fun _ _ _ h => h) HSS.out (by first | (with_reducible rfl) | (simp [Region.wanted, yielded, Act.put]; done) | rfl) (fun W hs => by have hc := blk_cell hs.1 3; simp at hc; go_simp) (some 41) rfl #[true, true, true, true, false, false, false, false, false, false, false] (by kernel_rfl) ?_
      simp only [Act.put, List.setIfInBounds_toArray, List.set_cons_zero, List.set_cons_succ]
      refine Held.wpAnyG_take (i := 4) (v := (.pointer (some ⟨w.heap.size, 37, none⟩))) rfl (by kernel_rfl) (by kernel_rfl) (by kernel_rfl) (fun _ _ _ h => h) HSS.out (by first | (with_reducible rfl) | (simp [Region.wanted, yielded, Act.put]; done) | rfl) (fun W hs => by go_simp) (some 42) rfl #[true, true, true, true, true, false, false, false, false, false, false] (by kernel_rfl) ?_
      simp only [Act.put, List.setIfInBounds_toArray, List.set_cons_zero, List.set_cons_succ]
      refine Held.wpAnyG_take (i := 5) (v := (.int .i64 (m : Int))) rfl (by kernel_rfl) (by kernel_rfl) (by kernel_rfl) (fun _ _ _ h => h) HSS.out (by first | (with_reducible rfl) | (simp [Region.wanted, yielded, Act.put]; done) | rfl) (fun W hs => by have hc := xb37 hs.2 H34.out; rw [H1.out] at hc; go_simp) (some 43) rfl #[true, true, true, true, true, true, false, false, false, false, false] (by kernel_rfl) ?_
      simp only [Act.put, List.setIfInBounds_toArray, List.set_cons_zero, List.set_cons_succ]
      refine Held.wpAnyG_take (i := 6) (v := (.pointer (some ⟨w.heap.size, 36, none⟩))) rfl (by kernel_rfl) (by kernel_rfl) (by kernel_rfl) (fun _ _ _ h => h) HSS.out (by first | (with_reducible rfl) | (simp [Region.wanted, yielded, Act.put]; done) | rfl) (fun W hs => by go_simp) (some 44) rfl #[true, true, true, true, true, true, true, false, false, false, false] (by kernel_rfl) ?_
      simp only [Act.put, List.setIfInBounds_toArray, List.set_cons_zero, List.set_cons_succ]
      refine Held.wpAnyG_take (i := 7) (v := (.int .i64 x.pv)) rfl (by kernel_rfl) (by kernel_rfl) (by kernel_rfl) (fun _ _ _ h => h) HSS.out (by first | (with_reducible rfl) | (simp [Region.wanted, yielded, Act.put]; done) | rfl) (fun W hs => by have hc := xb36 hs.2 H34.out; go_simp) (some 45) rfl #[true, true, true, true, true, true, true, true, false, false, false] (by kernel_rfl) ?_
      simp only [Act.put, List.setIfInBounds_toArray, List.set_cons_zero, List.set_cons_succ]
      refine Held.wpAnyG_take (i := 8) (v := (.pointer (some ⟨gn, m * 38, none⟩))) rfl (by kernel_rfl) (by kernel_rfl) (by kernel_rfl) (fun _ _ _ h => h) HSS.out (by first | (with_reducible rfl) | (simp [Region.wanted, yielded, Act.put]; done) | rfl) (fun W hs => by go_simp) (some 46) rfl #[true, true, true, true, true, true, true, true, true, false, false] (by kernel_rfl) ?_
      simp only [Act.put, List.setIfInBounds_toArray, List.set_cons_zero, List.set_cons_succ]
      refine Held.wpAnyG_take (i := 9) (v := (.pointer (some ⟨gn, m * 38 + 36, none⟩))) rfl (by kernel_rfl) (by kernel_rfl) (by kernel_rfl) (fun _ _ _ h => h) HSS.out (by first | (with_reducible rfl) | (simp [Region.wanted, yielded, Act.put]; done) | rfl) (fun W hs => by go_simp) (some 47) rfl #[true, true, true, true, true, true, true, true, true, true, false] (by kernel_rfl) ?_
      simp only [Act.put, List.setIfInBounds_toArray, List.set_cons_zero, List.set_cons_succ]
      refine Held.wpAnyG_one 10 (by kernel_rfl) rfl #[true, true, true, true, true, true, true, true, true, true, true] (by kernel_rfl) (fun K hK => ?_)
      go_wp2_with fail
      clear HSS
      have HSS := HS4
      refine hK _ _ HSS.out ?_
      clear hK K
      refine Held.wpAnyG_done (by kernel_rfl) ?_ _
      go_wp2_with fail
      go_end0
      rw [← HEn.out] at HTn
      rw [← HN.out, HU.out]
      exact ⟨rfl, HTn.out, HKn.out⟩
end Go.Proofs.Ytikpgmajiafhgaa.Fl
/- flow: stays and clear. Written by wip/gen/fls.py. -/
namespace Go.Proofs.Ytikpgmajiafhgaa.Fl
open Go.RowKit Go.Proofs.YtikpgmajiafhgaaW.PrintWords Go.Proofs.YtikpgmajiafhgaaW.PrintLast Go.Proofs.YtikpgmajiafhgaaW.PrintMore Go.Proofs.Ytikpgmajiafhgaa.X Go.Proofs.Ytikpgmajiafhgaa.M Go.Proofs.Ytikpgmajiafhgaa.Bv Go.Proofs.Ytikpgmajiafhgaa.PuLib Go.Proofs.Ytikpgmajiafhgaa.PuMix Go.Proofs.Ytikpgmajiafhgaa.PuCat
set_option linter.unusedVariables false
set_option linter.unusedSimpArgs false
def NodesOk (T : Tb) : Prop := ∀ nd ∈ T.nodes, KeyOk nd.ky
def homeN (k : List Int) (L : Nat) : Nat := (homeS k L).toNat
theorem homeN_int (k : List Int) {L : Nat} (h : 0 < L) : ((homeN k L : Nat) : Int) = homeS k L := Int.toNat_of_nonneg (homeS_range k h).1
theorem homeN_lt (k : List Int) {L : Nat} (h : 0 < L) : homeN k L < L := by have h1 := homeN_int k h; have h2 := (homeS_range k h).2; omega
set_option maxRecDepth 100000 in
set_option maxHeartbeats 2000000 in
theorem stays_calls (e c : Nat) (O : Nat → Prop) (b : Nat) (T : Tb) (vc vn vf : Value) (w : World) (hT : TabAt w O b T vc vn vf) (hL2 : T.cells.length ≤ 1000000) (j : Nat) (hc : T.cells[c]? = some (j : Int)) (x : Nd) (hx : T.nodes[j]? = some x) (hok : KeyOk x.ky) :
    Calls Try.prog 62 #[.pointer (some ⟨b, 0, none⟩), .int .i64 (e : Int), .int .i64 (c : Int)] w fun en w' => en = .returned (.bool (staysN e c (homeN x.ky T.cells.length))) ∧ Below w.heap.size w w' := by
  have HT0 := Aside0.mk hT
  have HKO := Aside0.mk hok
  have HL2 := Aside0.mk hL2
  have hcl := (List.getElem?_eq_some_iff.1 hc).1
  have hjl := (List.getElem?_eq_some_iff.1 hx).1
  have h34 := hok.len
  obtain ⟨gc, cc, rfl⟩ := hT.vcForm (by omega)
  obtain ⟨gn, cn, rfl⟩ := hT.vnForm (by omega)
  have HNB := Aside0.mk (fun (W : World) (hb : Below w.heap.size w W) => (hT.below hb).nd hx)
  have HCB := Aside0.mk (fun (W : World) (hb : Below w.heap.size w W) => (hT.below hb).cl hc)
  obtain ⟨L, hL⟩ : ∃ L, L = T.cells.length := ⟨_, rfl⟩
  obtain ⟨N, hN⟩ : ∃ N, N = T.nodes.length := ⟨_, rfl⟩
  rw [← hL] at hcl
  rw [← hN] at hjl
  have HL := Aside0.mk hL
  have HC2 := Aside0.mk (fun (W : World) (hb : Below w.heap.size w W) => show W.cell? ⟨b, 2, none⟩ = some (.slice (some ⟨gc, 0, none⟩) L cc) by have h := (hT.below hb).cell 2; simp at h; rw [← hL] at h; exact h)
  have HC3 := Aside0.mk (fun (W : World) (hb : Below w.heap.size w W) => show W.cell? ⟨b, 3, none⟩ = some (.slice (some ⟨gn, 0, none⟩) N cn) by have h := (hT.below hb).cell 3; simp at h; rw [← hN] at h; exact h)
  have HTB := Aside0.mk (fun (W : World) (hb : Below w.heap.size w W) => hT.below hb)
  obtain ⟨h, hh⟩ : ∃ h, h = homeN x.ky L := ⟨_, rfl⟩
  have HH := Aside0.mk (show homeS x.ky L = (h : Int) by rw [hh]; exact (homeN_int _ (by omega)).symm)
  rw [← hL, ← hh]
  have e1 : ((0 : Int) ≤ (c : Int)) = True := eq_true (by omega)
  have e2 : ((c : Int) < (L : Int)) = True := eq_true (by omega)
  have e3 : ((0 : Int) ≤ (j : Int)) = True := eq_true (by omega)
  have e4 : ((j : Int) < (N : Int)) = True := eq_true (by omega)
  have HSS := Aside0.mk (below_drew (Below.refl w.heap.size w))
  clear hT hc hx hok hcl hjl hL hN hh hL2 HT0 h34
  go_enter Try.func62, Try.ntmps62
  go_wp2_with fail
  refine Held.wp_region_G (S := (fun W : World => Below w.heap.size w W)) (by kernel_rfl) ?_
  change Held.wpAnyG _ _ _ _ _ 17 _ _ _
  refine Held.wpAnyG_take (i := 0) (v := (.pointer (some ⟨b, 0, none⟩))) rfl (by kernel_rfl) (by kernel_rfl) (by kernel_rfl) (fun _ _ _ h => h) HSS.out (by first | (with_reducible rfl) | (simp [Region.wanted, yielded, Act.put]; done) | rfl) (fun W h => by go_simp) (some 8) rfl #[true, false, false, false, false, false, false, false, false, false, false, false, false, false, false, false, false] (by kernel_rfl) ?_
  simp only [Act.put, List.setIfInBounds_toArray, List.set_cons_zero, List.set_cons_succ]
  refine Held.wpAnyG_take (i := 1) (v := (.pointer (some ⟨b, 0, none⟩))) rfl (by kernel_rfl) (by kernel_rfl) (by kernel_rfl) (fun _ _ _ h => h) HSS.out (by first | (with_reducible rfl) | (simp [Region.wanted, yielded, Act.put]; done) | rfl) (fun W h => by go_simp) (some 9) rfl #[true, true, false, false, false, false, false, false, false, false, false, false, false, false, false, false, false] (by kernel_rfl) ?_
  simp only [Act.put, List.setIfInBounds_toArray, List.set_cons_zero, List.set_cons_succ]
  refine Held.wpAnyG_take (i := 2) (v := (.pointer (some ⟨b, 0, none⟩))) rfl (by kernel_rfl) (by kernel_rfl) (by kernel_rfl) (fun _ _ _ h => h) HSS.out (by first | (with_reducible rfl) | (simp [Region.wanted, yielded, Act.put]; done) | rfl) (fun W hs => by go_simp) (some 10) rfl #[true, true, true, false, false, false, false, false, false, false, false, false, false, false, false, false, false] (by kernel_rfl) ?_
  simp only [Act.put, List.setIfInBounds_toArray, List.set_cons_zero, List.set_cons_succ]
  refine Held.wpAnyG_take (i := 3) (v := (.pointer (some ⟨b, 3, none⟩))) rfl (by kernel_rfl) (by kernel_rfl) (by kernel_rfl) (fun _ _ _ h => h) HSS.out (by first | (with_reducible rfl) | (simp [Region.wanted, yielded, Act.put]; done) | rfl) (fun W hs => by go_simp) (some 11) rfl #[true, true, true, true, false, false, false, false, false, false, false, false, false, false, false, false, false] (by kernel_rfl) ?_
  simp only [Act.put, List.setIfInBounds_toArray, List.set_cons_zero, List.set_cons_succ]
  refine Held.wpAnyG_take (i := 4) (v := (.slice (some ⟨gn, 0, none⟩) N cn)) rfl (by kernel_rfl) (by kernel_rfl) (by kernel_rfl) (fun _ _ _ h => h) HSS.out (by first | (with_reducible rfl) | (simp [Region.wanted, yielded, Act.put]; done) | rfl) (fun W hs => by have hc := HC3.out W hs; go_simp) (some 12) rfl #[true, true, true, true, true, false, false, false, false, false, false, false, false, false, false, false, false] (by kernel_rfl) ?_
  simp only [Act.put, List.setIfInBounds_toArray, List.set_cons_zero, List.set_cons_succ]
  refine Held.wpAnyG_take (i := 5) (v := (.pointer (some ⟨b, 0, none⟩))) rfl (by kernel_rfl) (by kernel_rfl) (by kernel_rfl) (fun _ _ _ h => h) HSS.out (by first | (with_reducible rfl) | (simp [Region.wanted, yielded, Act.put]; done) | rfl) (fun W h => by go_simp) (some 13) rfl #[true, true, true, true, true, true, false, false, false, false, false, false, false, false, false, false, false] (by kernel_rfl) ?_
  simp only [Act.put, List.setIfInBounds_toArray, List.set_cons_zero, List.set_cons_succ]
  refine Held.wpAnyG_take (i := 6) (v := (.pointer (some ⟨b, 0, none⟩))) rfl (by kernel_rfl) (by kernel_rfl) (by kernel_rfl) (fun _ _ _ h => h) HSS.out (by first | (with_reducible rfl) | (simp [Region.wanted, yielded, Act.put]; done) | rfl) (fun W hs => by go_simp) (some 14) rfl #[true, true, true, true, true, true, true, false, false, false, false, false, false, false, false, false, false] (by kernel_rfl) ?_
  simp only [Act.put, List.setIfInBounds_toArray, List.set_cons_zero, List.set_cons_succ]
  refine Held.wpAnyG_take (i := 7) (v := (.pointer (some ⟨b, 2, none⟩))) rfl (by kernel_rfl) (by kernel_rfl) (by kernel_rfl) (fun _ _ _ h => h) HSS.out (by first | (with_reducible rfl) | (simp [Region.wanted, yielded, Act.put]; done) | rfl) (fun W hs => by go_simp) (some 15) rfl #[true, true, true, true, true, true, true, true, false, false, false, false, false, false, false, false, false] (by kernel_rfl) ?_
  simp only [Act.put, List.setIfInBounds_toArray, List.set_cons_zero, List.set_cons_succ]
  refine Held.wpAnyG_take (i := 8) (v := (.slice (some ⟨gc, 0, none⟩) L cc)) rfl (by kernel_rfl) (by kernel_rfl) (by kernel_rfl) (fun _ _ _ h => h) HSS.out (by first | (with_reducible rfl) | (simp [Region.wanted, yielded, Act.put]; done) | rfl) (fun W hs => by have hc := HC2.out W hs; go_simp) (some 16) rfl #[true, true, true, true, true, true, true, true, true, false, false, false, false, false, false, false, false] (by kernel_rfl) ?_
  simp only [Act.put, List.setIfInBounds_toArray, List.set_cons_zero, List.set_cons_succ]
  refine Held.wpAnyG_take (i := 9) (v := (.int .i64 (c : Int))) rfl (by kernel_rfl) (by kernel_rfl) (by kernel_rfl) (fun _ _ _ h => h) HSS.out (by first | (with_reducible rfl) | (simp [Region.wanted, yielded, Act.put]; done) | rfl) (fun W h => by go_simp) (some 17) rfl #[true, true, true, true, true, true, true, true, true, true, false, false, false, false, false, false, false] (by kernel_rfl) ?_
  simp only [Act.put, List.setIfInBounds_toArray, List.set_cons_zero, List.set_cons_succ]
  refine Held.wpAnyG_take (i := 10) (v := (.pointer (some ⟨gc, c, none⟩))) rfl (by kernel_rfl) (by kernel_rfl) (by kernel_rfl) (fun _ _ _ h => h) HSS.out (by first | (with_reducible rfl) | (simp [Region.wanted, yielded, Act.put]; done) | rfl) (fun W hs => by go_simp) (some 18) rfl #[true, true, true, true, true, true, true, true, true, true, true, false, false, false, false, false, false] (by kernel_rfl) ?_
  simp only [Act.put, List.setIfInBounds_toArray, List.set_cons_zero, List.set_cons_succ]
  refine Held.wpAnyG_take (i := 11) (v := (.int .i64 (j : Int))) rfl (by kernel_rfl) (by kernel_rfl) (by kernel_rfl) (fun _ _ _ h => h) HSS.out (by first | (with_reducible rfl) | (simp [Region.wanted, yielded, Act.put]; done) | rfl) (fun W hs => by have hc := HCB.out W hs; go_simp) (some 19) rfl #[true, true, true, true, true, true, true, true, true, true, true, true, false, false, false, false, false] (by kernel_rfl) ?_
  simp only [Act.put, List.setIfInBounds_toArray, List.set_cons_zero, List.set_cons_succ]
  refine Held.wpAnyG_take (i := 12) (v := (.pointer (some ⟨gn, j * 38, none⟩))) rfl (by kernel_rfl) (by kernel_rfl) (by kernel_rfl) (fun _ _ _ h => h) HSS.out (by first | (with_reducible rfl) | (simp [Region.wanted, yielded, Act.put]; done) | rfl) (fun W hs => by go_simp) (some 20) rfl #[true, true, true, true, true, true, true, true, true, true, true, true, true, false, false, false, false] (by kernel_rfl) ?_
  simp only [Act.put, List.setIfInBounds_toArray, List.set_cons_zero, List.set_cons_succ]
  refine Held.wpAnyG_take (i := 13) (v := (.pointer (some ⟨gn, j * 38 + 2, none⟩))) rfl (by kernel_rfl) (by kernel_rfl) (by kernel_rfl) (fun _ _ _ h => h) HSS.out (by first | (with_reducible rfl) | (simp [Region.wanted, yielded, Act.put]; done) | rfl) (fun W hs => by go_simp) (some 21) rfl #[true, true, true, true, true, true, true, true, true, true, true, true, true, true, false, false, false] (by kernel_rfl) ?_
  simp only [Act.put, List.setIfInBounds_toArray, List.set_cons_zero, List.set_cons_succ]
  refine Held.wpAnyG_take (i := 14) (v := (kv x.ky)) rfl (by kernel_rfl) (by kernel_rfl) (by kernel_rfl) (fun _ _ _ h => h) HSS.out (by first | (with_reducible rfl) | (simp [Region.wanted, yielded, Act.put]; done) | rfl) (fun W hs => Held.run_load_of 29 (.tmp 21) rfl ⟨gn, j * 38 + 2, none⟩ rfl (node_key (HNB.out W hs))) (some 22) rfl #[true, true, true, true, true, true, true, true, true, true, true, true, true, true, true, false, false] (by kernel_rfl) ?_
  simp only [Act.put, List.setIfInBounds_toArray, List.set_cons_zero, List.set_cons_succ]
  refine Held.wpAnyG_one 15 (by kernel_rfl) rfl #[true, true, true, true, true, true, true, true, true, true, true, true, true, true, true, true, false] (by kernel_rfl) (fun K hK => ?_)
  go_wp2_with fail
  (with_reducible refine (home_calls x.ky HKO.out O b T _ _ vf _ (HTB.out _ HSS.out) L HL.out (by rw [HL.out]; exact HL2.out)).mono ?_)
  rintro en wa ⟨rfl, hbN⟩
  rw [HH.out]
  have n1_ := Aside0.mk (HSS.out.trans (hbN.mono HSS.out.size))
  clear HSS
  have HSS := n1_
  clear n1_
  clear hbN
  go_wp2_with fail
  refine hK _ _ HSS.out ?_
  clear hK K
  refine Held.wpAnyG_last 16 (by kernel_rfl) rfl (by kernel_rfl) (by kernel_rfl) ?_
  by_cases h1 : e ≤ c
  · have g1 : (e : Int) ≤ (c : Int) := by omega
    by_cases h2 : e < h
    · have g2 : (e : Int) < (h : Int) := by omega
      have HR := Aside0.mk (show staysN e c h = decide (h ≤ c) by
        unfold staysN
        rw [if_pos h1, decide_eq_true h2, Bool.true_and])
      clear h1 h2
      go_wp2_with fail
      go_ret
      exact ⟨by rw [HR.out]; rfl, HSS.out⟩
    · have g2 : ¬ (e : Int) < (h : Int) := by omega
      have HR := Aside0.mk (show staysN e c h = false by unfold staysN; rw [if_pos h1, decide_eq_false h2, Bool.false_and])
      clear h1 h2
      go_wp2_with fail
      go_ret
      exact ⟨by rw [HR.out]; rfl, HSS.out⟩
  · have g1 : ¬ (e : Int) ≤ (c : Int) := by omega
    by_cases h2 : e < h
    · have g2 : (e : Int) < (h : Int) := by omega
      have HR := Aside0.mk (show staysN e c h = true by unfold staysN; rw [if_neg h1, decide_eq_true h2, Bool.true_or])
      clear h1 h2
      go_wp2_with fail
      go_ret
      exact ⟨by rw [HR.out]; rfl, HSS.out⟩
    · have g2 : ¬ (e : Int) < (h : Int) := by omega
      have HR := Aside0.mk (show staysN e c h = decide (h ≤ c) by
        unfold staysN
        rw [if_neg h1, decide_eq_false h2, Bool.false_or])
      clear h1 h2
      go_wp2_with fail
      go_ret
      exact ⟨by rw [HR.out]; rfl, HSS.out⟩
end Go.Proofs.Ytikpgmajiafhgaa.Fl
/- flow: clear. Written by wip/gen/flc.py. -/
namespace Go.Proofs.Ytikpgmajiafhgaa.Fl
open Go.RowKit Go.Proofs.YtikpgmajiafhgaaW.PrintWords Go.Proofs.YtikpgmajiafhgaaW.PrintLast Go.Proofs.YtikpgmajiafhgaaW.PrintMore Go.Proofs.Ytikpgmajiafhgaa.X Go.Proofs.Ytikpgmajiafhgaa.M Go.Proofs.Ytikpgmajiafhgaa.Bv Go.Proofs.Ytikpgmajiafhgaa.PuLib Go.Proofs.Ytikpgmajiafhgaa.PuMix Go.Proofs.Ytikpgmajiafhgaa.PuCat
set_option linter.unusedVariables false
set_option linter.unusedSimpArgs false
/-- What is put behind an empty cell moves up. -/
def clearF (hm : Nat → Nat) : Nat → List Int → Nat → Nat → Option (List Int)
  | 0, _, _, _ => none
  | f + 1, cells, e, c =>
    match cells[c]? with
    | none => none
    | some x =>
      if x = -1 then some cells
      else if staysN e c (hm x.toNat) then clearF hm f cells e (nxt cells.length c)
      else clearF hm f ((cells.set e x).set c (-1)) c (nxt cells.length c)
theorem clearF_step {hm : Nat → Nat} {f : Nat} {cells : List Int} {e c : Nat} {o : List Int} (h : clearF hm f cells e c = some o) :
    ∃ f', f = f' + 1 ∧ ∃ x, cells[c]? = some x ∧ ((x = -1 ∧ o = cells) ∨ (x ≠ -1 ∧ staysN e c (hm x.toNat) = true ∧ clearF hm f' cells e (nxt cells.length c) = some o) ∨ (x ≠ -1 ∧ staysN e c (hm x.toNat) = false ∧ clearF hm f' ((cells.set e x).set c (-1)) c (nxt cells.length c) = some o)) := by
  cases f with
  | zero => cases h
  | succ f =>
    refine ⟨f, rfl, ?_⟩
    unfold clearF at h
    cases hc : cells[c]? with
    | none => rw [hc] at h; cases h
    | some x =>
      rw [hc] at h
      dsimp only at h
      refine ⟨x, rfl, ?_⟩
      by_cases h1 : x = -1
      · rw [if_pos h1] at h
        exact .inl ⟨h1, (Option.some.inj h).symm⟩
      · rw [if_neg h1] at h
        cases hs : staysN e c (hm x.toNat) with
        | true => rw [hs, if_pos rfl] at h; exact .inr (.inl ⟨h1, rfl, h⟩)
        | false => rw [hs, if_neg Bool.false_ne_true] at h; exact .inr (.inr ⟨h1, rfl, h⟩)
/-- A cell holds a node, or none. -/
def CellsOk (cells : List Int) (N : Nat) : Prop := ∀ x ∈ cells, x = -1 ∨ ∃ j : Nat, x = (j : Int) ∧ j < N
theorem CellsOk.at {cells : List Int} {N : Nat} (h : CellsOk cells N) {x : Int} (hx : x ∈ cells) : x = -1 ∨ ∃ j : Nat, x = (j : Int) ∧ j < N := h x hx
theorem CellsOk.set {cells : List Int} {N : Nat} (h : CellsOk cells N) (i : Nat) {x : Int} (hx : x = -1 ∨ ∃ j : Nat, x = (j : Int) ∧ j < N) : CellsOk (cells.set i x) N := by
  intro y hy
  rcases List.mem_or_eq_of_mem_set hy with h1 | h1
  · exact h y h1
  · rw [h1]; exact hx
def hmT (T : Tb) (L : Nat) (j : Nat) : Nat := homeN (ndD T.nodes j).ky L
set_option maxRecDepth 100000 in
set_option maxHeartbeats 4000000 in
theorem clear_calls (e : Nat) (O : Nat → Prop) (b : Nat) (T : Tb) (vc vn vf : Value) (w : World) (hT : TabAt w O b T vc vn vf) (hL2 : T.cells.length ≤ 1000000) (he : e < T.cells.length) (hok : NodesOk T) (hco : CellsOk T.cells T.nodes.length) (fu : Nat) (cells' : List Int) (hf : clearF (hmT T T.cells.length) fu (T.cells.set e (-1)) e (nxt T.cells.length e) = some cells') :
    Calls Try.prog 56 #[.pointer (some ⟨b, 0, none⟩), .int .i64 (e : Int)] w fun en w' => en = .returned (.tuple #[]) ∧ TabAt w' O b { T with cells := cells' } vc vn vf ∧ Keep O w w' := by
  have HOK := Aside0.mk (show ∀ nd ∈ T.nodes, KeyOk nd.ky from hok)
  have HCO := Aside0.mk hco
  have HF := Aside0.mk hf
  obtain ⟨gc, cc, rfl⟩ := hT.vcForm (by omega)
  obtain ⟨L, hL⟩ : ∃ L, L = T.cells.length := ⟨_, rfl⟩
  rw [← hL] at hT he HF hL2
  have HT := Aside0.mk hT
  have HL := Aside0.mk hL
  have HL2 := Aside0.mk hL2
  have HE := Aside0.mk he
  have hc2 := hT.cell 2
  simp at hc2
  have hcx : w.cell? ⟨gc, e, none⟩ = some (.int .i64 (T.cells.getD e 0)) := hT.cl (by rw [List.getD_eq_getElem?_getD, List.getElem?_eq_getElem (by omega)]; rfl)
  have hfx := hT.frC e
  have e1 : ((0 : Int) ≤ (e : Int)) = True := eq_true (by omega)
  have e2 : ((e : Int) < (L : Int)) = True := eq_true (by omega)
  have HT1 := Aside0.mk (hT.setCl e (-1))
  have HGC := Aside0.mk hT.vcOwn.1
  have HK1 := Aside0.mk (show Keep O w (w.setCell ⟨gc, e, none⟩ (.int .i64 (-1))) from Keep.put (p := ⟨gc, e, none⟩) hT.vcOwn.1 _)
  have HCO1 := Aside0.mk (hco.set e (x := -1) (.inl rfl))
  rw [← hL]
  clear hT hL2 he hok hco hf hL
  go_enter Try.func56, Try.ntmps56
  go_upto_region 1 with (fail)
  obtain ⟨w1, hw1⟩ : ∃ w1, w1 = w.setCell ⟨gc, e, none⟩ (.int .i64 (-1)) := ⟨_, rfl⟩
  rw [← hw1] at HT1 HK1 ⊢
  clear hc2 hcx hfx hw1
  go_wp2_with fail
  (with_reducible refine (after_calls e O b _ _ _ _ w1 HT1.out L (by rw [List.length_set]; exact HL.out) HL2.out HE.out).mono ?_)
  rintro en w2 ⟨rfl, hb⟩
  have HT2 := Aside0.mk (HT1.out.below hb)
  have HK2 := Aside0.mk (HK1.out.trans (Keep.of_below (O := O) hb) (fun k hk => .inl hk))
  have HLE := Aside0.mk (show (T.cells.set e (-1)).length = L ∧ e < L from ⟨by rw [List.length_set]; exact HL.out.symm, HE.out⟩)
  clear hb HT1 HK1 e1 e2
  go_wp2_with fail
  go_loopg [1, 4] fu (fun kq v1 v4 wr => ∃ (e3 c3 : Nat) (cl : List Int), v1 = .int .i64 (e3 : Int) ∧ v4 = .int .i64 (c3 : Int) ∧ Aside0 (clearF (hmT T L) kq cl e3 c3 = some cells') ∧ Aside0 (cl.length = L ∧ e3 < L) ∧ Aside0 (CellsOk cl T.nodes.length) ∧ Aside0 (TabAt wr O b { T with cells := cl } (.slice (some ⟨gc, 0, none⟩) L cc) vn vf) ∧ Aside0 (Keep O w wr))
  case atStart => exact ⟨e, nxt L e, T.cells.set e (-1), rfl, rfl, HF, HLE, HCO1, HT2, HK2⟩
  case round =>
    clear HF HLE HCO1 HT2 HK2 HT
    obtain ⟨e3, c3, cl, rfl, rfl, HF, HLE, HCO1, HT, HK⟩ := hrel
    obtain ⟨f', hgk, x, hx, hor⟩ := clearF_step HF.out
    have HG := Aside0.mk hgk
    have hcl := HT.out.cl hx
    have hc2 := HT.out.cell 2
    simp at hc2
    have hlt : c3 < L := by rw [← HLE.out.1]; exact (List.getElem?_eq_some_iff.1 hx).1
    have e1 : ((0 : Int) ≤ (c3 : Int)) = True := eq_true (by omega)
    have e2 : ((c3 : Int) < (L : Int)) = True := eq_true (by omega)
    have HLT := Aside0.mk hlt
    have HX := Aside0.mk hx
    clear hgk hlt HF
    rcases hor with ⟨rfl, ho⟩ | ⟨hx1, hs, hf⟩ | ⟨hx1, hs, hf⟩
    · have HO := Aside0.mk ho
      clear ho hx
      go_wp2_with fail
      go_end0
      refine ⟨rfl, ?_, HK.out⟩
      rw [HO.out]
      exact HT.out
    · obtain ⟨j, rfl, hj⟩ := (HCO1.out.at (List.mem_of_getElem? hx)).resolve_left hx1
      rw [Int.toNat_natCast] at hs
      have HS := Aside0.mk hs
      have HFF := Aside0.mk hf
      have HNJ := Aside0.mk (ndD_some hj)
      have e3' : ¬ (j : Int) = -1 := by omega
      have e4 : ((j : Int) == -1) = false := beq_eq_false_iff_ne.2 e3'
      clear hs hf hx hx1 hj
      go_wp2_with fail
      (with_reducible refine (stays_calls e3 c3 O b _ _ _ _ wr HT.out (by show cl.length ≤ 1000000; rw [HLE.out.1]; exact HL2.out) j HX.out (ndD T.nodes j) HNJ.out (HOK.out _ (List.mem_of_getElem? HNJ.out))).mono ?_)
      rintro en w3 ⟨rfl, hb⟩
      have HT3 := Aside0.mk (HT.out.below hb)
      have HK3 := Aside0.mk (HK.out.trans (Keep.of_below (O := O) hb) (fun k hk => .inl hk))
      rw [show staysN e3 c3 (homeN (ndD T.nodes j).ky cl.length) = true by rw [HLE.out.1]; exact HS.out]
      clear hb HT HK hcl hc2
      go_wp2_with fail
      (with_reducible refine (after_calls c3 O b _ _ _ _ w3 HT3.out L HLE.out.1.symm HL2.out HLT.out).mono ?_)
      rintro en w4 ⟨rfl, hb⟩
      have HT4 := Aside0.mk (HT3.out.below hb)
      have HK4 := Aside0.mk (HK3.out.trans (Keep.of_below (O := O) hb) (fun k hk => .inl hk))
      clear hb HT3 HK3
      go_wp2_with fail
      go_roundg (gk - 1)
      case measure => have h1 := HG.out; omega
      case rel => exact ⟨e3, nxt L c3, cl, rfl, rfl, ⟨by have h1 := HG.out; rw [h1, Nat.add_sub_cancel, ← HLE.out.1]; rw [HLE.out.1] at *; exact HFF.out⟩, HLE, HCO1, HT4, HK4⟩
    · obtain ⟨j, rfl, hj⟩ := (HCO1.out.at (List.mem_of_getElem? hx)).resolve_left hx1
      rw [Int.toNat_natCast] at hs
      have HS := Aside0.mk hs
      have HFF := Aside0.mk hf
      have HNJ := Aside0.mk (ndD_some hj)
      have e3' : ¬ (j : Int) = -1 := by omega
      have e4 : ((j : Int) == -1) = false := beq_eq_false_iff_ne.2 e3'
      clear hs hf hx hx1 hj
      go_wp2_with fail
      (with_reducible refine (stays_calls e3 c3 O b _ _ _ _ wr HT.out (by show cl.length ≤ 1000000; rw [HLE.out.1]; exact HL2.out) j HX.out (ndD T.nodes j) HNJ.out (HOK.out _ (List.mem_of_getElem? HNJ.out))).mono ?_)
      rintro en w3 ⟨rfl, hb⟩
      have HT3 := Aside0.mk (HT.out.below hb)
      have HK3 := Aside0.mk (HK.out.trans (Keep.of_below (O := O) hb) (fun k hk => .inl hk))
      rw [show staysN e3 c3 (homeN (ndD T.nodes j).ky cl.length) = false by rw [HLE.out.1]; exact HS.out]
      clear hb HT HK hcl hc2
      obtain ⟨wd, hwd⟩ : ∃ wd, wd = w3.drew := ⟨_, rfl⟩
      have HTD := Aside0.mk (show TabAt wd O b { T with cells := cl } (.slice (some ⟨gc, 0, none⟩) L cc) vn vf by rw [hwd]; exact HT3.out.below (below_drew (Below.refl w3.heap.size w3)))
      have HKD := Aside0.mk (show Keep O w wd by rw [hwd]; exact HK3.out.trans (Keep.of_below (O := O) (below_drew (Below.refl _ _))) (fun k hk => .inl hk))
      have g1 : ((0 : Int) ≤ (e3 : Int)) = True := eq_true (by omega)
      have g2 : ((e3 : Int) < (L : Int)) = True := eq_true (by have h1 := HLE.out.2; omega)
      have HSS := Aside0.mk (And.intro HTD.out.blk' (HTD.out.cl HX.out))
      have HT5 := Aside0.mk (HTD.out.setCl e3 (j : Int))
      have HX5 := Aside0.mk (show (cl.set e3 (j : Int))[c3]? = some (j : Int) by
        rw [List.getElem?_set]
        split
        · rename_i h; subst h; rw [if_pos (by rw [HLE.out.1]; exact HLE.out.2)]
        · exact HX.out)
      have HT6 := Aside0.mk (HT5.out.setCl c3 (-1))
      have HS5 := Aside0.mk (And.intro HT5.out.blk' (HT5.out.cl HX5.out))
      have HEX := Aside0.mk (show cl[e3]? = some (cl.getD e3 0) by rw [List.getD_eq_getElem?_getD, List.getElem?_eq_getElem (by rw [HLE.out.1]; exact HLE.out.2)]; rfl)
      have HK6 := Aside0.mk (show Keep O w ((wd.setCell ⟨gc, e3, none⟩ (.int .i64 (j : Int))).setCell ⟨gc, c3, none⟩ (.int .i64 (-1))) from HKD.out.trans ((Keep.put (p := ⟨gc, e3, none⟩) HGC.out _).trans (Keep.put (p := ⟨gc, c3, none⟩) HGC.out _) (fun k hk => .inl hk)) (fun k hk => .inl hk))
      go_wp2_with fail
      refine Held.wp_region_G (S := (fun W : World => W.heap[b]? = some (.cells #[.int .i64 T.most, .int .u64 T.idle, .slice (some ⟨gc, 0, none⟩) L cc, vn, vf, .int .i64 T.first, .int .i64 T.last, .int .i64 T.count] 85 (0, 0)) ∧ W.cell? ⟨gc, c3, none⟩ = some (.int .i64 (j : Int)))) (by kernel_rfl) ?_
      change Held.wpAnyG _ _ _ _ _ 21 _ _ _
      rw [← hwd]
      clear hwd
      refine Held.wpAnyG_take (i := 0) (v := (.pointer (some ⟨b, 0, none⟩))) rfl (by kernel_rfl) (by kernel_rfl) (by kernel_rfl) (fun _ _ _ h => h) HSS.out (by first | (with_reducible rfl) | (simp [Region.wanted, yielded, Act.put]; done) | rfl) (fun W h => by go_simp) (some 30) rfl #[true, false, false, false, false, false, false, false, false, false, false, false, false, false, false, false, false, false, false, false, false] (by kernel_rfl) ?_
      simp only [Act.put, List.setIfInBounds_toArray, List.set_cons_zero, List.set_cons_succ]
      refine Held.wpAnyG_take (i := 1) (v := (.pointer (some ⟨b, 0, none⟩))) rfl (by kernel_rfl) (by kernel_rfl) (by kernel_rfl) (fun _ _ _ h => h) HSS.out (by first | (with_reducible rfl) | (simp [Region.wanted, yielded, Act.put]; done) | rfl) (fun W hs => by go_simp) (some 31) rfl #[true, true, false, false, false, false, false, false, false, false, false, false, false, false, false, false, false, false, false, false, false] (by kernel_rfl) ?_
      simp only [Act.put, List.setIfInBounds_toArray, List.set_cons_zero, List.set_cons_succ]
      refine Held.wpAnyG_take (i := 2) (v := (.pointer (some ⟨b, 2, none⟩))) rfl (by kernel_rfl) (by kernel_rfl) (by kernel_rfl) (fun _ _ _ h => h) HSS.out (by first | (with_reducible rfl) | (simp [Region.wanted, yielded, Act.put]; done) | rfl) (fun W hs => by go_simp) (some 32) rfl #[true, true, true, false, false, false, false, false, false, false, false, false, false, false, false, false, false, false, false, false, false] (by kernel_rfl) ?_
      simp only [Act.put, List.setIfInBounds_toArray, List.set_cons_zero, List.set_cons_succ]
      refine Held.wpAnyG_take (i := 3) (v := (.slice (some ⟨gc, 0, none⟩) L cc)) rfl (by kernel_rfl) (by kernel_rfl) (by kernel_rfl) (fun _ _ _ h => h) HSS.out (by first | (with_reducible rfl) | (simp [Region.wanted, yielded, Act.put]; done) | rfl) (fun W hs => by have hc := blk_cell hs.1 2; simp at hc; go_simp) (some 33) rfl #[true, true, true, true, false, false, false, false, false, false, false, false, false, false, false, false, false, false, false, false, false] (by kernel_rfl) ?_
      simp only [Act.put, List.setIfInBounds_toArray, List.set_cons_zero, List.set_cons_succ]
      refine Held.wpAnyG_take (i := 5) (v := (.pointer (some ⟨b, 0, none⟩))) rfl (by kernel_rfl) (by kernel_rfl) (by kernel_rfl) (fun _ _ _ h => h) HSS.out (by first | (with_reducible rfl) | (simp [Region.wanted, yielded, Act.put]; done) | rfl) (fun W h => by go_simp) (some 35) rfl #[true, true, true, true, false, true, false, false, false, false, false, false, false, false, false, false, false, false, false, false, false] (by kernel_rfl) ?_
      simp only [Act.put, List.setIfInBounds_toArray, List.set_cons_zero, List.set_cons_succ]
      refine Held.wpAnyG_take (i := 6) (v := (.pointer (some ⟨b, 0, none⟩))) rfl (by kernel_rfl) (by kernel_rfl) (by kernel_rfl) (fun _ _ _ h => h) HSS.out (by first | (with_reducible rfl) | (simp [Region.wanted, yielded, Act.put]; done) | rfl) (fun W hs => by go_simp) (some 36) rfl #[true, true, true, true, false, true, true, false, false, false, false, false, false, false, false, false, false, false, false, false, false] (by kernel_rfl) ?_
      simp only [Act.put, List.setIfInBounds_toArray, List.set_cons_zero, List.set_cons_succ]
      refine Held.wpAnyG_take (i := 7) (v := (.pointer (some ⟨b, 2, none⟩))) rfl (by kernel_rfl) (by kernel_rfl) (by kernel_rfl) (fun _ _ _ h => h) HSS.out (by first | (with_reducible rfl) | (simp [Region.wanted, yielded, Act.put]; done) | rfl) (fun W hs => by go_simp) (some 37) rfl #[true, true, true, true, false, true, true, true, false, false, false, false, false, false, false, false, false, false, false, false, false] (by kernel_rfl) ?_
      simp only [Act.put, List.setIfInBounds_toArray, List.set_cons_zero, List.set_cons_succ]
      refine Held.wpAnyG_take (i := 8) (v := (.slice (some ⟨gc, 0, none⟩) L cc)) rfl (by kernel_rfl) (by kernel_rfl) (by kernel_rfl) (fun _ _ _ h => h) HSS.out (by first | (with_reducible rfl) | (simp [Region.wanted, yielded, Act.put]; done) | rfl) (fun W hs => by have hc := blk_cell hs.1 2; simp at hc; go_simp) (some 38) rfl #[true, true, true, true, false, true, true, true, true, false, false, false, false, false, false, false, false, false, false, false, false] (by kernel_rfl) ?_
      simp only [Act.put, List.setIfInBounds_toArray, List.set_cons_zero, List.set_cons_succ]
      refine Held.wpAnyG_take (i := 10) (v := (.pointer (some ⟨b, 0, none⟩))) rfl (by kernel_rfl) (by kernel_rfl) (by kernel_rfl) (fun _ _ _ h => h) HSS.out (by first | (with_reducible rfl) | (simp [Region.wanted, yielded, Act.put]; done) | rfl) (fun W h => by go_simp) (some 40) rfl #[true, true, true, true, false, true, true, true, true, false, true, false, false, false, false, false, false, false, false, false, false] (by kernel_rfl) ?_
      simp only [Act.put, List.setIfInBounds_toArray, List.set_cons_zero, List.set_cons_succ]
      refine Held.wpAnyG_take (i := 11) (v := (.pointer (some ⟨b, 0, none⟩))) rfl (by kernel_rfl) (by kernel_rfl) (by kernel_rfl) (fun _ _ _ h => h) HSS.out (by first | (with_reducible rfl) | (simp [Region.wanted, yielded, Act.put]; done) | rfl) (fun W hs => by go_simp) (some 41) rfl #[true, true, true, true, false, true, true, true, true, false, true, true, false, false, false, false, false, false, false, false, false] (by kernel_rfl) ?_
      simp only [Act.put, List.setIfInBounds_toArray, List.set_cons_zero, List.set_cons_succ]
      refine Held.wpAnyG_take (i := 12) (v := (.pointer (some ⟨b, 2, none⟩))) rfl (by kernel_rfl) (by kernel_rfl) (by kernel_rfl) (fun _ _ _ h => h) HSS.out (by first | (with_reducible rfl) | (simp [Region.wanted, yielded, Act.put]; done) | rfl) (fun W hs => by go_simp) (some 42) rfl #[true, true, true, true, false, true, true, true, true, false, true, true, true, false, false, false, false, false, false, false, false] (by kernel_rfl) ?_
      simp only [Act.put, List.setIfInBounds_toArray, List.set_cons_zero, List.set_cons_succ]
      refine Held.wpAnyG_take (i := 13) (v := (.slice (some ⟨gc, 0, none⟩) L cc)) rfl (by kernel_rfl) (by kernel_rfl) (by kernel_rfl) (fun _ _ _ h => h) HSS.out (by first | (with_reducible rfl) | (simp [Region.wanted, yielded, Act.put]; done) | rfl) (fun W hs => by have hc := blk_cell hs.1 2; simp at hc; go_simp) (some 43) rfl #[true, true, true, true, false, true, true, true, true, false, true, true, true, true, false, false, false, false, false, false, false] (by kernel_rfl) ?_
      simp only [Act.put, List.setIfInBounds_toArray, List.set_cons_zero, List.set_cons_succ]
      refine Held.wpAnyG_take (i := 4) (v := (.int .i64 (e3 : Int))) rfl (by kernel_rfl) (by kernel_rfl) (by kernel_rfl) (fun _ _ _ h => h) HSS.out (by first | (with_reducible rfl) | (simp [Region.wanted, yielded, Act.put]; done) | rfl) (fun W h => by go_simp) (some 34) rfl #[true, true, true, true, true, true, true, true, true, false, true, true, true, true, false, false, false, false, false, false, false] (by kernel_rfl) ?_
      simp only [Act.put, List.setIfInBounds_toArray, List.set_cons_zero, List.set_cons_succ]
      refine Held.wpAnyG_take (i := 9) (v := (.int .i64 (c3 : Int))) rfl (by kernel_rfl) (by kernel_rfl) (by kernel_rfl) (fun _ _ _ h => h) HSS.out (by first | (with_reducible rfl) | (simp [Region.wanted, yielded, Act.put]; done) | rfl) (fun W h => by go_simp) (some 39) rfl #[true, true, true, true, true, true, true, true, true, true, true, true, true, true, false, false, false, false, false, false, false] (by kernel_rfl) ?_
      simp only [Act.put, List.setIfInBounds_toArray, List.set_cons_zero, List.set_cons_succ]
      refine Held.wpAnyG_take (i := 14) (v := (.int .i64 (c3 : Int))) rfl (by kernel_rfl) (by kernel_rfl) (by kernel_rfl) (fun _ _ _ h => h) HSS.out (by first | (with_reducible rfl) | (simp [Region.wanted, yielded, Act.put]; done) | rfl) (fun W h => by go_simp) (some 44) rfl #[true, true, true, true, true, true, true, true, true, true, true, true, true, true, true, false, false, false, false, false, false] (by kernel_rfl) ?_
      simp only [Act.put, List.setIfInBounds_toArray, List.set_cons_zero, List.set_cons_succ]
      refine Held.wpAnyG_take (i := 15) (v := (.pointer (some ⟨gc, c3, none⟩))) rfl (by kernel_rfl) (by kernel_rfl) (by kernel_rfl) (fun _ _ _ h => h) HSS.out (by first | (with_reducible rfl) | (simp [Region.wanted, yielded, Act.put]; done) | rfl) (fun W hs => by go_simp) (some 45) rfl #[true, true, true, true, true, true, true, true, true, true, true, true, true, true, true, true, false, false, false, false, false] (by kernel_rfl) ?_
      simp only [Act.put, List.setIfInBounds_toArray, List.set_cons_zero, List.set_cons_succ]
      refine Held.wpAnyG_take (i := 16) (v := (.int .i64 (j : Int))) rfl (by kernel_rfl) (by kernel_rfl) (by kernel_rfl) (fun _ _ _ h => h) HSS.out (by first | (with_reducible rfl) | (simp [Region.wanted, yielded, Act.put]; done) | rfl) (fun W hs => by have hc := hs.2; go_simp) (some 46) rfl #[true, true, true, true, true, true, true, true, true, true, true, true, true, true, true, true, true, false, false, false, false] (by kernel_rfl) ?_
      simp only [Act.put, List.setIfInBounds_toArray, List.set_cons_zero, List.set_cons_succ]
      refine Held.wpAnyG_take (i := 17) (v := (.pointer (some ⟨gc, e3, none⟩))) rfl (by kernel_rfl) (by kernel_rfl) (by kernel_rfl) (fun _ _ _ h => h) HSS.out (by first | (with_reducible rfl) | (simp [Region.wanted, yielded, Act.put]; done) | rfl) (fun W hs => by go_simp) (some 47) rfl #[true, true, true, true, true, true, true, true, true, true, true, true, true, true, true, true, true, true, false, false, false] (by kernel_rfl) ?_
      simp only [Act.put, List.setIfInBounds_toArray, List.set_cons_zero, List.set_cons_succ]
      have hcc := HTD.out.cl HEX.out
      have hff := HTD.out.frC e3
      refine Held.wpAnyG_one 18 (by kernel_rfl) rfl #[true, true, true, true, true, true, true, true, true, true, true, true, true, true, true, true, true, true, true, false, false] (by kernel_rfl) (fun K hK => ?_)
      go_wp2_with fail
      clear HSS hcc hff
      have HSS := HS5
      refine hK _ _ HSS.out ?_
      clear hK K
      refine Held.wpAnyG_take (i := 19) (v := (.pointer (some ⟨gc, c3, none⟩))) rfl (by kernel_rfl) (by kernel_rfl) (by kernel_rfl) (fun _ _ _ h => h) HSS.out (by first | (with_reducible rfl) | (simp [Region.wanted, yielded, Act.put]; done) | rfl) (fun W hs => by go_simp) (some 48) rfl #[true, true, true, true, true, true, true, true, true, true, true, true, true, true, true, true, true, true, true, true, false] (by kernel_rfl) ?_
      simp only [Act.put, List.setIfInBounds_toArray, List.set_cons_zero, List.set_cons_succ]
      have hcc := HT5.out.cl HX5.out
      have hff := HT5.out.frC c3
      refine Held.wpAnyG_last 20 (by kernel_rfl) rfl (by kernel_rfl) (by kernel_rfl) ?_
      obtain ⟨w6, hw6⟩ : ∃ w6, w6 = (wd.setCell ⟨gc, e3, none⟩ (.int .i64 (j : Int))).setCell ⟨gc, c3, none⟩ (.int .i64 (-1)) := ⟨_, rfl⟩
      rw [← hw6] at HT6 HK6
      have HW6 := Aside0.mk hw6
      clear hw6
      go_upto_region 6 with (fail)
      rw [← HW6.out]
      clear hcc hff HSS HS5 HT5 HTD HKD HT3 HK3 HW6
      go_wp2_with fail
      (with_reducible refine (after_calls c3 O b _ _ _ _ w6 HT6.out L (by show L = ((cl.set e3 (j : Int)).set c3 (-1)).length; rw [List.length_set, List.length_set]; exact HLE.out.1.symm) HL2.out HLT.out).mono ?_)
      rintro en w4 ⟨rfl, hb⟩
      have HT4 := Aside0.mk (HT6.out.below hb)
      have HK4 := Aside0.mk (HK6.out.trans (Keep.of_below (O := O) hb) (fun k hk => .inl hk))
      clear hb HT6 HK6
      go_wp2_with fail
      go_roundg (gk - 1)
      case measure => have h1 := HG.out; omega
      case rel =>
        refine ⟨c3, nxt L c3, (cl.set e3 (j : Int)).set c3 (-1), rfl, rfl, ⟨?_⟩, ⟨?_⟩, ⟨?_⟩, HT4, HK4⟩
        · have h1 := HG.out
          have h2 := HFF.out
          rw [HLE.out.1] at h2
          rw [h1, Nat.add_sub_cancel]
          exact h2
        · exact ⟨by rw [List.length_set, List.length_set]; exact HLE.out.1, HLT.out⟩
        · exact (HCO1.out.set e3 (.inr ⟨j, rfl, (List.getElem?_eq_some_iff.1 HNJ.out).1⟩)).set c3 (.inl rfl)
end Go.Proofs.Ytikpgmajiafhgaa.Fl
/- flow: room, drop and remove. Written by wip/gen/fle.py. -/
namespace Go.Proofs.Ytikpgmajiafhgaa.Fl
open Go.RowKit Go.Proofs.YtikpgmajiafhgaaW.PrintWords Go.Proofs.YtikpgmajiafhgaaW.PrintLast Go.Proofs.YtikpgmajiafhgaaW.PrintMore Go.Proofs.Ytikpgmajiafhgaa.X Go.Proofs.Ytikpgmajiafhgaa.M Go.Proofs.Ytikpgmajiafhgaa.Bv Go.Proofs.Ytikpgmajiafhgaa.PuLib Go.Proofs.Ytikpgmajiafhgaa.PuMix Go.Proofs.Ytikpgmajiafhgaa.PuCat
set_option linter.unusedVariables false
set_option linter.unusedSimpArgs false
theorem room_calls (O : Nat → Prop) (b : Nat) (T : Tb) (vc vn vf : Value) (w : World) (hT : TabAt w O b T vc vn vf) :
    Calls Try.prog 57 #[.pointer (some ⟨b, 0, none⟩)] w fun en w' => en = .returned (.bool (decide (T.count < T.most))) ∧ Below w.heap.size w w' := by
  have HT := Aside0.mk hT
  have HSS := Aside0.mk (below_drew (Below.refl w.heap.size w))
  clear hT
  go_enter Try.func57, Try.ntmps57
  go_wp2_with fail
  refine Held.wp_region_G (S := (fun W : World => Below w.heap.size w W)) (by kernel_rfl) ?_
  change Held.wpAnyG _ _ _ _ _ 10 _ _ _
  refine Held.wpAnyG_take (i := 0) (v := (.pointer (some ⟨b, 0, none⟩))) rfl (by kernel_rfl) (by kernel_rfl) (by kernel_rfl) (fun _ _ _ h => h) HSS.out (by first | (with_reducible rfl) | (simp [Region.wanted, yielded, Act.put]; done) | rfl) (fun W h => by go_simp) (some 3) rfl #[true, false, false, false, false, false, false, false, false, false] (by kernel_rfl) ?_
  simp only [Act.put, List.setIfInBounds_toArray, List.set_cons_zero, List.set_cons_succ]
  refine Held.wpAnyG_take (i := 1) (v := (.pointer (some ⟨b, 0, none⟩))) rfl (by kernel_rfl) (by kernel_rfl) (by kernel_rfl) (fun _ _ _ h => h) HSS.out (by first | (with_reducible rfl) | (simp [Region.wanted, yielded, Act.put]; done) | rfl) (fun W hs => by go_simp) (some 4) rfl #[true, true, false, false, false, false, false, false, false, false] (by kernel_rfl) ?_
  simp only [Act.put, List.setIfInBounds_toArray, List.set_cons_zero, List.set_cons_succ]
  refine Held.wpAnyG_take (i := 2) (v := (.pointer (some ⟨b, 7, none⟩))) rfl (by kernel_rfl) (by kernel_rfl) (by kernel_rfl) (fun _ _ _ h => h) HSS.out (by first | (with_reducible rfl) | (simp [Region.wanted, yielded, Act.put]; done) | rfl) (fun W hs => by go_simp) (some 5) rfl #[true, true, true, false, false, false, false, false, false, false] (by kernel_rfl) ?_
  simp only [Act.put, List.setIfInBounds_toArray, List.set_cons_zero, List.set_cons_succ]
  refine Held.wpAnyG_take (i := 3) (v := (.int .i64 T.count)) rfl (by kernel_rfl) (by kernel_rfl) (by kernel_rfl) (fun _ _ _ h => h) HSS.out (by first | (with_reducible rfl) | (simp [Region.wanted, yielded, Act.put]; done) | rfl) (fun W hs => by have hc := (HT.out.below hs).cell 7; simp at hc; go_simp) (some 6) rfl #[true, true, true, true, false, false, false, false, false, false] (by kernel_rfl) ?_
  simp only [Act.put, List.setIfInBounds_toArray, List.set_cons_zero, List.set_cons_succ]
  refine Held.wpAnyG_take (i := 4) (v := (.pointer (some ⟨b, 0, none⟩))) rfl (by kernel_rfl) (by kernel_rfl) (by kernel_rfl) (fun _ _ _ h => h) HSS.out (by first | (with_reducible rfl) | (simp [Region.wanted, yielded, Act.put]; done) | rfl) (fun W h => by go_simp) (some 7) rfl #[true, true, true, true, true, false, false, false, false, false] (by kernel_rfl) ?_
  simp only [Act.put, List.setIfInBounds_toArray, List.set_cons_zero, List.set_cons_succ]
  refine Held.wpAnyG_take (i := 5) (v := (.pointer (some ⟨b, 0, none⟩))) rfl (by kernel_rfl) (by kernel_rfl) (by kernel_rfl) (fun _ _ _ h => h) HSS.out (by first | (with_reducible rfl) | (simp [Region.wanted, yielded, Act.put]; done) | rfl) (fun W hs => by go_simp) (some 8) rfl #[true, true, true, true, true, true, false, false, false, false] (by kernel_rfl) ?_
  simp only [Act.put, List.setIfInBounds_toArray, List.set_cons_zero, List.set_cons_succ]
  refine Held.wpAnyG_take (i := 6) (v := (.pointer (some ⟨b, 0, none⟩))) rfl (by kernel_rfl) (by kernel_rfl) (by kernel_rfl) (fun _ _ _ h => h) HSS.out (by first | (with_reducible rfl) | (simp [Region.wanted, yielded, Act.put]; done) | rfl) (fun W hs => by go_simp) (some 9) rfl #[true, true, true, true, true, true, true, false, false, false] (by kernel_rfl) ?_
  simp only [Act.put, List.setIfInBounds_toArray, List.set_cons_zero, List.set_cons_succ]
  refine Held.wpAnyG_take (i := 7) (v := (.int .i64 T.most)) rfl (by kernel_rfl) (by kernel_rfl) (by kernel_rfl) (fun _ _ _ h => h) HSS.out (by first | (with_reducible rfl) | (simp [Region.wanted, yielded, Act.put]; done) | rfl) (fun W hs => by have hc := (HT.out.below hs).cell 0; simp at hc; go_simp) (some 10) rfl #[true, true, true, true, true, true, true, true, false, false] (by kernel_rfl) ?_
  simp only [Act.put, List.setIfInBounds_toArray, List.set_cons_zero, List.set_cons_succ]
  refine Held.wpAnyG_take (i := 8) (v := (.bool (decide (T.count < T.most)))) rfl (by kernel_rfl) (by kernel_rfl) (by kernel_rfl) (fun _ _ _ h => h) HSS.out (by first | (with_reducible rfl) | (simp [Region.wanted, yielded, Act.put]; done) | rfl) (fun W hs => by go_simp) (some 11) rfl #[true, true, true, true, true, true, true, true, true, false] (by kernel_rfl) ?_
  simp only [Act.put, List.setIfInBounds_toArray, List.set_cons_zero, List.set_cons_succ]
  refine Held.wpAnyG_last 9 (by kernel_rfl) rfl (by kernel_rfl) (by kernel_rfl) ?_
  go_wp2_with fail
  go_ret
  exact ⟨rfl, HSS.out⟩
theorem len_calls (O : Nat → Prop) (b : Nat) (T : Tb) (vc vn vf : Value) (w : World) (hT : TabAt w O b T vc vn vf) :
    Calls Try.prog 22 #[.pointer (some ⟨b, 0, none⟩)] w fun en w' => en = .returned (.int .i64 T.count) ∧ w' = w := by
  have h7 := hT.cell 7
  simp at h7
  go_enter Try.func22, Try.ntmps22
  go_wp2_with fail
  go_ret
  exact ⟨rfl, rfl⟩
theorem most_calls (O : Nat → Prop) (b : Nat) (T : Tb) (vc vn vf : Value) (w : World) (hT : TabAt w O b T vc vn vf) :
    Calls Try.prog 33 #[.pointer (some ⟨b, 0, none⟩)] w fun en w' => en = .returned (.int .i64 T.most) ∧ w' = w := by
  have h0 := hT.cell 0
  simp at h0
  go_enter Try.func33, Try.ntmps33
  go_wp2_with fail
  go_ret
  exact ⟨rfl, rfl⟩
/-! ### rows of a table that grow -/
section
variable {W w1 : World} {O : Nat → Prop} {b : Nat} {T : Tb} {vc vn vf : Value}
/-- The blocks, with those that were made since. -/
def More (O : Nat → Prop) (W W' : World) (k : Nat) : Prop := O k ∨ (W.heap.size ≤ k ∧ k < W'.heap.size)
theorem R_tight {α : Type} {d : Kd α} {e : Nat} {base : Nat} {ok : Nat → Prop} {v : Value} {xs : List α} (h : d.R e W base ok v xs) (hE : d.E = []) (hM : ∀ w b o1 o2 x cs, d.M w b o1 x cs → d.M w b o2 x cs) : d.R e W base (fun k => v.ownBlock = some k ∧ ok k) v xs := by
  obtain ⟨h1, inner, ho, hr⟩ := h
  exact ⟨fun k hk => ⟨hk, h1 k hk⟩, inner, ho, hr.imp_ (fun _ _ hp => hM _ _ _ _ _ _ hp)⟩
theorem ownF (h : TabAt W O b T vc vn vf) {k : Nat} (hk : vf.ownBlock = some k) : O k ∧ k ≠ b ∧ vc.ownBlock ≠ some k := h.rf.1 k hk
theorem ownC (h : TabAt W O b T vc vn vf) {k : Nat} (hk : vc.ownBlock = some k) : O k ∧ k ≠ b := h.rc.1 k hk
theorem ownN (h : TabAt W O b T vc vn vf) {k : Nat} (hk : vn.ownBlock = some k) : O k ∧ k ≠ b := h.rn.1 k hk
theorem typeF (h : TabAt W O b T vc vn vf) {k : Nat} (hk : vf.ownBlock = some k) : ∃ cs, W.heap[k]? = some (.cells cs 3 (0, 0)) := by
  obtain ⟨inner, ho⟩ := Kd.R_own h.rf
  exact own_typed ho k hk
theorem typeC (h : TabAt W O b T vc vn vf) {k : Nat} (hk : vc.ownBlock = some k) : ∃ cs, W.heap[k]? = some (.cells cs 3 (0, 0)) := by
  obtain ⟨inner, ho⟩ := Kd.R_own h.rc
  exact own_typed ho k hk
theorem typeN (h : TabAt W O b T vc vn vf) {k : Nat} (hk : vn.ownBlock = some k) : ∃ cs, W.heap[k]? = some (.cells cs 91 (0, 0)) := by
  obtain ⟨inner, ho⟩ := Kd.R_own h.rn
  exact own_typed ho k hk
theorem nodeInt {k j : Nat} {c1 c2 : Array Value} (h1 : W.heap[k]? = some (.cells c1 91 (0, 0))) (h2 : W.heap[j]? = some (.cells c2 3 (0, 0))) : k ≠ j := by
  rintro rfl
  rw [h1] at h2
  injection h2 with h2
  injection h2 with _ h2 _
  exact absurd h2 (by decide)
theorem TabAt.growF (h : TabAt W O b T vc vn vf) (hg : W.grownBy w1 vf.ownBlock) {vf' : Value} {free' : List Int} (hR : Kd.R kI 3 w1 0 (fun k => (O k ∧ k ≠ b ∧ vc.ownBlock ≠ some k) ∨ W.heap.size ≤ k) vf' free') :
    TabAt (w1.setCell ⟨b, 4, none⟩ vf') (More O W w1) b { T with free := free' } vc vn vf' := by
  have hbl := h.lt b h.ob
  have hnb : ∀ k, vf.ownBlock = some k → k ≠ b := fun k hk => (ownF h hk).2.1
  have hb1 : w1.heap[b]? = W.heap[b]? := hg.block b hbl (fun e => hnb b e.symm rfl)
  refine ⟨blk_put (hb1.trans h.blk) 4 _ rfl, .inl h.ob, ?_, ?_, ?_, fun k hk => ?_⟩
  · have h1 := R_tight h.rc rfl (fun _ _ _ _ _ _ z => z)
    have h2 := R_same (W' := w1) h1 (fun k hk => hg.block k (h.lt k hk.2.1) (fun e => (ownF h e.symm).2.2 hk.1))
    exact Kd.R_far (Kd.R_mono h2 (fun k hk => ⟨.inl hk.2.1, hk.2.2⟩)) (fun k hk => hk.2) _
  · have h1 := R_tight h.rn rfl (fun _ _ _ _ _ _ z => z)
    have h2 := R_same (W' := w1) h1 (fun k hk => hg.block k (h.lt k hk.2.1) (fun e => by
      obtain ⟨c1, h3⟩ := typeN h hk.1
      obtain ⟨c2, h4⟩ := typeF h e.symm
      exact nodeInt h3 h4 rfl))
    exact Kd.R_far (Kd.R_mono h2 (fun k hk => ⟨.inl hk.2.1, hk.2.2⟩)) (fun k hk => hk.2) _
  · refine Kd.R_far (Kd.R_mono (Kd.R_bound hR) (fun k hk => ?_)) (fun k hk => hk.2.1) _
    obtain ⟨h1, _, h3, _⟩ := hk
    rcases h1 with h1 | h1
    · exact ⟨.inl h1.1, h1.2⟩
    · exact ⟨.inr ⟨h1, h3⟩, by omega, fun e => by have := h.lt k (ownC h e).1; omega⟩
  · rw [size_put]
    rcases hk with hk | hk
    · exact Nat.lt_of_lt_of_le (h.lt k hk) hg.size
    · exact hk.2
theorem Keep.growF (h : TabAt W O b T vc vn vf) (hg : W.grownBy w1 vf.ownBlock) (u : Value) : Keep O W (w1.setCell ⟨b, 4, none⟩ u) := by
  refine ⟨⟨hg.os, hg.tape, hg.output, by rw [size_put]; exact hg.size, fun k hk => absurd hk (Nat.not_lt_zero k)⟩, fun k hk hn => ?_⟩
  rw [Below.heap_setCell w1 _ u k (fun e => hn (by rw [e]; exact h.ob))]
  exact hg.block k hk (fun e => hn (ownF h e.symm).1)
end
end Go.Proofs.Ytikpgmajiafhgaa.Fl
/- flow: drop and remove. Written by wip/gen/flg.py. -/
namespace Go.Proofs.Ytikpgmajiafhgaa.Fl
open Go.RowKit Go.Proofs.YtikpgmajiafhgaaW.PrintWords Go.Proofs.YtikpgmajiafhgaaW.PrintLast Go.Proofs.YtikpgmajiafhgaaW.PrintMore Go.Proofs.Ytikpgmajiafhgaa.X Go.Proofs.Ytikpgmajiafhgaa.M Go.Proofs.Ytikpgmajiafhgaa.Bv Go.Proofs.Ytikpgmajiafhgaa.PuLib Go.Proofs.Ytikpgmajiafhgaa.PuMix Go.Proofs.Ytikpgmajiafhgaa.PuCat
set_option linter.unusedVariables false
set_option linter.unusedSimpArgs false
/-! ### what unlink leaves -/
theorem ndD_set_ky (l : List Nd) (m : Nat) (y : Nd) (hy : y.ky = (ndD l m).ky) (j : Nat) : (ndD (l.set m y) j).ky = (ndD l j).ky := by
  unfold ndD at *
  rw [List.getD_eq_getElem?_getD, List.getD_eq_getElem?_getD, List.getElem?_set]
  split
  · rename_i h
    subst h
    split
    · rw [Option.getD_some, hy, List.getD_eq_getElem?_getD]
    · rename_i h2
      rw [List.getElem?_eq_none (by omega)]
  · rfl
theorem mem_set_ky {l : List Nd} {m : Nat} {y : Nd} (hy : y.ky = (ndD l m).ky) (h : ∀ nd ∈ l, KeyOk nd.ky) : ∀ nd ∈ l.set m y, KeyOk nd.ky := by
  intro nd hnd
  by_cases hm : m < l.length
  · rcases List.mem_or_eq_of_mem_set hnd with h1 | h1
    · exact h nd h1
    · rw [h1, hy]
      exact h _ (List.mem_of_getElem? (ndD_some hm))
  · rw [List.set_eq_of_length_le (by omega)] at hnd
    exact h nd hnd
structure Alike (T T' : Tb) : Prop where
  cells : T'.cells = T.cells
  free : T'.free = T.free
  count : T'.count = T.count
  most : T'.most = T.most
  idle : T'.idle = T.idle
  len : T'.nodes.length = T.nodes.length
  ky : ∀ j, (ndD T'.nodes j).ky = (ndD T.nodes j).ky
  ok : NodesOk T → NodesOk T'
theorem Alike.trans {T T' T'' : Tb} (h : Alike T T') (h2 : Alike T' T'') : Alike T T'' :=
  ⟨h2.cells.trans h.cells, h2.free.trans h.free, h2.count.trans h.count, h2.most.trans h.most, h2.idle.trans h.idle, h2.len.trans h.len, fun j => (h2.ky j).trans (h.ky j), fun z => h2.ok (h.ok z)⟩
theorem alikeA (T : Tb) (x : Nd) : Alike T (T.unlinkA x) := by
  unfold Tb.unlinkA
  split
  · exact ⟨rfl, rfl, rfl, rfl, rfl, rfl, fun _ => rfl, fun z => z⟩
  · exact ⟨rfl, rfl, rfl, rfl, rfl, List.length_set, fun j => ndD_set_ky T.nodes x.pv.toNat { ndD T.nodes x.pv.toNat with nx := x.nx } rfl j, fun z => mem_set_ky (y := { ndD T.nodes x.pv.toNat with nx := x.nx }) rfl z⟩
theorem alikeB (T : Tb) (x : Nd) : Alike T (T.unlinkB x) := by
  unfold Tb.unlinkB
  split
  · exact ⟨rfl, rfl, rfl, rfl, rfl, rfl, fun _ => rfl, fun z => z⟩
  · exact ⟨rfl, rfl, rfl, rfl, rfl, List.length_set, fun j => ndD_set_ky T.nodes x.nx.toNat { ndD T.nodes x.nx.toNat with pv := x.pv } rfl j, fun z => mem_set_ky (y := { ndD T.nodes x.nx.toNat with pv := x.pv }) rfl z⟩
theorem alikeU (T : Tb) (n : Nat) : Alike T (T.unlink n) := (alikeA T _).trans (alikeB _ _)
theorem Alike.hm {T T' : Tb} (h : Alike T T') (L : Nat) : hmT T' L = hmT T L := by
  funext j
  unfold hmT
  rw [h.ky]
/-- What is in a cell goes. -/
def Tb.drop (T : Tb) (n : Nat) (cells' : List Int) : Tb := { T.unlink n with cells := cells', free := T.free ++ [(n : Int)], count := T.count - 1 }
/-- May a node leave the row? -/
def LinkOk (T : Tb) (x : Nd) : Prop := (x.pv = -1 ∨ ∃ m : Nat, x.pv = (m : Int) ∧ m < T.nodes.length) ∧ (x.nx = -1 ∨ ∃ m : Nat, x.nx = (m : Int) ∧ m < T.nodes.length)
set_option maxRecDepth 100000 in
set_option maxHeartbeats 2000000 in
theorem drop_calls (c : Nat) (O : Nat → Prop) (b : Nat) (T : Tb) (vc vn vf : Value) (w : World) (hT : TabAt w O b T vc vn vf) (hL2 : T.cells.length ≤ 1000000) (hok : NodesOk T) (hco : CellsOk T.cells T.nodes.length) (n : Nat) (hc : T.cells[c]? = some (n : Int)) (x : Nd) (hx : T.nodes[n]? = some x) (hlk : LinkOk T x) (hct : 0 ≤ T.count ∧ T.count ≤ 1000000) (hfl : T.free.length ≤ 1000000) (fu : Nat) (cells' : List Int) (hf : clearF (hmT T T.cells.length) fu (T.cells.set c (-1)) c (nxt T.cells.length c) = some cells') :
    Calls Try.prog 42 #[.pointer (some ⟨b, 0, none⟩), .int .i64 (c : Int)] w fun en w' => en = .returned (.tuple #[]) ∧ ∃ O', (∃ vf', TabAt w' O' b (T.drop n cells') vc vn vf') ∧ Keep O w w' ∧ ∀ k, O' k → O k ∨ w.heap.size ≤ k := by
  have hcl := (List.getElem?_eq_some_iff.1 hc).1
  obtain ⟨gc, cc, rfl⟩ := hT.vcForm (by omega)
  obtain ⟨T1, hT1⟩ : ∃ T1, T1 = T.unlink n := ⟨_, rfl⟩
  have hal : Alike T T1 := hT1 ▸ alikeU T n
  have HAL := Aside0.mk hal
  have HT1E := Aside0.mk hT1
  have HU := Aside0.mk (unlink_calls n O b T _ _ _ w hT x hx hlk.1 hlk.2)
  rw [← hT1] at HU
  have HCL := Aside0.mk (show ∀ w1 : World, TabAt w1 O b T1 (.slice (some ⟨gc, 0, none⟩) T.cells.length cc) vn vf → Calls Try.prog 56 #[.pointer (some ⟨b, 0, none⟩), .int .i64 (c : Int)] w1 fun en w' => en = .returned (.tuple #[]) ∧ TabAt w' O b { T1 with cells := cells' } (.slice (some ⟨gc, 0, none⟩) T.cells.length cc) vn vf ∧ Keep O w1 w' from
    fun w1 h1 => clear_calls c O b T1 _ _ _ w1 h1 (by rw [hal.cells]; exact hL2) (by rw [hal.cells]; exact hcl) (hal.ok hok) (by rw [hal.cells, hal.len]; exact hco) fu cells' (by rw [hal.cells, hal.hm]; exact hf))
  have hc2 := hT.cell 2
  simp at hc2
  have hcx := hT.cl hc
  have HCT := Aside0.mk hct
  have HFL := Aside0.mk hfl
  obtain ⟨L, hL⟩ : ∃ L, L = T.cells.length := ⟨_, rfl⟩
  rw [← hL] at hc2 hcl HCL HU ⊢
  have e1 : ((0 : Int) ≤ (c : Int)) = True := eq_true (by omega)
  have e2 : ((c : Int) < (L : Int)) = True := eq_true (by omega)
  clear hT hL2 hok hco hc hx hlk hct hfl hf hal hT1 hcl hL
  go_enter Try.func42, Try.ntmps42
  go_wp2_with fail
  (with_reducible refine HU.out.mono ?_)
  rintro en w1 ⟨rfl, hT1, hk1⟩
  have HT1 := Aside0.mk hT1
  have HK1 := Aside0.mk hk1
  clear hT1 hk1 hc2 hcx e1 e2 HU
  go_wp2_with fail
  (with_reducible refine (HCL.out w1 HT1.out).mono ?_)
  rintro en w2 ⟨rfl, hT2, hk2⟩
  have HT2 := Aside0.mk hT2
  have HK2 := Aside0.mk (HK1.out.trans hk2 (fun k hk => .inl hk))
  have hc4 := hT2.cell 4
  simp at hc4
  have HRF := Aside0.mk (show Kd.R kI 3 w2 0 (fun k => (O k ∧ k ≠ b ∧ (Value.slice (some ⟨gc, 0, none⟩) L cc).ownBlock ≠ some k) ∨ w2.heap.size ≤ k) vf T1.free from Kd.R_mono hT2.rf (fun k hk => .inl hk))
  have HFL1 := Aside0.mk (show (T1.free.length + 1) * 8 ≤ 140737488355328 by rw [HAL.out.free]; have h1 := HFL.out; omega)
  clear hT2 hk2 HT1 HK1 HCL
  go_wp2_with ((with_reducible refine gate_builtin (b := .append) (xs := #[.tmp 22, .tmp 24]) rfl ?_); at_builtin; refine Kd.R_append kI (w0 := w2) (W := w2) 0 rfl (.tmp 22) (.tmp 24) 82 3 (.int .i64 0) 8 rfl Try.underlying82 infoI rfl (by decide) (by omega) vf T1.free (n : Int) [.int .i64 (n : Int)] _ (fun _ => False) rfl rfl (show kI.M _ _ _ (n : Int) [.int .i64 (n : Int)] from rfl) (fun _ hk => hk.elim) (fun _ hk => .inr hk) HRF.out (Below.refl _ _) (Nat.zero_le _) HFL1.out ?_)
  intro vf' w3 ho hb3 hg3 _
  obtain ⟨Af, cf, rfl⟩ := Kd.R_slice ho
  obtain ⟨nf, hnf⟩ : ∃ nf, nf = (T1.free ++ [(n : Int)]).length := ⟨_, rfl⟩
  rw [← hnf] at ho ⊢
  have HT4 := Aside0.mk (HT2.out.growF hg3 ho)
  have HK4 := Aside0.mk (HK2.out.trans (Keep.growF HT2.out hg3 (.slice Af nf cf)) (fun k hk => .inl hk))
  have hb1 : w3.heap[b]? = w2.heap[b]? := hg3.block b (HT2.out.lt b HT2.out.ob) (fun e => (ownF HT2.out e.symm).2.1 rfl)
  have hblk := hb1.trans HT2.out.blk'
  have hd4 := blk_cell hblk 4
  have hf4 := blk_frozen hblk 4
  simp at hd4
  have HSZ := Aside0.mk (show w.heap.size ≤ w2.heap.size from HK2.out.below.size)
  obtain ⟨w4, hw4⟩ : ∃ w4, w4 = w3.setCell ⟨b, 4, none⟩ (.slice Af nf cf) := ⟨_, rfl⟩
  rw [← hw4] at HT4 HK4
  have HW4 := Aside0.mk hw4
  clear ho hb3 hg3 hnf hb1 hblk hc4 hw4 HRF
  go_upto_region 4 with (fail)
  rw [← HW4.out]
  have hc7 := HT4.out.cell 7
  simp at hc7
  have hf7 := HT4.out.fr 7
  have hct2 : T1.count = T.count := HAL.out.count
  rw [hct2] at hc7
  have hw7 : wrap64 (T.count - 1) = T.count - 1 := w64_in _ (by have h1 := HCT.out; omega) (by have h1 := HCT.out; omega)
  clear hd4 hf4 hct2
  go_wp2_with fail
  go_end0
  refine ⟨rfl, More O w2 w3, ⟨.slice Af nf cf, ?_⟩, HK4.out.trans (Keep.put (p := ⟨b, 7, none⟩) (O := O) HT2.out.ob _) (fun k hk => .inl hk), fun k hk => ?_⟩
  · have h1 := HT4.out.setCount (T.count - 1)
    have h2 : T.drop n cells' = { T1 with cells := cells', free := T1.free ++ [(n : Int)], count := T.count - 1 } := by unfold Tb.drop; rw [← HT1E.out, HAL.out.free]
    rw [h2]
    exact h1
  · rcases hk with hk | hk
    · exact .inl hk
    · have h1 := HSZ.out
      exact .inr (by omega)
end Go.Proofs.Ytikpgmajiafhgaa.Fl
/- flow: remove, where. Written by wip/gen/flw.py. -/
namespace Go.Proofs.Ytikpgmajiafhgaa.Fl
open Go.RowKit Go.Proofs.YtikpgmajiafhgaaW.PrintWords Go.Proofs.YtikpgmajiafhgaaW.PrintLast Go.Proofs.YtikpgmajiafhgaaW.PrintMore Go.Proofs.Ytikpgmajiafhgaa.X Go.Proofs.Ytikpgmajiafhgaa.M Go.Proofs.Ytikpgmajiafhgaa.Bv Go.Proofs.Ytikpgmajiafhgaa.PuLib Go.Proofs.Ytikpgmajiafhgaa.PuMix Go.Proofs.Ytikpgmajiafhgaa.PuCat
set_option linter.unusedVariables false
set_option linter.unusedSimpArgs false
/-- A table whose numbers are in range. -/
structure Good (T : Tb) : Prop where
  nodes : NodesOk T
  cells : CellsOk T.cells T.nodes.length
  len0 : 0 < T.cells.length
  len : T.cells.length ≤ 1000000
  count : 0 ≤ T.count ∧ T.count ≤ 1000000
  free : T.free.length ≤ 1000000
/-- What drops what is in a cell. -/
structure DropR (T : Tb) (c n : Nat) (T' : Tb) : Prop where
  good : Good T
  cell : T.cells[c]? = some (n : Int)
  node : ∃ x, T.nodes[n]? = some x ∧ LinkOk T x
  clear : ∃ fu cells', clearF (hmT T T.cells.length) fu (T.cells.set c (-1)) c (nxt T.cells.length c) = some cells' ∧ T' = T.drop n cells'
theorem dropR_calls {T T' : Tb} {c n : Nat} (hr : DropR T c n T') (O : Nat → Prop) (b : Nat) (vc vn vf : Value) (w : World) (hT : TabAt w O b T vc vn vf) :
    Calls Try.prog 42 #[.pointer (some ⟨b, 0, none⟩), .int .i64 (c : Int)] w fun en w' => en = .returned (.tuple #[]) ∧ ∃ O', (∃ vf', TabAt w' O' b T' vc vn vf') ∧ Keep O w w' ∧ ∀ k, O' k → O k ∨ w.heap.size ≤ k := by
  obtain ⟨x, hx, hl⟩ := hr.node
  obtain ⟨fu, cells', hf, rfl⟩ := hr.clear
  exact drop_calls c O b T vc vn vf w hT hr.good.len hr.good.nodes hr.good.cells n hr.cell x hx hl hr.good.count hr.good.free fu cells' hf
/-- What removes a node. -/
structure RemR (T : Tb) (n : Nat) (T' : Tb) : Prop where
  find : ∃ x fu c, T.nodes[n]? = some x ∧ findF T.cells T.nodes x.ky fu (homeN x.ky T.cells.length) = some (c, true) ∧ DropR T c n T'
theorem homeN_eq (k : List Int) {L : Nat} (h : 0 < L) : ((homeN k L : Nat) : Int) = homeS k L := homeN_int k h
set_option maxRecDepth 100000 in
set_option maxHeartbeats 2000000 in
theorem remove_calls {T T' : Tb} {n : Nat} (hr : RemR T n T') (O : Nat → Prop) (b : Nat) (vc vn vf : Value) (w : World) (hT : TabAt w O b T vc vn vf) :
    Calls Try.prog 58 #[.pointer (some ⟨b, 0, none⟩), .int .i64 (n : Int)] w fun en w' => en = .returned (.tuple #[]) ∧ ∃ O', (∃ vf', TabAt w' O' b T' vc vn vf') ∧ Keep O w w' ∧ ∀ k, O' k → O k ∨ w.heap.size ≤ k := by
  obtain ⟨x, fu, c, hx, hf, hd⟩ := hr.find
  have hnl := (List.getElem?_eq_some_iff.1 hx).1
  obtain ⟨gn, cn, rfl⟩ := hT.vnForm (by omega)
  have HLD := Aside0.mk (node_key (hT.nd hx))
  have HFC := Aside0.mk (find_calls x.ky (hd.good.nodes x (List.mem_of_getElem? hx)) O b T _ _ _ w hT hd.good.len hd.good.len0 _ c (homeN_eq x.ky hd.good.len0) true fu hf)
  have HD := Aside0.mk hd
  have HT := Aside0.mk hT
  have hc3 := hT.cell 3
  simp at hc3
  obtain ⟨N, hN⟩ : ∃ N, N = T.nodes.length := ⟨_, rfl⟩
  rw [← hN] at hc3 hnl HT ⊢
  have e1 : ((0 : Int) ≤ (n : Int)) = True := eq_true (by omega)
  have e2 : ((n : Int) < (N : Int)) = True := eq_true (by omega)
  clear hr hx hf hd hnl hT hN
  go_enter Try.func58, Try.ntmps58
  go_wp2_with (refine wpList_load_of rfl 29 (.tmp 14) rfl ⟨gn, n * 38 + 2, none⟩ rfl HLD.out ?_)
  (with_reducible refine HFC.out.mono ?_)
  rintro en w1 ⟨rfl, hb⟩
  have HT1 := Aside0.mk (HT.out.below hb)
  have HK1 := Aside0.mk (Keep.of_below (O := O) hb)
  clear hb HT HLD HFC hc3
  go_wp2_with fail
  (with_reducible refine (dropR_calls HD.out O b _ _ _ w1 HT1.out).mono ?_)
  rintro en w2 ⟨rfl, O2, ⟨vf2, hT2⟩, hk2, ho2⟩
  have HT2 := Aside0.mk hT2
  have HK2 := Aside0.mk (HK1.out.trans hk2 (fun k hk => .inl hk))
  have HO2 := Aside0.mk (show ∀ k, O2 k → O k ∨ w.heap.size ≤ k from fun k hk => (ho2 k hk).imp id (fun h => Nat.le_trans HK1.out.below.size h))
  clear hT2 hk2 ho2
  go_wp2_with fail
  go_end0
  exact ⟨rfl, O2, ⟨vf2, HT2.out⟩, HK2.out, HO2.out⟩
/-- What goes through the row of use. -/
def whereR (p : Nd → Bool) : Nat → Tb → Int → Int → Tb × Int → Prop
  | 0, _, _, _, _ => False
  | f + 1, T, cur, cnt, o => (cur = -1 ∧ o = (T, cnt)) ∨ ∃ (n : Nat) (x : Nd), cur = (n : Int) ∧ T.nodes[n]? = some x ∧ 0 ≤ cnt ∧ cnt ≤ 1000000 ∧ ((p x = true ∧ ∃ T', RemR T n T' ∧ whereR p f T' x.nx (cnt + 1) o) ∨ (p x = false ∧ whereR p f T x.nx cnt o))
theorem whereR_step {p : Nd → Bool} {f : Nat} {T : Tb} {cur cnt : Int} {o : Tb × Int} (h : whereR p f T cur cnt o) : ∃ f', f = f' + 1 ∧ ((cur = -1 ∧ o = (T, cnt)) ∨ ∃ (n : Nat) (x : Nd), cur = (n : Int) ∧ T.nodes[n]? = some x ∧ 0 ≤ cnt ∧ cnt ≤ 1000000 ∧ ((p x = true ∧ ∃ T', RemR T n T' ∧ whereR p f' T' x.nx (cnt + 1) o) ∨ (p x = false ∧ whereR p f' T x.nx cnt o))) := by
  cases f with
  | zero => cases h
  | succ f => exact ⟨f, rfl, h⟩
/-- A function value that tells p of a table's nodes. -/
def Tells (p : Nd → Bool) (idle : Int) (F : Nat) (f1 f2 : Value) (O : Nat → Prop) (b : Nat) (w : World) : Prop := ∀ (O' : Nat → Prop) (T : Tb) (vc vn vf : Value) (W : World) (n : Nat) (x : Nd), T.idle = idle → TabAt W O' b T vc vn vf → Keep O w W → T.nodes[n]? = some x → Calls Try.prog F #[.int .i64 (n : Int), f1, f2] W fun en w' => en = .returned (.bool (p x)) ∧ Below W.heap.size W w'
theorem RemR.idle {T T' : Tb} {n : Nat} (h : RemR T n T') : T'.idle = T.idle := by
  obtain ⟨x, fu, c, _, _, hd⟩ := h.find
  obtain ⟨fu2, cells', _, rfl⟩ := hd.clear
  exact (alikeU T n).idle
set_option maxRecDepth 100000 in
set_option maxHeartbeats 4000000 in
theorem where_calls (p : Nd → Bool) (F : Nat) (f1 f2 : Value) (O : Nat → Prop) (b : Nat) (T : Tb) (vc vn vf : Value) (w : World) (hT : TabAt w O b T vc vn vf) (hF : Tells p T.idle F f1 f2 O b w) (hE : ∀ (args : Array Value) (W : World), (callFunc F args).run Try.prog W = .ok (.enter F args) W) (fu : Nat) (T' : Tb) (cnt : Int) (hw : whereR p fu T T.first 0 (T', cnt)) :
    Calls Try.prog 47 #[.pointer (some ⟨b, 0, none⟩), .func (.func F) #[] #[f1, f2]] w fun en w' => en = .returned (.int .i64 cnt) ∧ ∃ O', (∃ vf', TabAt w' O' b T' vc vn vf') ∧ Keep O w w' ∧ ∀ k, O' k → O k ∨ w.heap.size ≤ k := by
  have HF := Aside0.mk hF
  have HW := Aside0.mk hw
  have HT := Aside0.mk hT
  have hc5 := hT.cell 5
  simp at hc5
  clear hT hF hw
  go_enter Try.func47, Try.ntmps47
  go_wp2_with fail
  clear hc5
  have HK0 := Aside0.mk (Keep.refl O w)
  have HO0 := Aside0.mk (show ∀ k, O k → O k ∨ w.heap.size ≤ k from fun k hk => .inl hk)
  go_loopg [5, 6] fu (fun kq v5 v6 wr => ∃ (c1 cur : Int) (T1 : Tb) (O1 : Nat → Prop) (vf1 : Value), v5 = .int .i64 c1 ∧ v6 = .int .i64 cur ∧ Aside0 (whereR p kq T1 cur c1 (T', cnt)) ∧ Aside0 (TabAt wr O1 b T1 vc vn vf1) ∧ Aside0 (Keep O w wr) ∧ Aside0 (∀ k, O1 k → O k ∨ w.heap.size ≤ k) ∧ Aside0 (T1.idle = T.idle))
  case atStart => exact ⟨0, T.first, T, O, vf, rfl, rfl, HW, HT, HK0, HO0, ⟨rfl⟩⟩
  case round =>
    clear HW HT HK0 HO0
    obtain ⟨c1, cur, T1, O1, vf1, rfl, rfl, HW, HT, HK, HO, HID⟩ := hrel
    obtain ⟨f', hgk, hor⟩ := whereR_step HW.out
    have HG := Aside0.mk hgk
    clear hgk HW
    rcases hor with ⟨rfl, ho⟩ | ⟨n, x, rfl, hx, h0, h1, hor⟩
    · obtain ⟨rfl, rfl⟩ := Prod.mk.inj ho
      clear ho
      go_wp2_with fail
      go_ret
      exact ⟨rfl, O1, ⟨vf1, HT.out⟩, HK.out, HO.out⟩
    · have hnl := (List.getElem?_eq_some_iff.1 hx).1
      obtain ⟨gn, cn, rfl⟩ := HT.out.vnForm (by omega)
      have hc3 := HT.out.cell 3
      simp at hc3
      have hnx := (HT.out.nd hx).2 37 _ (encN_37 (HT.out.nd hx).1)
      obtain ⟨N, hN⟩ : ∃ N, N = T1.nodes.length := ⟨_, rfl⟩
      rw [← hN] at hc3 hnl HT
      have HNN := Aside0.mk hN
      have HX := Aside0.mk hx
      have HFX := Aside0.mk (HF.out O1 T1 _ _ _ wr n x HID.out HT.out HK.out hx)
      have HCB := Aside0.mk (And.intro h0 h1)
      have e1 : ((0 : Int) ≤ (n : Int)) = True := eq_true (by omega)
      have e2 : ((n : Int) < (N : Int)) = True := eq_true (by omega)
      have e3 : ¬ (n : Int) = -1 := by omega
      have e4 : ((n : Int) == -1) = false := beq_eq_false_iff_ne.2 e3
      clear hx hnl hN h0 h1
      go_wp2_with fail
      (with_reducible refine HFX.out.mono ?_)
      rintro en w1 ⟨rfl, hb⟩
      have HT1 := Aside0.mk (HT.out.below hb)
      have HK1 := Aside0.mk (HK.out.trans (Keep.of_below (O := O) hb) (fun k hk => .inl hk))
      clear hb HT HK hc3 hnx HFX
      rcases hor with ⟨hp, T2, hr, hwr⟩ | ⟨hp, hwr⟩
      · rw [hp]
        have HR := Aside0.mk hr
        have HWR := Aside0.mk hwr
        have hw1 : wrap64 (c1 + 1) = c1 + 1 := w64_in _ (by have h1 := HCB.out; omega) (by have h1 := HCB.out; omega)
        clear hp hr hwr
        go_wp2_with fail
        (with_reducible refine (remove_calls HR.out O1 b _ _ _ w1 HT1.out).mono ?_)
        rintro en w2 ⟨rfl, O2, ⟨vf2, hT2⟩, hk2, ho2⟩
        have HT2 := Aside0.mk hT2
        have HK2 := Aside0.mk (HK1.out.trans hk2 HO.out)
        have HO2 := Aside0.mk (show ∀ k, O2 k → O k ∨ w.heap.size ≤ k from fun k hk => by
          rcases ho2 k hk with h | h
          · exact HO.out k h
          · exact .inr (Nat.le_trans HK1.out.below.size h))
        clear hT2 hk2 ho2 HT1 HK1 HO
        go_wp2_with fail
        go_roundg (gk - 1)
        case measure => have h1 := HG.out; omega
        case rel => exact ⟨c1 + 1, x.nx, T2, O2, vf2, by rw [hw1], rfl, ⟨by have h1 := HG.out; rw [h1, Nat.add_sub_cancel]; exact HWR.out⟩, ⟨by rw [← HNN.out]; exact HT2.out⟩, HK2, HO2, ⟨by rw [HR.out.idle]; exact HID.out⟩⟩
      · rw [hp]
        have HWR := Aside0.mk hwr
        clear hp hwr
        go_wp2_with fail
        go_roundg (gk - 1)
        case measure => have h1 := HG.out; omega
        case rel => exact ⟨c1, x.nx, T1, O1, vf1, rfl, rfl, ⟨by have h1 := HG.out; rw [h1, Nat.add_sub_cancel]; exact HWR.out⟩, ⟨by rw [← HNN.out]; exact HT1.out⟩, HK1, HO, HID⟩
/-! ### Sweep and Forget -/
theorem cell_below {W W2 : World} {g i : Nat} {v : Value} (h : W.cell? ⟨g, i, none⟩ = some v) (hb : Below W.heap.size W W2) : W2.cell? ⟨g, i, none⟩ = some v := (hb.cell (World.block_lt_of_cell? _ _ h)).trans h
theorem enterSweep (args : Array Value) (W : World) : (callFunc 48 args).run Try.prog W = .ok (.enter 48 args) W := enters_ Try.func48 (by kernel_rfl) (by kernel_rfl) args W
theorem enterForget (args : Array Value) (W : World) : (callFunc 49 args).run Try.prog W = .ok (.enter 49 args) W := enters_ Try.func49 (by kernel_rfl) (by kernel_rfl) args W
theorem Keep.blk {O : Nat → Prop} {W W' : World} (h : Keep O W W') {k : Nat} {o : Obj} (hk : W.heap[k]? = some o) (hn : ¬ O k) : W'.heap[k]? = some o := (h.same k (blk_lt hk) hn).trans hk
set_option maxRecDepth 100000 in
set_option maxHeartbeats 2000000 in
theorem tellsS (now : Int) (idle : Int) (O : Nat → Prop) (b : Nat) (w w1 : World) (g : Nat) (hg : g = w.heap.size) (hw1 : w1 = (w.alloc (.cells #[.pointer (some ⟨b, 0, none⟩)] 33)).alloc (.cells #[.int .u64 now] 22)) (hO : ∀ k, O k → k < w.heap.size) : Tells (fun x => overS x.la idle now) idle 48 (.pointer (some ⟨g, 0, none⟩)) (.pointer (some ⟨g + 1, 0, none⟩)) O b w1 := by
  intro O' T vc vn vf W n x hid hT hk hx
  have hb1 : w1.heap[g]? = some (.cells #[.pointer (some ⟨b, 0, none⟩)] 33 (0, 0)) := by rw [hw1, hg]; exact blk_alloc (blk_new w _) _
  have hb2 : w1.heap[g + 1]? = some (.cells #[.int .u64 now] 22 (0, 0)) := by rw [hw1, hg]; have h := heap_alloc_new (w.alloc (.cells #[.pointer (some ⟨b, 0, none⟩)] 33)) (.cells #[.int .u64 now] 22); rw [World.size_alloc] at h; exact h
  have h1 := blk_cell (hk.blk hb1 (fun h => by have := hO _ h; omega)) 0
  have h2 := blk_cell (hk.blk hb2 (fun h => by have := hO _ h; omega)) 0
  simp at h1 h2
  have HO := Aside0.mk (over_calls n now O' b T vc vn vf W hT x hx)
  rw [hid] at HO
  clear hb1 hb2 hk hT hx hw1 hg hO
  go_enter Try.func48, Try.ntmps48
  go_wp2_with fail
  (with_reducible refine HO.out.mono ?_)
  rintro en w2 ⟨rfl, rfl⟩
  go_wp2_with fail
  go_ret
  exact ⟨rfl, Below.refl _ _⟩
set_option maxRecDepth 100000 in
set_option maxHeartbeats 2000000 in
theorem tellsF (bk : Int) (idle : Int) (O : Nat → Prop) (b : Nat) (w w1 : World) (g : Nat) (hg : g = w.heap.size) (hw1 : w1 = (w.alloc (.cells #[.pointer (some ⟨b, 0, none⟩)] 33)).alloc (.cells #[.int .i64 bk] 3)) (hO : ∀ k, O k → k < w.heap.size) : Tells (fun x => x.bk == bk) idle 49 (.pointer (some ⟨g, 0, none⟩)) (.pointer (some ⟨g + 1, 0, none⟩)) O b w1 := by
  intro O' T vc vn vf W n x hid hT hk hx
  have hb1 : w1.heap[g]? = some (.cells #[.pointer (some ⟨b, 0, none⟩)] 33 (0, 0)) := by rw [hw1, hg]; exact blk_alloc (blk_new w _) _
  have hb2 : w1.heap[g + 1]? = some (.cells #[.int .i64 bk] 3 (0, 0)) := by rw [hw1, hg]; have h := heap_alloc_new (w.alloc (.cells #[.pointer (some ⟨b, 0, none⟩)] 33)) (.cells #[.int .i64 bk] 3); rw [World.size_alloc] at h; exact h
  have h1 := blk_cell (hk.blk hb1 (fun h => by have := hO _ h; omega)) 0
  have h2 := blk_cell (hk.blk hb2 (fun h => by have := hO _ h; omega)) 0
  simp at h1 h2
  have hnl := (List.getElem?_eq_some_iff.1 hx).1
  obtain ⟨gn, cn, rfl⟩ := hT.vnForm (by omega)
  have hc3 := hT.cell 3
  simp at hc3
  have hnb := (hT.nd hx).2 0 _ (encN_0 x)
  rw [Nat.add_zero] at hnb
  obtain ⟨N, hN⟩ : ∃ N, N = T.nodes.length := ⟨_, rfl⟩
  rw [← hN] at hc3 hnl
  have e1 : ((0 : Int) ≤ (n : Int)) = True := eq_true (by omega)
  have e2 : ((n : Int) < (N : Int)) = True := eq_true (by omega)
  have HS := Aside0.mk (And.intro (And.intro h1 h2) (And.intro hc3 hnb))
  have HSS := Aside0.mk (below_drew (Below.refl W.heap.size W))
  have HCB := Aside0.mk (fun (W2 : World) (hb : Below W.heap.size W W2) (g' i : Nat) (v : Value) (h : W.cell? ⟨g', i, none⟩ = some v) => cell_below h hb)
  clear hb1 hb2 hk hT hx hw1 hnl hN h1 h2 hc3 hnb hg hO
  go_enter Try.func49, Try.ntmps49
  go_wp2_with fail
  refine Held.wp_region_G (S := (fun W2 : World => Below W.heap.size W W2)) (by kernel_rfl) ?_
  change Held.wpAnyG _ _ _ _ _ 12 _ _ _
  refine Held.wpAnyG_take (i := 0) (v := (.pointer (some ⟨b, 0, none⟩))) rfl (by kernel_rfl) (by kernel_rfl) (by kernel_rfl) (fun _ _ _ h => h) HSS.out (by first | (with_reducible rfl) | (simp [Region.wanted, yielded, Act.put]; done) | rfl) (fun W2 hs => by have hc := HCB.out W2 hs g 0 _ HS.out.1.1; go_simp) (some 5) rfl #[true, false, false, false, false, false, false, false, false, false, false, false] (by kernel_rfl) ?_
  simp only [Act.put, List.setIfInBounds_toArray, List.set_cons_zero, List.set_cons_succ]
  refine Held.wpAnyG_take (i := 1) (v := (.pointer (some ⟨b, 0, none⟩))) rfl (by kernel_rfl) (by kernel_rfl) (by kernel_rfl) (fun _ _ _ h => h) HSS.out (by first | (with_reducible rfl) | (simp [Region.wanted, yielded, Act.put]; done) | rfl) (fun W hs => by go_simp) (some 6) rfl #[true, true, false, false, false, false, false, false, false, false, false, false] (by kernel_rfl) ?_
  simp only [Act.put, List.setIfInBounds_toArray, List.set_cons_zero, List.set_cons_succ]
  refine Held.wpAnyG_take (i := 2) (v := (.pointer (some ⟨b, 3, none⟩))) rfl (by kernel_rfl) (by kernel_rfl) (by kernel_rfl) (fun _ _ _ h => h) HSS.out (by first | (with_reducible rfl) | (simp [Region.wanted, yielded, Act.put]; done) | rfl) (fun W hs => by go_simp) (some 7) rfl #[true, true, true, false, false, false, false, false, false, false, false, false] (by kernel_rfl) ?_
  simp only [Act.put, List.setIfInBounds_toArray, List.set_cons_zero, List.set_cons_succ]
  refine Held.wpAnyG_take (i := 3) (v := (.slice (some ⟨gn, 0, none⟩) N cn)) rfl (by kernel_rfl) (by kernel_rfl) (by kernel_rfl) (fun _ _ _ h => h) HSS.out (by first | (with_reducible rfl) | (simp [Region.wanted, yielded, Act.put]; done) | rfl) (fun W2 hs => by have hc := HCB.out W2 hs b 3 _ HS.out.2.1; go_simp) (some 8) rfl #[true, true, true, true, false, false, false, false, false, false, false, false] (by kernel_rfl) ?_
  simp only [Act.put, List.setIfInBounds_toArray, List.set_cons_zero, List.set_cons_succ]
  refine Held.wpAnyG_take (i := 4) (v := (.int .i64 (n : Int))) rfl (by kernel_rfl) (by kernel_rfl) (by kernel_rfl) (fun _ _ _ h => h) HSS.out (by first | (with_reducible rfl) | (simp [Region.wanted, yielded, Act.put]; done) | rfl) (fun W h => by go_simp) (some 9) rfl #[true, true, true, true, true, false, false, false, false, false, false, false] (by kernel_rfl) ?_
  simp only [Act.put, List.setIfInBounds_toArray, List.set_cons_zero, List.set_cons_succ]
  refine Held.wpAnyG_take (i := 5) (v := (.pointer (some ⟨gn, n * 38, none⟩))) rfl (by kernel_rfl) (by kernel_rfl) (by kernel_rfl) (fun _ _ _ h => h) HSS.out (by first | (with_reducible rfl) | (simp [Region.wanted, yielded, Act.put]; done) | rfl) (fun W hs => by go_simp) (some 10) rfl #[true, true, true, true, true, true, false, false, false, false, false, false] (by kernel_rfl) ?_
  simp only [Act.put, List.setIfInBounds_toArray, List.set_cons_zero, List.set_cons_succ]
  refine Held.wpAnyG_take (i := 6) (v := (.pointer (some ⟨gn, n * 38, none⟩))) rfl (by kernel_rfl) (by kernel_rfl) (by kernel_rfl) (fun _ _ _ h => h) HSS.out (by first | (with_reducible rfl) | (simp [Region.wanted, yielded, Act.put]; done) | rfl) (fun W hs => by go_simp) (some 11) rfl #[true, true, true, true, true, true, true, false, false, false, false, false] (by kernel_rfl) ?_
  simp only [Act.put, List.setIfInBounds_toArray, List.set_cons_zero, List.set_cons_succ]
  refine Held.wpAnyG_take (i := 7) (v := (.pointer (some ⟨gn, n * 38, none⟩))) rfl (by kernel_rfl) (by kernel_rfl) (by kernel_rfl) (fun _ _ _ h => h) HSS.out (by first | (with_reducible rfl) | (simp [Region.wanted, yielded, Act.put]; done) | rfl) (fun W hs => by go_simp) (some 12) rfl #[true, true, true, true, true, true, true, true, false, false, false, false] (by kernel_rfl) ?_
  simp only [Act.put, List.setIfInBounds_toArray, List.set_cons_zero, List.set_cons_succ]
  refine Held.wpAnyG_take (i := 8) (v := (.int .i64 x.bk)) rfl (by kernel_rfl) (by kernel_rfl) (by kernel_rfl) (fun _ _ _ h => h) HSS.out (by first | (with_reducible rfl) | (simp [Region.wanted, yielded, Act.put]; done) | rfl) (fun W2 hs => by have hc := HCB.out W2 hs gn (n * 38) _ HS.out.2.2; go_simp) (some 13) rfl #[true, true, true, true, true, true, true, true, true, false, false, false] (by kernel_rfl) ?_
  simp only [Act.put, List.setIfInBounds_toArray, List.set_cons_zero, List.set_cons_succ]
  refine Held.wpAnyG_take (i := 9) (v := (.int .i64 bk)) rfl (by kernel_rfl) (by kernel_rfl) (by kernel_rfl) (fun _ _ _ h => h) HSS.out (by first | (with_reducible rfl) | (simp [Region.wanted, yielded, Act.put]; done) | rfl) (fun W2 hs => by have hc := HCB.out W2 hs (g + 1) 0 _ HS.out.1.2; go_simp) (some 14) rfl #[true, true, true, true, true, true, true, true, true, true, false, false] (by kernel_rfl) ?_
  simp only [Act.put, List.setIfInBounds_toArray, List.set_cons_zero, List.set_cons_succ]
  refine Held.wpAnyG_take (i := 10) (v := (.bool (x.bk == bk))) rfl (by kernel_rfl) (by kernel_rfl) (by kernel_rfl) (fun _ _ _ h => h) HSS.out (by first | (with_reducible rfl) | (simp [Region.wanted, yielded, Act.put]; done) | rfl) (fun W hs => by go_simp) (some 15) rfl #[true, true, true, true, true, true, true, true, true, true, true, false] (by kernel_rfl) ?_
  simp only [Act.put, List.setIfInBounds_toArray, List.set_cons_zero, List.set_cons_succ]
  refine Held.wpAnyG_last 11 (by kernel_rfl) rfl (by kernel_rfl) (by kernel_rfl) ?_
  go_wp2_with fail
  go_ret
  exact ⟨rfl, HSS.out⟩
set_option maxRecDepth 100000 in
set_option maxHeartbeats 2000000 in
theorem sweep_calls (now : Int) (O : Nat → Prop) (b : Nat) (T : Tb) (vc vn vf : Value) (w : World) (hT : TabAt w O b T vc vn vf) (fu : Nat) (T' : Tb) (cnt : Int) (hw : whereR (fun x => overS x.la T.idle now) fu T T.first 0 (T', cnt)) :
    Calls Try.prog 27 #[.pointer (some ⟨b, 0, none⟩), .int .u64 now] w fun en w' => en = .returned (.int .i64 cnt) ∧ ∃ O', (∃ vf', TabAt w' O' b T' vc vn vf') ∧ Keep O w w' ∧ ∀ k, O' k → O k ∨ w.heap.size ≤ k := by
  have HW := Aside0.mk hw
  obtain ⟨w1, hw1⟩ : ∃ w1, w1 = (w.alloc (.cells #[.pointer (some ⟨b, 0, none⟩)] 33)).alloc (.cells #[.int .u64 now] 22) := ⟨_, rfl⟩
  have HB := Aside0.mk (show Below w.heap.size w w1 by rw [hw1]; exact below_alloc (below_alloc (Below.refl _ _) _) _)
  have HT1 := Aside0.mk (hT.below HB.out)
  have HTL := Aside0.mk (tellsS now T.idle O b w w1 w.heap.size rfl hw1 hT.lt)
  have HW1 := Aside0.mk hw1
  clear hT hw hw1
  go_enter Try.func27, Try.ntmps27
  go_wp2_with fail
  rw [← HW1.out]
  (with_reducible refine (where_calls _ _ _ _ O b T vc vn vf w1 HT1.out HTL.out enterSweep fu T' cnt HW.out).mono ?_)
  rintro en w2 ⟨rfl, O2, ⟨vf2, hT2⟩, hk2, ho2⟩
  have HT2 := Aside0.mk hT2
  have HK2 := Aside0.mk ((Keep.of_below (O := O) HB.out).trans hk2 (fun k hk => .inl hk))
  have HO2 := Aside0.mk (show ∀ k, O2 k → O k ∨ w.heap.size ≤ k from fun k hk => (ho2 k hk).imp id (fun h => Nat.le_trans HB.out.size h))
  clear hT2 hk2 ho2
  go_wp2_with fail
  go_ret
  exact ⟨rfl, O2, ⟨vf2, HT2.out⟩, HK2.out, HO2.out⟩
set_option maxRecDepth 100000 in
set_option maxHeartbeats 2000000 in
theorem forget_calls (bk : Int) (O : Nat → Prop) (b : Nat) (T : Tb) (vc vn vf : Value) (w : World) (hT : TabAt w O b T vc vn vf) (fu : Nat) (T' : Tb) (cnt : Int) (hw : whereR (fun x => x.bk == bk) fu T T.first 0 (T', cnt)) :
    Calls Try.prog 28 #[.pointer (some ⟨b, 0, none⟩), .int .i64 bk] w fun en w' => en = .returned (.int .i64 cnt) ∧ ∃ O', (∃ vf', TabAt w' O' b T' vc vn vf') ∧ Keep O w w' ∧ ∀ k, O' k → O k ∨ w.heap.size ≤ k := by
  have HW := Aside0.mk hw
  obtain ⟨w1, hw1⟩ : ∃ w1, w1 = (w.alloc (.cells #[.pointer (some ⟨b, 0, none⟩)] 33)).alloc (.cells #[.int .i64 bk] 3) := ⟨_, rfl⟩
  have HB := Aside0.mk (show Below w.heap.size w w1 by rw [hw1]; exact below_alloc (below_alloc (Below.refl _ _) _) _)
  have HT1 := Aside0.mk (hT.below HB.out)
  have HTL := Aside0.mk (tellsF bk T.idle O b w w1 w.heap.size rfl hw1 hT.lt)
  have HW1 := Aside0.mk hw1
  clear hT hw hw1
  go_enter Try.func28, Try.ntmps28
  go_wp2_with fail
  rw [← HW1.out]
  (with_reducible refine (where_calls _ _ _ _ O b T vc vn vf w1 HT1.out HTL.out enterForget fu T' cnt HW.out).mono ?_)
  rintro en w2 ⟨rfl, O2, ⟨vf2, hT2⟩, hk2, ho2⟩
  have HT2 := Aside0.mk hT2
  have HK2 := Aside0.mk ((Keep.of_below (O := O) HB.out).trans hk2 (fun k hk => .inl hk))
  have HO2 := Aside0.mk (show ∀ k, O2 k → O k ∨ w.heap.size ≤ k from fun k hk => (ho2 k hk).imp id (fun h => Nat.le_trans HB.out.size h))
  clear hT2 hk2 ho2
  go_wp2_with fail
  go_ret
  exact ⟨rfl, O2, ⟨vf2, HT2.out⟩, HK2.out, HO2.out⟩
end Go.Proofs.Ytikpgmajiafhgaa.Fl
/- flow: node. Written by wip/gen/flp.py. -/
namespace Go.Proofs.Ytikpgmajiafhgaa.Fl
open Go.RowKit Go.Proofs.YtikpgmajiafhgaaW.PrintWords Go.Proofs.YtikpgmajiafhgaaW.PrintLast Go.Proofs.YtikpgmajiafhgaaW.PrintMore Go.Proofs.Ytikpgmajiafhgaa.X Go.Proofs.Ytikpgmajiafhgaa.M Go.Proofs.Ytikpgmajiafhgaa.Bv Go.Proofs.Ytikpgmajiafhgaa.PuLib Go.Proofs.Ytikpgmajiafhgaa.PuMix Go.Proofs.Ytikpgmajiafhgaa.PuCat
set_option linter.unusedVariables false
set_option linter.unusedSimpArgs false
section
variable {W w1 : World} {O : Nat → Prop} {b : Nat} {T : Tb} {vc vn vf : Value}
theorem TabAt.cutF {A : Option Addr} {n c m : Nat} (h : TabAt W O b T vc vn (.slice A n c)) (hm : m ≤ T.free.length) : TabAt (W.setCell ⟨b, 4, none⟩ (.slice A m c)) O b { T with free := T.free.take m } vc vn (.slice A m c) :=
  ⟨blk_put h.blk 4 _ rfl, h.ob, Kd.R_far h.rc (fun k hk => hk.2) _, Kd.R_far h.rn (fun k hk => hk.2) _, Kd.R_far (Kd.R_take h.rf hm) (fun k hk => hk.2.1) _, fun k hk => by rw [size_put]; exact h.lt k hk⟩
theorem TabAt.growN (h : TabAt W O b T vc vn vf) (hg : W.grownBy w1 vn.ownBlock) {vn' : Value} {nodes' : List Nd} (hR : Kd.R kN 91 w1 0 (fun k => (O k ∧ k ≠ b) ∨ W.heap.size ≤ k) vn' nodes') :
    TabAt (w1.setCell ⟨b, 3, none⟩ vn') (More O W w1) b { T with nodes := nodes' } vc vn' vf := by
  have hbl := h.lt b h.ob
  have hb1 : w1.heap[b]? = W.heap[b]? := hg.block b hbl (fun e => (ownN h e.symm).2 rfl)
  have hne : ∀ k j, (vc.ownBlock = some k ∨ vf.ownBlock = some k) → vn.ownBlock = some j → k ≠ j := by
    rintro k j hk hj
    obtain ⟨c1, h3⟩ := typeN h hj
    rcases hk with hk | hk
    · obtain ⟨c2, h4⟩ := typeC h hk
      exact fun e => nodeInt h3 h4 e.symm
    · obtain ⟨c2, h4⟩ := typeF h hk
      exact fun e => nodeInt h3 h4 e.symm
  refine ⟨blk_put (hb1.trans h.blk) 3 _ rfl, .inl h.ob, ?_, ?_, ?_, fun k hk => ?_⟩
  · have h1 := R_tight h.rc rfl (fun _ _ _ _ _ _ z => z)
    have h2 := R_same (W' := w1) h1 (fun k hk => hg.block k (h.lt k hk.2.1) (fun e => hne k k (.inl hk.1) e.symm rfl))
    exact Kd.R_far (Kd.R_mono h2 (fun k hk => ⟨.inl hk.2.1, hk.2.2⟩)) (fun k hk => hk.2) _
  · refine Kd.R_far (Kd.R_mono (Kd.R_bound hR) (fun k hk => ?_)) (fun k hk => hk.2) _
    obtain ⟨h1, _, h3, _⟩ := hk
    rcases h1 with h1 | h1
    · exact ⟨.inl h1.1, h1.2⟩
    · exact ⟨.inr ⟨h1, h3⟩, by omega⟩
  · have h1 := R_tight h.rf rfl (fun _ _ _ _ _ _ z => z)
    have h2 := R_same (W' := w1) h1 (fun k hk => hg.block k (h.lt k hk.2.1) (fun e => hne k k (.inr hk.1) e.symm rfl))
    exact Kd.R_far (Kd.R_mono h2 (fun k hk => ⟨.inl hk.2.1, hk.2.2.1, hk.2.2.2⟩)) (fun k hk => hk.2.1) _
  · rw [size_put]
    rcases hk with hk | hk
    · exact Nat.lt_of_lt_of_le (h.lt k hk) hg.size
    · exact hk.2
theorem Keep.growN (h : TabAt W O b T vc vn vf) (hg : W.grownBy w1 vn.ownBlock) (u : Value) : Keep O W (w1.setCell ⟨b, 3, none⟩ u) := by
  refine ⟨⟨hg.os, hg.tape, hg.output, by rw [size_put]; exact hg.size, fun k hk => absurd hk (Nat.not_lt_zero k)⟩, fun k hk hn => ?_⟩
  rw [Below.heap_setCell w1 _ u k (fun e => hn (by rw [e]; exact h.ob))]
  exact hg.block k hk (fun e => hn (ownN h e.symm).1)
end
theorem buildN : ∀ w : World, (Instr.build 91 #[]).run Try.prog w = .ok (nv Nd.zero) w := fun w => by kernel_rfl
theorem run_build_of {o : Oper} {a : Act} {w : World} (ty : TypeId) (ho : o.op = .build ty #[]) {v : Value} (h : (Instr.build ty #[]).run Try.prog w = .ok v w) : (execOp a.eval o).run Try.prog w = .ok (.value v) w := by
  unfold execOp
  simp [ho, h]
theorem wpList_build_of {ops : Array Oper} {rest : List Oper} {o : Oper} {a : Act} {Q : Exit → Act → World → Prop} {w : World} (hgd : o.guard = none) (ty : TypeId) (ho : o.op = .build ty #[]) {v : Value} (h : (Instr.build ty #[]).run Try.prog w = .ok v w) (hk : wpList Try.prog ops Q rest (a.put o.dst v) w) : wpList Try.prog ops Q (o :: rest) a w := by
  refine wpList_plain hgd fun K hK' => ?_
  unfold Oper.wp
  simp only [run_build_of ty ho h]
  exact hK' _ _ hk
theorem fillN : Instr.fill (fun i => some (i * 38, 38)) ((Array.range (1 * 38)).map ((nv Nd.zero).cells[· % (nv Nd.zero).cells.size]!)) [(0, nv Nd.zero)] = some (encN Nd.zero).toArray := by kernel_rfl
theorem wpList_bsN {ops : Array Oper} {rest : List Oper} {o : Oper} {a : Act} {Q : Exit → Act → World → Prop} {w : World} (hgd : o.guard = none) (x : Operand) (ho : o.op = .buildSlice 83 1 #[(0, x)]) (hx : a.eval x = nv Nd.zero)
    (h : wpList Try.prog ops Q rest (a.put o.dst (.slice (some ⟨w.heap.size, 0, none⟩) 1 1)) (w.alloc (.cells (encN Nd.zero).toArray 91))) : wpList Try.prog ops Q (o :: rest) a w := by
  obtain ⟨i, hi, hz⟩ := Option.map_eq_some_iff.1 infoN
  simp only [Prod.mk.injEq] at hz
  refine wpList_buildSlice hgd 83 91 1 #[(0, x)] ho (encN Nd.zero).toArray i _ Try.underlying83 hi hz.1 (by rw [hz.2.1]; decide) (by rw [hz.2.1]; decide) ?_ h
  rw [hz.2.1]
  simp only [List.map_toArray, List.map_cons, List.map_nil, hx]
  exact fillN
/-- A node that isn't used. -/
def NodeR (T : Tb) (n : Nat) (T' : Tb) : Prop := T.free.length ≤ 1000000 ∧ T.nodes.length ≤ 1000000 ∧ ((∃ fr, T.free = fr ++ [(n : Int)] ∧ T' = { T with free := fr }) ∨ (T.free = [] ∧ n = T.nodes.length ∧ T' = { T with nodes := T.nodes ++ [Nd.zero] }))
set_option maxRecDepth 100000 in
set_option maxHeartbeats 2000000 in
theorem node_calls {T T' : Tb} {n : Nat} (hr : NodeR T n T') (O : Nat → Prop) (b : Nat) (vc vn vf : Value) (w : World) (hT : TabAt w O b T vc vn vf) :
    Calls Try.prog 44 #[.pointer (some ⟨b, 0, none⟩)] w fun en w' => en = .returned (.int .i64 (n : Int)) ∧ ∃ O', (∃ vn' vf', TabAt w' O' b T' vc vn' vf') ∧ Keep O w w' ∧ ∀ k, O' k → O k ∨ w.heap.size ≤ k := by
  obtain ⟨hfl, hnl, hr⟩ := hr
  obtain ⟨Af, cf, rfl⟩ := Kd.R_slice hT.rf
  have HT := Aside0.mk hT
  have hc4 := hT.cell 4
  have hf4 := hT.fr 4
  simp at hc4
  rcases hr with ⟨fr, hfr, rfl⟩ | ⟨hf0, rfl, rfl⟩
  · have hlen : T.free.length = fr.length + 1 := by rw [hfr, List.length_append]; rfl
    obtain ⟨q, hq⟩ : ∃ q, q = fr.length := ⟨_, rfl⟩
    rw [← hq] at hlen
    have hlast : T.free[q]? = some (n : Int) := by rw [hfr, hq, List.getElem?_append_right (Nat.le_refl _), Nat.sub_self]; rfl
    obtain ⟨g, cap, hg, _⟩ := Kd.R_form hT.rf (by omega)
    injection hg with hg1 hg2 hg3
    subst hg1 hg3
    have hC := (Kd.R_reads' hT.rf).2.2
    have hcl := C_int (A := none) hC hlast
    have hcap : T.free.length ≤ cf := (Kd.R_reads' hT.rf).2.1
    obtain ⟨i0, hi0, _⟩ := info_parts infoI
    have hcut := fun W => cut_to (P := Try.prog) 82 3 .i64 Try.underlying82 hi0 (some ⟨g, 0, none⟩) T.free.length cf (q : Int) (by omega) (by omega) hcap W
    rw [Int.toNat_natCast] at hcut
    have HTC := Aside0.mk (hT.cutF (m := q) (by omega))
    have htk : T.free.take q = fr := by rw [hfr, hq, List.take_left]
    rw [htk] at HTC
    rw [hlen] at hc4 hcut
    have e1 : ((0 : Int) ≤ (q : Int)) = True := eq_true (by omega)
    have e2 : ((q : Int) < ((q + 1 : Nat) : Int)) = True := eq_true (by omega)
    have e3 : (q : Int) ≥ 0 := by omega
    have HWQ := Aside0.mk (show wrap64 (q : Int) = (q : Int) from w64_in _ (by omega) (by omega))
    clear hT hfr hlen hq hlast hC hcap hi0 htk hfl hnl
    have hwq := HWQ.out
    go_enter Try.func44, Try.ntmps44
    go_wp2_with fail
    go_ret
    exact ⟨rfl, O, ⟨_, _, HTC.out⟩, Keep.put (p := ⟨b, 4, none⟩) HT.out.ob _, fun k hk => .inl hk⟩
  · obtain ⟨An, cn, rfl⟩ := Kd.R_slice hT.rn
    have hlen0 : T.free.length = 0 := by rw [hf0]; rfl
    rw [hlen0] at hc4
    have hc3 := hT.cell 3
    have hf3 := hT.fr 3
    simp at hc3
    obtain ⟨N, hN⟩ : ∃ N, N = T.nodes.length := ⟨_, rfl⟩
    rw [← hN] at hc3 hnl HT ⊢
    have HRN := Aside0.mk (show Kd.R kN 91 w 0 (fun k => (O k ∧ k ≠ b) ∨ w.heap.size ≤ k) (.slice An N cn) T.nodes from Kd.R_mono HT.out.rn (fun k hk => .inl hk))
    have HNL := Aside0.mk hnl
    have HNN := Aside0.mk hN
    have HLL := Aside0.mk (show (T.nodes.length + 1) * 72 ≤ 140737488355328 by omega)
    clear hT hf0 hlen0 hN hnl hfl
    go_enter Try.func44, Try.ntmps44
    go_wp2_with (first | (refine wpList_build_of rfl 91 rfl (buildN _) ?_) | (refine wpList_bsN rfl (.tmp 35) rfl rfl ?_) | ((with_reducible refine gate_builtin (b := .append) (xs := #[.tmp 34, .tmp 36]) rfl ?_); at_builtin; refine Kd.R_append kN (w0 := w) (W := w) 0 rfl (.tmp 34) (.tmp 36) 83 91 (nv Nd.zero) 72 rfl Try.underlying83 infoN rfl (by decide) (by omega) (.slice An N cn) T.nodes Nd.zero (encN Nd.zero) _ (fun _ => False) rfl rfl (show _ = _ ∧ _ from ⟨rfl, rfl⟩) (fun _ hk => hk.elim) (fun _ hk => .inr hk) HRN.out (Below.refl _ _) (Nat.zero_le _) HLL.out ?_))
    intro vn' w3 ho hb3 hg3 _
    obtain ⟨A3, c3, rfl⟩ := Kd.R_slice ho
    obtain ⟨n3, hn3⟩ : ∃ n3, n3 = (T.nodes ++ [Nd.zero]).length := ⟨_, rfl⟩
    rw [← hn3] at ho ⊢
    have HT4 := Aside0.mk (HT.out.growN hg3 ho)
    have HK4 := Aside0.mk (Keep.growN HT.out hg3 (.slice A3 n3 c3))
    have hb1 : w3.heap[b]? = w.heap[b]? := hg3.block b (HT.out.lt b HT.out.ob) (fun e => (ownN HT.out e.symm).2 rfl)
    have hblk := hb1.trans HT.out.blk'
    have hd3 := blk_cell hblk 3
    have hfr3 := blk_frozen hblk 3
    simp at hd3
    have hn4 : n3 = N + 1 := by rw [hn3, List.length_append, HNN.out]; rfl
    have HN4 := Aside0.mk hn4
    obtain ⟨w4, hw4⟩ : ∃ w4, w4 = w3.setCell ⟨b, 3, none⟩ (.slice A3 n3 c3) := ⟨_, rfl⟩
    rw [← hw4] at HT4 HK4
    have HW4 := Aside0.mk hw4
    clear ho hb3 hg3 hn3 hb1 hblk hc3 hc4 hw4 HRN hf3 hf4 hn4
    go_upto_region 7 with (fail)
    rw [← HW4.out]
    have hc3 := HT4.out.cell 3
    simp at hc3
    have hw1 : wrap64 ((n3 : Int) - 1) = (N : Int) := by rw [w64_in _ (by have h1 := HN4.out; omega) (by have h1 := HN4.out; have h2 := HNL.out; omega)]; have h1 := HN4.out; omega
    clear hd3 hfr3
    go_wp2_with fail
    go_ret
    refine ⟨?_, More O w w3, ⟨_, _, HT4.out⟩, HK4.out, fun k hk => ?_⟩
    · have h1 := HN4.out
      show Ending.returned (Value.int .i64 _) = _
      congr 2
    · rcases hk with hk | hk
      · exact .inl hk
      · exact .inr hk.1
end Go.Proofs.Ytikpgmajiafhgaa.Fl
