/- rank: all entries' scores. Written by wip/gen/rkall.py. -/
import Derived.Test.YtonofmnjcocokaaRkScore
import Derived.Test.YtonofmnjcocokaaRkMin
import Derived.Maps.OwnOps
import Derived.Maps.Views
namespace Go.Proofs.Ytonofmnjcocokaa.Rk
open Go.RowKit Go.Proofs.YtonofmnjcocokaaW.PrintWords Go.Proofs.YtonofmnjcocokaaW.PrintLast Go.Proofs.YtonofmnjcocokaaW.PrintMore Go.Proofs.Ytonofmnjcocokaa.X Go.Proofs.Ytonofmnjcocokaa.M Go.Proofs.Ytonofmnjcocokaa.Bv Go.Proofs.Ytonofmnjcocokaa.PuLib Go.Proofs.Ytonofmnjcocokaa.PuMix
attribute [local go_sem] max2_int min2_int max_two min_two max_three min_three max_four min_four
set_option linter.unusedVariables false
set_option linter.unusedSimpArgs false
/-- One entry more. -/
def stA (seed : Int) (key : List Int) (st : List (Int × Int)) (e : S25) : List (Int × Int) := if rightS e.f0 e.f1 = true ∧ ¬ st.any (fun x => x.1 == e.f0) = true then st ++ [(e.f0, (scoreS seed key e.f0 e.f1).1)] else st
def allS (seed : Int) (key : List Int) (l : List S25) : List (Int × Int) := l.foldl (stA seed key) []
theorem allS_take (seed : Int) (key : List Int) (l : List S25) {k : Nat} (hk : k < l.length) : allS seed key (l.take (k + 1)) = stA seed key (allS seed key (l.take k)) (l.getD k z25) := by
  unfold allS
  rw [List.take_succ_eq_append_getElem hk, List.foldl_append, List.getD_eq_getElem?_getD, List.getElem?_eq_getElem hk]
  rfl
theorem stA_length (seed : Int) (key : List Int) (st : List (Int × Int)) (e : S25) : (stA seed key st e).length ≤ st.length + 1 := by
  unfold stA
  split
  · rw [List.length_append]; exact Nat.le_refl _
  · omega
theorem allS_length (seed : Int) (key : List Int) (l : List S25) : (allS seed key l).length ≤ l.length := by
  have h : ∀ (l : List S25) (st : List (Int × Int)), (l.foldl (stA seed key) st).length ≤ st.length + l.length := by
    intro l
    induction l with
    | nil => intro st; exact Nat.le_refl _
    | cons e r ih =>
      intro st
      have h1 := ih (stA seed key st e)
      have h2 := stA_length seed key st e
      rw [List.foldl_cons, List.length_cons]
      omega
  have h1 := h l []
  rw [List.length_nil] at h1
  unfold allS
  omega
theorem infoE : (Try.prog.info? 25).map (fun i => (i.zero, i.size, i.bytes)) = some (some (.agg #[.int .i64 0, .int .i64 0]), 2, 16) := by kernel_rfl
abbrev svE (x : S25) : Value := .agg #[.int .i64 x.f0, .int .i64 x.f1]
theorem heapE : Kd.Heap k25 := Kd.heap_iso _ (Kd.heap_pair (Kd.heap_int _) (Kd.heap_int _))
theorem load_adE {W : World} {a : Addr} {x : S25} (h : ∀ j v, ([.int .i64 x.f0, .int .i64 x.f1] : List Value)[j]? = some v → W.cell? (a.add j) = some v) : (loadVar 25 a).run Try.prog W = .ok (svE x) W := by
  have hl := run_loadCells_list (P := Try.prog) W a [.int .i64 x.f0, .int .i64 x.f1] h
  obtain ⟨i, hi, hz⟩ := Option.map_eq_some_iff.1 infoE
  simp only [Prod.mk.injEq] at hz
  have hl2 : (loadCells a 2).run Try.prog W = .ok #[.int .i64 x.f0, .int .i64 x.f1] W := hl
  simp [loadVar, sizeOf, typeInfo, run_underlying Try.underlying25, hi, hz.2.1, hl2]
theorem load_rowE {W : World} {ok : Nat → Prop} {ad : Addr} {p : Nat} {l : List S25} {k : Nat} (h : Kd.F k25 W ok (some ad) p l) (hk : k < l.length) : (loadVar 25 (ad.add (k * 2))).run Try.prog W = .ok (svE (l.getD k z25)) W := by
  have hl : l.length = p := (Kd.F_now h).1
  obtain ⟨a2, ha, hr⟩ := (Kd.F_now h).2.2 (by omega)
  obtain rfl := Option.some.inj ha
  refine load_adE (fun j v hv => ?_)
  have hp : l[k]? = some (l.getD k z25) := by rw [List.getD_eq_getElem?_getD, List.getElem?_eq_getElem hk]; rfl
  obtain ⟨cs, _, hK, hc⟩ := hr k _ hp
  obtain rfl := k25_open hK
  rw [add_add_]
  exact hc j v hv
/-- The map of the Ids that were seen. -/
def SeenAt (w : World) (b : Nat) (st : List (Int × Int)) : Prop := ∃ D : DataW Unit, w.ownsMap Try.prog 3 (plainElem Try.prog 4) b st.length D ∧ Maps.IsMap D ∧ ∀ id : Int, D.atKey (.int .i64 id) (.lit (.bool false)) = .lit (.bool (st.any (fun x => x.1 == id)))
theorem SeenAt.kept {w w' : World} {b : Nat} {st : List (Int × Int)} (h : SeenAt w b st) {row : Option Nat} (hg : w.grownBy w' row) (hne : some b ≠ row) : SeenAt w' b st := by
  obtain ⟨D, h1, h2⟩ := h
  exact ⟨D, h1.kept hg hne, h2⟩
theorem SeenAt.lt {w : World} {b : Nat} {st : List (Int × Int)} (h : SeenAt w b st) : b < w.heap.size := by
  obtain ⟨D, h1, h2⟩ := h
  exact h1.lt
theorem SeenAt.below {w w' : World} {b n : Nat} {st : List (Int × Int)} (h : SeenAt w b st) (hb : Below n w w') (hn : b < n) : SeenAt w' b st := by
  obtain ⟨D, ⟨es, clock, h1, h2⟩, h3⟩ := h
  exact ⟨D, ⟨es, clock, (hb.block b hn).trans h1, h2⟩, h3⟩
theorem lawI : Maps.Keyed Try.prog 3 := Maps.int_keyed Try.underlying3
theorem plainElem_bool_inv {H : Type} {P : Program} {e : TypeId} (he : P.underlying e = some .bool) {v : Value} {z : DataW H × List MemPlace} (h : plainElem P e v = some z) : ∃ x, v = .bool x ∧ z = (.lit (.bool x), []) := by
  unfold plainElem at h
  rw [he] at h
  cases v <;> simp at h
  exact ⟨_, rfl, h.symm⟩
theorem SeenAt.look {w : World} {b : Nat} {st : List (Int × Int)} (h : SeenAt w b st) (id : Int) (hid : 0 ≤ id ∧ id < 64) : (Instr.lookup 73 (.map (some b)) (.int .i64 id) false).run Try.prog w = .ok (.bool (st.any (fun x => x.1 == id))) w := by
  obtain ⟨D, h1, h2, h3⟩ := h
  have hz : (zeroValue 4).run Try.prog w = .ok (.bool false) w := by kernel_rfl
  obtain ⟨v, ps, hr, hv⟩ := h1.lookup lawI Try.underlying73 hz (plainElem_bool Try.underlying4 false) (key := .int .i64 id) (Maps.keyOf_int_mk Try.underlying3 (WalkArith.wf_i64 (by omega)))
  rw [h3] at hv
  obtain ⟨x, rfl, hx⟩ := plainElem_bool_inv Try.underlying4 hv
  simp only [Prod.mk.injEq, DataW.lit.injEq, Lit.bool.injEq] at hx
  rw [hr, hx.1]
theorem SeenAt.put {w' : World} {b : Nat} {st : List (Int × Int)} {D : DataW Unit} (id s : Int) (hid : 0 ≤ id ∧ id < 64) (h2 : Maps.IsMap D) (h3 : ∀ id : Int, D.atKey (.int .i64 id) (.lit (.bool false)) = .lit (.bool (st.any (fun x => x.1 == id)))) (h1 : w'.ownsMap Try.prog 3 (plainElem Try.prog 4) b (st.length + 1) (D.put (.int .i64 id) (.lit (.bool true)))) : SeenAt w' b (st ++ [(id, s)]) := by
  refine ⟨_, by rw [List.length_append]; exact h1, h2.put _ _, fun i => ?_⟩
  by_cases hi : i = id
  · subst hi
    rw [Maps.atKey_put_same h2 (by exact trivial)]
    simp
  · rw [Maps.atKey_put_other (by simpa using hi), h3]
    have h4 : (id == i) = false := by simpa using fun h : id = i => hi h.symm
    rw [List.any_append, List.any_cons, List.any_nil, h4, Bool.or_false, Bool.or_false]
/-- What stays as the list is gone through. -/
def AInv (w wr : World) (seed : Int) (key : List Int) (l : List S25) (v : Value) (k q : Nat) : Prop := q = (allS seed key (l.take k)).length ∧ Kd.R kS 57 wr (w.heap.size + 1) (fun _ => True) v (allS seed key (l.take k)) ∧ SeenAt wr w.heap.size (allS seed key (l.take k)) ∧ Below w.heap.size w wr
set_option maxRecDepth 100000 in
set_option maxHeartbeats 8000000 in
theorem all_calls (seed : Int) (key : List Int) (pk : Nat) (hpk : pk = key.length) (l : List S25) (p : Nat) (hp : p = l.length) (hp3 : p ≤ 3000) (A : Option Addr) (c : Nat) (B : Option Addr) (d : Nat) (w : World) (hK : Kd.C (Kd.int .u8) w A pk key) (hkc : pk ≤ c) (hC : Kd.C k25 w B p l) (hc : p ≤ d) :
    Calls Try.prog 23 #[.int .u64 seed, .slice A pk c, .slice B p d] w fun e w' => ∃ A' q c', e = .returned (.slice A' q c') ∧ q = (allS seed key l).length ∧ Kd.R kS 57 w' (w.heap.size + 1) (fun _ => True) (.slice A' q c') (allS seed key l) ∧ Below w.heap.size w w' := by
  have HPK := Aside0.mk hpk
  have HP := Aside0.mk hp
  have HP3 := Aside0.mk hp3
  have HF := Aside0.mk (Kd.C_F heapE hC)
  have HKF := Aside0.mk (Kd.C_F (Kd.heap_int .u8) hK)
  have HKC := Aside0.mk hkc
  clear hpk hp hp3 hC hc hK hkc
  have hmm := @run_makeMap Try.prog
  go_enter Try.func23, Try.ntmps23
  go_wp2_with fail
  clear hmm
  have HI : Aside0 (AInv w (w.alloc (.map #[] 0)) seed key l (.slice none 0 0) 0 0) := ⟨rfl, Kd.R_nil _ _ _ _ _, ⟨.map [], World.ownsMap_made w _ _ _, Maps.isMap_empty, fun _ => rfl⟩, below_alloc (Below.refl _ _) _⟩
  go_loopw [8, 16] (fun v8 v16 wr => ∃ (k q : Nat) (A8 : Option Addr) (c8 : Nat), k ≤ p ∧ v16 = .int .i64 k ∧ v8 = .slice A8 q c8 ∧ Aside0 (AInv w wr seed key l (.slice A8 q c8) k q)) (fun _ v16 _ => p - (intOf v16).toNat)
  case atStart => exact ⟨0, 0, none, 0, Nat.zero_le _, rfl, rfl, HI⟩
  case round =>
    clear HI
    obtain ⟨k, q, A8, c8, hk, rfl, rfl, HI⟩ := hrel
    by_cases hlt : k < p
    · have HKL := Aside0.mk hlt
      obtain ⟨ad, hA, _⟩ := (Kd.F_now HF.out).2.2 (Nat.lt_of_le_of_lt (Nat.zero_le _) hlt)
      subst hA
      obtain ⟨x, hx⟩ : ∃ x, x = l.getD k z25 := ⟨_, rfl⟩
      have HXK := Aside0.mk hx
      obtain ⟨st, hst⟩ : ∃ st, st = allS seed key (l.take k) := ⟨_, rfl⟩
      have HST := Aside0.mk hst
      have HLD := Aside0.mk (show (loadVar 25 (ad.add (k * 2))).run Try.prog wr = .ok (svE x) wr by
        rw [hx]
        exact load_rowE (Kd.F_below HF.out HI.out.2.2.2) (by rw [← HP.out]; exact HKL.out))
      have HSTEP := Aside0.mk (show allS seed key (l.take (k + 1)) = stA seed key st x by rw [allS_take _ _ _ (by rw [← HP.out]; exact HKL.out), ← hst, ← hx])
      have e1 : (0 : Int) ≤ (k : Int) ∧ (k : Int) < (p : Int) := by omega
      have e2 : (k : Int) < (p : Int) := by omega
      have e3 : (p : Int) ≤ 3000 := by have h1 := HP3.out; omega
      clear hx hst hlt hk
      go_wp2_with (refine wpList_load_of rfl 25 (.tmp 18) rfl (ad.add (k * 2)) rfl HLD.out ?_)
      obtain ⟨hq, hR, hS, hB⟩ := HI.out
      rw [← HST.out] at hq hR hS
      have hbw : w.heap.size < wr.heap.size := hS.lt
      have hB1 : Below w.heap.size w (wr.alloc (.cells #[.int .i64 x.f0, .int .i64 x.f1] 25)) := below_alloc hB _
      (with_reducible refine (score_calls seed key pk HPK.out x.f0 x.f1 A c _ _ (Kd.F_below HKF.out hB1) HKC.out).mono ?_)
      rintro en w2 ⟨rfl, hb⟩
      have h2 : w2.heap[wr.heap.size]? = some (.cells #[.int .i64 x.f0, .int .i64 x.f1] 25 (0, 0)) := blk_below (blk_new wr _) hb
      have hb2 : Below wr.heap.size wr w2 := Below.trans (below_alloc (Below.refl _ wr) _) (hb.mono ((below_alloc (Below.refl wr.heap.size wr) _).size))
      have hR2 := Kd.R_below hR hb2
      have hS2 := hS.below hb2 hS.lt
      have hB2 := hB.trans (hb2.mono hB.size)
      have HH2 := Aside0.mk h2
      clear hR hS hB hB1 hb hb2 HI HLD
      by_cases hr : rightS x.f0 x.f1 = true
      · have hid : 0 ≤ x.f0 ∧ x.f0 < 64 := by have h1 := of_decide_eq_true hr; exact ⟨h1.1, h1.2.1⟩
        have hsc : (scoreS seed key x.f0 x.f1).2 = true := by unfold scoreS; rw [if_pos hr]
        obtain ⟨s, hs⟩ : ∃ s, s = (scoreS seed key x.f0 x.f1).1 := ⟨_, rfl⟩
        rw [hsc, ← hs]
        have hlk := hS2.look x.f0 hid
        have hc0 := blk_cell h2 0
        have hc1 := blk_cell h2 1
        simp at hc0 hc1
        by_cases hse : st.any (fun y => y.1 == x.f0) = true
        · have HN := Aside0.mk (show stA seed key st x = st by unfold stA; rw [if_neg (fun h => h.2 hse)])
          have HA := Aside0.mk (show AInv w w2 seed key l (.slice A8 q c8) (k + 1) q by unfold AInv; rw [HSTEP.out, HN.out]; exact ⟨hq, hR2, hS2, hB2⟩)
          rw [hse] at hlk
          clear hq hR2 hS2 hB2 hse hsc hs hr hid h2
          go_wp2_with fail
          go_roundw
          case measure => simp [intOf]; omega
          case rel => exact ⟨k + 1, q, A8, c8, by have h2 := HKL.out; omega, by go_num, rfl, HA⟩
        · have HN := Aside0.mk (show stA seed key st x = st ++ [(x.f0, s)] by unfold stA; rw [if_pos ⟨hr, hse⟩, hs])
          have HSE := Aside0.mk hse
          have HID := Aside0.mk hid
          have HR2 := Aside0.mk hR2
          have HB2 := Aside0.mk hB2
          have HQ := Aside0.mk hq
          have HBW := Aside0.mk hbw
          have HLT := Aside0.mk hS2.lt
          obtain ⟨D, hown, hmap, hat⟩ := hS2
          have HAT := Aside0.mk hat
          have hkey := Maps.keyOf_int_mk (P := Try.prog) Try.underlying3 (a := x.f0) (WalkArith.wf_i64 (by omega))
          have hnn : st.length < maxLen := by
            have h1 := allS_length seed key (l.take k)
            rw [← HST.out, List.length_take] at h1
            have h2 := HP.out
            have h3 := HP3.out
            unfold maxLen
            omega
          rw [Bool.eq_false_iff.2 hse] at hlk
          clear hq hR2 hB2 hse hsc hs hr hid h2 hat hbw
          go_wp2_with (first | (at_mapUpdate; refine wpList_mapUpdate_own _ rfl _ _ _ 73 rfl 3 4 lawI Try.underlying73 _ w.heap.size st.length D rfl hown hnn _ _ _ rfl rfl hkey _ [] (plainElem_bool Try.underlying4 true) ?_) | go_in)
          intro w3 hown3 hg3
          have HS3 := Aside0.mk (SeenAt.put x.f0 s HID.out hmap HAT.out hown3)
          have HB3 := Aside0.mk (HB2.out.grown hg3 HB2.out.size (fun j hj => by cases hj; exact Nat.le_refl _))
          have h3 := blk_grown HH2.out hg3 (fun e => by have h1 := HBW.out; injection e with e; omega)
          have HR3 := Aside0.mk (Kd.R_grown2 HR2.out rfl hg3 (fun j hj => fun e => by cases hj; have h1 := Kd.R_base HR2.out _ e.symm; omega))
          have HH3 := Aside0.mk h3
          have hc0 := blk_cell h3 0
          have hc1 := blk_cell h3 1
          simp at hc0 hc1
          have HLT3 := Aside0.mk (show w.heap.size + 1 ≤ w3.heap.size from HS3.out.lt)
          have HLL := Aside0.mk (show (st.length + 1) * 16 ≤ 140737488355328 by unfold maxLen at hnn; have h1 := HQ.out; have h2 := allS_length seed key (l.take k); rw [← HST.out, List.length_take] at h2; have h3 := HP3.out; have h4 := HP.out; omega)
          clear hlk hown hmap hown3 hg3 hkey hnn h3 HAT
          go_wp2_with ((with_reducible refine gate_builtin (b := .append) (xs := #[.tmp 38, .tmp 43]) rfl ?_); at_builtin; refine Kd.R_append kS (w0 := w3) (W := w3) (w.heap.size + 1) rfl (.tmp 38) (.tmp 43) 54 57 (.agg #[.int .i64 0, .int .u64 0]) 16 rfl Try.underlying54 infoS rfl (by decide) (by omega) (.slice A8 q c8) st (x.f0, s) [.int .i64 x.f0, .int .u64 s] (fun _ => True) (fun _ => False) rfl rfl (kS_mkM _ _ _ (x.f0, s)) (fun _ hk => hk.elim) (fun _ _ => trivial) HR3.out (Below.refl _ _) HLT3.out HLL.out ?_)
          intro v4 w4 ho hb4 hg4 _
          obtain ⟨A4, c4, rfl⟩ := Kd.R_slice ho
          rw [List.length_append, List.length_singleton, ← HQ.out] at ho ⊢
          have HA := Aside0.mk (show AInv w w4 seed key l (.slice A4 (q + 1) c4) (k + 1) (q + 1) by
            unfold AInv
            rw [HSTEP.out, HN.out]
            exact ⟨by rw [List.length_append, ← HQ.out]; rfl, ho, HS3.out.kept hg4 (fun e => by have h1 := Kd.R_base HR3.out _ e.symm; omega), HB3.out.grown hg4 HB3.out.size (fun j hj => by have h1 := Kd.R_base HR3.out _ hj; omega)⟩)
          clear ho hb4 hg4
          go_wp2_with fail
          go_roundw
          case measure => simp [intOf]; omega
          case rel => exact ⟨k + 1, q + 1, A4, c4, by have h2 := HKL.out; omega, by go_num, rfl, HA⟩
      · have hsc : scoreS seed key x.f0 x.f1 = (0, false) := by unfold scoreS; rw [if_neg hr]
        rw [hsc]
        have HN := Aside0.mk (show stA seed key st x = st by unfold stA; rw [if_neg (fun h => hr h.1)])
        have HA := Aside0.mk (show AInv w w2 seed key l (.slice A8 q c8) (k + 1) q by unfold AInv; rw [HSTEP.out, HN.out]; exact ⟨hq, hR2, hS2, hB2⟩)
        clear hq hR2 hS2 hB2 hsc hr h2
        go_wp2_with fail
        go_roundw
        case measure => simp [intOf]; omega
        case rel => exact ⟨k + 1, q, A8, c8, by have h2 := HKL.out; omega, by go_num, rfl, HA⟩
    · obtain rfl : k = p := by omega
      obtain ⟨hq, hR, hS, hB⟩ := HI.out
      rw [List.take_of_length_le (Nat.le_of_eq HP.out.symm)] at hq hR
      have HQ := Aside0.mk hq
      have HR := Aside0.mk hR
      have HB := Aside0.mk hB
      clear hq hR hS hB HI hlt
      go_wp2_with fail
      go_ret
      exact ⟨_, _, _, rfl, HQ.out, HR.out, HB.out⟩
end Go.Proofs.Ytonofmnjcocokaa.Rk
