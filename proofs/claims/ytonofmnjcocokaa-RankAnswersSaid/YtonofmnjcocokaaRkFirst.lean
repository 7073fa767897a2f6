/- rank: First. Written by wip/gen/rkfirst.py. -/
import Derived.Test.YtonofmnjcocokaaRkAll
import Derived.Maps.OwnSet
namespace Go.Proofs.Ytonofmnjcocokaa.Rk
open Go.RowKit Go.Proofs.YtonofmnjcocokaaW.PrintWords Go.Proofs.YtonofmnjcocokaaW.PrintLast Go.Proofs.YtonofmnjcocokaaW.PrintMore Go.Proofs.Ytonofmnjcocokaa.X Go.Proofs.Ytonofmnjcocokaa.M Go.Proofs.Ytonofmnjcocokaa.Bv Go.Proofs.Ytonofmnjcocokaa.PuLib Go.Proofs.Ytonofmnjcocokaa.PuMix
attribute [local go_sem] max2_int min2_int max_two min_two max_three min_three max_four min_four
set_option linter.unusedVariables false
set_option linter.unusedSimpArgs false
/-- The first one. -/
def firstL : List (Int × Int) → Int × Bool
  | [] => (0, false)
  | x :: r => ((minL x r).1, true)
def firstS (seed : Int) (key : List Int) (l : List S25) : Int × Bool := firstL (allS seed key l)
abbrev pvF (x : Int × Bool) : Value := .tuple #[.int .i64 x.1, .bool x.2]
theorem field_id (a b : Int) : ∀ w : World, (Instr.field 57 (.agg #[.int .i64 a, .int .u64 b]) 0).run Try.prog w = .ok (.int .i64 a) w := fun _ => by kernel_rfl
set_option maxRecDepth 100000 in
set_option maxHeartbeats 4000000 in
theorem first_calls (seed : Int) (key : List Int) (pk : Nat) (hpk : pk = key.length) (l : List S25) (p : Nat) (hp : p = l.length) (hp3 : p ≤ 2000) (A : Option Addr) (c : Nat) (B : Option Addr) (d : Nat) (w : World) (hK : Kd.C (Kd.int .u8) w A pk key) (hkc : pk ≤ c) (hC : Kd.C k25 w B p l) (hc : p ≤ d) :
    Calls Try.prog 11 #[.int .u64 seed, .slice A pk c, .slice B p d] w fun e w' => e = .returned (pvF (firstS seed key l)) ∧ Below w.heap.size w w' := by
  have HA := Aside0.mk (all_calls seed key pk hpk l p hp (by omega) A c B d w hK hkc hC hc)
  have HLE := Aside0.mk (show (allS seed key l).length ≤ 2000 by have h1 := allS_length seed key l; omega)
  clear hpk hp hp3 hC hc hK hkc
  go_enter Try.func11, Try.ntmps11
  go_wp2_with fail
  (with_reducible refine HA.out.mono ?_)
  rintro en w2 ⟨A2, q, c2, rfl, hq, hr, hb⟩
  have HB := Aside0.mk hb
  obtain ⟨st, hst⟩ : ∃ st, st = allS seed key l := ⟨_, rfl⟩
  have HFS := Aside0.mk (show firstS seed key l = firstL st by unfold firstS; rw [← hst])
  rw [← hst] at hq hr HLE
  cases st with
  | nil =>
    obtain rfl : q = 0 := hq
    clear hr hb hst
    go_wp2_with fail
    go_ret2
    exact ⟨by rw [HFS.out]; rfl, HB.out⟩
  | cons x r =>
    have hr1 := (Kd.R_reads' hr).2.2
    rw [← hq] at hr1
    have HM := Aside0.mk (min_calls x r q (by rw [hq]; rfl) (by rw [hq]; have h1 := HLE.out; omega) A2 c2 w2 hr1)
    have e1 : ¬ q = 0 := by rw [hq, List.length_cons]; omega
    clear hr hr1 hq hb hst
    go_wp2_with fail
    (with_reducible refine HM.out.mono ?_)
    rintro en w3 ⟨rfl, hb3⟩
    have HB3 := Aside0.mk (HB.out.trans (hb3.mono HB.out.size))
    obtain ⟨y, hy⟩ : ∃ y, y = minL x r := ⟨_, rfl⟩
    have HY := Aside0.mk hy
    rw [← hy]
    unfold sv
    have hfd := field_id y.1 y.2
    clear hy hb3
    go_wp2_with fail
    go_ret2
    refine ⟨?_, HB3.out⟩
    rw [HFS.out]
    show _ = Ending.returned (pvF ((minL x r).1, true))
    rw [← HY.out]
    rfl
theorem allS_mem (seed : Int) (key : List Int) (l : List S25) : ∀ x ∈ allS seed key l, 0 ≤ x.1 ∧ x.1 < 64 := by
  have h : ∀ (l : List S25) (st : List (Int × Int)), (∀ x ∈ st, 0 ≤ x.1 ∧ x.1 < 64) → ∀ x ∈ l.foldl (stA seed key) st, 0 ≤ x.1 ∧ x.1 < 64 := by
    intro l
    induction l with
    | nil => intro st h; exact h
    | cons e r ih =>
      intro st h
      rw [List.foldl_cons]
      refine ih _ (fun x hx => ?_)
      unfold stA at hx
      split at hx
      · rename_i hr
        rw [List.mem_append, List.mem_singleton] at hx
        rcases hx with hx | rfl
        · exact h x hx
        · have h1 := of_decide_eq_true hr.1
          exact ⟨h1.1, h1.2.1⟩
      · exact h x hx
  exact h l [] (fun x hx => absurd hx List.not_mem_nil)
theorem minL_mem (l : List (Int × Int)) : ∀ x, minL x l ∈ x :: l := by
  unfold minL
  induction l with
  | nil => intro x; simp
  | cons y r ih =>
    intro x
    rw [List.foldl_cons]
    have h1 := ih (if ordC y x < 0 then y else x)
    rw [List.mem_cons] at h1
    rcases h1 with h1 | h1
    · rw [h1]
      split <;> simp
    · simp [h1]
theorem firstS_range (seed : Int) (key : List Int) (l : List S25) : 0 ≤ (firstS seed key l).1 ∧ (firstS seed key l).1 < 64 := by
  unfold firstS
  cases h : allS seed key l with
  | nil => exact ⟨Int.le_refl _, by decide⟩
  | cons x r =>
    have h1 := minL_mem r x
    rw [← h] at h1
    exact allS_mem seed key l _ h1
/-- The first ones of keys. -/
def idsS (seed : Int) (keys : List (List Int)) (l : List S25) : List Int := keys.filterMap (fun key => if (firstS seed key l).2 = true then some (firstS seed key l).1 else none)
theorem idsS_take (seed : Int) (keys : List (List Int)) (l : List S25) {k : Nat} (hk : k < keys.length) : idsS seed (keys.take (k + 1)) l = if (firstS seed (keys.getD k []) l).2 = true then idsS seed (keys.take k) l ++ [(firstS seed (keys.getD k []) l).1] else idsS seed (keys.take k) l := by
  unfold idsS
  rw [List.take_succ_eq_append_getElem hk, List.filterMap_append, List.getD_eq_getElem?_getD, List.getElem?_eq_getElem hk]
  simp only [Option.getD_some, List.filterMap_cons, List.filterMap_nil]
  split <;> rename_i h <;> split at h <;> simp_all
theorem idsS_length (seed : Int) (keys : List (List Int)) (l : List S25) : (idsS seed keys l).length ≤ keys.length := List.length_filterMap_le _ _
theorem cs_mem {cs : List Int} {id : Int} : id ∈ cs ↔ 0 < cs.count id := List.count_pos_iff.symm
/-- The map of counts. -/
def ChosenAt (w : World) (b : Nat) (cs : List Int) : Prop := ∃ D : DataW Unit, w.ownsMap Try.prog 3 (plainElem Try.prog 3) b cs.length D ∧ Maps.IsMap D ∧ (∀ id : Int, D.atKey (.int .i64 id) (.lit (.int .i64 0)) = .lit (.int .i64 (cs.count id : Int))) ∧ (∀ id : Int, Maps.has D (.int .i64 id) = decide (0 < cs.count id)) ∧ ∃ ns : List Int, ns.Nodup ∧ (∀ x, x ∈ ns ↔ x ∈ cs) ∧ Maps.size D = ns.length
theorem ChosenAt.below {w w' : World} {b n : Nat} {cs : List Int} (h : ChosenAt w b cs) (hb : Below n w w') (hn : b < n) : ChosenAt w' b cs := by
  obtain ⟨D, ⟨es, clock, h1, h2⟩, h3⟩ := h
  exact ⟨D, ⟨es, clock, (hb.block b hn).trans h1, h2⟩, h3⟩
theorem ChosenAt.lt {w : World} {b : Nat} {cs : List Int} (h : ChosenAt w b cs) : b < w.heap.size := by
  obtain ⟨D, h1, h2⟩ := h
  exact h1.lt
theorem ChosenAt.put {w' : World} {b : Nat} {cs : List Int} {D : DataW Unit} (id : Int) (hT : Maps.Tidy D) (h5 : ∃ ns : List Int, ns.Nodup ∧ (∀ x, x ∈ ns ↔ x ∈ cs) ∧ Maps.size D = ns.length) (h2 : Maps.IsMap D) (h3 : ∀ id : Int, D.atKey (.int .i64 id) (.lit (.int .i64 0)) = .lit (.int .i64 (cs.count id : Int))) (h4 : ∀ id : Int, Maps.has D (.int .i64 id) = decide (0 < cs.count id)) (h1 : w'.ownsMap Try.prog 3 (plainElem Try.prog 3) b (cs.length + 1) (D.put (.int .i64 id) (.lit (.int .i64 ((cs.count id : Nat) + 1 : Int))))) : ChosenAt w' b (cs ++ [id]) := by
  refine ⟨_, by rw [List.length_append]; exact h1, h2.put _ _, fun i => ?_, fun i => ?_, ?_⟩
  · by_cases hi : i = id
    · subst hi
      rw [Maps.atKey_put_same h2 (by exact trivial), List.count_append, List.count_singleton_self]
      rfl
    · rw [Maps.atKey_put_other (by simpa using hi), h3, List.count_append, List.count_singleton, if_neg (by simpa using fun h : id = i => hi h.symm)]
      rfl
  · by_cases hi : i = id
    · subst hi
      rw [Maps.has_put_same h2 (by exact trivial), List.count_append, List.count_singleton_self]
      exact (decide_eq_true (by omega)).symm
    · rw [Maps.has_put_other (by simpa using hi), h4, List.count_append, List.count_singleton, if_neg (by simpa using fun h : id = i => hi h.symm)]
      rfl
  · obtain ⟨ns, hn1, hn2, hn3⟩ := h5
    rw [Maps.size_put hT, h4]
    by_cases hm : id ∈ cs
    · refine ⟨ns, hn1, fun x => ?_, ?_⟩
      · rw [hn2, List.mem_append, List.mem_singleton]
        constructor
        · exact Or.inl
        · rintro (h | rfl)
          · exact h
          · exact hm
      · rw [decide_eq_true (cs_mem.1 hm), if_pos rfl, hn3]
    · refine ⟨ns ++ [id], ?_, fun x => ?_, ?_⟩
      · rw [List.nodup_append]
        refine ⟨hn1, by simp, ?_⟩
        intro a ha b hb e
        rw [List.mem_singleton.1 hb] at e
        subst e
        exact hm ((hn2 a).1 ha)
      · rw [List.mem_append, List.mem_append, hn2]
      · rw [decide_eq_false (fun h => hm (cs_mem.2 h)), List.length_append, hn3]
        rfl
theorem lawCI : Try.prog.underlying 44 = some (.map 3 3) := Try.underlying44
def CInv (w wr : World) (seed : Int) (keys : List (List Int)) (l : List S25) (k : Nat) : Prop := ChosenAt wr w.heap.size (idsS seed (keys.take k) l) ∧ Below w.heap.size w wr
set_option maxRecDepth 100000 in
set_option maxHeartbeats 8000000 in
theorem chosen_calls (seed : Int) (keys : List (List Int)) (pk : Nat) (hpk : pk = keys.length) (hpk3 : pk ≤ 2000) (l : List S25) (p : Nat) (hp : p = l.length) (hp3 : p ≤ 2000) (A : Option Addr) (c : Nat) (B : Option Addr) (d : Nat) (w : World) (hK : Kd.C (Kd.slice 5 (Kd.int .u8)) w A pk keys) (hkc : pk ≤ c) (hC : Kd.C k25 w B p l) (hc : p ≤ d) :
    Calls Try.prog 17 #[.int .u64 seed, .slice A pk c, .slice B p d] w fun e w' => ∃ b, e = .returned (.map (some b)) ∧ w.heap.size ≤ b ∧ ChosenAt w' b (idsS seed keys l) ∧ Below w.heap.size w w' := by
  have HPK := Aside0.mk hpk
  have HPK3 := Aside0.mk hpk3
  have HP := Aside0.mk hp
  have HP3 := Aside0.mk hp3
  have HC := Aside0.mk hC
  have HK := Aside0.mk hK
  have HD := Aside0.mk hc
  clear hpk hp hp3 hC hc hK hkc hpk3
  have hmm := @run_makeMap Try.prog
  go_enter Try.func17, Try.ntmps17
  go_wp2_with fail
  clear hmm
  have HI : Aside0 (CInv w (w.alloc (.map #[] 0)) seed keys l 0) := ⟨⟨.map [], World.ownsMap_made w _ _ _, Maps.isMap_empty, fun _ => rfl, fun _ => rfl, [], List.nodup_nil, fun _ => Iff.rfl, rfl⟩, below_alloc (Below.refl _ _) _⟩
  go_loopw [15] (fun v15 wr => ∃ k : Nat, k ≤ pk ∧ v15 = .int .i64 k ∧ Aside0 (CInv w wr seed keys l k)) (fun v15 _ => pk - (intOf v15).toNat)
  case atStart => exact ⟨0, Nat.zero_le _, rfl, HI⟩
  case round =>
    clear HI
    obtain ⟨k, hk, rfl, HI⟩ := hrel
    by_cases hlt : k < pk
    · have HKL := Aside0.mk hlt
      obtain ⟨ad, A0, c0, hA, hcell, hl0, hC0⟩ := at_L1 (Kd.C_below HK.out HI.out.2) (k : Int) (by omega) (by omega)
      subst hA
      rw [Int.toNat_natCast] at hcell
      obtain ⟨key, hkey⟩ : ∃ key, key = rd_L1 keys (k : Int) := ⟨_, rfl⟩
      rw [← hkey] at hcell hl0 hC0
      have hkey2 : key = keys.getD k [] := by rw [hkey]; unfold rd_L1; rw [Int.toNat_natCast]
      obtain ⟨n0, hn0⟩ : ∃ n0, n0 = key.length := ⟨_, rfl⟩
      rw [← hn0] at hcell hl0 hC0
      obtain ⟨cs, hcs⟩ : ∃ cs, cs = idsS seed (keys.take k) l := ⟨_, rfl⟩
      have HCS := Aside0.mk hcs
      have HLE := Aside0.mk (show cs.length < 3000 by rw [hcs]; have h1 := idsS_length seed (keys.take k) l; rw [List.length_take] at h1; have h2 := HPK.out; have h3 := HPK3.out; omega)
      have HSTEP := Aside0.mk (idsS_take seed keys l (k := k) (by rw [← HPK.out]; exact hlt))
      rw [← hkey2, ← hcs] at HSTEP
      have HFC := Aside0.mk (first_calls seed key n0 hn0 l p HP.out HP3.out A0 c0 B d wr hC0 hl0 (Kd.C_below HC.out HI.out.2) HD.out)
      have HFR := Aside0.mk (firstS_range seed key l)
      obtain ⟨y, hy⟩ : ∃ y, y = firstS seed key l := ⟨_, rfl⟩
      rw [← hy] at HSTEP HFC HFR
      have e1 : (0 : Int) ≤ (k : Int) ∧ (k : Int) < (pk : Int) := by omega
      have e2 : (k : Int) < (pk : Int) := by omega
      have e3 : (pk : Int) ≤ 2000 := by have h1 := HPK3.out; omega
      clear hlt hk hkey hkey2 hn0 hcs hC0 hl0 hy
      go_wp2_with fail
      (with_reducible refine HFC.out.mono ?_)
      rintro en w2 ⟨rfl, hb⟩
      obtain ⟨hS, hB⟩ := HI.out
      rw [← HCS.out] at hS
      have hS2 := hS.below hb hS.lt
      have hB2 := hB.trans (hb.mono hB.size)
      obtain ⟨id, ok⟩ := y
      clear hS hB hb HI HFC hcell
      cases ok with
      | false =>
        have HA := Aside0.mk (show CInv w w2 seed keys l (k + 1) by unfold CInv; have h1 := HSTEP.out; simp at h1; rw [h1]; exact ⟨hS2, hB2⟩)
        clear hS2 hB2
        go_wp2_with fail
        go_roundw
        case measure => simp [intOf]; omega
        case rel => exact ⟨k + 1, by have h2 := HKL.out; omega, by go_num, HA⟩
      | true =>
        obtain ⟨D, hown, hmap, hat, hhas, hns⟩ := hS2
        have HNS := Aside0.mk hns
        have HTI := Aside0.mk (hown.tidy lawI)
        have hid : 0 ≤ id ∧ id < 64 := HFR.out
        have HAT := Aside0.mk hat
        have HHAS := Aside0.mk hhas
        have HB2 := Aside0.mk hB2
        have hkey := Maps.keyOf_int_mk (P := Try.prog) Try.underlying3 (a := id) (WalkArith.wf_i64 (by omega))
        have hz : (zeroValue 3).run Try.prog w2 = .ok (.int .i64 0) w2 := by kernel_rfl
        obtain ⟨c1, hlk, hc1, hwc⟩ := hown.lookup_int lawI lawCI Try.underlying3 hz hkey
        have hcc : c1 = (cs.count id : Int) := by
          have h1 := (HAT.out id).symm.trans hc1
          injection h1 with h1
          injection h1 with h1 h2
          exact h2.symm
        have hcl : cs.count id ≤ cs.length := List.count_le_length
        have e4 : wrap64 (c1 + 1) = c1 + 1 := by have h1 := HLE.out; unfold wrap64; omega
        have e5 : (0 : Int) ≤ c1 ∧ c1 < 3000 := by have h1 := HLE.out; omega
        have hnn : cs.length < maxLen := by have h1 := HLE.out; unfold maxLen; omega
        have HCC := Aside0.mk hcc
        clear hns hat hhas hB2 hz hc1 hwc hcc hcl
        go_wp2_with (first | (at_mapUpdate; refine wpList_mapUpdate_own _ rfl _ _ _ 44 rfl 3 3 lawI lawCI _ w.heap.size cs.length D rfl hown hnn _ _ _ rfl rfl hkey (.lit (.int .i64 (c1 + 1))) [] (plainElem_int Try.underlying3 (WalkArith.wf_i64 (by omega))) ?_) | go_in)
        intro w3 hown3 hg3
        have HA := Aside0.mk (show CInv w w3 seed keys l (k + 1) by
          unfold CInv
          have h1 := HSTEP.out
          simp at h1
          rw [h1]
          rw [HCC.out] at hown3
          exact ⟨ChosenAt.put id HTI.out HNS.out hmap HAT.out HHAS.out hown3, HB2.out.grown hg3 HB2.out.size (fun j hj => by cases hj; exact Nat.le_refl _)⟩)
        clear hown hmap hown3 hg3 hkey hlk hnn
        go_wp2_with fail
        go_roundw
        case measure => simp [intOf]; omega
        case rel => exact ⟨k + 1, by have h2 := HKL.out; omega, by go_num, HA⟩
    · obtain rfl : k = pk := by omega
      obtain ⟨hS, hB⟩ := HI.out
      rw [List.take_of_length_le (Nat.le_of_eq HPK.out.symm)] at hS
      have HS := Aside0.mk hS
      have HB := Aside0.mk hB
      clear hS hB HI hlt
      go_wp2_with fail
      go_ret
      exact ⟨_, rfl, Nat.le_refl _, HS.out, HB.out⟩
end Go.Proofs.Ytonofmnjcocokaa.Rk
