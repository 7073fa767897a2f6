/- rank: what the reference's Score and its selection come to. -/
import Derived.Test.YtonofmnjcocokaaRkTurn
namespace Go.Proofs.Ytonofmnjcocokaa.Rk
open Go.RowKit Go.Proofs.YtonofmnjcocokaaW.PrintWords Go.Proofs.YtonofmnjcocokaaW.PrintLast Go.Proofs.YtonofmnjcocokaaW.PrintMore Go.Proofs.Ytonofmnjcocokaa.X Go.Proofs.Ytonofmnjcocokaa.M Go.Proofs.Ytonofmnjcocokaa.Bv Go.Proofs.Ytonofmnjcocokaa.PuLib Go.Proofs.Ytonofmnjcocokaa.PuMix
open Go.Lib Go.Sort
set_option linter.unusedVariables false
theorem rscore_l0 (seed : Int) (key : List Int) (id : Int) (hk : key.length ≤ 9223372036854775807) (w : Nat) (hw : w ≤ 16) : ∀ d i : Nat, i + d = w → Ev (fun k => crosswayref23_Score.l0 k seed key (scS seed key id i) (i : Int) id (w : Int)) (scS seed key id w, true) := by
  intro d
  induction d with
  | zero =>
    intro i hi
    obtain rfl : i = w := by omega
    exact Ev.step (f := fun _ => some (scS seed key id i, true)) (fun k => by simp only [crosswayref23_Score.l0]; rw [if_neg (by omega)]) (Ev.now _)
  | succ d ih =>
    intro i hi
    have hm := rmix_ev seed [key, [id % 256], [(i : Int) % 256]] (by simp) (by
      intro p hp
      simp only [List.mem_cons, List.not_mem_nil, or_false] at hp
      rcases hp with rfl | rfl | rfl
      · exact hk
      · simp
      · simp)
    have hx : mx (scS seed key id i) (mixS seed [key, [id % 256], [(i : Int) % 256]]) = scS seed key id (i + 1) := by
      show mx _ _ = max _ _
      unfold mx
      rw [Int.max_def]
      split <;> split <;> omega
    refine Ev.step (fun k => by simp only [crosswayref23_Score.l0]; rw [if_pos (by omega)]) (Ev.bind hm ?_)
    refine Ev.congr (fun k => by rw [hx, w64_up i (by omega)]) (ih (i + 1) (by omega))
theorem rscore_ev (seed : Int) (key : List Int) (id w : Int) (hk : key.length ≤ 9223372036854775807) : Ev (fun k => crosswayref23_Score.f k seed key id w) (scoreS seed key id w) := by
  unfold scoreS
  by_cases h : rightS id w = true
  · rw [if_pos h]
    have h2 := of_decide_eq_true h
    obtain ⟨n, rfl⟩ := Int.eq_ofNat_of_zero_le (show 0 ≤ w by omega)
    refine Ev.congr (fun k => by rw [crosswayref23_Score.f, if_neg (by omega), if_neg (by omega), if_neg (by omega), decide_eq_false (by omega)]) ?_
    refine Ev.step (fun k => by simp only [crosswayref23_Score.j0]; rw [if_neg (by simp)]) ?_
    exact rscore_l0 seed key id hk n (by omega) n 0 (by omega)
  · rw [if_neg h]
    have hj : Ev (fun k => crosswayref23_Score.j0 k seed key true id w) (0, false) := Ev.step (f := fun _ => some (0, false)) (fun k => by simp only [crosswayref23_Score.j0]; rw [if_pos trivial]) (Ev.now _)
    have hn : ¬ (0 ≤ id ∧ id < 64 ∧ 1 ≤ w ∧ w ≤ 16) := fun h2 => h (decide_eq_true h2)
    unfold crosswayref23_Score.f
    by_cases h1 : id < 0
    · exact Ev.congr (fun k => by rw [if_pos h1]) hj
    · by_cases h2 : id > 63
      · exact Ev.congr (fun k => by rw [if_neg h1, if_pos h2]) hj
      · by_cases h3 : w < 1
        · exact Ev.congr (fun k => by rw [if_neg h1, if_neg h2, if_pos h3]) hj
        · exact Ev.congr (fun k => by rw [if_neg h1, if_neg h2, if_neg h3, decide_eq_true (by omega)]) hj
theorem rscore_calls (seed : Int) (key : List Int) (p : Nat) (hp : p = key.length) (id w : Int) (A : Option Addr) (c : Nat) (W : World) (ok : Nat → Prop) (hF : Kd.F (Kd.int .u8) W ok A p key) (hc : p ≤ c) :
    Calls Try.prog 10 #[.int .u64 seed, .slice A p c, .agg #[.int .i64 id, .int .i64 w]] W fun e W' => e = .returned (.tuple #[.int .u64 (scoreS seed key id w).1, .bool (scoreS seed key id w).2]) ∧ Below W.heap.size W W' := by
  subst hp
  obtain ⟨k, hk⟩ := Ev.rounds (rscore_ev seed key id w (Kd.F_max hF))
  exact crosswayref23_Score.calls k seed ok A c key id w _ _ W (Kd.V_mk hc hF) hk
/-- An entry as the reference has it. -/
def toR (e : S25) : S34 := ⟨e.f0, e.f1⟩
theorem of_l0 (l : List S25) (hl : l.length ≤ 1000000) : ∀ d i : Nat, i + d = l.length → Ev (fun k => crosswaylaw23_of.l0 k l ((l.take i).map toR) (i : Int)) (l.map toR) := by
  intro d
  induction d with
  | zero =>
    intro i hi
    obtain rfl : i = l.length := by omega
    refine Ev.step (f := fun _ => some (l.map toR)) (fun k => by simp only [crosswaylaw23_of.l0]; rw [if_neg (by omega), List.take_length]) (Ev.now _)
  | succ d ih =>
    intro i hi
    have hx : (l.take i).map toR ++ [(⟨(rd_T25 l (i : Int)).f0, (rd_T25 l (i : Int)).f1⟩ : S34)] = (l.take (i + 1)).map toR := by
      rw [List.take_succ_eq_append_getElem (by omega), List.map_append, List.map_cons, List.map_nil]
      unfold rd_T25 toR
      rw [Int.toNat_natCast, List.getD_eq_getElem?_getD, List.getElem?_eq_getElem (by omega)]
      rfl
    refine Ev.step (fun k => by simp only [crosswaylaw23_of.l0]; rw [if_pos (by omega), if_pos (by omega), if_pos (by rw [List.length_map, List.length_take]; omega), hx, w64_up i (by omega)]) (ih (i + 1) (by omega))
theorem of_calls (l : List S25) (p : Nat) (hp : p = l.length) (hl : p ≤ 1000000) (B : Option Addr) (d : Nat) (w : World) (hC : Kd.C k25 w B p l) (hc : p ≤ d) :
    Calls Try.prog 13 #[.slice B p d] w fun e w' => ∃ A' c', e = .returned (.slice A' p c') ∧ Kd.C k34 w' A' p (l.map toR) ∧ p ≤ c' ∧ Below w.heap.size w w' := by
  subst hp
  obtain ⟨k, hk⟩ := Ev.rounds (of_l0 l hl l.length 0 (by omega))
  refine (crosswaylaw23_of.calls k B d l (l.map toR) w hC hc hk).mono ?_
  rintro e w' ⟨v, rfl, hR, hB⟩
  obtain ⟨A', c', rfl, hl2, hr⟩ := Kd.R_reads hR
  rw [List.length_map] at hl2 hr ⊢
  exact ⟨A', c', rfl, hr, hl2, hB⟩
/-! ### the arrays of the reference -/
def hasS (st : List (Int × Int)) (i : Nat) : Bool := st.any fun x => x.1 == (i : Int)
def scF (st : List (Int × Int)) (i : Nat) : Int := ((st.find? fun x => x.1 == (i : Int)).getD (0, 0)).2
theorem scF_snoc (st : List (Int × Int)) (n : Nat) (s : Int) (h : hasS st n = false) : (fun j => if j = n then s else scF st j) = scF (st ++ [((n : Int), s)]) := by
  funext j
  unfold scF
  rw [List.find?_append]
  by_cases hj : j = n
  · subst hj
    rw [if_pos rfl]
    have h1 : st.find? (fun x => x.1 == (j : Int)) = none := by
      rw [List.find?_eq_none]
      intro x hx hxe
      exact absurd (List.any_eq_true.2 ⟨x, hx, hxe⟩) (by unfold hasS at h; rw [h]; exact Bool.false_ne_true)
    rw [h1, Option.none_or, List.find?_cons_of_pos (by simp)]
    rfl
  · rw [if_neg hj]
    have h1 : ((((n : Int), s) : Int × Int).1 == (j : Int)) = false := by simpa using fun e : (n : Int) = (j : Int) => hj (by omega)
    rw [List.find?_cons_of_neg (by rw [h1]; exact Bool.false_ne_true), List.find?_nil, Option.or_none]
theorem hasS_snoc (st : List (Int × Int)) (n : Nat) (s : Int) : (fun j => if j = n then true else hasS st j) = hasS (st ++ [((n : Int), s)]) := by
  funext j
  unfold hasS
  rw [List.any_append, List.any_cons, List.any_nil, Bool.or_false]
  by_cases hj : j = n
  · subst hj; simp
  · rw [if_neg hj]
    have h1 : ((((n : Int), s) : Int × Int).1 == (j : Int)) = false := by simpa using fun e : (n : Int) = (j : Int) => hj (by omega)
    rw [h1, Bool.or_false]
theorem nodup_fst {st : List (Int × Int)} (h : (st.map (·.1)).Nodup) {x y : Int × Int} (hx : x ∈ st) (hy : y ∈ st) (he : x.1 = y.1) : x = y := by
  obtain ⟨i, hi, rfl⟩ := List.getElem_of_mem hx
  obtain ⟨j, hj, rfl⟩ := List.getElem_of_mem hy
  have hp := List.pairwise_iff_getElem.1 h
  rcases Nat.lt_trichotomy i j with hlt | rfl | hlt
  · have h1 := hp i j (by simpa using hi) (by simpa using hj) hlt
    rw [List.getElem_map, List.getElem_map] at h1
    exact absurd he h1
  · rfl
  · have h1 := hp j i (by simpa using hj) (by simpa using hi) hlt
    rw [List.getElem_map, List.getElem_map] at h1
    exact absurd he.symm h1
theorem scF_mem {st : List (Int × Int)} (h : (st.map (·.1)).Nodup) {x : Int × Int} (hx : x ∈ st) {i : Nat} (hi : x.1 = (i : Int)) : scF st i = x.2 := by
  unfold scF
  cases hf : st.find? (fun x => x.1 == (i : Int)) with
  | none => exact absurd (List.find?_eq_none.1 hf x hx) (by simp [hi])
  | some y =>
    have h1 := List.find?_some hf
    have h2 := List.mem_of_find?_eq_some hf
    rw [nodup_fst h hx h2 (by rw [hi]; exact (by simpa using h1 : y.1 = (i : Int)).symm)]
    rfl
theorem allS_nodup (seed : Int) (key : List Int) (l : List S25) : ((allS seed key l).map (·.1)).Nodup := by
  have h : ∀ (l : List S25) (st : List (Int × Int)), (st.map (·.1)).Nodup → ((l.foldl (stA seed key) st).map (·.1)).Nodup := by
    intro l
    induction l with
    | nil => intro st h; exact h
    | cons e r ih =>
      intro st h
      rw [List.foldl_cons]
      refine ih _ ?_
      unfold stA
      split
      · rename_i hc
        rw [List.map_append, List.map_cons, List.map_nil, List.nodup_append]
        refine ⟨h, by simp, fun a ha b hb hab => hc.2 ?_⟩
        rw [List.mem_singleton] at hb
        obtain ⟨x, hx, hxa⟩ := List.mem_map.1 ha
        exact List.any_eq_true.2 ⟨x, hx, by simp [hxa, hab, hb]⟩
      · exact h
  exact h l [] List.nodup_nil
theorem ran_nodup (seed : Int) (key : List Int) (l : List S25) : ((ranS seed key l).map (·.1)).Nodup := (((List.mergeSort_perm _ _).map _).nodup_iff).2 (allS_nodup seed key l)
theorem ran_mem (seed : Int) (key : List Int) (l : List S25) {x : Int × Int} : x ∈ ranS seed key l ↔ x ∈ allS seed key l := (List.mergeSort_perm _ _).mem_iff
/-! ### the selection -/
/-- The best of those with an Id below i. -/
def BestI (rem : List (Int × Int)) (i best : Int) : Prop := (best = -1 ∧ ∀ x ∈ rem, ¬ x.1 < i) ∨ (∃ m ∈ rem, m.1 < i ∧ best = m.1 ∧ ∀ y ∈ rem, y.1 < i → ltOf ordC y m = false)
theorem best_zero {rem : List (Int × Int)} (h : ∀ x ∈ rem, 0 ≤ x.1 ∧ x.1 < 64) : BestI rem 0 (-1) := .inl ⟨rfl, fun x hx => by have := h x hx; omega⟩
theorem best_none {rem : List (Int × Int)} {i best : Int} (h : BestI rem i best) (hn : ∀ x ∈ rem, x.1 ≠ i) : BestI rem (i + 1) best := by
  rcases h with ⟨rfl, h⟩ | ⟨m, hm, hmi, rfl, h⟩
  · exact .inl ⟨rfl, fun x hx => by have h1 := h x hx; have h2 := hn x hx; omega⟩
  · exact .inr ⟨m, hm, by omega, rfl, fun y hy hyi => h y hy (by have h2 := hn y hy; omega)⟩
theorem best_first {rem : List (Int × Int)} (hd : (rem.map (·.1)).Nodup) {i : Int} {best : Int} (h : BestI rem i best) (hb : best < 0) (hr : ∀ x ∈ rem, 0 ≤ x.1) {x : Int × Int} (hx : x ∈ rem) (hxi : x.1 = i) : BestI rem (i + 1) i := by
  rcases h with ⟨rfl, h⟩ | ⟨m, hm, hmi, rfl, h⟩
  · refine .inr ⟨x, hx, by omega, hxi.symm, fun y hy hyi => ?_⟩
    have h1 := h y hy
    rw [nodup_fst hd hy hx (by omega)]
    exact ltF_refl x
  · have := hr m hm; omega
theorem best_more {rem : List (Int × Int)} (hd : (rem.map (·.1)).Nodup) {i : Int} {m : Int × Int} (hm : m ∈ rem) (hmi : m.1 < i) (h : ∀ y ∈ rem, y.1 < i → ltOf ordC y m = false) {x : Int × Int} (hx : x ∈ rem) (hxi : x.1 = i) (hs : m.2 < x.2) : BestI rem (i + 1) i := by
  refine .inr ⟨x, hx, by omega, hxi.symm, fun y hy hyi => ?_⟩
  by_cases he : y.1 = i
  · rw [nodup_fst hd hy hx (by omega)]
    exact ltF_refl x
  · have h1 := (ltF y m).1 (h y hy (by omega))
    exact (ltF y x).2 ⟨by omega, fun e => by omega⟩
theorem best_less {rem : List (Int × Int)} (hd : (rem.map (·.1)).Nodup) {i : Int} {m : Int × Int} (hm : m ∈ rem) (hmi : m.1 < i) (h : ∀ y ∈ rem, y.1 < i → ltOf ordC y m = false) {x : Int × Int} (hx : x ∈ rem) (hxi : x.1 = i) (hs : ¬ m.2 < x.2) : BestI rem (i + 1) m.1 := by
  refine .inr ⟨m, hm, by omega, rfl, fun y hy hyi => ?_⟩
  by_cases he : y.1 = i
  · rw [nodup_fst hd hy hx (by omega)]
    exact (ltF x m).2 ⟨by omega, fun e => by omega⟩
  · exact h y hy (by omega)
theorem best_end_nil {best : Int} (h : BestI [] 64 best) : best = -1 := by
  rcases h with ⟨h, _⟩ | ⟨m, hm, _⟩
  · exact h
  · cases hm
theorem best_end_cons {x : Int × Int} {r : List (Int × Int)} {best : Int} (h : BestI (x :: r) 64 best) (hr : ∀ y ∈ x :: r, 0 ≤ y.1 ∧ y.1 < 64) (hs : (x :: r).Pairwise (fun x y => ltOf ordC y x = false)) : best = x.1 := by
  rcases h with ⟨_, h⟩ | ⟨m, hm, _, rfl, h⟩
  · have h1 := h x List.mem_cons_self; have h2 := hr x List.mem_cons_self; omega
  · have h1 := h x List.mem_cons_self (hr x List.mem_cons_self).2
    have h2 : ltOf ordC m x = false := by
      rcases List.mem_cons.1 hm with rfl | hm
      · exact ltF_refl _
      · exact (List.pairwise_cons.1 hs).1 m hm
    rw [totS _ _ h2 h1]
theorem hasS_tail {x : Int × Int} {r : List (Int × Int)} (hd : ((x :: r).map (·.1)).Nodup) {n : Nat} (hn : x.1 = (n : Int)) : (fun j => if j = n then false else hasS (x :: r) j) = hasS r := by
  funext j
  unfold hasS
  rw [List.any_cons, hn]
  by_cases hj : j = n
  · subst hj
    rw [if_pos rfl]
    symm
    rw [List.any_eq_false]
    intro y hy hye
    rw [List.map_cons] at hd
    refine (List.nodup_cons.1 hd).1 ?_
    rw [hn, ← (by simpa using hye : y.1 = (j : Int))]
    exact List.mem_map_of_mem hy
  · rw [if_neg hj]
    have h1 : (((n : Int)) == (j : Int)) = false := by simpa using fun e : (n : Int) = (j : Int) => hj (by omega)
    rw [h1, Bool.false_or]
theorem hasS_iff {st : List (Int × Int)} {i : Nat} : hasS st i = true ↔ ∃ x ∈ st, x.1 = (i : Int) := by
  unfold hasS
  rw [List.any_eq_true]
  simp only [beq_iff_eq]
end Go.Proofs.Ytonofmnjcocokaa.Rk
