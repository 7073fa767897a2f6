/- rank: the least of a list of scores, and what an entry more or a heavier one changes. -/
import Derived.Test.YtonofmnjcocokaaRkUn
namespace Go.Proofs.Ytonofmnjcocokaa.Rk
open Go.RowKit Go.Proofs.YtonofmnjcocokaaW.PrintWords Go.Proofs.YtonofmnjcocokaaW.PrintLast Go.Proofs.YtonofmnjcocokaaW.PrintMore Go.Proofs.Ytonofmnjcocokaa.X Go.Proofs.Ytonofmnjcocokaa.M Go.Proofs.Ytonofmnjcocokaa.Bv Go.Proofs.Ytonofmnjcocokaa.PuLib Go.Proofs.Ytonofmnjcocokaa.PuMix
open Go.Lib Go.Sort
set_option linter.unusedVariables false
/-- An entry with its score. -/
def enS (seed : Int) (key : List Int) (e : S25) : Int × Int := (e.f0, (scoreS seed key e.f0 e.f1).1)
theorem allS_fine (seed : Int) (key : List Int) {l : List S25} (h : fineL l) : allS seed key l = l.map (enS seed key) := by
  have hg : ∀ (l : List S25) (st : List (Int × Int)), (∀ e ∈ l, rightS e.f0 e.f1 = true) → (st.map (·.1) ++ l.map (·.f0)).Nodup → l.foldl (stA seed key) st = st ++ l.map (enS seed key) := by
    intro l
    induction l with
    | nil => intro st _ _; simp
    | cons e r ih =>
      intro st h1 h2
      rw [List.foldl_cons, List.map_cons]
      have he : stA seed key st e = st ++ [enS seed key e] := by
        unfold stA
        refine if_pos ⟨h1 e List.mem_cons_self, fun ha => ?_⟩
        obtain ⟨x, hx, hxe⟩ := List.any_eq_true.1 ha
        have h3 := (List.nodup_append.1 h2).2.2 x.1 (List.mem_map_of_mem hx) e.f0 (by simp)
        exact h3 (by simpa using hxe)
      rw [he, ih _ (fun x hx => h1 x (List.mem_cons_of_mem _ hx)) (by
        rw [List.map_append, List.map_cons, List.map_nil, List.append_assoc]
        exact h2)]
      simp
  exact hg l [] h.1 (by simpa using h.2)
/-- m is a least one. -/
def IsMin (st : List (Int × Int)) (m : Int × Int) : Prop := m ∈ st ∧ ∀ y ∈ st, ltOf ordC y m = false
theorem ltF (x y : Int × Int) : ltOf ordC x y = false ↔ x.2 ≤ y.2 ∧ (y.2 = x.2 → y.1 ≤ x.1) := by
  rw [ltOrd]
  constructor
  · intro h
    have h1 := of_decide_eq_false h
    exact ⟨by omega, fun e => by omega⟩
  · rintro ⟨h1, h2⟩
    refine decide_eq_false (fun h => ?_)
    rcases h with h | ⟨h3, h4⟩
    · omega
    · have := h2 h3; omega
theorem ltF_refl (x : Int × Int) : ltOf ordC x x = false := (ltF x x).2 ⟨Int.le_refl _, fun _ => Int.le_refl _⟩
theorem ltF_trans {x y z : Int × Int} (h1 : ltOf ordC x y = false) (h2 : ltOf ordC y z = false) : ltOf ordC x z = false := by
  rw [ltF] at h1 h2 ⊢
  obtain ⟨a, b⟩ := h1
  obtain ⟨c, d⟩ := h2
  refine ⟨by omega, fun e => ?_⟩
  have e1 : y.2 = x.2 := by omega
  have e2 : z.2 = y.2 := by omega
  have := b e1
  have := d e2
  omega
theorem ltF_total (x y : Int × Int) : ltOf ordC x y = false ∨ ltOf ordC y x = false := by
  rw [ltF, ltF]
  by_cases h : x.2 = y.2
  · by_cases h2 : x.1 ≤ y.1
    · right; exact ⟨by omega, fun _ => h2⟩
    · left; exact ⟨by omega, fun _ => by omega⟩
  · by_cases h2 : x.2 ≤ y.2
    · left; exact ⟨h2, fun e => by omega⟩
    · right; exact ⟨by omega, fun e => by omega⟩
theorem ltN {x y : Int × Int} (h : ¬ ordC x y < 0) : ltOf ordC x y = false := decide_eq_false h
theorem ltP {x y : Int × Int} (h : ordC x y < 0) : ltOf ordC y x = false := by
  rcases ltF_total y x with h1 | h1
  · exact h1
  · have h2 : ltOf ordC x y = true := decide_eq_true h
    rw [h1] at h2
    cases h2
theorem minL_isMin (r : List (Int × Int)) : ∀ x, IsMin (x :: r) (minL x r) := by
  induction r with
  | nil => exact fun x => ⟨List.mem_cons_self, fun y hy => by rw [List.mem_singleton.1 hy]; exact ltF_refl x⟩
  | cons z r ih =>
    intro x
    have h : minL x (z :: r) = minL (if ordC z x < 0 then z else x) r := rfl
    refine ⟨minL_mem (z :: r) x, fun y hy => ?_⟩
    rw [h]
    by_cases hc : ordC z x < 0
    · rw [if_pos hc]
      have h1 := ih z
      rcases List.mem_cons.1 hy with rfl | hy
      · exact ltF_trans (ltP hc) (h1.2 z List.mem_cons_self)
      · exact h1.2 y hy
    · rw [if_neg hc]
      have h1 := ih x
      rcases List.mem_cons.1 hy with rfl | hy
      · exact h1.2 y List.mem_cons_self
      · rcases List.mem_cons.1 hy with rfl | hy
        · exact ltF_trans (ltN hc) (h1.2 x List.mem_cons_self)
        · exact h1.2 y (List.mem_cons_of_mem _ hy)
theorem firstL_min {st : List (Int × Int)} (h : st ≠ []) : ∃ m, IsMin st m ∧ firstL st = (m.1, true) := by
  cases st with
  | nil => exact absurd rfl h
  | cons x r => exact ⟨_, minL_isMin r x, rfl⟩
/-- The first one of entries that are right. -/
theorem firstS_fine (seed : Int) (key : List Int) {l : List S25} (h : fineL l) (h0 : l ≠ []) : ∃ e ∈ l, firstS seed key l = (e.f0, true) ∧ ∀ y ∈ l, ltOf ordC (enS seed key y) (enS seed key e) = false := by
  have h1 : allS seed key l ≠ [] := by rw [allS_fine seed key h]; simpa using h0
  obtain ⟨m, hm, hf⟩ := firstL_min h1
  rw [allS_fine seed key h] at hm
  obtain ⟨e, he, rfl⟩ := List.mem_map.1 hm.1
  exact ⟨e, he, hf, fun y hy => hm.2 _ (List.mem_map_of_mem hy)⟩
theorem firstS_none (seed : Int) (key : List Int) : firstS seed key [] = (0, false) := rfl
theorem fine_same {l : List S25} (h : fineL l) {x y : S25} (hx : x ∈ l) (hy : y ∈ l) (he : x.f0 = y.f0) : x = y := by
  obtain ⟨i, hi, rfl⟩ := List.getElem_of_mem hx
  obtain ⟨j, hj, rfl⟩ := List.getElem_of_mem hy
  have hp := List.pairwise_iff_getElem.1 h.2
  rcases Nat.lt_trichotomy i j with hlt | rfl | hlt
  · have h1 := hp i j (by simpa using hi) (by simpa using hj) hlt
    rw [List.getElem_map, List.getElem_map] at h1
    exact absurd he h1
  · rfl
  · have h1 := hp j i (by simpa using hj) (by simpa using hi) hlt
    rw [List.getElem_map, List.getElem_map] at h1
    exact absurd he.symm h1
theorem scoreS_right {seed : Int} {key : List Int} {id w : Int} (h : rightS id w = true) : (scoreS seed key id w).1 = scS seed key id w.toNat := by
  unfold scoreS
  rw [if_pos h]
/-- A heavier entry scores no less. -/
theorem enS_heavy (seed : Int) (key : List Int) {e : S25} (h : rightS e.f0 e.f1 = true) {wt : Int} (h1 : e.f1 ≤ wt) (h2 : wt ≤ 16) : (enS seed key e).2 ≤ (enS seed key ⟨e.f0, wt⟩).2 := by
  have h3 := of_decide_eq_true h
  have h4 : rightS e.f0 wt = true := decide_eq_true ⟨h3.1, h3.2.1, by omega, h2⟩
  unfold enS
  dsimp only
  rw [scoreS_right h, scoreS_right h4]
  have h5 := scS_mono seed key e.f0 e.f1.toNat (wt.toNat - e.f1.toNat)
  rwa [show e.f1.toNat + (wt.toNat - e.f1.toNat) = wt.toNat by omega] at h5
theorem fine_sub {l m : List S25} (h : fineL l) (hs : List.Sublist m l) : fineL m :=
  ⟨fun e he => h.1 e (hs.subset he), List.Sublist.nodup (hs.map _) h.2⟩
theorem fine_perm {l m : List S25} (h : fineL l) (hs : m.Perm l) : fineL m :=
  ⟨fun e he => h.1 e (hs.mem_iff.1 he), ((hs.map (·.f0)).nodup_iff).2 h.2⟩
theorem few_law (seed : Int) (key : List Int) {l : List S25} (h : fineL l) {i : Nat} (hi : i < l.length) {x : S25} (hx : l[i] = x) {wt : Int} (h1 : x.f1 ≤ wt) (h2 : wt ≤ 16) :
    (firstS seed key l).2 = true ∧ (firstS seed key (l.take i ++ l.drop (i + 1))).2 = decide (0 < ((l.take i ++ l.drop (i + 1)).length : Int)) ∧ ((firstS seed key l).1 ≠ x.f0 → (firstS seed key (l.take i ++ l.drop (i + 1))).1 = (firstS seed key l).1) ∧ (firstS seed key (l.set i ⟨x.f0, wt⟩)).2 = true ∧ ((firstS seed key (l.set i ⟨x.f0, wt⟩)).1 = (firstS seed key l).1 ∨ (firstS seed key (l.set i ⟨x.f0, wt⟩)).1 = x.f0) := by
  obtain ⟨o, ho⟩ : ∃ o, o = l.take i ++ l.drop (i + 1) := ⟨_, rfl⟩
  have hl : l = l.take i ++ x :: l.drop (i + 1) := by
    rw [← hx, ← List.drop_eq_getElem_cons hi, List.take_append_drop]
  have hxl : x ∈ l := hx ▸ List.getElem_mem hi
  have hol : ∀ y ∈ o, y ∈ l := fun y hy => by
    rw [hl]
    rw [ho, List.mem_append] at hy
    rcases hy with hy | hy
    · exact List.mem_append_left _ hy
    · exact List.mem_append_right _ (List.mem_cons_of_mem _ hy)
  have hlo : ∀ y ∈ l, y = x ∨ y ∈ o := fun y hy => by
    rw [hl, List.mem_append, List.mem_cons] at hy
    rw [ho, List.mem_append]
    rcases hy with hy | hy | hy
    · exact .inr (.inl hy)
    · exact .inl hy
    · exact .inr (.inr hy)
  have hset : l.set i ⟨x.f0, wt⟩ = l.take i ++ ⟨x.f0, wt⟩ :: l.drop (i + 1) := List.set_eq_take_append_cons_drop.trans (if_pos hi)
  obtain ⟨hv, hhv⟩ : ∃ hv, hv = l.set i ⟨x.f0, wt⟩ := ⟨_, rfl⟩
  have hvo : ∀ y ∈ hv, y = ⟨x.f0, wt⟩ ∨ y ∈ o := fun y hy => by
    rw [hhv, hset, List.mem_append, List.mem_cons] at hy
    rw [ho, List.mem_append]
    rcases hy with hy | hy | hy
    · exact .inr (.inl hy)
    · exact .inl hy
    · exact .inr (.inr hy)
  have hov : ∀ y ∈ o, y ∈ hv := fun y hy => by
    rw [hhv, hset]
    rw [ho, List.mem_append] at hy
    rcases hy with hy | hy
    · exact List.mem_append_left _ hy
    · exact List.mem_append_right _ (List.mem_cons_of_mem _ hy)
  have hxv : (⟨x.f0, wt⟩ : S25) ∈ hv := by
    rw [hhv, hset]
    exact List.mem_append_right _ List.mem_cons_self
  have hfo : fineL o := by
    refine fine_sub h ?_
    rw [ho]
    conv => rhs; rw [hl]
    exact List.Sublist.append_left (List.sublist_cons_self _ _) _
  have hrx := h.1 x hxl
  have hrx2 := of_decide_eq_true hrx
  have hfv : fineL hv := by
    refine ⟨fun y hy => ?_, ?_⟩
    · rcases hvo y hy with rfl | hy
      · exact decide_eq_true ⟨hrx2.1, hrx2.2.1, by dsimp only; omega, h2⟩
      · exact hfo.1 y hy
    · have hm : hv.map (·.f0) = l.map (·.f0) := by
        rw [hhv, hset]
        conv => rhs; rw [hl]
        rw [List.map_append, List.map_append, List.map_cons, List.map_cons]
      rw [hm]
      exact h.2
  have hl0 : l ≠ [] := by intro e; rw [e] at hxl; cases hxl
  have hv0 : hv ≠ [] := by intro e; rw [e] at hxv; cases hxv
  obtain ⟨e, he, hf, hmin⟩ := firstS_fine seed key h hl0
  obtain ⟨e3, he3, hf3, hmin3⟩ := firstS_fine seed key hfv hv0
  rw [← ho, ← hhv, hf, hf3]
  refine ⟨rfl, ?_, ?_, rfl, ?_⟩
  · by_cases h0 : o = []
    · rw [h0]; rfl
    · obtain ⟨e2, he2, hf2, hmin2⟩ := firstS_fine seed key hfo h0
      rw [hf2]
      have := List.length_pos_iff.2 h0
      exact (decide_eq_true (by omega)).symm
  · intro hne
    rcases hlo e he with rfl | heo
    · exact absurd rfl hne
    · obtain ⟨e2, he2, hf2, hmin2⟩ := firstS_fine seed key hfo (by intro e0; rw [e0] at heo; cases heo)
      rw [hf2]
      have h4 := totS _ _ (hmin2 e heo) (hmin e2 (hol e2 he2))
      exact (congrArg Prod.fst h4).symm
  · rcases hvo e3 he3 with rfl | h3o
    · exact .inr rfl
    · left
      rcases hlo e he with rfl | heo
      · have h5 := hmin3 _ hxv
        have h6 := hmin e3 (hol e3 h3o)
        have h7 := enS_heavy seed key hrx h1 h2
        rw [ltF] at h5 h6
        have e1 : (enS seed key ⟨e.f0, wt⟩).1 = e.f0 := rfl
        have e2 : (enS seed key e3).1 = e3.f0 := rfl
        have e4 : (enS seed key e).1 = e.f0 := rfl
        have h8 := h5.2 (by omega)
        have h9 := h6.2 (by omega)
        show e3.f0 = e.f0
        omega
      · have h4 := totS _ _ (hmin3 e (hov e heo)) (hmin e3 (hol e3 h3o))
        exact (congrArg Prod.fst h4).symm
end Go.Proofs.Ytonofmnjcocokaa.Rk
