/- rank: the order of scores is the same for all orders of the list; the arrays of weights. -/
import Derived.Test.YtonofmnjcocokaaRkApp
namespace Go.Proofs.Ytonofmnjcocokaa.Rk
open Go.RowKit Go.Proofs.YtonofmnjcocokaaW.PrintWords Go.Proofs.YtonofmnjcocokaaW.PrintLast Go.Proofs.YtonofmnjcocokaaW.PrintMore Go.Proofs.Ytonofmnjcocokaa.X Go.Proofs.Ytonofmnjcocokaa.M Go.Proofs.Ytonofmnjcocokaa.Bv Go.Proofs.Ytonofmnjcocokaa.PuLib Go.Proofs.Ytonofmnjcocokaa.PuMix
open Go.Lib Go.Sort
set_option linter.unusedVariables false
theorem mixS_range (a : Int) (ps : List (List Int)) : 0 ≤ mixS a ps ∧ mixS a ps < 18446744073709551616 := by
  unfold mixS endS xorsh
  exact xor_range _ _
theorem scS_range (seed : Int) (key : List Int) (id : Int) : ∀ m, 0 ≤ scS seed key id m ∧ scS seed key id m < 18446744073709551616
  | 0 => ⟨Int.le_refl 0, show (0 : Int) < 18446744073709551616 by decide⟩
  | m + 1 => by
    have h1 := scS_range seed key id m
    have h2 := mixS_range seed [key, [id % 256], [(m : Int) % 256]]
    unfold scS
    rw [Int.max_def]
    split <;> omega
theorem enS_range (seed : Int) (key : List Int) (e : S25) : 0 ≤ (enS seed key e).2 ∧ (enS seed key e).2 < 18446744073709551616 := by
  unfold enS scoreS
  dsimp only
  split
  · exact scS_range ..
  · exact ⟨Int.le_refl _, by decide⟩
theorem sorted_pw (xs : List (Int × Int)) : (sortedS xs).Pairwise (fun x y => ltOf ordC y x = false) := by
  have h := List.pairwise_mergeSort (le := fun x y => !(ltOf ordC) y x) (fun a b c h1 h2 => by
    simp only [Bool.not_eq_true'] at h1 h2 ⊢
    exact ltF_trans h2 h1) (fun a b => by
    rcases ltF_total a b with h | h
    · rw [h]; simp
    · rw [h]; simp) xs
  exact h.imp (fun hx => by simpa using hx)
theorem sorted_perm_eq {xs ys : List (Int × Int)} (h : xs.Perm ys) : sortedS xs = sortedS ys := by
  refine List.Perm.eq_of_pairwise (le := fun x y => ltOf ordC y x = false) (fun a b _ _ h1 h2 => totS a b h2 h1) (sorted_pw xs) (sorted_pw ys) ?_
  exact (List.mergeSort_perm xs _).trans (h.trans (List.mergeSort_perm ys _).symm)
theorem orderS_perm (seed : Int) (key : List Int) {l m : List S25} (h : fineL l) (hm : m.Perm l) : orderS seed key m = orderS seed key l := by
  unfold orderS
  rw [allS_fine seed key h, allS_fine seed key (fine_perm h hm), sorted_perm_eq (hm.map _)]
/-- The entries with their scores, in order. -/
def ranS (seed : Int) (key : List Int) (l : List S25) : List (Int × Int) := sortedS (allS seed key l)
theorem orderS_eq (seed : Int) (key : List Int) (l : List S25) : orderS seed key l = (ranS seed key l).map (·.1) := rfl
theorem ranS_perm (seed : Int) (key : List Int) {l : List S25} (h : fineL l) : (ranS seed key l).Perm (l.map (enS seed key)) := by
  unfold ranS
  rw [allS_fine seed key h]
  exact List.mergeSort_perm _ _
theorem orderS_length (seed : Int) (key : List Int) {l : List S25} (h : fineL l) : (orderS seed key l).length = l.length := by
  rw [orderS_eq, List.length_map, (ranS_perm seed key h).length_eq, List.length_map]
theorem orderS_perm_ids (seed : Int) (key : List Int) {l : List S25} (h : fineL l) : (orderS seed key l).Perm (l.map (·.f0)) := by
  rw [orderS_eq]
  have h1 := (ranS_perm seed key h).map (·.1)
  rw [List.map_map] at h1
  exact h1
theorem orderS_nodup (seed : Int) (key : List Int) {l : List S25} (h : fineL l) : (orderS seed key l).Nodup := (orderS_perm_ids seed key h).nodup_iff.2 h.2
/-- The weights of what was gone through. -/
def wtF (l : List S25) : Nat → Int := l.foldl (fun f e => fun (j : Nat) => if (j : Int) = e.f0 then e.f1 else f j) (fun _ => 0)
theorem wtF_snoc (l : List S25) (e : S25) : wtF (l ++ [e]) = fun (j : Nat) => if (j : Int) = e.f0 then e.f1 else wtF l j := by
  unfold wtF
  rw [List.foldl_append]
  rfl
theorem wt_skip (l : List S25) (j : Nat) : ∀ f : Nat → Int, (∀ e ∈ l, e.f0 ≠ (j : Int)) → l.foldl (fun f e => fun (j : Nat) => if (j : Int) = e.f0 then e.f1 else f j) f j = f j := by
  induction l with
  | nil => intro f _; rfl
  | cons x r ih =>
    intro f h
    rw [List.foldl_cons, ih _ (fun e he => h e (List.mem_cons_of_mem _ he))]
    exact if_neg (fun e => h x List.mem_cons_self e.symm)
theorem wtF_mem {l : List S25} (h : fineL l) {e : S25} (he : e ∈ l) {j : Nat} (hj : (j : Int) = e.f0) : wtF l j = e.f1 := by
  obtain ⟨a, b, hab⟩ := List.append_of_mem he
  have h2 := h.2
  subst hab
  unfold wtF
  rw [List.foldl_append, List.foldl_cons]
  rw [List.map_append, List.map_cons] at h2
  have h3 := (List.nodup_cons.1 (List.nodup_append.1 h2).2.1).1
  rw [wt_skip b j _ (fun x hx e2 => h3 (by rw [← hj, ← e2]; exact List.mem_map_of_mem hx))]
  exact if_pos hj
/-- The weights that are left. -/
def wlF (l : List S25) (done : List Int) (j : Nat) : Int := if (j : Int) ∈ done then 0 else wtF l j
theorem wlF_snoc (l : List S25) (done : List Int) (n : Nat) : (fun j => if j = n then (0 : Int) else wlF l done j) = wlF l (done ++ [(n : Int)]) := by
  funext j
  unfold wlF
  by_cases h : j = n
  · subst h
    rw [if_pos rfl, if_pos (by simp)]
  · rw [if_neg h]
    have h2 : ((j : Int) ∈ done ++ [(n : Int)]) ↔ (j : Int) ∈ done := by
      rw [List.mem_append, List.mem_singleton]
      exact ⟨fun h3 => h3.resolve_right (by omega), Or.inl⟩
    simp only [h2]
/-- What is known of the k-th in order. -/
theorem ran_at (seed : Int) (key : List Int) {l : List S25} (h : fineL l) {k : Nat} (hk : k < l.length) : ∃ e ∈ l, (ranS seed key l)[k]? = some (enS seed key e) ∧ (orderS seed key l)[k]? = some e.f0 ∧ (orderS seed key l).take (k + 1) = (orderS seed key l).take k ++ [e.f0] ∧ e.f0 ∉ (orderS seed key l).take k := by
  have hlen : (ranS seed key l).length = l.length := by rw [(ranS_perm seed key h).length_eq, List.length_map]
  have hk2 : k < (ranS seed key l).length := by omega
  have hm := (ranS_perm seed key h).mem_iff.1 (List.getElem_mem hk2)
  obtain ⟨e, he, hee⟩ := List.mem_map.1 hm
  have h1 : (ranS seed key l)[k]? = some (enS seed key e) := by rw [List.getElem?_eq_getElem hk2, hee]
  have h2 : (orderS seed key l)[k]? = some e.f0 := by rw [orderS_eq, List.getElem?_map, h1]; rfl
  have hk3 : k < (orderS seed key l).length := by rw [orderS_length seed key h]; exact hk
  have h3 : (orderS seed key l)[k] = e.f0 := by
    rw [List.getElem?_eq_getElem hk3] at h2
    exact Option.some.inj h2
  have h4 : (orderS seed key l).take (k + 1) = (orderS seed key l).take k ++ [e.f0] := by rw [List.take_succ_eq_append_getElem hk3, h3]
  refine ⟨e, he, h1, h2, h4, fun hx => ?_⟩
  have h5 := (orderS_nodup seed key h).sublist (List.take_sublist (k + 1) _)
  rw [h4] at h5
  exact (List.nodup_append.1 h5).2.2 _ hx _ List.mem_cons_self rfl
/-- The score that was last. -/
def lastF (seed : Int) (key : List Int) (l : List S25) : Nat → Int
  | 0 => 18446744073709551615
  | k + 1 => ((ranS seed key l).getD k (0, 0)).2
theorem last_le (seed : Int) (key : List Int) {l : List S25} {k : Nat} {e : S25} (he : (ranS seed key l)[k]? = some (enS seed key e)) : (enS seed key e).2 ≤ lastF seed key l k ∧ lastF seed key l (k + 1) = (enS seed key e).2 := by
  refine ⟨?_, ?_⟩
  · cases k with
    | zero => have h1 := enS_range seed key e; show _ ≤ (18446744073709551615 : Int); omega
    | succ k =>
      obtain ⟨hk, hk2⟩ := List.getElem?_eq_some_iff.1 he
      have hp := List.pairwise_iff_getElem.1 (sorted_pw (allS seed key l)) k (k + 1) (show k < (ranS seed key l).length by omega) hk (by omega)
      have hp2 : ltOf ordC (ranS seed key l)[k + 1] (ranS seed key l)[k] = false := hp
      rw [hk2, ltF] at hp2
      show _ ≤ ((ranS seed key l).getD k (0, 0)).2
      rw [List.getD_eq_getElem?_getD, List.getElem?_eq_getElem (by omega)]
      exact hp2.1
  · show ((ranS seed key l).getD k (0, 0)).2 = _
    rw [List.getD_eq_getElem?_getD, he]
    rfl
/-- The first one is the first in order. -/
theorem first_order (seed : Int) (key : List Int) {l : List S25} (h : fineL l) : (firstS seed key l).2 = decide (0 < (l.length : Int)) ∧ (0 < l.length → (orderS seed key l)[0]? = some (firstS seed key l).1) := by
  by_cases h0 : l = []
  · subst h0
    exact ⟨rfl, fun h => absurd h (Nat.lt_irrefl 0)⟩
  · have hp := List.length_pos_iff.2 h0
    obtain ⟨e, he, hf, hmin⟩ := firstS_fine seed key h h0
    obtain ⟨e2, he2, hr, ho, _⟩ := ran_at seed key h hp
    refine ⟨by rw [hf]; exact (decide_eq_true (by omega)).symm, fun _ => ?_⟩
    rw [ho, hf]
    have h1 : ltOf ordC (enS seed key e) (enS seed key e2) = false := by
      have hm : enS seed key e ∈ ranS seed key l := (ranS_perm seed key h).mem_iff.2 (List.mem_map_of_mem he)
      obtain ⟨j, hj, hje⟩ := List.getElem_of_mem hm
      obtain ⟨h00, hr2⟩ := List.getElem?_eq_some_iff.1 hr
      rcases Nat.eq_zero_or_pos j with rfl | hj0
      · rw [← hje, hr2]; exact ltF_refl _
      · have hp := List.pairwise_iff_getElem.1 (sorted_pw (allS seed key l)) 0 j h00 hj hj0
        have hp2 : ltOf ordC (ranS seed key l)[j] (ranS seed key l)[0] = false := hp
        rw [hje, hr2] at hp2
        exact hp2
    have h2 := totS _ _ h1 (hmin e2 he2)
    exact congrArg some (congrArg Prod.fst h2).symm
theorem sameI_l0 (a : List Int) (hm : a.length ≤ 9223372036854775807) : ∀ d i : Nat, i + d = a.length → Ev (fun k => crosswayref00_SameInts.l0 k a a (i : Int)) true := by
  intro d
  induction d with
  | zero =>
    intro i hi
    exact Ev.step (f := fun _ => some true) (fun k => by simp only [crosswayref00_SameInts.l0]; rw [if_neg (by omega)]) (Ev.now _)
  | succ d ih =>
    intro i hi
    exact Ev.step (fun k => by simp only [crosswayref00_SameInts.l0]; rw [if_pos (by omega), if_pos (by omega), if_pos (by omega), if_pos trivial, w64_up i (by omega)]) (ih (i + 1) (by omega))
theorem sameI_ev (a : List Int) (hm : a.length ≤ 9223372036854775807) : Ev (fun k => crosswayref00_SameInts.f k a a) true :=
  Ev.congr (fun k => by simp only [crosswayref00_SameInts.f]; rw [if_pos trivial]; rfl) (sameI_l0 a hm a.length 0 (by omega))
theorem sameI_calls (a : List Int) (n : Nat) (hn : n = a.length) (hm : n ≤ 1000000) (A : Option Addr) (c : Nat) (B : Option Addr) (d : Nat) (w : World) (hA : Kd.C (Kd.int .i64) w A n a) (hc : n ≤ c) (hB : Kd.C (Kd.int .i64) w B n a) (hd : n ≤ d) :
    Calls Try.prog 14 #[.slice A n c, .slice B n d] w fun e w' => e = .returned (.bool true) ∧ Drawn0 w w' := by
  subst hn
  obtain ⟨k, hk⟩ := Ev.rounds (sameI_ev a (by omega))
  exact crosswayref00_SameInts.calls k A c a B d a _ w hA hc hB hd hk
end Go.Proofs.Ytonofmnjcocokaa.Rk
