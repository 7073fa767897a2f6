/- The plain statement of VariBack: each form of a number is taken as it, whatever stands behind; the least one is the shortest; a row is taken number by number. -/
import Derived.Test.YtbiiccgheblhpabM9
import Derived.Test.YtbiiccgheblhpabPuVari
namespace Go.Proofs.Ytbiiccgheblhpab.Pure
open Go.RowKit Go.Proofs.YtbiiccgheblhpabW.PrintWords Go.Proofs.YtbiiccgheblhpabW.PrintMore Go.Proofs.Ytbiiccgheblhpab.M Go.Proofs.Ytbiiccgheblhpab.Bv Go.Proofs.Ytbiiccgheblhpab.PuLib Go.Proofs.Ytbiiccgheblhpab.PuVari
theorem wide_ok {v size : Int} (h : (wideV v size).2 = 0) : ∃ f, f < 4 ∧ size = ((siz f : Nat) : Int) ∧ wideV v size = putF f v ∧ v < lim f := by
  have key : ∀ f, f < 4 → size = ((siz f : Nat) : Int) → ∃ f, f < 4 ∧ size = ((siz f : Nat) : Int) ∧ wideV v size = putF f v ∧ v < lim f := fun f hf e => by
    have e2 : wideV v size = putF f v := by rw [e, wide_siz v hf]
    exact ⟨f, hf, e, e2, putF_ok.1 (by rw [← e2]; exact h)⟩
  by_cases n0 : size = 1
  · exact key 0 (by omega) n0
  by_cases n1 : size = 2
  · exact key 1 (by omega) n1
  by_cases n2 : size = 4
  · exact key 2 (by omega) n2
  by_cases n3 : size = 8
  · exact key 3 (by omega) n3
  · rw [wideV, if_neg n0, if_neg n1, if_neg n2, if_neg n3] at h
    exact absurd h (by decide)
def rowC (l : List Int) : List Int := l.flatMap fun v => (putV v).1
theorem rowV_ok (l : List Int) : ∀ acc, (rowV acc l).2 = 0 → rowV acc l = (acc ++ rowC l, 0) ∧ ∀ v ∈ l, form v < 4 := by
  induction l with
  | nil => intro acc _; exact ⟨by simp [rowV, rowC], by simp⟩
  | cons v l ih =>
    intro acc h
    rw [rowV] at h ⊢
    by_cases c : (putV v).2 = 0
    · rw [if_pos c] at h ⊢
      obtain ⟨h1, h2⟩ := ih _ h
      refine ⟨by rw [h1]; simp [rowC], fun w hw => ?_⟩
      rcases List.mem_cons.1 hw with rfl | hw
      · exact putV_ok.1 c
      · exact h2 w hw
    · rw [if_neg c] at h
      exact absurd h c
theorem rowV_bad (l : List Int) : ∀ acc, (rowV acc l).2 ≠ 0 → (rowV acc l).1 = [] := by
  induction l with
  | nil => intro acc h; exact absurd rfl h
  | cons v l ih =>
    intro acc h
    rw [rowV] at h ⊢
    by_cases c : (putV v).2 = 0
    · rw [if_pos c] at h ⊢
      exact ih _ h
    · rw [if_neg c]
theorem siz_mono {f g : Nat} (h : f ≤ g) : siz f ≤ siz g := Nat.pow_le_pow_right (by omega) h
theorem rowC_len (l : List Int) : (rowC l).length ≤ 8 * l.length := by
  induction l with
  | nil => simp [rowC]
  | cons v l ih =>
    have := putV_len v
    simp only [rowC, List.flatMap_cons, List.length_append, List.length_cons] at ih ⊢
    omega
theorem rowC_bytes (l : List Int) : ∀ x ∈ rowC l, 0 ≤ x ∧ x < 256 := by
  intro x hx
  obtain ⟨v, _, h⟩ := List.mem_flatMap.1 hx
  exact putV_bytes v x h
theorem back_l1 (l : List Int) (hr : ∀ v ∈ l, 0 ≤ v ∧ v < 18446744073709551616) (hf : ∀ v ∈ l, form v < 4) (hl : l.length ≤ 60) : ∀ d i : Nat, i + d = l.length → Ev (fun k => crosswaylaw08_VariBack.l1 k l (rowC (l.drop i)) (i : Int)) true := by
  intro d
  induction d with
  | zero =>
    intro i hi
    refine Ev.step (f := fun _ => some true) (fun k => ?_) (Ev.now _)
    simp only [crosswaylaw08_VariBack.l1]
    rw [if_neg (by omega), List.drop_of_length_le (by omega)]
    rfl
  | succ d ih =>
    intro i hi
    have hm := rd_mem l i (by omega)
    obtain ⟨v0, v1⟩ := hr _ hm
    have c4 := hf _ hm
    have hlt := form_lt c4
    have hcut : rowC (l.drop i) = (putF (form (rd l (i : Int))) (rd l (i : Int))).1 ++ rowC (l.drop (i + 1)) := by
      rw [drop_rd l i (by omega)]
      simp only [rowC, List.flatMap_cons, putV, if_pos c4]
    have hlen : (putF (form (rd l (i : Int))) (rd l (i : Int))).1.length = siz (form (rd l (i : Int))) := by rw [putF, if_pos hlt, putL_length]
    have ht := take_putF c4 v0 hlt (rowC (l.drop (i + 1)))
    have hrl := rowC_len (l.drop i)
    rw [List.length_drop] at hrl
    have hrb := rowC_bytes (l.drop i)
    have h8 := siz_le c4
    rw [hcut] at hrl hrb
    have hrest : ((putF (form (rd l (i : Int))) (rd l (i : Int))).1 ++ rowC (l.drop (i + 1))).drop (siz (form (rd l (i : Int)))) = rowC (l.drop (i + 1)) := by
      rw [List.drop_append_of_le_length (by omega), List.drop_of_length_le (by omega), List.nil_append]
    rw [hcut]
    refine Ev.step (fun k => by simp only [crosswaylaw08_VariBack.l1]; rw [if_pos (by omega)]) (Ev.bind (ev_eq (take_ev _ hrb (by omega)) ht) (Ev.congr (fun k => by rw [if_pos rfl, if_pos (by omega), if_pos rfl]) ?_))
    refine Ev.bind (ev_eq (vsize_ev v0) (if_pos c4)) (Ev.congr (fun k => by dsimp only; rw [if_pos rfl, if_neg (by rw [List.length_append]; omega), if_pos (by omega), if_pos (by rw [List.length_append]; omega), Int.toNat_natCast, hrest, w64_up i (by omega)]) (ih (i + 1) (by omega)))
theorem back_l0 (l : List Int) (size : Int) (rest : List Int) (hr : ∀ v ∈ l, 0 ≤ v ∧ v < 18446744073709551616) (hb : ∀ x ∈ rest, 0 ≤ x ∧ x < 256) (hl : l.length ≤ 60) (hs : rest.length ≤ 300) : ∀ d i : Nat, i + d = l.length → Ev (fun k => crosswaylaw08_VariBack.l0 k l size rest (i : Int)) true := by
  intro d
  induction d with
  | zero =>
    intro i hi
    refine Ev.step (fun k => by simp only [crosswaylaw08_VariBack.l0]; rw [if_neg (by omega)]) (Ev.bind (row_ev l hr (by omega)) ?_)
    by_cases c : (rowV [] l).2 = 0
    · obtain ⟨h1, h2⟩ := rowV_ok l [] c
      refine Ev.congr (fun k => if_pos c) ?_
      rw [h1, List.nil_append]
      exact back_l1 l hr h2 hl l.length 0 (by omega)
    · refine Ev.congr (fun k => if_neg c) (ev_eq (Ev.now _) ?_)
      rw [rowV_bad l [] c]
      rfl
  | succ d ih =>
    intro i hi
    have hm := rd_mem l i (by omega)
    obtain ⟨v0, v1⟩ := hr _ hm
    refine Ev.step (fun k => by simp only [crosswaylaw08_VariBack.l0]; rw [if_pos (by omega), if_pos (by omega)]) (Ev.bind (wide_ev v0 size) ?_)
    by_cases c : (wideV (rd l (i : Int)) size).2 = 0
    · obtain ⟨f, c4, rfl, e2, hlt⟩ := wide_ok c
      have hlen : (putF f (rd l (i : Int))).1.length = siz f := by rw [putF, if_pos hlt, putL_length]
      have h8 := siz_le c4
      have ht := take_putF c4 v0 hlt rest
      have hmin := siz_mono (form_min c4 hlt)
      have hfv : form (rd l (i : Int)) < 4 := by have := form_min c4 hlt; omega
      rw [e2]
      refine Ev.congr (fun k => by rw [if_pos (putF_ok.2 hlt), copy_eq _ (by omega), Option.bind_some, if_pos (by omega)]) ?_
      refine Ev.bind (ev_eq (take_ev _ ?_ (by rw [List.length_append]; omega)) ht) (Ev.congr (fun k => by rw [if_pos rfl, if_pos rfl, if_pos rfl, if_pos (by rw [hlen])]) ?_)
      · intro x hx
        rcases List.mem_append.1 hx with h | h
        · exact putF_bytes _ x h
        · exact hb x h
      · exact Ev.bind (ev_eq (vsize_ev v0) (if_pos hfv)) (Ev.congr (fun k => by dsimp only; rw [if_neg (by omega), w64_up i (by omega)]) (ih (i + 1) (by omega)))
    · exact Ev.congr (fun k => by rw [if_neg c, w64_up i (by omega)]) (ih (i + 1) (by omega))
theorem VariBack : crosswaylaw08_VariBack.Pure := by
  intro l size rest hl hr hs hrl hrr
  have hr' : ∀ x ∈ l, 0 ≤ x ∧ x < 18446744073709551616 := fun x h => wf_u64 (hr x h)
  have hb : ∀ x ∈ rest, 0 ≤ x ∧ x < 256 := fun x h => wf_u8 (hrr x h)
  refine Ev.rounds (Ev.congr (fun k => rfl) (Ev.bind alive_ev (Ev.congr (fun k => if_pos rfl) ?_)))
  have stop : Ev (fun k => crosswaylaw08_VariBack.j0 k l size rest true) true := Ev.step (f := fun _ => some true) (fun k => rfl) (Ev.now _)
  by_cases h1 : (l.length : Int) > 60
  · exact Ev.congr (fun k => if_pos h1) stop
  refine Ev.congr (fun k => if_neg h1) ?_
  by_cases h2 : (rest.length : Int) > 300
  · rw [decide_eq_true h2]; exact stop
  rw [decide_eq_false h2]
  exact Ev.step (fun k => by simp only [crosswaylaw08_VariBack.j0]; rw [if_neg (by decide)]; rfl) (back_l0 l size rest hr' hb (by omega) (by omega) l.length 0 (by omega))
end Go.Proofs.Ytbiiccgheblhpab.Pure
