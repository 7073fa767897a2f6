/- octet.Join's plain law: rows behind one another (a copy of what PuHalves has). -/
import Derived.Test.YtikpgmajiafhgaaPuLib
namespace Go.Proofs.Ytikpgmajiafhgaa.PuCat
open Go.RowKit Go.Proofs.YtikpgmajiafhgaaW.PrintWords Go.Proofs.YtikpgmajiafhgaaW.PrintMore Go.Proofs.Ytikpgmajiafhgaa.M Go.Proofs.Ytikpgmajiafhgaa.Bv Go.Proofs.Ytikpgmajiafhgaa.PuLib
/-! ### rows behind one another -/
theorem rdL_nat (l : List (List Int)) (i : Nat) : rd_L1 l (i : Int) = l.getD i [] := rfl
theorem drop_rdR (l : List (List Int)) (i : Nat) (h : i < l.length) : l.drop i = rd_L1 l (i : Int) :: l.drop (i + 1) := by
  rw [rdL_nat, List.drop_eq_getElem_cons h, List.getD_eq_getElem?_getD, List.getElem?_eq_getElem h]
  rfl
theorem rdR_mem (l : List (List Int)) (i : Nat) (h : i < l.length) : rd_L1 l (i : Int) ∈ l := by
  rw [rdL_nat, List.getD_eq_getElem?_getD, List.getElem?_eq_getElem h]
  exact List.getElem_mem h
theorem cat_l1 (ls : List (List Int)) (hn : ls.length ≤ 3000) (hr : ∀ r ∈ ls, r.length ≤ 3000) : ∀ d i (acc : List Int), i + d = ls.length → acc.length + 3000 * d ≤ 9000000 → Ev (fun k => slices_Concat_byte_byte.l1 k acc ls (ls.length : Int) (i : Int)) (acc ++ (ls.drop i).flatten) := by
  intro d
  induction d with
  | zero =>
    intro i acc hi _
    refine Ev.step (f := fun _ => some acc) (fun k => by simp only [slices_Concat_byte_byte.l1]; rw [if_neg (by omega)]) (ev_eq (Ev.now _) ?_)
    rw [List.drop_of_length_le (by omega)]
    simp
  | succ d ih =>
    intro i acc hi h2
    have hm := hr _ (rdR_mem ls i (by omega))
    refine Ev.step (fun k => by simp only [slices_Concat_byte_byte.l1]; rw [if_pos (by omega), if_pos (by omega), if_pos (by omega), if_pos (by omega), w64_up i (by omega)]) (ev_eq (ih (i + 1) (acc ++ rd_L1 ls (i : Int)) (by omega) (by rw [List.length_append]; omega)) ?_)
    rw [drop_rdR ls i (by omega), List.flatten_cons, List.append_assoc]
theorem cat_l0 (ls : List (List Int)) (hn : ls.length ≤ 3000) (hr : ∀ r ∈ ls, r.length ≤ 3000) : ∀ d i n : Nat, i + d = ls.length → n + 3000 * d ≤ 9000000 → Ev (fun k => slices_Concat_byte_byte.l0 k ls (n : Int) ls (ls.length : Int) (i : Int)) ls.flatten := by
  intro d
  induction d with
  | zero =>
    intro i n hi h2
    have hg : slices_Grow_byte_byte.f (n : Int) = some [] := by rw [slices_Grow_byte_byte.f, if_pos (by omega), if_pos (by omega)]
    refine Ev.step (fun k => by simp only [slices_Concat_byte_byte.l0]; rw [if_neg (by omega), hg, Option.bind_some]; rfl) (ev_eq (cat_l1 ls hn hr ls.length 0 [] (by omega) (by simp; omega)) ?_)
    simp
  | succ d ih =>
    intro i n hi h2
    have hm := hr _ (rdR_mem ls i (by omega))
    have hw : wrap64 ((n : Int) + ((rd_L1 ls (i : Int)).length : Int)) = ((n + (rd_L1 ls (i : Int)).length : Nat) : Int) := by rw [w64_in _ (by omega) (by omega)]; omega
    exact Ev.step (fun k => by simp only [slices_Concat_byte_byte.l0]; rw [if_pos (by omega), if_pos (by omega), if_pos (by omega), hw, if_neg (by omega), w64_up i (by omega)]) (ih (i + 1) _ (by omega) (by omega))
theorem cat_ev (ls : List (List Int)) (hn : ls.length ≤ 3000) (hr : ∀ r ∈ ls, r.length ≤ 3000) : Ev (fun k => octet_Join.f k ls) ls.flatten :=
  Ev.congr (fun _ => by simp only [octet_Join.f]; rfl) (Ev.bind (cat_l0 ls hn hr ls.length 0 0 (by omega) (by omega)) (Ev.now _))

end Go.Proofs.Ytikpgmajiafhgaa.PuCat
