/- The plain statement of OctetWrites: the program's joins, numbers' bytes and bytes of digits are the document's. -/
import Derived.Test.YtnagjckjibfimaaM9
import Derived.Test.YtnagjckjibfimaaPuOctet
namespace Go.Proofs.Ytnagjckjibfimaa.Pure
open Go.RowKit Go.Proofs.YtnagjckjibfimaaW.PrintWords Go.Proofs.YtnagjckjibfimaaW.PrintMore Go.Proofs.Ytnagjckjibfimaa.M Go.Proofs.Ytnagjckjibfimaa.Bv Go.Proofs.Ytnagjckjibfimaa.PuLib Go.Proofs.Ytnagjckjibfimaa.PuCat Go.Proofs.Ytnagjckjibfimaa.PuOctet
theorem rjoin_l0 (ls : List (List Int)) (hn : ls.length ≤ 3000) (hr : ∀ r ∈ ls, r.length ≤ 3000) : ∀ d i (acc : List Int), i + d = ls.length → acc.length + 3000 * d ≤ 9000000 → Ev (fun k => crosswayref01_Join.l0 k ls acc (i : Int)) (acc ++ (ls.drop i).flatten) := by
  intro d
  induction d with
  | zero =>
    intro i acc hi _
    refine Ev.step (f := fun _ => some acc) (fun k => by simp only [crosswayref01_Join.l0]; rw [if_neg (by omega)]) (ev_eq (Ev.now _) ?_)
    rw [List.drop_of_length_le (by omega)]
    simp
  | succ d ih =>
    intro i acc hi h2
    have hm := hr _ (rdR_mem ls i (by omega))
    refine Ev.step (fun k => by simp only [crosswayref01_Join.l0]; rw [if_pos (by omega), if_pos (by omega), if_pos (by omega), w64_up i (by omega)]) (ev_eq (ih (i + 1) (acc ++ rd_L1 ls (i : Int)) (by omega) (by rw [List.length_append]; omega)) ?_)
    rw [drop_rdR ls i (by omega), List.flatten_cons, List.append_assoc]
theorem flat_len : ∀ (ls : List (List Int)), (∀ r ∈ ls, r.length ≤ 3000) → ls.flatten.length ≤ 3000 * ls.length := by
  intro ls
  induction ls with
  | nil => intro _; simp
  | cons r ls ih =>
    intro h
    have h1 := h r (List.mem_cons_self)
    have h2 := ih (fun x hx => h x (List.mem_cons_of_mem _ hx))
    rw [List.flatten_cons, List.length_append, List.length_cons]
    omega
theorem OctetWrites : crosswaylaw01_OctetWrites.Pure := by
  intro ls n size s hl hw hn hsz hs
  obtain ⟨n0, n1⟩ := wf_u64 hn
  refine Ev.rounds (Ev.congr (fun k => rfl) (Ev.bind alive_ev (Ev.congr (fun k => if_pos rfl) ?_)))
  have stop : Ev (fun k => crosswaylaw01_OctetWrites.j0 k ls n size s true) true := Ev.step (f := fun _ => some true) (fun k => rfl) (Ev.now _)
  obtain ⟨lg, hlg, hf⟩ := long_ev ls 3000 (by omega)
  refine Ev.bind hlg ?_
  cases lg with
  | true => exact Ev.congr (fun k => if_pos rfl) stop
  | false =>
    obtain ⟨hn1, hr⟩ := hf rfl
    refine Ev.congr (fun k => if_neg (by decide)) ?_
    by_cases h2 : (s.size : Int) > 3000
    · rw [decide_eq_true h2]; exact stop
    rw [decide_eq_false h2]
    have hp : (putS n size).1.length ≤ 100000 := by
      rw [putS]
      split
      · rename_i h; simp only [putL_length]; omega
      · simp
    have hu := unhS_length (bytesOf s)
    rw [bytesOf_length] at hu
    have hfl := flat_len ls hr
    refine Ev.step (fun k => by simp only [crosswaylaw01_OctetWrites.j0]; rw [if_neg (by decide)]) (Ev.bind (put_ev n size n0 n1) (Ev.bind (rput_ev n size n0 n1) (Ev.bind (unhex_ev s (by omega)) (Ev.bind (runhex_ev s (by omega)) ?_))))
    refine Ev.congr (fun k => if_pos rfl) (Ev.bind (same_self _ hp) (Ev.congr (fun k => if_pos rfl) (Ev.congr (fun k => if_pos rfl) (Ev.bind (same_self _ (by omega)) (Ev.congr (fun k => if_pos rfl) ?_)))))
    have hj : Ev (fun k => crosswayref01_Join.f k ls) ls.flatten := Ev.congr (fun k => rfl) (ev_eq (rjoin_l0 ls hn1 hr ls.length 0 [] (by omega) (by simp; omega)) (by simp))
    exact Ev.bind (cat_ev ls hn1 hr) (Ev.bind hj (Ev.bind (ev_eq (same_ev _ _ (by omega)) (decide_eq_true rfl)) (Ev.now _)))
end Go.Proofs.Ytnagjckjibfimaa.Pure
