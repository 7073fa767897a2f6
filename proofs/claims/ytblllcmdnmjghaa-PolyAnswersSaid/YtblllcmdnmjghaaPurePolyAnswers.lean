/- The plain statement of PolyAnswers: sums, products and products with x are the field's. -/
import Derived.Test.YtblllcmdnmjghaaM6
import Derived.Test.YtblllcmdnmjghaaPuPoly
namespace Go.Proofs.Ytblllcmdnmjghaa.Pure
open Go.RowKit Go.Proofs.YtblllcmdnmjghaaW.PrintWords Go.Proofs.YtblllcmdnmjghaaW.PrintMore Go.Proofs.Ytblllcmdnmjghaa.M Go.Proofs.Ytblllcmdnmjghaa.Bv Go.Proofs.Ytblllcmdnmjghaa.Gf Go.Proofs.Ytblllcmdnmjghaa.ArrX Go.Proofs.Ytblllcmdnmjghaa.PuPoly
theorem words_E (x : Nat) : (hiN x, loN x) = E x := rfl
theorem nOf_E {x : Nat} : nOf (E x).1 (E x).2 = x := by
  show nOf ((x / 18446744073709551616 : Nat) : Int) ((x % 18446744073709551616 : Nat) : Int) = x
  unfold nOf
  omega
theorem PolyAnswers : crosswaylaw04_PolyAnswers.Pure := by
  intro ah al bh bl_ l h1 h2 h3 h4 _ h5
  obtain ⟨a, ha, rfl, rfl⟩ := E_of (wf_u64 h1).1 (wf_u64 h1).2 (wf_u64 h2).1 (wf_u64 h2).2
  obtain ⟨b, hb, rfl, rfl⟩ := E_of (wf_u64 h3).1 (wf_u64 h3).2 (wf_u64 h4).1 (wf_u64 h4).2
  have hfa : crosswaylaw04_PolyAnswers.fine (E a).1 (E a).2 = true := by
    unfold crosswaylaw04_PolyAnswers.fine
    have := wf_u64 h1
    have := wf_u64 h2
    simp
    omega
  have hfb : crosswaylaw04_PolyAnswers.fine (E b).1 (E b).2 = true := by
    unfold crosswaylaw04_PolyAnswers.fine
    have := wf_u64 h3
    have := wf_u64 h4
    simp
    omega
  obtain ⟨ns, hns, hl⟩ : ∃ ns : List Nat, (∀ x ∈ ns, x < top) ∧ l = ns.map toS := by
    have : ∀ l : List S24, (∀ x ∈ l, ((Lit.int .u64 x.f0).wf = true) ∧ ((Lit.int .u64 x.f1).wf = true) ∧ True) → ∃ ns : List Nat, (∀ x ∈ ns, x < top) ∧ l = ns.map toS := by
      intro l
      induction l with
      | nil => intro _; exact ⟨[], by simp, rfl⟩
      | cons s l ih =>
        intro h
        obtain ⟨ns, h6, h7⟩ := ih (fun x hx => h x (List.mem_cons_of_mem _ hx))
        obtain ⟨w0, w1, _⟩ := h s (List.mem_cons_self ..)
        obtain ⟨x, hx, e0, e1⟩ := E_of (wf_u64 w0).1 (wf_u64 w0).2 (wf_u64 w1).1 (wf_u64 w1).2
        refine ⟨x :: ns, fun y hy => ?_, ?_⟩
        · rcases List.mem_cons.1 hy with rfl | hy
          · exact hx
          · exact h6 y hy
        · have es : s = toS x := by
            show s = ⟨(E x).1, (E x).2⟩
            rw [← e0, ← e1]
          rw [List.map_cons, ← h7, es]
    exact this l h5
  subst hl
  have hfl : ∀ s ∈ ns.map toS, crosswaylaw04_PolyAnswers.fine s.f0 s.f1 = true := by
    intro s hs
    obtain ⟨w0, w1, _⟩ := h5 s hs
    have := wf_u64 w0
    have := wf_u64 w1
    unfold crosswaylaw04_PolyAnswers.fine
    simp
    omega
  have hx : crosswaylaw04_PolyAnswers.xor (crosswaylaw04_PolyAnswers.ns (ns.map toS)) = sumN ns 0 := by
    unfold crosswaylaw04_PolyAnswers.xor crosswaylaw04_PolyAnswers.ns sumN
    have e : (ns.map toS).map (fun s => nOf s.f0 s.f1) = ns := by
      rw [List.map_map]
      refine (List.map_congr_left (g := id) fun x _ => ?_).trans (List.map_id ns)
      exact nOf_E
    rw [e]
  by_cases hl : 60 < ns.length
  · refine Ev.rounds ?_
    obtain ⟨k0, hk⟩ := alive_ev
    refine ⟨k0, fun k h => ?_⟩
    have hk' : crosswaylaw04_alive.f k = some true := hk k h
    show crosswaylaw04_PolyAnswers.f k _ _ _ _ _ = some true
    unfold crosswaylaw04_PolyAnswers.f
    rw [if_pos hk', if_pos (by rw [List.length_map]; exact hl)]
  · refine Ev.rounds ?_
    obtain ⟨k0, hk⟩ := alive_ev
    obtain ⟨k1, hk1⟩ := sum_ev ns hns (by omega)
    refine ⟨max k0 k1, fun k h => ?_⟩
    have hk' : crosswaylaw04_alive.f k = some true := hk k (by omega)
    show crosswaylaw04_PolyAnswers.f k _ _ _ _ _ = some true
    unfold crosswaylaw04_PolyAnswers.f
    refine (if_pos hk').trans ((if_neg (by rw [List.length_map]; exact hl)).trans (if_pos ⟨hfa, hfb, hfl, ?_, ?_, ?_⟩))
    · rw [nOf_E, nOf_E]; exact times_E ha hb
    · rw [nOf_E]; exact next_E ha
    · rw [hx]; exact hk1 k (by omega)
end Go.Proofs.Ytblllcmdnmjghaa.Pure
