/- The plain statement of PolyLaws: products have no order, sums are multiplied part by part, powers add up, no divisors of nought. -/
import Derived.Test.YtnagjckjibfimabM7
import Derived.Test.YtnagjckjibfimabPuPoly
namespace Go.Proofs.Ytnagjckjibfimab.Pure
open Go.RowKit Go.Proofs.YtnagjckjibfimabW.PrintWords Go.Proofs.YtnagjckjibfimabW.PrintMore Go.Proofs.Ytnagjckjibfimab.M Go.Proofs.Ytnagjckjibfimab.Bv Go.Proofs.Ytnagjckjibfimab.Gf Go.Proofs.Ytnagjckjibfimab.PuPoly
theorem PolyLaws : crosswaylaw04_PolyLaws.Pure := by
  intro ah al bh bl_ ch cl n m h1 h2 h3 h4 h5 h6 h7 h8
  obtain ⟨a, ha, rfl, rfl⟩ := E_of (wf_u64 h1).1 (wf_u64 h1).2 (wf_u64 h2).1 (wf_u64 h2).2
  obtain ⟨b, hb, rfl, rfl⟩ := E_of (wf_u64 h3).1 (wf_u64 h3).2 (wf_u64 h4).1 (wf_u64 h4).2
  obtain ⟨c, hc, rfl, rfl⟩ := E_of (wf_u64 h5).1 (wf_u64 h5).2 (wf_u64 h6).1 (wf_u64 h6).2
  obtain ⟨n0, n1⟩ := wf_u32 h7
  obtain ⟨m0, m1⟩ := wf_u32 h8
  obtain ⟨n, rfl⟩ := Int.eq_ofNat_of_zero_le n0
  obtain ⟨m, rfl⟩ := Int.eq_ofNat_of_zero_le m0
  clear h1 h2 h3 h4 h5 h6 h7 h8
  have hab : mul a b < top := mul_lt hb
  have hac : mul a c < top := mul_lt hc
  have hbc : mul b c < top := mul_lt hc
  have en : IntKind.u64.wrap (n : Int) = (n : Int) := wrap_id (by omega) (by omega)
  have em : IntKind.u64.wrap (m : Int) = (m : Int) := wrap_id (by omega) (by omega)
  have enm : IntKind.u64.wrap ((n : Int) + (m : Int)) = ((n + m : Nat) : Int) := by rw [wrap_id (by omega) (by omega)]; omega
  have hpn := pw_lt ha n
  have hpm := pw_lt ha m
  refine Ev.rounds (Ev.congr (fun k => rfl) (Ev.bind alive_ev (Ev.congr (fun k => if_pos rfl) ?_)))
  refine Ev.congr (fun k => by rw [times_E ha hb, Option.bind_some, times_E hb ha, Option.bind_some, if_neg (same_E (mul_comm ha hb)), Option.bind_some, times_E hab hc, Option.bind_some, times_E hb hc, Option.bind_some, times_E ha hbc, Option.bind_some, if_neg (same_E (mul_assoc ha hb hc))]) (Ev.bind (sum2_ev hb hc) ?_)
  refine Ev.congr (fun k => by rw [times_E ha (xor_lt hb hc), Option.bind_some, Option.bind_some, times_E ha hc, Option.bind_some]) (Ev.bind (sum2_ev hab hac) ?_)
  refine Ev.congr (fun k => by rw [if_neg (same_E (mul_xor_right a b c)), one_E, Option.bind_some, times_E ha one_lt, Option.bind_some, if_neg (same_E (mul_one ha))]) (Ev.bind (sum2_ev ha hb) ?_)
  refine Ev.bind (pow_ev (n := 2) (xor_lt ha hb) (by decide)) (Ev.bind (pow_ev (n := 2) ha (by decide)) (Ev.bind (pow_ev (n := 2) hb (by decide)) ?_))
  have p2 : ∀ {x : Nat}, x < top → pw x 2 = sq x := fun {x} hx => by
    have h : pw x 2 = mul (mul one x) x := rfl
    rw [h, one_mul hx]
    rfl
  refine Ev.bind (sum2_ev (pw_lt ha 2) (pw_lt hb 2)) ?_
  refine Ev.congr (fun k => by rw [if_neg (same_E (by rw [p2 (xor_lt ha hb), p2 ha, p2 hb, sq_xor ha hb])), en, em, enm]) (Ev.bind (pow_ev (n := n) ha (by omega)) (Ev.bind (pow_ev (n := m) ha (by omega)) ?_))
  refine Ev.congr (fun k => by rw [times_E hpn hpm, Option.bind_some]) (Ev.bind (pow_ev (n := n + m) ha (by omega)) ?_)
  have hx : mul a (nx one) = nx a := by rw [← mul_gen, ← mul_gen, mul_left_comm, mul_one ha]
  have J : Ev (fun k => crosswaylaw04_PolyLaws.j0 k true) true := Ev.step (f := fun _ => some true) (fun k => rfl) (Ev.now _)
  have P0 : Ev (fun k => (poly_Elem_Pow.f k (E a).1 (E a).2 0).bind fun bt => (poly_One.f).bind fun bo => crosswaylaw04_PolyLaws.j0 k (bt.1 == bo.1 && (bt.2 == bo.2))) true := by
    refine Ev.bind (pow_ev (n := 0) ha (by decide)) ?_
    exact Ev.congr (fun k => by rw [one_E, Option.bind_some, eq_E, decide_eq_true (by rfl)]) J
  refine Ev.congr (fun k => by rw [if_neg (same_E (pw_add ha n m)), next_E ha, Option.bind_some, Option.bind_some, next_E one_lt, Option.bind_some, times_E ha (nx_lt one_lt), Option.bind_some, if_neg (same_E hx.symm), Option.bind_some, zero_E, zero_E, zero_E]) ?_
  have hz := mul_eq_zero ha hb
  by_cases h0 : a = 0
  · refine Ev.congr (fun k => by rw [if_pos (decide_eq_true h0), if_pos (by rw [decide_eq_true (hz.2 (.inl h0))]; rfl), ← one_E]) P0
  · refine Ev.congr (fun k => by rw [if_neg (by simp [h0]), if_pos (by rw [beq_iff_eq, decide_eq_decide, hz]; simp [h0]), ← one_E]) P0
end Go.Proofs.Ytnagjckjibfimab.Pure
