/- The plain statement of MixSeeds: unlike seeds mix the same parts unlike; parts that differ in one byte are mixed to unlike numbers. -/
import Derived.Test.YtbiiccgheblhpaaM8
import Derived.Test.YtbiiccgheblhpaaPuMix
namespace Go.Proofs.Ytbiiccgheblhpaa.Pure
open Go.RowKit Go.Proofs.YtbiiccgheblhpaaW.PrintWords Go.Proofs.YtbiiccgheblhpaaW.PrintMore Go.Proofs.Ytbiiccgheblhpaa.M Go.Proofs.Ytbiiccgheblhpaa.Bv Go.Proofs.Ytbiiccgheblhpaa.PuLib Go.Proofs.Ytbiiccgheblhpaa.PuMix
theorem mixS_inj {a b : Int} (ps : List (List Int)) (a0 : 0 ≤ a) (a1 : a < 18446744073709551616) (b0 : 0 ≤ b) (b1 : b < 18446744073709551616) (h : mixS a ps = mixS b ps) : a = b := by
  have x := xor_range 14695981039346656037
  have h2 := endS_inj (parts_range ps (x a).1 (x a).2).1 (parts_range ps (x a).1 (x a).2).2 (parts_range ps (x b).1 (x b).2).1 (parts_range ps (x b).1 (x b).2).2 h
  have h3 := congrArg W (parts_inj ps (x a).1 (x a).2 (x b).1 (x b).2 h2)
  rw [W_xor, W_xor, BitVec.xor_comm, BitVec.xor_comm _ (W b)] at h3
  exact W_inj a0 a1 b0 b1 (xor_inj_right h3)
/-- One byte of a row turned turns its fold. -/
theorem foldS_set_inj (l : List Int) (n : Nat) (hn : n < l.length) (y : Int) (a : Int) (a0 : 0 ≤ a) (a1 : a < 18446744073709551616) (hx : 0 ≤ rd l (n : Int) ∧ rd l (n : Int) < 256) (hy : 0 ≤ y ∧ y < 256)
    (h : foldS a (l.set n y) = foldS a l) : y = rd l (n : Int) := by
  have e1 : l.set n y = l.take n ++ y :: l.drop (n + 1) := by rw [List.set_eq_take_append_cons_drop, if_pos hn]
  have e2 : l = l.take n ++ rd l (n : Int) :: l.drop (n + 1) := by rw [← drop_rd l n hn, List.take_append_drop]
  rw [e1] at h
  have e3 : foldS a l = foldS a (l.take n ++ rd l (n : Int) :: l.drop (n + 1)) := by rw [← e2]
  rw [e3, foldS_append, foldS_append, foldS_cons, foldS_cons] at h
  have r := foldS_range (l.take n) a a0 a1
  exact step_inj_right hy.1 hy.2 hx.1 hx.2 (foldS_inj _ (step_range _ _).1 (step_range _ _).2 (step_range _ _).1 (step_range _ _).2 h)
theorem u8_xor_inj {x y : Int} (x0 : 0 ≤ x) (x1 : x < 256) (y0 : 0 ≤ y) (y1 : y < 256) : Go.bits .xor .u8 x y = x ↔ y = 0 := by
  rw [u8_xor x y x0 x1 y0 y1]
  constructor
  · intro h
    have h2 : x.toNat ^^^ y.toNat = x.toNat := by omega
    have h3 : y.toNat = 0 := by
      have h4 : x.toNat ^^^ (x.toNat ^^^ y.toNat) = x.toNat ^^^ x.toNat := by rw [h2]
      rwa [← Nat.xor_assoc, Nat.xor_self, Nat.zero_xor] at h4
    omega
  · intro h
    subst h
    simp
    omega
theorem u8_range {x y : Int} (x0 : 0 ≤ x) (x1 : x < 256) (y0 : 0 ≤ y) (y1 : y < 256) : 0 ≤ Go.bits .xor .u8 x y ∧ Go.bits .xor .u8 x y < 256 := by
  rw [u8_xor x y x0 x1 y0 y1]
  have : x.toNat ^^^ y.toNat < 2 ^ 8 := Nat.xor_lt_two_pow (by omega) (by omega)
  omega
theorem MixSeeds : crosswaylaw22_MixSeeds.Pure := by
  intro a b l i y ha hb hl hr hi hy
  obtain ⟨a0, a1⟩ := wf_u64 ha
  obtain ⟨b0, b1⟩ := wf_u64 hb
  obtain ⟨y0, y1⟩ := wf_u8 hy
  refine Ev.rounds (Ev.congr (fun k => rfl) (Ev.bind alive_ev (Ev.congr (fun k => if_pos rfl) ?_)))
  obtain ⟨lb, hlb, hbr⟩ := long_ev l 300 (by decide)
  refine Ev.bind hlb ?_
  cases lb with
  | true => exact Ev.congr (fun k => if_pos rfl) (Ev.now _)
  | false =>
    refine Ev.congr (fun k => if_neg (by decide)) ?_
    obtain ⟨hn, hp⟩ := hbr rfl
    have hp' : ∀ p ∈ l, p.length ≤ 9223372036854775807 := fun p h => by have := hp p h; omega
    by_cases h2 : (l.length : Int) > 20
    · exact Ev.congr (fun k => if_pos h2) (Ev.now _)
    have t1 := same_test (x := mixS a l) (y := mixS b l) (a := a) (b := b) ⟨mixS_inj l a0 a1 b0 b1, fun e => by rw [e]⟩
    refine Ev.congr (fun k => if_neg h2) (Ev.bind (mix_ev a l (by omega) hp') (Ev.bind (mix_ev b l (by omega) hp') ?_))
    rw [t1]
    refine Ev.congr (fun k => if_neg (by decide)) ?_
    by_cases h3 : (l.length : Int) = 0
    · exact Ev.congr (fun k => if_pos h3) (Ev.now _)
    obtain ⟨m, hm⟩ : ∃ m, l.length = m + 1 := ⟨l.length - 1, by omega⟩
    have hw : wrap64 ((l.length : Int) - 1) = (m : Int) := by rw [w64_in _ (by omega) (by omega)]; omega
    simp only [hw]
    refine Ev.congr (fun k => by rw [if_neg h3, if_pos (by omega), if_pos (by omega)]) ?_
    by_cases h4 : i < 0
    · exact Ev.congr (fun k => if_pos h4) (Ev.now _)
    refine Ev.congr (fun k => if_neg h4) ?_
    by_cases h5 : i ≥ ((rd_L1 l (m : Int)).length : Int)
    · exact Ev.congr (fun k => if_pos h5) (Ev.now _)
    have hmem := rdL_mem l m (by omega)
    have hpl := hp _ hmem
    have hby := (hr _ hmem).2
    obtain ⟨n, rfl⟩ := Int.eq_ofNat_of_zero_le (by omega : 0 ≤ i)
    have hx := wf_u8 (hby _ (rd_mem (rd_L1 l (m : Int)) n (by omega)))
    have hyr := u8_range hx.1 hx.2 y0 y1
    refine Ev.congr (fun k => by rw [if_neg h5, copy_eq _ (by omega), Option.bind_some, if_pos (by omega), if_pos (by omega), Option.bind_some, if_pos (by omega), Option.bind_some, Int.toNat_natCast, Int.toNat_natCast, if_pos (by simp; omega), Option.bind_some, if_pos (by simp; omega)]) ?_
    have hlist : ∀ p ∈ ([] ++ l.take m) ++ [(rd_L1 l (m : Int)).set n (Go.bits .xor .u8 (rd (rd_L1 l (m : Int)) (n : Int)) y)], p.length ≤ 9223372036854775807 := by
      intro p hq
      rcases List.mem_append.1 hq with h6 | h6
      · exact hp' p (List.mem_of_mem_take (by simpa using h6))
      · rw [List.mem_singleton.1 h6, List.length_set]; omega
    refine Ev.bind (mix_ev a _ (by simp; omega) hlist) (Ev.bind (mix_ev a l (by omega) hp') (ev_eq (Ev.now _) ?_))
    have hlast : l = l.take m ++ [rd_L1 l (m : Int)] := by
      have h7 := List.take_append_drop m l
      rw [drop_rdL l m (by omega), List.drop_of_length_le (by omega)] at h7
      exact h7.symm
    have x := xor_range 14695981039346656037 a
    have pr := parts_range (l.take m) x.1 x.2
    have key : mixS a (([] ++ l.take m) ++ [(rd_L1 l (m : Int)).set n (Go.bits .xor .u8 (rd (rd_L1 l (m : Int)) (n : Int)) y)]) = mixS a l ↔ y = 0 := by
      have e1 : mixS a l = mixS a (l.take m ++ [rd_L1 l (m : Int)]) := by rw [← hlast]
      rw [e1, List.nil_append]
      simp only [mixS, List.foldl_append, List.foldl_cons, List.foldl_nil]
      constructor
      · intro h
        have q1 := part_range ((rd_L1 l (m : Int)).set n (Go.bits .xor .u8 (rd (rd_L1 l (m : Int)) (n : Int)) y)) pr.1 pr.2
        have q2 := part_range (rd_L1 l (m : Int)) pr.1 pr.2
        have h8 := endS_inj q1.1 q1.2 q2.1 q2.2 h
        unfold PuMix.part at h8
        rw [List.length_set] at h8
        have q3 := foldS_range (putL ((rd_L1 l (m : Int)).length : Int) 8) _ pr.1 pr.2
        exact (u8_xor_inj hx.1 hx.2 y0 y1).1 (foldS_set_inj _ n (by omega) _ _ q3.1 q3.2 hx hyr h8)
      · intro h
        rw [(u8_xor_inj hx.1 hx.2 y0 y1).2 h]
        have e2 : (rd_L1 l (m : Int)).set n (rd (rd_L1 l (m : Int)) (n : Int)) = rd_L1 l (m : Int) := by
          rw [rd_nat, List.getD_eq_getElem?_getD, List.getElem?_eq_getElem (by omega)]
          simp
        rw [e2]
    by_cases hz : y = 0
    · rw [key.2 hz, hz]; simp
    · have : ¬ _ := fun h => hz (key.1 h)
      rw [beq_eq_false_iff_ne.2 this, beq_eq_false_iff_ne.2 hz]
      rfl
end Go.Proofs.Ytbiiccgheblhpaa.Pure
