/- The plain statement of OctetBack: numbers and digits come back, what is turned twice is as it was. -/
import Derived.Test.YtnagjckjibfimaaM10
import Derived.Test.YtnagjckjibfimaaPuOctet
namespace Go.Proofs.Ytnagjckjibfimaa.Pure
open Go.RowKit Go.Proofs.YtnagjckjibfimaaW.PrintWords Go.Proofs.YtnagjckjibfimaaW.PrintMore Go.Proofs.Ytnagjckjibfimaa.M Go.Proofs.Ytnagjckjibfimaa.Bv Go.Proofs.Ytnagjckjibfimaa.PuLib Go.Proofs.Ytnagjckjibfimaa.PuCat Go.Proofs.Ytnagjckjibfimaa.PuOctet
theorem back_l0 (a z : List Int) (hl : a.length ≤ 100000) (ya : By a) (hz : z.length = a.length) : ∀ (d i : Nat) (x : List Int), x.length ≤ 100000 → i + d = x.length → Ev (fun k => crosswaylaw01_OctetBack.l0 k a x a 0 z 0 a (i : Int)) true := by
  intro d
  induction d with
  | zero =>
    intro i x hx hi
    have he := ev_eq (equal_ev a a hl ya ya) (decide_eq_true rfl)
    refine Ev.step (fun k => by simp only [crosswaylaw01_OctetBack.l0, if_true]; rw [if_neg (by omega)]) (Ev.bind he ?_)
    exact Ev.congr (fun k => by rw [if_pos rfl, if_pos (by omega)]) (Ev.bind he (Ev.now _))
  | succ d ih =>
    intro i x hx hi
    exact Ev.step (fun k => by simp only [crosswaylaw01_OctetBack.l0]; rw [if_pos (by omega), if_pos (by omega), w64_up i (by omega)]) (ih (i + 1) _ (by rw [List.length_set]; omega) (by rw [List.length_set]; omega))
theorem OctetBack : crosswaylaw01_OctetBack.Pure := by
  intro a b n size ha hwa hb hwb hn hsz
  have ya : By a := fun x h => wf_u8 (hwa x h)
  have yb : By b := fun x h => wf_u8 (hwb x h)
  obtain ⟨n0, n1⟩ := wf_u64 hn
  refine Ev.rounds (Ev.congr (fun k => rfl) (Ev.bind alive_ev (Ev.congr (fun k => if_pos rfl) ?_)))
  have stop : Ev (fun k => crosswaylaw01_OctetBack.j0 k a b n size true) true := Ev.step (f := fun _ => some true) (fun k => rfl) (Ev.now _)
  by_cases h1 : (a.length : Int) > 3000
  · exact Ev.congr (fun k => if_pos h1) stop
  refine Ev.congr (fun k => if_neg h1) ?_
  by_cases h2 : (b.length : Int) > 3000
  · rw [decide_eq_true h2]; exact stop
  rw [decide_eq_false h2]
  have J2 : Ev (fun k => crosswaylaw01_OctetBack.j2 k a b false) true := by
    have hxab := xor_ev a b (by omega)
    by_cases h : a.length = b.length
    · have hl := xorL_length h
      have hl2 := xorL_length h.symm
      have hxx := xor_ev (xorL a b) b (by omega)
      have hxba := xor_ev b a (by omega)
      rw [xorS, if_pos h] at hxab
      rw [xorS, if_pos (by omega), xorL_twice h ya yb] at hxx
      rw [xorS, if_pos h.symm] at hxba
      refine Ev.step (fun k => by simp only [crosswaylaw01_OctetBack.j2]; rw [if_neg (by decide)]) (Ev.bind hxab ?_)
      refine Ev.congr (fun k => if_pos rfl) (Ev.bind hxx (Ev.bind hxba ?_))
      exact Ev.congr (fun k => by rw [copy_eq a (by omega), Option.bind_some]; rfl) (back_l0 a (xorL b a) (by omega) ya (by omega) (xorL a b).length 0 (xorL a b) (by omega) (by omega))
    · rw [xorS, if_neg h] at hxab
      refine Ev.step (fun k => by simp only [crosswaylaw01_OctetBack.j2]; rw [if_neg (by decide)]) (Ev.bind hxab ?_)
      refine Ev.congr (f := fun _ => some ((a.length : Int) != (b.length : Int))) (fun k => if_neg (by decide)) (ev_eq (Ev.now _) ?_)
      rw [bne_iff_ne]
      omega
  have J1 : Ev (fun k => crosswaylaw01_OctetBack.j1 k a b) true := by
    have hh := hexI_length a
    have hsz : (strOfNums (hexI a)).size ≤ 100000 := by
      rw [← bytesOf_length, bytesOf_strOfNums _ (hexI_By a)]
      omega
    have hu := unhex_ev (strOfNums (hexI a)) hsz
    rw [bytesOf_strOfNums _ (hexI_By a), unhS_hexI a ya] at hu
    refine Ev.step (fun k => by simp only [crosswaylaw01_OctetBack.j1]; rw [hex_eq a (by omega) ya, Option.bind_some]) (Ev.bind hu (Ev.congr (fun k => if_pos rfl) (Ev.bind (ev_eq (equal_ev a a (by omega) ya ya) (decide_eq_true rfl)) J2)))
  have hp := put_ev n size n0 n1
  by_cases P : 0 ≤ size ∧ size ≤ 8 ∧ n < 256 ^ size.toNat
  · rw [putS, if_pos P] at hp
    have hlen := putL_length n size.toNat
    have hnum := num_ev (putL n size.toNat) (putL_bytes n size.toNat)
    rw [numT, if_neg (by omega), numS_putL, Int.emod_eq_of_lt n0 P.2.2] at hnum
    refine Ev.step (fun k => by simp only [crosswaylaw01_OctetBack.j0]; rw [if_neg (by decide)]) (Ev.bind hp ?_)
    refine Ev.congr (fun k => if_pos rfl) (Ev.bind hnum ?_)
    have hz : ((putL n size.toNat).length : Int) = size := by omega
    exact Ev.congr (fun k => by rw [if_pos rfl, if_pos rfl, if_pos hz]) J1
  · rw [putS, if_neg P] at hp
    refine Ev.step (fun k => by simp only [crosswaylaw01_OctetBack.j0]; rw [if_neg (by decide)]) (Ev.bind hp ?_)
    exact Ev.congr (fun k => if_neg (by decide)) J1
end Go.Proofs.Ytnagjckjibfimaa.Pure
