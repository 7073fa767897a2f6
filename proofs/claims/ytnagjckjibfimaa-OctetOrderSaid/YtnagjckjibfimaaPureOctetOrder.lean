/- The plain statement of OctetOrder: numbers are in the order of their bytes; noughts ahead change no number. -/
import Derived.Test.YtnagjckjibfimaaM12
import Derived.Test.YtnagjckjibfimaaPuCat
namespace Go.Proofs.Ytnagjckjibfimaa.Pure
open Go.RowKit Go.Proofs.YtnagjckjibfimaaW.PrintWords Go.Proofs.YtnagjckjibfimaaW.PrintMore Go.Proofs.Ytnagjckjibfimaa.M Go.Proofs.Ytnagjckjibfimaa.Bv Go.Proofs.Ytnagjckjibfimaa.PuLib Go.Proofs.Ytnagjckjibfimaa.PuCat
theorem alive_ev : Ev (fun k => crosswaylaw01_alive.f k) true := Ev.of crosswaylaw01_alive.mono (k := 100) (by decide +kernel)
theorem OctetOrder : crosswaylaw01_OctetOrder.Pure := by
  intro a b ha hwa hb hwb
  have ya : ∀ x ∈ a, 0 ≤ x ∧ x < 256 := fun x h => wf_u8 (hwa x h)
  have yb : ∀ x ∈ b, 0 ≤ x ∧ x < 256 := fun x h => wf_u8 (hwb x h)
  refine Ev.rounds (Ev.congr (fun k => rfl) (Ev.bind alive_ev (Ev.congr (fun k => if_pos rfl) ?_)))
  have stop : Ev (fun k => crosswaylaw01_OctetOrder.j0 k a b true) true := Ev.step (f := fun _ => some true) (fun k => rfl) (Ev.now _)
  by_cases h1 : (a.length : Int) > 7
  · exact Ev.congr (fun k => if_pos h1) stop
  refine Ev.congr (fun k => if_neg h1) ?_
  by_cases h2 : (b.length : Int) = (a.length : Int)
  · rw [show ((b.length : Int) != (a.length : Int)) = false by rw [h2]; simp]
    have y0 : ∀ x ∈ (0 :: a), 0 ≤ x ∧ x < 256 := by
      intro x hx
      rcases List.mem_cons.1 hx with rfl | hx
      · omega
      · exact ya x hx
    have n1 := num_ev a ya
    have n2 := num_ev b yb
    have n3 := num_ev (0 :: a) y0
    rw [numT, if_neg (by omega)] at n1 n2
    rw [numT, if_neg (by rw [List.length_cons]; omega)] at n3
    have hz : numS (0 :: a) = numS a := by rw [numS_cons, Int.zero_mul, Int.zero_add]
    have hj : Ev (fun k => octet_Join.f k [[0], a]) (0 :: a) := ev_eq (cat_ev [[0], a] (by simp) (by
      intro r hr
      simp only [List.mem_cons, List.not_mem_nil, or_false] at hr
      rcases hr with rfl | rfl
      · simp
      · omega)) (by simp)
    refine Ev.step (fun k => by simp only [crosswaylaw01_OctetOrder.j0]; rw [if_neg (by decide)]) (Ev.bind n1 (Ev.bind n2 (Ev.bind hj (Ev.bind n3 (Ev.congr (f := fun _ => some true) (fun k => ?_) (Ev.now _))))))
    have hl := less_num a b (by omega) ya yb
    have hs : ∀ l : List Int, (strOfNums l).toList = bytes8 l := fun l => by simp [strOfNums, bytes8]
    rw [if_pos rfl, if_pos rfl, if_pos rfl, hs, hs, if_pos (by rw [beq_iff_eq, Bool.eq_iff_iff, decide_eq_true_iff, hl]), hz, beq_self_eq_true]
  · rw [show ((b.length : Int) != (a.length : Int)) = true from bne_iff_ne.2 h2]
    exact stop
end Go.Proofs.Ytnagjckjibfimaa.Pure
