/- The plain statement of MixParts: a fold goes on where another one ends; the mix of parts hangs on where they are cut. -/
import Derived.Test.YtbiiccgheblhpaaM7
import Derived.Test.YtbiiccgheblhpaaPuMix
namespace Go.Proofs.Ytbiiccgheblhpaa.Pure
open Go.RowKit Go.Proofs.YtbiiccgheblhpaaW.PrintWords Go.Proofs.YtbiiccgheblhpaaW.PrintMore Go.Proofs.Ytbiiccgheblhpaa.M Go.Proofs.Ytbiiccgheblhpaa.Bv Go.Proofs.Ytbiiccgheblhpaa.PuLib Go.Proofs.Ytbiiccgheblhpaa.PuMix
theorem count_eq (n : Nat) (h : n ≤ 300) : crosswaylaw22_MixParts_1.f (n : Int) = some (putL (n : Int) 8) := by
  simp only [crosswaylaw22_MixParts_1.f, putL]
  have e : ∀ m : Int, 65536 ≤ m → (n : Int) / m % 256 = 0 := fun m hm => by
    rw [Int.ediv_eq_zero_of_lt (by omega) (by omega)]
    rfl
  rw [e (256 ^ 7) (by decide), e (256 ^ 6) (by decide), e (256 ^ 5) (by decide), e (256 ^ 4) (by decide), e (256 ^ 3) (by decide), e (256 ^ 2) (by decide)]
  congr 7
  simp
theorem MixParts : crosswaylaw22_MixParts.Pure := by
  intro a l c ha hl hr hc
  obtain ⟨a0, a1⟩ := wf_u64 ha
  refine Ev.rounds (Ev.congr (fun k => rfl) (Ev.bind alive_ev (Ev.congr (fun k => if_pos rfl) ?_)))
  have stop : Ev (fun k => crosswaylaw22_MixParts.j0 k a l c true) true := Ev.step (f := fun _ => some true) (fun k => rfl) (Ev.now _)
  by_cases h1 : (l.length : Int) > 300
  · exact Ev.congr (fun k => if_pos h1) stop
  refine Ev.congr (fun k => if_neg h1) ?_
  by_cases h2 : c < 0
  · exact Ev.congr (fun k => if_pos h2) stop
  refine Ev.congr (fun k => if_neg h2) ?_
  by_cases h3 : c > (l.length : Int)
  · rw [decide_eq_true h3]
    exact stop
  rw [decide_eq_false h3]
  obtain ⟨n, rfl⟩ := Int.eq_ofNat_of_zero_le (by omega : 0 ≤ c)
  have ht : (l.take n).length = n := by rw [List.length_take]; omega
  have hd : (l.drop n).length = l.length - n := List.length_drop
  have hw : wrap64 ((l.length : Int) - (n : Int)) = ((l.length - n : Nat) : Int) := by rw [w64_in _ (by omega) (by omega)]; omega
  have x0 := (xor_range 14695981039346656037 a).1
  have x1 := (xor_range 14695981039346656037 a).2
  have hk : mixS a [l.take n, l.drop n] = endS (foldS (foldS (foldS (foldS (Go.bits .xor .u64 14695981039346656037 a) (putL (n : Int) 8)) (l.take n)) (putL ((l.length - n : Nat) : Int) 8)) (l.drop n)) := by
    simp only [mixS, List.foldl_cons, List.foldl_nil, PuMix.part, ht, hd]
  refine Ev.step (fun k => by simp only [crosswaylaw22_MixParts.j0, Int.toNat_natCast]; rw [if_neg (by decide)]) ?_
  refine Ev.bind (fold_ev a l (by omega)) (Ev.congr (fun k => by rw [if_pos (by omega), if_pos (by omega)]) ?_)
  refine Ev.bind (fold_ev a _ (by omega)) (Ev.bind (fold_ev _ _ (by omega)) (Ev.congr (fun k => by rw [if_pos (by rw [← foldS_append, List.take_append_drop]), count_eq n (by omega), Option.bind_some]) ?_))
  refine Ev.bind (fold_ev _ _ (by rw [putL_length]; omega)) (Ev.bind (fold_ev _ _ (by omega)) (Ev.congr (fun k => by rw [hw, count_eq _ (by omega), Option.bind_some]) ?_))
  refine Ev.bind (fold_ev _ _ (by rw [putL_length]; omega)) (Ev.bind (fold_ev _ _ (by omega)) ?_)
  refine Ev.bind (mix_ev a _ (by simp) (by intro p hp; simp at hp; rcases hp with rfl | rfl <;> omega)) (Ev.congr (fun k => by rw [end_eq, Option.bind_some, if_pos hk]) ?_)
  exact Ev.bind (mix_ev a [] (by simp) (by simp)) (ev_eq (Ev.now _) (by simp [mixS]; rfl))
end Go.Proofs.Ytbiiccgheblhpaa.Pure
