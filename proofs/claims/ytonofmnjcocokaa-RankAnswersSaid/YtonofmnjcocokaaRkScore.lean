/- rank: an entry's score. Written by wip/gen/rkscore.py. -/
import Derived.Test.YtonofmnjcocokaaMB
import Derived.Test.YtonofmnjcocokaaPuMix
import Derived.Test.YtonofmnjcocokaaXWords
namespace Go.Proofs.Ytonofmnjcocokaa.Rk
open Go.RowKit Go.Proofs.YtonofmnjcocokaaW.PrintWords Go.Proofs.YtonofmnjcocokaaW.PrintLast Go.Proofs.YtonofmnjcocokaaW.PrintMore Go.Proofs.Ytonofmnjcocokaa.X Go.Proofs.Ytonofmnjcocokaa.M Go.Proofs.Ytonofmnjcocokaa.Bv Go.Proofs.Ytonofmnjcocokaa.PuLib Go.Proofs.Ytonofmnjcocokaa.PuMix
set_option linter.unusedVariables false
set_option linter.unusedSimpArgs false
/-- The best of the mixes so far. -/
def scS (seed : Int) (key : List Int) (id : Int) : Nat → Int
  | 0 => 0
  | m + 1 => max (scS seed key id m) (mixS seed [key, [id % 256], [(m : Int) % 256]])
def rightS (id w : Int) : Bool := decide (0 ≤ id ∧ id < 64 ∧ 1 ≤ w ∧ w ≤ 16)
def scoreS (seed : Int) (key : List Int) (id w : Int) : Int × Bool := if rightS id w = true then (scS seed key id w.toNat, true) else (0, false)
theorem right_eq (id w : Int) : rank_Entry_right.f id w = some (rightS id w) := by
  unfold rank_Entry_right.f rightS
  by_cases h1 : id ≥ 0
  · by_cases h2 : id < 64
    · by_cases h3 : w ≥ 1
      · rw [if_pos h1, if_pos h2, if_pos h3]
        congr 1
        by_cases h4 : w ≤ 16
        · rw [decide_eq_true h4, decide_eq_true ⟨h1, h2, h3, h4⟩]
        · rw [decide_eq_false h4, decide_eq_false (fun h => h4 h.2.2.2)]
      · rw [if_pos h1, if_pos h2, if_neg h3, decide_eq_false (fun h => h3 h.2.2.1)]
    · rw [if_pos h1, if_neg h2, decide_eq_false (fun h => h2 h.2.1)]
  · rw [if_neg h1, decide_eq_false (fun h => h1 h.1)]
theorem score_l0 (seed : Int) (key : List Int) (id : Int) (hk : key.length ≤ 9223372036854775807) (w : Nat) (hw : w ≤ 16) : ∀ d i : Nat, i + d = w → Ev (fun k => rank_Score.l0 k seed key (scS seed key id i) (w : Int) (i : Int) id (w : Int)) (scS seed key id w, true) := by
  intro d
  induction d with
  | zero =>
    intro i hi
    obtain rfl : i = w := by omega
    exact Ev.step (f := fun _ => some (scS seed key id i, true)) (fun k => by simp only [rank_Score.l0]; rw [if_neg (by omega)]) (Ev.now _)
  | succ d ih =>
    intro i hi
    have hm := mix_ev seed [key, [id % 256], [(i : Int) % 256]] (by simp) (by
      intro p hp
      simp only [List.mem_cons, List.not_mem_nil, or_false] at hp
      rcases hp with rfl | rfl | rfl
      · exact hk
      · simp
      · simp)
    have hx : mx (scS seed key id i) (mixS seed [key, [id % 256], [(i : Int) % 256]]) = scS seed key id (i + 1) := by
      show mx _ _ = max _ _
      unfold mx
      rw [Int.max_def]
      split <;> split <;> omega
    refine Ev.step (fun k => by simp only [rank_Score.l0]; rw [if_pos (by omega)]) (Ev.bind hm ?_)
    refine Ev.congr (fun k => by rw [hx, w64_up i (by omega)]) (ih (i + 1) (by omega))
theorem score_ev (seed : Int) (key : List Int) (id w : Int) (hk : key.length ≤ 9223372036854775807) : Ev (fun k => rank_Score.f k seed key id w) (scoreS seed key id w) := by
  unfold scoreS
  by_cases h : rightS id w = true
  · rw [if_pos h]
    have h2 := of_decide_eq_true h
    obtain ⟨n, rfl⟩ := Int.eq_ofNat_of_zero_le (show 0 ≤ w by omega)
    refine Ev.congr (fun k => by rw [rank_Score.f, right_eq, Option.bind_some, if_pos h]) ?_
    exact score_l0 seed key id hk n (by omega) n 0 (by omega)
  · rw [if_neg h]
    exact Ev.congr (fun k => by rw [rank_Score.f, right_eq, Option.bind_some, if_neg h]) (Ev.now _)
/-- A heavier entry scores no less. -/
theorem scS_mono (seed : Int) (key : List Int) (id : Int) : ∀ m d, scS seed key id m ≤ scS seed key id (m + d)
  | m, 0 => Int.le_refl _
  | m, d + 1 => Int.le_trans (scS_mono seed key id m d) (Int.le_max_left _ _)
theorem score_calls (seed : Int) (key : List Int) (p : Nat) (hp : p = key.length) (id w : Int) (A : Option Addr) (c : Nat) (W : World) (ok : Nat → Prop) (hF : Kd.F (Kd.int .u8) W ok A p key) (hc : p ≤ c) :
    Calls Try.prog 9 #[.int .u64 seed, .slice A p c, .agg #[.int .i64 id, .int .i64 w]] W fun e W' => e = .returned (.tuple #[.int .u64 (scoreS seed key id w).1, .bool (scoreS seed key id w).2]) ∧ Below W.heap.size W W' := by
  subst hp
  obtain ⟨k, hk⟩ := Ev.rounds (score_ev seed key id w (Kd.F_max hF))
  exact rank_Score.calls k seed ok A c key id w _ _ W (Kd.V_mk hc hF) hk
end Go.Proofs.Ytonofmnjcocokaa.Rk
