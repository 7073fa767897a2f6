/- The reference's header, read as the program reads it; bytes behind a first one; the reference's bytes of a header. -/
import Derived.Test.YtmhmmmkpijbbiadPuHead
namespace Go.Proofs.Ytmhmmmkpijbbiad.PuHead
open Go.RowKit Go.Proofs.YtmhmmmkpijbbiadW.PrintWords Go.Proofs.YtmhmmmkpijbbiadW.PrintMore Go.Proofs.Ytmhmmmkpijbbiad.M Go.Proofs.Ytmhmmmkpijbbiad.Bv Go.Proofs.Ytmhmmmkpijbbiad.PuLib Go.Proofs.Ytmhmmmkpijbbiad.PuCat
theorem refId_short (X : List Int) (hb : By X) : ∃ r s ok, refId X = some (r, s, ok) ∧ shortR 0 X = (if ok = true then (r, 0, s) else ([], 12, X)) ∧ By s := by
  cases X with
  | nil => exact ⟨[], [], false, rfl, shortR_nil, fun z hz => by cases hz⟩
  | cons p X =>
    have hp := hb p (List.mem_cons_self)
    have hx : By X := fun z hz => hb z (List.mem_cons_of_mem _ hz)
    by_cases h : (X.length : Int) < p
    · refine ⟨[], [], false, ?_, ?_, fun z hz => by cases hz⟩
      · unfold refId; dsimp only; rw [if_pos (by omega), if_pos h]
      · rw [shortR_cons, if_pos h]; rfl
    · refine ⟨X.take p.toNat, X.drop p.toNat, true, ?_, ?_, hx.drop _⟩
      · unfold refId; dsimp only; rw [if_pos (by omega), if_neg h]
      · rw [shortR_cons, if_neg h]; rfl
theorem rparse_eq (l : List Int) (hb : By l) (hl : l.length ≤ 1000000) : crosswayref10_Parse.f l = some (parseR l) := by
  have i1 : ((1 : Nat) : Int) = 1 := rfl
  have i4 : ((4 : Nat) : Int) = 4 := rfl
  unfold crosswayref10_Parse.f
  rw [if_pos (by omega)]
  have fail : ∀ {n1 : Int × Int × List Int} {e : Int}, e ≠ 0 → numR 0 l 1 = n1 → ¬ (0 < l.length ∧ rd l 0 < 128) → (shortR (shortR (numR n1.2.1 n1.2.2 4).2.1 (numR n1.2.1 n1.2.2 4).2.2).2.1 (shortR (numR n1.2.1 n1.2.2 4).2.1 (numR n1.2.1 n1.2.2 4).2.2).2.2).2.1 = e → parseR l = (0, 0, [], [], [], e) := by
    intro n1 e he h1 hk h2
    rw [parseR, if_neg hk, h1]
    dsimp only
    rw [h2, rdBytes_err he, if_neg he]
  cases l with
  | nil =>
    have n1 := numR_end [] 1 (by omega) (by simp)
    rw [i1] at n1
    rw [if_pos (show ([] : List Int).length = 0 from rfl), fail (e := 12) (by decide) n1 (by simp) (by dsimp only; rw [numR_err (by decide), shortR_err (by decide), shortR_err (by decide)])]
  | cons a t =>
    have ha := hb a (List.mem_cons_self)
    have ht : By t := fun z hz => hb z (List.mem_cons_of_mem _ hz)
    have hr : rd (a :: t) 0 = a := rfl
    rw [if_neg (by simp), hr]
    by_cases hk : a < 128
    · rw [if_pos hk, parseR, if_pos ⟨by simp, hk⟩]
    have hk' : ¬ (0 < (a :: t).length ∧ rd (a :: t) 0 < 128) := fun h => hk h.2
    have n1 := numR_ok (a :: t) 1 (by omega) (by simp)
    have h2 : (a :: t).take 1 = [a] := rfl
    have h3 : (a :: t).drop 1 = t := rfl
    rw [i1, h2, h3, numS_one] at n1
    rw [if_neg hk]
    by_cases h4 : t.length < 4
    · have n2 := numR_end t 4 (by omega) h4
      rw [i4] at n2
      rw [if_pos (by rw [List.length_cons]; omega), fail (e := 12) (by decide) n1 hk' (by dsimp only; rw [n2]; dsimp only; rw [shortR_err (e := 12) (by decide) t]; dsimp only; rw [shortR_err (e := 12) (by decide) t])]
    rw [if_neg (by rw [List.length_cons]; omega)]
    rcases t with _ | ⟨p1, _ | ⟨p2, _ | ⟨p3, _ | ⟨p4, X⟩⟩⟩⟩
    · simp at h4
    · simp at h4
    · simp at h4
    · simp at h4
    have hb1 := ht p1 (by simp)
    have hb2 := ht p2 (by simp)
    have hb3 := ht p3 (by simp)
    have hb4 := ht p4 (by simp)
    have hX : By X := fun z hz => ht z (by simp [hz])
    have h4b : bytes4 (a :: p1 :: p2 :: p3 :: p4 :: X) := by
      intro n hn
      have : n = 0 ∨ n = 1 ∨ n = 2 ∨ n = 3 := by omega
      rcases this with rfl | rfl | rfl | rfl <;> simp [rd] <;> omega
    have hv : verTo (a :: p1 :: p2 :: p3 :: p4 :: X) 4 = numS [p1, p2, p3, p4] := by simp [verTo, numS, rd]
    have n2 := numR_ok (p1 :: p2 :: p3 :: p4 :: X) 4 (by omega) (by simp)
    have h5 : (p1 :: p2 :: p3 :: p4 :: X).take 4 = [p1, p2, p3, p4] := rfl
    have h6 : (p1 :: p2 :: p3 :: p4 :: X).drop 4 = X := rfl
    have h7 : (a :: p1 :: p2 :: p3 :: p4 :: X).drop 5 = X := rfl
    rw [i4, h5, h6] at n2
    have hn : 0 ≤ numS [p1, p2, p3, p4] ∧ numS [p1, p2, p3, p4] < 4294967296 := by
      have := numS_range [p1, p2, p3, p4] (by intro z hz; simp at hz; rcases hz with rfl | rfl | rfl | rfl <;> assumption)
      have e : (256 : Int) ^ ([p1, p2, p3, p4] : List Int).length = 4294967296 := by show (256 : Int) ^ 4 = _; decide
      rw [e] at this
      exact this
    obtain ⟨r, s, ok, q1, q2, hs⟩ := refId_short X hX
    obtain ⟨r2, s2, ok2, q3, q4, hs2⟩ := refId_short s hs
    rw [if_pos h4b, h7, q1, Option.bind_some]
    dsimp only
    rw [parseR, if_neg hk', n1]
    dsimp only
    rw [n2]
    dsimp only
    rw [q2, hv]
    cases ok with
    | false =>
      simp only [Bool.false_eq_true, if_false, false_and, Option.bind_some]
      rw [shortR_err (by decide)]
      dsimp only
      rw [rdBytes_err (by decide)]
      exact (congrArg some (if_neg (show ¬ ((12 : Int) = 0) by decide))).symm
    | true =>
      simp only [if_true, true_and]
      rw [q3, Option.bind_some]
      dsimp only
      rw [q4]
      cases ok2 with
      | false =>
        simp only [Bool.false_eq_true, if_false]
        rw [rdBytes_err (by decide)]
        exact (congrArg some (if_neg (show ¬ ((12 : Int) = 0) by decide))).symm
      | true =>
        simp only [if_true]
        rw [rdBytes_all, if_pos rfl, Int.emod_eq_of_lt ha.1 ha.2, Int.emod_eq_of_lt hn.1 hn.2]
theorem of_eq (a b : Int) (x y : List Int) (hx : x.length ≤ 1000000) (hy : y.length ≤ 1000000) : crosswaylaw10_Of.f a b x y = some (a, b, x, y) := by
  unfold crosswaylaw10_Of.f
  rw [copy_eq x (by omega), Option.bind_some, copy_eq y (by omega), Option.bind_some]
theorem rsame_refl (a b : Int) (x y : List Int) : crosswayref10_Same.f a b x y a b x y = some true := by
  unfold crosswayref10_Same.f
  rw [if_pos rfl, if_pos rfl, if_pos rfl]
  simp
theorem rsame_eq {a b a' b' : Int} {x y x' y' : List Int} (hx : By x) (hy : By y) (hx' : By x') (hy' : By y') : crosswayref10_Same.f a b x y a' b' x' y' = some (decide (a = a' ∧ b = b' ∧ x = x' ∧ y = y')) := by
  unfold crosswayref10_Same.f
  by_cases h1 : a = a'
  · by_cases h2 : b = b'
    · by_cases h3 : x = x'
      · rw [if_pos h1, if_pos h2, if_pos ((strOfNums_inj hx hx').2 h3)]
        congr 1
        rw [Bool.eq_iff_iff, beq_iff_eq, decide_eq_true_iff, strOfNums_inj hy hy']
        exact ⟨fun h => ⟨h1, h2, h3, h⟩, fun h => h.2.2.2⟩
      · rw [if_pos h1, if_pos h2, if_neg (fun h => h3 ((strOfNums_inj hx hx').1 h)), decide_eq_false (fun h => h3 h.2.2.1)]
    · rw [if_pos h1, if_neg h2, decide_eq_false (fun h => h2 h.2.1)]
  · rw [if_neg h1, decide_eq_false (fun h => h1 h.1)]
end Go.Proofs.Ytmhmmmkpijbbiad.PuHead
