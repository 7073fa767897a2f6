/- The plain statement of InitialParses: of any bytes, Parse and Type answer what the document says. -/
import Derived.Test.YtmhmmmkpijbbiadM14
import Derived.Test.YtmhmmmkpijbbiadPuInit
namespace Go.Proofs.Ytmhmmmkpijbbiad.Pure
open Go.RowKit Go.Proofs.YtmhmmmkpijbbiadW.PrintWords Go.Proofs.YtmhmmmkpijbbiadW.PrintMore Go.Proofs.Ytmhmmmkpijbbiad.M Go.Proofs.Ytmhmmmkpijbbiad.Bv Go.Proofs.Ytmhmmmkpijbbiad.PuLib Go.Proofs.Ytmhmmmkpijbbiad.PuHead Go.Proofs.Ytmhmmmkpijbbiad.PuVari Go.Proofs.Ytmhmmmkpijbbiad.PuInit
theorem alive_ev : Ev (fun k => crosswaylaw11_alive.f k) true := Ev.of crosswaylaw11_alive.mono (k := 100) (by decide +kernel)
theorem takeV_dec {l : List Int} (hb : By l) : takeV l = (0, 0, 12) ∨ ∃ (n : Int) (s : Nat), takeV l = (n, (s : Int), 0) ∧ 0 ≤ n ∧ s ≤ l.length := by
  unfold takeV
  by_cases h0 : l.length = 0
  · exact .inl (if_pos h0)
  rw [if_neg h0]
  by_cases h1 : l.length < siz (cls l)
  · exact .inl (if_pos h1)
  rw [if_neg h1]
  refine .inr ⟨_, _, rfl, Int.emod_nonneg _ ?_, by omega⟩
  have := lim_pos (cls_lt hb (by omega)).1
  omega
/-- A row behind its count, and what is left. -/
def longS (l : List Int) : List Int × Int × List Int :=
  if (takeV l).2.2 ≠ 0 ∨ (l.length : Int) - (takeV l).2.1 < (takeV l).1 then ([], 12, l) else ((l.drop (takeV l).2.1.toNat).take (takeV l).1.toNat, 0, (l.drop (takeV l).2.1.toNat).drop (takeV l).1.toNat)
theorem rlong_ev (l : List Int) (hb : By l) (hl : l.length ≤ 100000) : Ev (fun k => rdLong k 0 l) (longS l) := by
  have ht := take_ev l hb (by omega)
  unfold longS
  rcases takeV_dec hb with h | ⟨n, s, h, n0, hs⟩
  · rw [h] at ht ⊢
    rw [if_pos (.inl (by decide))]
    have hv : Ev (fun k => rdVari k 0 l) (0, 12, l) := Ev.bind ht (Ev.congr (f := fun _ => some (0, 12, l)) (fun k => by dsimp only; rw [if_pos rfl, if_neg (by decide)]) (Ev.now _))
    exact Ev.bind hv (Ev.congr (f := fun _ => some ([], 12, l)) (fun k => by dsimp only; rw [if_pos (by omega), if_neg (by omega), if_neg (by decide)]) (Ev.now _))
  · rw [h] at ht ⊢
    dsimp only
    have hv : Ev (fun k => rdVari k 0 l) (n, 0, l.drop s) := Ev.bind ht (Ev.congr (f := fun _ => some (n, 0, l.drop s)) (fun k => by dsimp only; rw [if_pos rfl, if_pos rfl, if_pos ⟨by omega, by omega⟩, Int.toNat_natCast]) (Ev.now _))
    have hd : (l.drop s).length = l.length - s := List.length_drop
    by_cases hn : (l.length : Int) - (s : Int) < n
    · rw [if_pos (.inr hn)]
      exact Ev.bind hv (Ev.congr (f := fun _ => some ([], 12, l)) (fun k => by dsimp only; rw [if_pos n0, if_pos (by omega), if_pos rfl]) (Ev.now _))
    · rw [if_neg (by rintro (h | h); exact h rfl; exact hn h), Int.toNat_natCast]
      exact Ev.bind hv (Ev.congr (f := fun _ => some ((l.drop s).take n.toNat, 0, (l.drop s).drop n.toNat)) (fun k => by dsimp only; rw [if_pos n0, if_neg (by omega), if_pos rfl]) (Ev.now _))
theorem rtype_eq {a : Int} (a0 : 0 ≤ a) (a1 : a < 256) : crosswayref11_Type.f a = some (a / 16 % 4) := by
  have h := b_check (p := fun n => Int.tmod (wrap64 (Int.tdiv (wrap64 ((n : Int))) 16)) 4 == (n : Int) / 16 % 4) (by decide +kernel) a0 a1
  rw [beq_iff_eq, Int.toNat_of_nonneg a0] at h
  unfold crosswayref11_Type.f
  rw [h]
theorem wrong_ev {a b : Int} {x y : List Int} (a0 : 0 ≤ a) (a1 : a < 256) : Ev (fun k => crosswayref11_wrong.f k a b x y) (checkS a b x y) := by
  have stop : Ev (fun k => crosswayref11_wrong.j0 k true a b x y) 14 := Ev.step (f := fun _ => some 14) (fun k => by simp only [crosswayref11_wrong.j0]; rfl) (Ev.now _)
  unfold crosswayref11_wrong.f checkS
  by_cases h1 : a < 128
  · rw [if_pos (.inl h1)]
    exact Ev.congr (fun k => if_pos h1) stop
  by_cases h2 : b = 1
  · by_cases h3 : a / 16 % 4 = 0
    · rw [if_neg (by omega)]
      refine Ev.congr (fun k => by rw [if_neg h1, if_pos h2, rtype_eq a0 a1, Option.bind_some, h3]) ?_
      by_cases h4 : x.length > 20
      · rw [if_pos (.inl h4)]
        exact Ev.step (f := fun _ => some 15) (fun k => by simp only [crosswayref11_wrong.j0]; rw [if_neg (by decide), if_pos (by omega)]) (Ev.now _)
      by_cases h5 : y.length > 20
      · rw [if_pos (.inr h5)]
        exact Ev.step (f := fun _ => some 15) (fun k => by simp only [crosswayref11_wrong.j0]; rw [if_neg (by decide), if_neg (by omega), if_pos (by omega)]) (Ev.now _)
      · rw [if_neg (by omega)]
        exact Ev.step (f := fun _ => some 0) (fun k => by simp only [crosswayref11_wrong.j0]; rw [if_neg (by decide), if_neg (by omega), if_neg (by omega)]) (Ev.now _)
    · rw [if_pos (.inr (.inr h3))]
      refine Ev.congr (fun k => by rw [if_neg h1, if_pos h2, rtype_eq a0 a1, Option.bind_some, bne_iff_ne.mpr h3]) stop
  · rw [if_pos (.inr (.inl h2))]
    exact Ev.congr (fun k => by rw [if_neg h1, if_neg h2]) stop
/-- What is parsed of any bytes. -/
def initS (l : List Int) : Int × Int × List Int × List Int × List Int × List Int × Int :=
  if (parseR l).2.2.2.2.2 = 0 then
    (if checkS (parseR l).1 (parseR l).2.1 (parseR l).2.2.1 (parseR l).2.2.2.1 = 0 then
      (if (longS (parseR l).2.2.2.2.1).2.1 = 0 then ((parseR l).1, (parseR l).2.1, (parseR l).2.2.1, (parseR l).2.2.2.1, (longS (parseR l).2.2.2.2.1).1, (longS (parseR l).2.2.2.2.1).2.2, 0) else (0, 0, [], [], [], [], 12))
    else (0, 0, [], [], [], [], checkS (parseR l).1 (parseR l).2.1 (parseR l).2.2.1 (parseR l).2.2.2.1))
  else (0, 0, [], [], [], [], (parseR l).2.2.2.2.2)
theorem longS_or (l : List Int) : (longS l).2.1 = 0 ∨ longS l = ([], 12, l) := by
  unfold longS
  split
  · exact .inr rfl
  · exact .inl rfl
theorem iparse_any (l : List Int) (hb : By l) (hl : l.length ≤ 3000) : Ev (fun k => initial_Parse.f k l) (initS l) := by
  have hp := parse_ev l hb (by omega)
  unfold initS initial_Parse.f
  rcases parse_dec hb with ⟨e, he, h⟩ | ⟨a, b, x, y, rest, h, hl2, a0, a1, b0, b1, lx, ly, bx, by_, br⟩
  · rw [h] at hp ⊢
    dsimp only
    rw [if_neg he]
    exact Ev.bind hp (Ev.congr (f := fun _ => some (0, 0, [], [], [], [], e)) (fun k => if_neg he) (Ev.now _))
  · rw [h] at hp ⊢
    dsimp only
    have hrl : rest.length ≤ 3000 := by
      have : l.length = (enc a b x y).length + rest.length := by rw [hl2, List.length_append]
      omega
    rw [if_pos rfl]
    refine Ev.bind hp (Ev.congr (fun k => if_pos rfl) (Ev.bind (check_ev (a := a) (b := b) (x := x) (y := y) (by omega) a1) ?_))
    by_cases hc : checkS a b x y = 0
    · rw [if_pos hc]
      refine Ev.congr (fun k => by rw [if_pos hc, if_pos (by dsimp only; omega)]) (Ev.bind (rlong_ev rest br (by omega)) (ev_eq (Ev.now _) ?_))
      rcases longS_or rest with h0 | h0
      · rw [if_pos h0, h0, rdBytes_all, if_pos rfl]
      · rw [h0]
        dsimp only
        rw [rdBytes_err (e := 12) (by decide)]
        dsimp only
        rw [if_neg (by decide), if_neg (by decide)]
    · rw [if_neg hc]
      exact Ev.congr (f := fun _ => some (0, 0, [], [], [], [], checkS a b x y)) (fun k => if_neg hc) (Ev.now _)
theorem rparse_any (l : List Int) (hb : By l) (hl : l.length ≤ 3000) : Ev (fun k => crosswayref11_Parse.f k l) (initS l) := by
  have hp := rparse_eq l hb (by omega)
  unfold initS crosswayref11_Parse.f
  refine Ev.congr (fun k => by rw [hp, Option.bind_some]) ?_
  rcases parse_dec hb with ⟨e, he, h⟩ | ⟨a, b, x, y, rest, h, hl2, a0, a1, b0, b1, lx, ly, bx, by_, br⟩
  · rw [h]
    dsimp only
    rw [if_neg he]
    exact Ev.congr (f := fun _ => some (0, 0, [], [], [], [], e)) (fun k => by rw [if_neg he, Option.bind_some, if_neg he]) (Ev.now _)
  · rw [h]
    dsimp only
    have hrl : rest.length ≤ 3000 := by
      have : l.length = (enc a b x y).length + rest.length := by rw [hl2, List.length_append]
      omega
    rw [if_pos rfl]
    refine Ev.congr (fun k => by rw [if_pos rfl]) (Ev.bind (wrong_ev (a := a) (b := b) (x := x) (y := y) (by omega) a1) ?_)
    by_cases hc : checkS a b x y = 0
    · rw [if_pos hc]
      refine Ev.congr (fun k => if_pos hc) (Ev.bind (rtake_ev rest br (by omega)) ?_)
      unfold longS
      rcases takeV_dec br with ht | ⟨n, s, ht, n0, hs⟩
      · rw [ht]
        dsimp only
        have hor : (12 : Int) ≠ 0 ∨ (rest.length : Int) - 0 < 0 := .inl (by decide)
        refine Ev.congr (fun k => if_pos ⟨by omega, by omega, by omega⟩) ?_
        refine Ev.congr (f := fun _ => some (0, 0, [], [], [], [], 12)) (fun k => if_pos hor) (ev_eq (Ev.now _) ?_)
        rw [if_pos hor]
        rfl
      · rw [ht]
        dsimp only
        refine Ev.congr (fun k => if_pos ⟨by omega, by omega, n0⟩) ?_
        by_cases hn : (rest.length : Int) - (s : Int) < n
        · have hor : (0 : Int) ≠ 0 ∨ (rest.length : Int) - (s : Int) < n := .inr hn
          refine Ev.congr (f := fun _ => some (0, 0, [], [], [], [], 12)) (fun k => if_pos hor) (ev_eq (Ev.now _) ?_)
          rw [if_pos hor]
          rfl
        · have hnn : ¬ ((0 : Int) ≠ 0 ∨ (rest.length : Int) - (s : Int) < n) := by
            rintro (h | h)
            · exact h rfl
            · exact hn h
          refine Ev.congr (f := fun _ => some (a, b, x, y, (rest.drop (s : Int).toNat).take n.toNat, (rest.drop (s : Int).toNat).drop n.toNat, 0)) (fun k => if_neg hnn) (ev_eq (Ev.now _) ?_)
          rw [if_neg hnn]
          rfl
    · rw [if_neg hc]
      exact Ev.congr (f := fun _ => some (0, 0, [], [], [], [], checkS a b x y)) (fun k => if_neg hc) (Ev.now _)
theorem initS_len (l : List Int) (hb : By l) (hl : l.length ≤ 3000) : (initS l).2.2.1.length ≤ 3000 ∧ (initS l).2.2.2.1.length ≤ 3000 ∧ (initS l).2.2.2.2.1.length ≤ 3000 ∧ (initS l).2.2.2.2.2.1.length ≤ 3000 := by
  unfold initS
  rcases parse_dec hb with ⟨e, he, h⟩ | ⟨a, b, x, y, rest, h, hl2, a0, a1, b0, b1, lx, ly, bx, by_, br⟩
  · rw [h]
    dsimp only
    rw [if_neg he]
    simp
  · rw [h]
    dsimp only
    have hrl : rest.length ≤ 3000 := by
      have : l.length = (enc a b x y).length + rest.length := by rw [hl2, List.length_append]
      omega
    have hlo : (longS rest).1.length ≤ 3000 ∧ (longS rest).2.2.length ≤ 3000 := by
      unfold longS
      split
      · exact ⟨by simp, hrl⟩
      · simp only [List.length_take, List.length_drop]
        omega
    rw [if_pos rfl]
    split
    · split
      · exact ⟨by dsimp only; omega, by dsimp only; omega, hlo.1, hlo.2⟩
      · simp
    · simp
theorem same_refl (a b : Int) (x y t z : List Int) : crosswayref11_Same.f a b x y t z a b x y t z = some true := by
  unfold crosswayref11_Same.f
  rw [rsame_refl, Option.bind_some, if_pos rfl, if_pos rfl]
  simp
theorem InitialParses : crosswaylaw11_InitialParses.Pure := by
  intro l a lm hw aw
  have hb : By l := fun x h => wf_u8 (hw x h)
  have ha := wf_u8 aw
  by_cases hl : 3000 < l.length
  · obtain ⟨K, h⟩ := alive_ev
    refine ⟨K, ?_⟩
    unfold crosswaylaw11_InitialParses.f
    rw [if_pos (h K (Nat.le_refl _)), if_pos hl]
  obtain ⟨K1, h1⟩ := alive_ev
  obtain ⟨K2, h2⟩ := same_ev l l (by omega)
  obtain ⟨K3, h3⟩ := iparse_any l hb (by omega)
  obtain ⟨K4, h4⟩ := rparse_any l hb (by omega)
  refine ⟨K1 + K2 + K3 + K4, ?_⟩
  have e1 : crosswaylaw11_alive.f (K1 + K2 + K3 + K4) = some true := h1 _ (by omega)
  have e2 : crosswayref00_SameBytes.f (K1 + K2 + K3 + K4) l l = some (decide (l = l)) := h2 _ (by omega)
  have e3 : initial_Parse.f (K1 + K2 + K3 + K4) l = some (initS l) := h3 _ (by omega)
  have e4 : crosswayref11_Parse.f (K1 + K2 + K3 + K4) l = some (initS l) := h4 _ (by omega)
  obtain ⟨q1, q2, q3, q4⟩ := initS_len l hb (by omega)
  unfold crosswaylaw11_InitialParses.f
  rw [if_pos e1, if_neg hl, if_pos ⟨copy_eq l (by omega), by rw [e2, decide_eq_true rfl]⟩, type_eq ha.1 ha.2, Option.bind_some, if_pos (rtype_eq ha.1 ha.2), e3, Option.bind_some, e4, Option.bind_some]
  have ho : crosswaylaw11_Of.f (initS l).1 (initS l).2.1 (initS l).2.2.1 (initS l).2.2.2.1 (initS l).2.2.2.2.1 (initS l).2.2.2.2.2.1 = some ((initS l).1, (initS l).2.1, (initS l).2.2.1, (initS l).2.2.2.1, (initS l).2.2.2.2.1, (initS l).2.2.2.2.2.1) := by
    unfold crosswaylaw11_Of.f
    rw [of_eq _ _ _ _ (by omega) (by omega), Option.bind_some, copy_eq _ (by omega), Option.bind_some, copy_eq _ (by omega), Option.bind_some]
  rw [ho, Option.bind_some, if_pos ⟨rfl, same_refl _ _ _ _ _ _⟩]
end Go.Proofs.Ytmhmmmkpijbbiad.Pure
