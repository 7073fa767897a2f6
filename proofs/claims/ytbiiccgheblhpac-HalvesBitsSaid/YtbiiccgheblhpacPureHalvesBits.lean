/- The plain statement of HalvesBits: trimming changes four bits at most; a block has the half, noughts and two numbers. -/
import Derived.Test.YtbiiccgheblhpacM11
import Derived.Test.YtbiiccgheblhpacPuHalves
namespace Go.Proofs.Ytbiiccgheblhpac.Pure
open Go.RowKit Go.Proofs.YtbiiccgheblhpacW.PrintWords Go.Proofs.YtbiiccgheblhpacW.PrintMore Go.Proofs.Ytbiiccgheblhpac.M Go.Proofs.Ytbiiccgheblhpac.Bv Go.Proofs.Ytbiiccgheblhpac.PuLib Go.Proofs.Ytbiiccgheblhpac.PuHalves
theorem xor_self {x : Int} (h0 : 0 ≤ x) (h1 : x < 256) : Go.bits .xor .u8 x x = 0 := by
  have h := b_check (p := fun n => Go.bits .xor .u8 (n : Int) (n : Int) == 0) (by decide +kernel) h0 h1
  rw [beq_iff_eq, Int.toNat_of_nonneg h0] at h
  exact h
theorem xor_left {x : Int} (h0 : 0 ≤ x) (h1 : x < 256) : Go.bits .xor .u8 (x / 16 * 16) x = x % 16 := by
  have h := b_check (p := fun n => Go.bits .xor .u8 ((n : Int) / 16 * 16) (n : Int) == (n : Int) % 16) (by decide +kernel) h0 h1
  rw [beq_iff_eq, Int.toNat_of_nonneg h0] at h
  exact h
theorem xor_right {x : Int} (h0 : 0 ≤ x) (h1 : x < 256) : Go.bits .xor .u8 (x % 16) x = x / 16 * 16 := by
  have h := b_check (p := fun n => Go.bits .xor .u8 ((n : Int) % 16) (n : Int) == (n : Int) / 16 * 16) (by decide +kernel) h0 h1
  rw [beq_iff_eq, Int.toNat_of_nonneg h0] at h
  exact h
theorem rd_app (a b : List Int) (i : Nat) (h : i < a.length) : rd (a ++ b) (i : Int) = rd a (i : Int) := by
  rw [rd_nat, rd_nat, List.getD_eq_getElem?_getD, List.getD_eq_getElem?_getD, List.getElem?_append_left h]
theorem rd_consS (x : Int) (b : List Int) (i : Nat) : rd (x :: b) ((i + 1 : Nat) : Int) = rd b (i : Int) := rfl
/-- The trimmed byte beside the byte. -/
theorem bits_at (l : List Int) (n : Int) (left : Bool) (hb : By l) (i : Nat) (hi : i < l.length) :
    Go.bits .xor .u8 (rd (halves_Trim.cut l n left) (i : Int)) (rd l (i : Int)) = 0 ∨ (¬ n % 2 = 0 ∧ left = true ∧ i + 1 = l.length ∧ Go.bits .xor .u8 (rd (halves_Trim.cut l n left) (i : Int)) (rd l (i : Int)) ≤ 15) ∨ (¬ n % 2 = 0 ∧ left = false ∧ i = 0 ∧ Int.tmod (Go.bits .xor .u8 (rd (halves_Trim.cut l n left) (i : Int)) (rd l (i : Int))) 16 = 0) := by
  by_cases hz : n % 2 = 0
  · rw [cut_even l left hz]
    have hx := hb _ (rd_mem l i hi)
    exact .inl (xor_self hx.1 hx.2)
  cases left with
  | true =>
    obtain ⟨a, x, rfl⟩ := snoc_of (l := l) (by omega)
    have hx := hb x (by simp)
    have hl : (a ++ [x]).length = a.length + 1 := by simp
    rw [cut_left a x hz hx.1 hx.2]
    by_cases c : i < a.length
    · rw [rd_app a _ i c, rd_app a _ i c]
      have hy := hb.left _ (rd_mem a i c)
      exact .inl (xor_self hy.1 hy.2)
    · obtain rfl : i = a.length := by omega
      rw [rd_last, rd_last, xor_left hx.1 hx.2]
      exact .inr (.inl ⟨hz, rfl, by omega, by omega⟩)
  | false =>
    obtain ⟨x, b, rfl⟩ := cons_of (l := l) (by omega)
    have hx := hb.head
    rw [cut_right b x hz hx.1 hx.2]
    cases i with
    | zero =>
      have e1 : rd (x % 16 :: b) ((0 : Nat) : Int) = x % 16 := rfl
      have e2 : rd (x :: b) ((0 : Nat) : Int) = x := rfl
      rw [e1, e2, xor_right hx.1 hx.2]
      exact .inr (.inr ⟨hz, rfl, rfl, by rw [Int.tmod_eq_emod_of_nonneg (by omega)]; omega⟩)
    | succ j =>
      simp only [List.length_cons] at hi
      rw [rd_consS, rd_consS]
      have hy := hb.tail _ (rd_mem b j (by omega))
      exact .inl (xor_self hy.1 hy.2)
theorem rd_rep (a : List Int) (d : Nat) (t : List Int) (i : Nat) (h0 : a.length ≤ i) (h1 : i < a.length + d) : rd (a ++ (List.replicate d 0 ++ t)) (i : Int) = 0 := by
  rw [rd_nat, List.getD_eq_getElem?_getD, List.getElem?_append_right h0, List.getElem?_append_left (by rw [List.length_replicate]; omega), List.getElem?_replicate, if_pos (by omega)]
  rfl
theorem noughts_l1 (a : List Int) (t : List Int) (ha : a.length ≤ 14) (ht : t.length = 2) : ∀ d i : Nat, i + d = 14 → a.length ≤ i → Ev (fun k => crosswaylaw14_HalvesBits.l1 k (a ++ (List.replicate (14 - a.length) 0 ++ t)) (i : Int)) true := by
  intro d
  have hl : (a ++ (List.replicate (14 - a.length) 0 ++ t)).length = 16 := by simp only [List.length_append, List.length_replicate]; omega
  induction d with
  | zero =>
    intro i hi _
    exact Ev.step (f := fun _ => some true) (fun k => by simp only [crosswaylaw14_HalvesBits.l1]; rw [if_neg (by omega)]) (Ev.now _)
  | succ d ih =>
    intro i hi h2
    have hr := rd_rep a (14 - a.length) t i h2 (by omega)
    exact Ev.step (fun k => by simp only [crosswaylaw14_HalvesBits.l1]; rw [if_pos (by omega), if_pos (by omega), if_pos (by omega), if_pos hr, w64_up i (by omega)]) (ih (i + 1) (by omega) (by omega))
theorem bits_end (l : List Int) (n : Int) (left : Bool) (p : Int) (hf : fitP n l) (hp : 0 ≤ p) (hp2 : p < 256) (k0 : Nat) (hk : k0 = l.length) :
    Ev (fun k => crosswaylaw14_HalvesBits.l0 k l n left p (halves_Trim.cut l n left) (k0 : Int)) true := by
  obtain ⟨h2, h28, h3⟩ := id hf
  have hw : wrap64 p = p := w64_in _ (by omega) (by omega)
  have hc := cut_length l n left
  have hf2 : fitP n (halves_Trim.cut l n left) := ⟨h2, h28, by rw [hc]; exact h3⟩
  have hB := block_ev (halves_Trim.cut l n left) n p
  rw [blockS, if_pos ⟨hf2, hp, by omega⟩] at hB
  generalize halves_Trim.cut l n left = t at hc hf2 hB ⊢
  have hl : (t ++ (List.replicate (14 - t.length) 0 ++ [n, p])).length = 16 := by simp only [List.length_append, List.length_replicate, List.length_cons, List.length_nil]; omega
  have e0 : (t ++ (List.replicate (14 - t.length) 0 ++ [n, p])) = (t ++ List.replicate (14 - t.length) 0) ++ n :: [p] := by simp
  have e1 : (t ++ List.replicate (14 - t.length) 0).length = 14 := by simp only [List.length_append, List.length_replicate]; omega
  have r14 : rd (t ++ (List.replicate (14 - t.length) 0 ++ [n, p])) 14 = n := by
    have := rd_mid (t ++ List.replicate (14 - t.length) 0) [p] n
    rw [e1] at this
    rw [e0]
    exact this
  have r15 : rd (t ++ (List.replicate (14 - t.length) 0 ++ [n, p])) 15 = p := by
    have := rd_last ((t ++ List.replicate (14 - t.length) 0) ++ [n]) p
    rw [List.length_append, e1, List.append_assoc] at this
    rw [e0]
    exact this
  have ht : (t ++ (List.replicate (14 - t.length) 0 ++ [n, p])).take (t.length : Int).toNat = t := by rw [Int.toNat_natCast, List.take_left]
  refine Ev.step (fun k => by simp only [crosswaylaw14_HalvesBits.l0]; rw [if_neg (by omega), hw]) (Ev.bind hB ?_)
  refine Ev.congr (fun k => by dsimp only; rw [if_pos rfl, if_pos (by omega), if_pos (by omega), if_pos (by rw [r14]; omega), if_pos (by omega), if_pos r15, if_pos (by omega), if_pos (by omega), ht]) (Ev.bind (same_self t (by omega)) ?_)
  exact Ev.step (fun k => by simp only [crosswaylaw14_HalvesBits.j1]; rw [if_neg (by decide)]) (noughts_l1 t [n, p] (by omega) rfl (14 - t.length) t.length (by omega) (Nat.le_refl _))
theorem bits_l0 (l : List Int) (n : Int) (left : Bool) (p : Int) (hb : By l) (hf : fitP n l) (hp : 0 ≤ p) (hp2 : p < 256) : ∀ d i : Nat, i + d = l.length → Ev (fun k => crosswaylaw14_HalvesBits.l0 k l n left p (halves_Trim.cut l n left) (i : Int)) true := by
  intro d
  have hc := cut_length l n left
  obtain ⟨h2, h28, h3⟩ := id hf
  have hm : Int.tmod n 2 = n % 2 := Int.tmod_eq_emod_of_nonneg (by omega)
  induction d with
  | zero => intro i hi; exact bits_end l n left p hf hp hp2 i (by omega)
  | succ d ih =>
    intro i hi
    have hS := ih (i + 1) (by omega)
    rcases bits_at l n left hb i (by omega) with h | ⟨g1, rfl, g2, g3⟩ | ⟨g1, rfl, g2, g3⟩
    · exact Ev.step (fun k => by simp only [crosswaylaw14_HalvesBits.l0]; rw [if_pos (by omega), if_pos (by omega), if_pos (by omega), if_pos h, w64_up i (by omega)]) hS
    · by_cases h : Go.bits .xor .u8 (rd (halves_Trim.cut l n true) (i : Int)) (rd l (i : Int)) = 0
      · exact Ev.step (fun k => by simp only [crosswaylaw14_HalvesBits.l0]; rw [if_pos (by omega), if_pos (by omega), if_pos (by omega), if_pos h, w64_up i (by omega)]) hS
      · have hw : wrap64 ((l.length : Int) - 1) = (l.length : Int) - 1 := w64_in _ (by omega) (by omega)
        exact Ev.step (fun k => by simp only [crosswaylaw14_HalvesBits.l0]; rw [if_pos (by omega), if_pos (by omega), if_pos (by omega), if_neg h, if_neg (by omega), if_pos trivial, hw, if_pos (by omega), if_neg (by omega), w64_up i (by omega)]) hS
    · by_cases h : Go.bits .xor .u8 (rd (halves_Trim.cut l n false) (i : Int)) (rd l (i : Int)) = 0
      · exact Ev.step (fun k => by simp only [crosswaylaw14_HalvesBits.l0]; rw [if_pos (by omega), if_pos (by omega), if_pos (by omega), if_pos h, w64_up i (by omega)]) hS
      · exact Ev.step (fun k => by simp only [crosswaylaw14_HalvesBits.l0]; rw [if_pos (by omega), if_pos (by omega), if_pos (by omega), if_neg h, if_neg (by omega), if_neg (by decide), if_pos (by omega), if_pos g3, w64_up i (by omega)]) hS
theorem HalvesBits : crosswaylaw14_HalvesBits.Pure := by
  intro l n left p hl hw hn hp
  have hb : By l := fun x h => wf_u8 (hw x h)
  have hn2 := wf_i64 hn
  have hp2 := wf_u8 hp
  refine Ev.rounds (Ev.congr (fun k => rfl) (Ev.bind alive_ev (Ev.congr (fun k => if_pos rfl) ?_)))
  by_cases h1 : (l.length : Int) > 100
  · exact Ev.congr (fun k => if_pos h1) (Ev.now _)
  refine Ev.congr (fun k => by rw [if_neg h1, trim_eq, Option.bind_some]) ?_
  by_cases c : fitP n l
  · rw [trimS, if_pos c]
    exact Ev.congr (fun k => if_pos rfl) (bits_l0 l n left p hb c hp2.1 hp2.2 l.length 0 (by omega))
  · rw [trimS, if_neg c]
    refine Ev.congr (f := fun _ => some true) (fun k => ?_) (Ev.now _)
    dsimp only
    rw [if_neg (by decide), if_pos rfl]
    by_cases c1 : n < 2
    · rw [if_pos c1]
    by_cases c2 : n > 28
    · rw [if_neg c1, if_pos c2]
    have hS : sizeS n = n - n / 2 := if_neg (by omega)
    rw [if_neg c1, if_neg c2, size_eq n (by omega), Option.bind_some, hS, bne_iff_ne.2 (fun h => c ⟨by omega, by omega, h⟩)]
end Go.Proofs.Ytbiiccgheblhpac.Pure
