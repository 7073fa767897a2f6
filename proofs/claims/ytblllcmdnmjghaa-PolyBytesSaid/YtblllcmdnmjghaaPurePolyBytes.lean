/- The plain statement of PolyBytes: bytes come back, powers are the field's. -/
import Derived.Test.YtblllcmdnmjghaaM8
import Derived.Test.YtblllcmdnmjghaaPuPoly
import Derived.Test.YtblllcmdnmjghaaPuCat
namespace Go.Proofs.Ytblllcmdnmjghaa.Pure
open Go.RowKit Go.Proofs.YtblllcmdnmjghaaW.PrintWords Go.Proofs.YtblllcmdnmjghaaW.PrintMore Go.Proofs.Ytblllcmdnmjghaa.M Go.Proofs.Ytblllcmdnmjghaa.Bv Go.Proofs.Ytblllcmdnmjghaa.Gf Go.Proofs.Ytblllcmdnmjghaa.ArrW Go.Proofs.Ytblllcmdnmjghaa.ArrX Go.Proofs.Ytblllcmdnmjghaa.PuLib Go.Proofs.Ytblllcmdnmjghaa.PuCat Go.Proofs.Ytblllcmdnmjghaa.PuPoly
theorem nOf_E2 {x : Nat} : nOf (E x).1 (E x).2 = x := by
  show nOf ((x / 18446744073709551616 : Nat) : Int) ((x % 18446744073709551616 : Nat) : Int) = x
  unfold nOf
  omega
theorem putL_be (h : Int) : ∀ s, s ≤ 8 → putL h s = (List.range s).map fun j => byteAt h (s - 1 - j)
  | 0, _ => rfl
  | s + 1, hs => by
    have e : (256 : Int) ^ s = 2 ^ (8 * s) := by rw [Int.pow_mul]; rfl
    rw [putL, putL_be h s (by omega), List.range_succ_eq_map, List.map_cons, List.map_map, e]
    show byteAt h s :: _ = byteAt h (s + 1 - 1 - 0) :: _
    rw [show s + 1 - 1 - 0 = s by omega]
    congr 1
    apply List.map_congr_left
    intro j hj
    show byteAt h (s - 1 - j) = byteAt h (s + 1 - 1 - (j + 1))
    rw [show s - 1 - j = s + 1 - 1 - (j + 1) by omega]
theorem putL_8 (h : Int) : putL h 8 = beN h 8 := putL_be h 8 (by omega)
theorem bytes_E (x : Nat) : putL (E x).1 8 ++ putL (E x).2 8 = bytesN x := by
  rw [putL_8, putL_8]
  exact words_bytes x
theorem bytes_ev {x : Nat} (hx : x < top) : Ev (fun k => poly_Elem_Bytes.f k (E x).1 (E x).2) (bytesN x) := by
  obtain ⟨a1, a2⟩ := word_lt hx
  have p1 := put_ev (E x).1 8 a1.1 a1.2
  have p2 := put_ev (E x).2 8 a2.1 a2.2
  have e1 : putS (E x).1 8 = (putL (E x).1 8, 0) := if_pos ⟨by omega, by omega, by have := a1.2; show (E x).1 < 256 ^ 8; rw [show (256 : Int) ^ 8 = 18446744073709551616 by decide]; exact this⟩
  have e2 : putS (E x).2 8 = (putL (E x).2 8, 0) := if_pos ⟨by omega, by omega, by have := a2.2; show (E x).2 < 256 ^ 8; rw [show (256 : Int) ^ 8 = 18446744073709551616 by decide]; exact this⟩
  rw [e1] at p1
  rw [e2] at p2
  refine Ev.bind p1 (Ev.bind p2 ?_)
  have h := cat_ev [putL (E x).1 8, putL (E x).2 8] (by simp) (by
    intro r hr
    simp only [List.mem_cons, List.not_mem_nil, or_false] at hr
    rcases hr with rfl | rfl <;> rw [putL_length] <;> omega)
  refine Ev.congr (fun k => by rfl) (Ev.bind h (PuLib.ev_eq (Ev.now _) ?_))
  rw [List.flatten_cons, List.flatten_cons, List.flatten_nil, List.append_nil, bytes_E]
theorem of_ev (l : List Int) (hb : ∀ x ∈ l, 0 ≤ x ∧ x < 256) (hl : l.length = 16) : Ev (fun k => poly_Of.f k l) (numS (l.take 8), numS (l.drop 8), 0) := by
  refine Ev.congr (fun k => by rw [poly_Of.f, if_pos (by omega), if_pos (by omega)]) ?_
  have n1 := num_ev (l.take 8) (fun x hx => hb x (List.mem_of_mem_take hx))
  have n2 := num_ev (l.drop 8) (fun x hx => hb x (List.mem_of_mem_drop hx))
  have e1 : numT (l.take 8) = (numS (l.take 8), 0) := if_neg (by rw [List.length_take]; omega)
  have e2 : numT (l.drop 8) = (numS (l.drop 8), 0) := if_neg (by rw [List.length_drop]; omega)
  rw [e1] at n1
  rw [e2] at n2
  exact Ev.bind n1 (Ev.bind n2 (Ev.now _))
theorem PolyBytes : crosswaylaw04_PolyBytes.Pure := by
  intro ah al l n h1 h2 hm hb h3
  obtain ⟨a, ha, rfl, rfl⟩ := E_of (wf_u64 h1).1 (wf_u64 h1).2 (wf_u64 h2).1 (wf_u64 h2).2
  obtain ⟨n0, n1⟩ := wf_u64 h3
  obtain ⟨n, rfl⟩ := Int.eq_ofNat_of_zero_le n0
  have hfa : crosswaylaw04_PolyBytes.fine (E a).1 (E a).2 = true := by
    unfold crosswaylaw04_PolyBytes.fine
    have := wf_u64 h1
    have := wf_u64 h2
    simp
    omega
  have hbl : ∀ x ∈ l, 0 ≤ x ∧ x < 256 := fun x hx => wf_u8 (hb x hx)
  refine Ev.rounds ?_
  obtain ⟨k0, hk0⟩ := alive_ev
  by_cases hl : 100 < l.length
  · refine ⟨k0, fun k h => ?_⟩
    have hk' : crosswaylaw04_alive.f k = some true := hk0 k h
    show crosswaylaw04_PolyBytes.f k _ _ _ _ = some true
    unfold crosswaylaw04_PolyBytes.f
    rw [if_pos hk', if_pos hl]
  · obtain ⟨k1, hk1⟩ := bytes_ev ha
    have hof := of_ev (bytesN a) (fun x hx => bytesN_mem hx) (bytesN_length a)
    have e1 : (bytesN a).take 8 = putL (E a).1 8 := by rw [← bytes_E, List.take_left' (putL_length _ _)]
    have e2 : (bytesN a).drop 8 = putL (E a).2 8 := by rw [← bytes_E, List.drop_left' (putL_length _ _)]
    have w := word_lt ha
    rw [e1, e2, numS_putL, numS_putL, show (256 : Int) ^ 8 = 18446744073709551616 by decide, show (E a).1 % 18446744073709551616 = (E a).1 from Int.emod_eq_of_lt w.1.1 w.1.2, show (E a).2 % 18446744073709551616 = (E a).2 from Int.emod_eq_of_lt w.2.1 w.2.2] at hof
    obtain ⟨k2, hk2⟩ := hof
    obtain ⟨k3, hk3⟩ := same_ev (bytesN a) (bytesN a) (by rw [bytesN_length]; omega)
    obtain ⟨k4, hk4⟩ := pow_ev (n := n) ha (by omega)
    have hbk : Ev (fun k => some (crosswaylaw04_PolyBytes.back k l)) true := by
      by_cases h16 : l.length = 16
      · obtain ⟨k5, hk5⟩ := of_ev l hbl h16
        have r1 := numS_range (l.take 8) (fun x hx => hbl x (List.mem_of_mem_take hx))
        have r2 := numS_range (l.drop 8) (fun x hx => hbl x (List.mem_of_mem_drop hx))
        have t1 : (l.take 8).length = 8 := by rw [List.length_take]; omega
        have t2 : (l.drop 8).length = 8 := by rw [List.length_drop]; omega
        rw [t1, show (256 : Int) ^ 8 = 18446744073709551616 by decide] at r1
        rw [t2, show (256 : Int) ^ 8 = 18446744073709551616 by decide] at r2
        obtain ⟨y, hy, y1, y2⟩ := E_of r1.1 r1.2 r2.1 r2.2
        have hz : bytesN y = l := by
          have q1 := putL_numS (l.take 8) (fun x hx => hbl x (List.mem_of_mem_take hx))
          have q2 := putL_numS (l.drop 8) (fun x hx => hbl x (List.mem_of_mem_drop hx))
          rw [t1] at q1
          rw [t2] at q2
          rw [← bytes_E, ← y1, ← y2, q1, q2, List.take_append_drop]
        obtain ⟨k6, hk6⟩ := bytes_ev hy
        obtain ⟨k7, hk7⟩ := same_ev l l (by omega)
        refine ⟨max k5 (max k6 k7), fun k h => ?_⟩
        show some (crosswaylaw04_PolyBytes.back k l) = some true
        unfold crosswaylaw04_PolyBytes.back
        have g1 := hk6 k (by omega)
        rw [← y1, ← y2, hz] at g1
        have g2 := hk7 k (by omega)
        have g3 := hk5 k (by omega)
        dsimp only at g1 g2 g3
        rw [g3, Option.any_some, if_pos h16, g1, g2, decide_eq_true rfl]
        simp
      · refine ⟨0, fun k _ => ?_⟩
        show some (crosswaylaw04_PolyBytes.back k l) = some true
        unfold crosswaylaw04_PolyBytes.back
        rw [poly_Of.f, if_neg (by omega), Option.any_some, if_neg h16]
        rfl
    obtain ⟨k5, hk5⟩ := hbk
    refine ⟨max k0 (max (max k1 k2) (max (max k3 k4) k5)), fun k h => ?_⟩
    have hk' : crosswaylaw04_alive.f k = some true := hk0 k (by omega)
    have g3 := hk3 k (by omega)
    rw [decide_eq_true rfl] at g3
    show crosswaylaw04_PolyBytes.f k _ _ _ _ = some true
    unfold crosswaylaw04_PolyBytes.f
    refine (if_pos hk').trans ((if_neg hl).trans (if_pos ⟨hfa, ⟨n0, n1⟩, ?_, ?_, copy_eq l (by omega), ?_, ?_, Option.some.inj (hk5 k (by omega))⟩))
    · rw [nOf_E2]; exact hk1 k (by omega)
    · rw [nOf_E2]; exact hk2 k (by omega)
    · rw [nOf_E2]; exact g3
    · rw [nOf_E2, Int.toNat_natCast]; exact hk4 k (by omega)
end Go.Proofs.Ytblllcmdnmjghaa.Pure
