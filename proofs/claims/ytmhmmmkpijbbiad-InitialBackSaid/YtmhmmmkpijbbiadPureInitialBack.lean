/- The plain statement of InitialBack: what is made is parsed; of fewer bytes the end is told. -/
import Derived.Test.YtmhmmmkpijbbiadM13
import Derived.Test.YtmhmmmkpijbbiadPuInit2
namespace Go.Proofs.Ytmhmmmkpijbbiad.Pure
open Go.RowKit Go.Proofs.YtmhmmmkpijbbiadW.PrintWords Go.Proofs.YtmhmmmkpijbbiadW.PrintMore Go.Proofs.Ytmhmmmkpijbbiad.M Go.Proofs.Ytmhmmmkpijbbiad.Bv Go.Proofs.Ytmhmmmkpijbbiad.PuLib Go.Proofs.Ytmhmmmkpijbbiad.PuHead Go.Proofs.Ytmhmmmkpijbbiad.PuVari Go.Proofs.Ytmhmmmkpijbbiad.PuInit
theorem alive_ev : Ev (fun k => crosswaylaw11_alive.f k) true := Ev.of crosswaylaw11_alive.mono (k := 100) (by decide +kernel)
theorem make_size {x y t r : List Int} {size : Int} (lx : x.length ≤ 20) (ly : y.length ≤ 20) (lt : t.length ≤ 1000) (lr : r.length ≤ 1000) (hs : size ≤ 3000) : ∃ q : Nat, (q : Int) = mx size ((iEnc 192 x y t r).length : Int) - ((iEnc 192 x y t r).length : Int) ∧ Ev (fun k => initial_Make.f k x y t r size) (iEnc 192 x y t (r ++ List.replicate q 0), 0) := by
  have hl := iEnc_len 192 x y t r
  have hge : 0 ≤ mx size ((iEnc 192 x y t r).length : Int) - ((iEnc 192 x y t r).length : Int) ∧ mx size ((iEnc 192 x y t r).length : Int) - ((iEnc 192 x y t r).length : Int) ≤ 3000 := by unfold mx; split <;> omega
  obtain ⟨q, hq⟩ := Int.eq_ofNat_of_zero_le hge.1
  refine ⟨q, hq.symm, ?_⟩
  have hm : wrap64 (mx size ((iEnc 192 x y t r).length : Int) - ((iEnc 192 x y t r).length : Int)) = (q : Int) := by rw [hq]; exact w64_in _ (by omega) (by omega)
  unfold initial_Make.f
  refine Ev.congr (fun k => if_neg (by omega)) (Ev.bind (ibytes_ev lx ly lt (by omega)) (ev_eq (Ev.congr (f := fun _ => some (iEnc 192 x y t r ++ List.replicate q 0, (0 : Int))) (fun k => ?_) (Ev.now _)) ?_))
  · dsimp only
    rw [if_pos rfl, hm, if_pos (by omega), Int.toNat_natCast, if_pos (by omega)]
  · have e : iEnc 192 x y t r ++ List.replicate q 0 = iEnc 192 x y t (r ++ List.replicate q 0) := by
      unfold iEnc
      simp only [List.append_assoc]
    rw [e]
theorem all_ev (P : Nat → Nat → Prop) (n : Nat) (h : ∀ j, j < n → ∃ K, ∀ k, K ≤ k → P k j) : ∃ K, ∀ k, K ≤ k → ∀ j, j < n → P k j := by
  induction n with
  | zero => exact ⟨0, fun _ _ j hj => absurd hj (Nat.not_lt_zero _)⟩
  | succ n ih =>
    obtain ⟨K1, h1⟩ := ih (fun j hj => h j (by omega))
    obtain ⟨K2, h2⟩ := h n (by omega)
    refine ⟨max K1 K2, fun k hk j hj => ?_⟩
    by_cases e : j = n
    · subst e; exact h2 k (by omega)
    · exact h1 k (by omega) j (by omega)
theorem InitialBack : crosswaylaw11_InitialBack.Pure := by
  intro l0 l1 l2 l3 a4 _ b0 _ b1 _ b2 _ b3 _
  obtain ⟨k0, hk0⟩ := alive_ev
  refine Ev.rounds ?_
  by_cases hl : 20 < l0.length ∨ 20 < l1.length ∨ 300 < l2.length ∨ 300 < l3.length ∨ 3000 < a4
  · refine ⟨k0, fun k h => ?_⟩
    have hk' : crosswaylaw11_alive.f k = some true := hk0 k h
    show crosswaylaw11_InitialBack.f k _ _ _ _ _ = some true
    unfold crosswaylaw11_InitialBack.f
    rw [if_pos hk', if_pos hl]
  · have B0 : By l0 := fun v hv => wf_u8 (b0 v hv)
    have B1 : By l1 := fun v hv => wf_u8 (b1 v hv)
    have B2 : By l2 := fun v hv => wf_u8 (b2 v hv)
    have B3 : By l3 := fun v hv => wf_u8 (b3 v hv)
    obtain ⟨q, hq, hmk⟩ := make_size (x := l0) (y := l1) (t := l2) (r := l3) (size := a4) (by omega) (by omega) (by omega) (by omega) (by omega)
    have hen := iEnc_len 192 l0 l1 l2 l3
    obtain ⟨z, hz⟩ : ∃ z, z = l3 ++ List.replicate q 0 := ⟨_, rfl⟩
    have hzl : z.length = l3.length + q := by rw [hz, List.length_append, List.length_replicate]
    have hqb : q ≤ 3000 ∧ l3.length + q ≤ 3000 := by
      have he : (iEnc 192 l0 l1 l2 l3).length ≥ l3.length := by rw [iEnc, List.length_append, List.length_append]; omega
      have : mx a4 ((iEnc 192 l0 l1 l2 l3).length : Int) = a4 ∨ mx a4 ((iEnc 192 l0 l1 l2 l3).length : Int) = ((iEnc 192 l0 l1 l2 l3).length : Int) := by unfold mx; split <;> simp
      rcases this with h | h <;> rw [h] at hq <;> omega
    have BZ : By z := by
      intro v hv
      rw [hz] at hv
      rcases List.mem_append.1 hv with h | h
      · exact B3 v h
      · have := List.eq_of_mem_replicate h
        omega
    rw [← hz] at hmk
    have f1 : l3.length ≤ z.length := hzl ▸ Nat.le_add_right _ _
    have f2 : z.length ≤ (iEnc 192 l0 l1 l2 z).length := by
      rw [iEnc, List.length_append, List.length_append]
      exact Nat.le_trans (Nat.le_add_left _ _) (Nat.le_add_left _ _)
    have hbl : (iEnc 192 l0 l1 l2 z).length = (iEnc 192 l0 l1 l2 l3).length + q := by
      rw [hz]
      unfold iEnc
      simp only [List.length_append, List.length_replicate]
      omega
    have f3 : a4 ≤ ((iEnc 192 l0 l1 l2 z).length : Int) := by
      have : a4 ≤ mx a4 ((iEnc 192 l0 l1 l2 l3).length : Int) := by unfold mx; split <;> omega
      rw [hbl]
      omega
    have hp := iparse_ev (a := 192) (by decide) (by decide) B0 B1 B2 BZ (by omega) (by omega) (by omega) (by omega : z.length ≤ 3000)
    rw [if_pos (by decide)] at hp
    have hby := ibytes_ev (x := l0) (y := l1) (t := l2) (r := z) (by omega) (by omega) (by omega) (by omega)
    have hcut := all_ev (fun k j => (initial_Parse.f k ((iEnc 192 l0 l1 l2 z).take j)).map (fun p => p.2.2.2.2.2.2) = some 12) ((iEnc 192 l0 l1 l2 z).length - z.length) (fun j hj => iparse_cut B0 B1 B2 BZ (by omega) (by omega) (by omega) (by omega) j hj)
    have h14 : Ev (fun k => (initial_Initial_Bytes.f k 240 1 l0 l1 l2 z).map (fun p => p.2)) 14 := by
      have hc := check_ev (a := 240) (b := 1) (x := l0) (y := l1) (by omega) (by omega)
      rw [show checkS 240 1 l0 l1 = 14 by unfold checkS; rw [if_pos (.inr (.inr (by decide)))]] at hc
      obtain ⟨kc, hkc⟩ := hc
      refine ⟨kc, fun k h => ?_⟩
      have h1 : initial_check.f k 240 1 l0 l1 = some 14 := hkc k h
      show (initial_Initial_Bytes.f k 240 1 l0 l1 l2 z).map _ = some 14
      unfold initial_Initial_Bytes.f
      rw [h1, Option.bind_some, if_neg (by decide)]
      rfl
    have same : ∀ l : List Int, l.length ≤ 9223372036854775807 → Ev (fun k => crosswayref00_SameBytes.f k l l) true := fun l h => by
      have := same_ev l l h
      rw [decide_eq_true rfl] at this
      exact this
    obtain ⟨k1, hk1⟩ := hmk
    obtain ⟨k2, hk2⟩ := hp
    obtain ⟨k3, hk3⟩ := hby
    obtain ⟨k4, hk4⟩ := hcut
    obtain ⟨k5, hk5⟩ := h14
    obtain ⟨k6, hk6⟩ := same l0 (by omega)
    obtain ⟨k7, hk7⟩ := same l1 (by omega)
    obtain ⟨k8, hk8⟩ := same l2 (by omega)
    obtain ⟨k9, hk9⟩ := same l3 (by omega)
    obtain ⟨kA, hkA⟩ := same (iEnc 192 l0 l1 l2 z) (by omega)
    clear hq hen hqb hbl
    refine ⟨k0 + k1 + k2 + k3 + k4 + k5 + k6 + k7 + k8 + k9 + kA, fun k h => ?_⟩
    have g0 : crosswaylaw11_alive.f k = some true := hk0 k (by omega)
    have g1 : initial_Make.f k l0 l1 l2 l3 a4 = some (iEnc 192 l0 l1 l2 z, 0) := hk1 k (by omega)
    have g2 : initial_Parse.f k (iEnc 192 l0 l1 l2 z) = some (192, 1, l0, l1, l2, z, 0) := hk2 k (by omega)
    have e6 : crosswayref00_SameBytes.f k l0 l0 = some true := hk6 k (by omega)
    have e7 : crosswayref00_SameBytes.f k l1 l1 = some true := hk7 k (by omega)
    have e8 : crosswayref00_SameBytes.f k l2 l2 = some true := hk8 k (by omega)
    have e9 : crosswayref00_SameBytes.f k (z.take l3.length) l3 = some true := by
      rw [hz, List.take_left]
      exact hk9 k (by omega)
    have eA : crosswayref00_SameBytes.f k (iEnc 192 l0 l1 l2 z) (iEnc 192 l0 l1 l2 z) = some true := hkA k (by omega)
    have e3 : initial_Initial_Bytes.f k 192 1 l0 l1 l2 z = some (iEnc 192 l0 l1 l2 z, 0) := hk3 k (by omega)
    have e4 := hk4 k (by omega)
    have e5 : (initial_Initial_Bytes.f k 240 1 l0 l1 l2 z).map (fun p => p.2) = some 14 := hk5 k (by omega)
    have eR : ∀ i, i < z.length → l3.length ≤ i → rd z (i : Int) = 0 := by
      intro i hi hi2
      unfold rd
      rw [Int.toNat_natCast, hz, List.getD_eq_getElem?_getD, List.getElem?_append_right hi2, List.getElem?_replicate, if_pos (by rw [hzl] at hi; omega)]
      rfl
    have good : crosswaylaw11_InitialBack.good k l0 l1 l2 l3 a4 (iEnc 192 l0 l1 l2 z) 192 1 l0 l1 l2 z 0 := ⟨rfl, e6, e7, e8, f1, e9, f3, f2, eR, e3, eA, e4, e5⟩
    clear e6 e7 e8 e9 eA e3 e4 e5 eR hk1 hk2 hk3 hk4 hk5 hk6 hk7 hk8 hk9 hkA
    show crosswaylaw11_InitialBack.f k _ _ _ _ _ = some true
    unfold crosswaylaw11_InitialBack.f
    rw [if_pos g0, if_neg hl, g1, Option.bind_some]
    dsimp only
    rw [g2, Option.bind_some]
    exact if_pos ⟨rfl, good⟩
end Go.Proofs.Ytmhmmmkpijbbiad.Pure
