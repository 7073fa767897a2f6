/- The plain statement of HeadWrites: every Bytes and Same answers what the document says; a header that is written is parsed as it was. -/
import Derived.Test.YtnmhnihhlakinaaM10
import Derived.Test.YtnmhnihhlakinaaPuHead2
namespace Go.Proofs.Ytnmhnihhlakinaa.Pure
open Go.RowKit Go.Proofs.YtnmhnihhlakinaaW.PrintWords Go.Proofs.YtnmhnihhlakinaaW.PrintMore Go.Proofs.Ytnmhnihhlakinaa.M Go.Proofs.Ytnmhnihhlakinaa.Bv Go.Proofs.Ytnmhnihhlakinaa.PuLib Go.Proofs.Ytnmhnihhlakinaa.PuHead
theorem alive_ev : Ev (fun k => crosswaylaw10_alive.f k) true := Ev.of crosswaylaw10_alive.mono (k := 100) (by decide +kernel)
theorem parse_err {l : List Int} (hb : By l) (hl : l.length ≤ 1000000) (hk : ¬ (0 < l.length ∧ rd l 0 < 128)) : (parseR l).2.2.2.2.2 = 0 ∨ (parseR l).2.2.2.2.2 = 12 := by
  have h := rparse_eq l hb hl
  generalize parseR l = z at h ⊢
  unfold crosswayref10_Parse.f at h
  split at h
  · split at h
    · rw [← Option.some.inj h]; exact .inr rfl
    · split at h
      · rename_i h1 h2
        exact absurd ⟨by omega, h2⟩ hk
      · split at h
        · rw [← Option.some.inj h]; exact .inr rfl
        · split at h
          · obtain ⟨u, _, h⟩ := Option.bind_eq_some_iff.1 h
            obtain ⟨v, _, h⟩ := Option.bind_eq_some_iff.1 h
            rw [← Option.some.inj h]
            split
            · exact .inl rfl
            · exact .inr rfl
          · cases h
  · cases h
theorem parse_cut {a b : Int} {x y : List Int} (a0 : 128 ≤ a) (a1 : a < 256) (b0 : 0 ≤ b) (b1 : b < 4294967296) (bx : By x) (by_ : By y) (lx : x.length ≤ 255) (ly : y.length ≤ 255) (k : Nat) (hk : k < (enc a b x y).length) : (parseR ((enc a b x y).take k)).2.2.2.2.2 = 12 := by
  have hB : By ((enc a b x y).take k) := (enc_By (by omega) a1 bx by_ lx ly).take k
  have hlen := enc_length a b x y
  have hl : ((enc a b x y).take k).length = k := by rw [List.length_take]; omega
  have h0 : ¬ (0 < ((enc a b x y).take k).length ∧ rd ((enc a b x y).take k) 0 < 128) := by
    rintro ⟨h1, h2⟩
    obtain ⟨j, rfl⟩ : ∃ j, k = j + 1 := ⟨k - 1, by omega⟩
    have : rd ((enc a b x y).take (j + 1)) 0 = a := by rw [enc, List.take_succ_cons]; rfl
    omega
  rcases parse_err hB (by omega) h0 with h | h
  · rcases parse_dec hB with ⟨e, he, hp⟩ | ⟨a', b', x', y', rest, hp, hl2, c0, c1, d0, d1, lx', ly', bx', by', br⟩
    · rw [hp] at h; exact absurd h he
    · exfalso
      have e1 := parse_enc (x := x) (y := y) [] a0 a1 b0 b1
      have e2 : enc a b x y ++ [] = enc a' b' x' y' ++ (rest ++ (enc a b x y).drop k) := by
        rw [List.append_nil, ← List.append_assoc, ← hl2, List.take_append_drop]
      rw [e2, parse_enc _ c0 c1 d0 d1] at e1
      simp only [Prod.mk.injEq] at e1
      have := congrArg List.length e1.2.2.2.2.1
      rw [List.length_append, List.length_drop] at this
      simp at this
      omega
  · exact h
theorem writes_last {a b : Int} {x y : List Int} (a0 : 128 ≤ a) (a1 : a < 256) (bx : By x) (by_ : By y) (lx : x.length ≤ 255) (ly : y.length ≤ 255) (i : Int) (hi : ¬ i < ((enc a b x y).length : Int)) : Ev (fun k => crosswaylaw10_HeadWrites.l0 k (enc a b x y) i a b x y) true := by
  have hlen := enc_length a b x y
  have hB : By ((enc a b x y).drop 4) := (enc_By (by omega) a1 bx by_ lx ly).drop 4
  have hd : ((enc a b x y).drop 4).length = 3 + x.length + y.length := by rw [List.length_drop]; omega
  have hw : wrap64 ((x.length : Int) + 1) = (x.length : Int) + 1 := w64_in _ (by omega) (by omega)
  obtain ⟨n, hn⟩ : ∃ n : Nat, n = if x.length = 255 then 255 else x.length + 1 := ⟨_, rfl⟩
  have hmn : mn ((x.length : Int) + 1) 255 = (n : Int) := by unfold mn; rw [hn]; split <;> split <;> omega
  have hid := id_ev ((enc a b x y).drop 4) (n : Int) hB (by omega)
  have hn2 : n ≤ 255 ∧ n ≤ x.length + 1 := by rw [hn]; split <;> omega
  have h5 : (enc a b x y).drop 5 = (x.length : Int) :: (x ++ ((y.length : Int) :: y)) := by
    have hp := putL_length b 4
    have : enc a b x y = (a :: putL b 4) ++ ((x.length : Int) :: (x ++ ((y.length : Int) :: y))) := by simp [enc]
    rw [this]
    have h2 := List.drop_left (l₁ := a :: putL b 4) (l₂ := (x.length : Int) :: (x ++ ((y.length : Int) :: y)))
    rw [List.length_cons, hp] at h2
    exact h2
  have hids : idS ((enc a b x y).drop 4) (n : Int) = (((x.length : Int) :: (x ++ ((y.length : Int) :: y))).take n, 0) := by
    unfold idS
    rw [if_neg (by omega), if_neg (by omega), List.drop_drop, h5, Int.toNat_natCast]
  rw [hids] at hid
  refine Ev.step (fun k => by simp only [crosswaylaw10_HeadWrites.l0]; rw [if_neg hi, if_pos (by omega), hw, hmn]) (Ev.bind hid (Ev.congr (fun k => if_pos rfl) ?_))
  by_cases h255 : x.length = 255
  · exact Ev.congr (f := fun _ => some true) (fun k => if_pos (by omega)) (Ev.now _)
  · have hn3 : n = x.length + 1 := by rw [hn, if_neg h255]
    have ht : ((x.length : Int) :: (x ++ ((y.length : Int) :: y))).take n = (x.length : Int) :: x := by rw [hn3, List.take_succ_cons, List.take_left]
    rw [ht]
    have hs := same_ev x x (by omega)
    rw [decide_eq_true rfl] at hs
    have hr : rd ((x.length : Int) :: x) 0 = (x.length : Int) := rfl
    refine Ev.congr (fun k => ?_) (Ev.bind hs (Ev.now _))
    dsimp only
    rw [if_neg (by omega), List.length_cons, if_pos (by omega), hr, w64_in _ (by omega) (by omega), if_pos rfl, if_pos (by omega)]
    rfl
theorem writes_l0 {a b : Int} {x y : List Int} (a0 : 128 ≤ a) (a1 : a < 256) (b0 : 0 ≤ b) (b1 : b < 4294967296) (bx : By x) (by_ : By y) (lx : x.length ≤ 255) (ly : y.length ≤ 255) : ∀ d i : Nat, i + d = (enc a b x y).length → Ev (fun k => crosswaylaw10_HeadWrites.l0 k (enc a b x y) (i : Int) a b x y) true := by
  have hlen := enc_length a b x y
  intro d
  induction d with
  | zero => intro i hi; exact writes_last a0 a1 bx by_ lx ly _ (by omega)
  | succ d ih =>
    intro i hi
    have hp := parse_ev ((enc a b x y).take i) ((enc_By (by omega) a1 bx by_ lx ly).take i) (by rw [List.length_take]; omega)
    have hc := parse_cut a0 a1 b0 b1 bx by_ lx ly i (by omega)
    exact Ev.step (fun k => by simp only [crosswaylaw10_HeadWrites.l0]; rw [if_pos (by omega), if_pos (by omega), if_pos (by omega), Int.toNat_natCast, w64_up i (by omega)]) (Ev.bind hp (Ev.congr (fun k => if_pos hc) (ih (i + 1) (by omega))))
theorem HeadWrites : crosswaylaw10_HeadWrites.Pure := by
  intro a b x y a' b' x' y' rest w1 w2 lx wx ly wy w3 w4 lx' wx' ly' wy' lr wr
  obtain ⟨a0, a1⟩ := wf_u8 w1
  obtain ⟨b0, b1⟩ := wf_u32 w2
  have bx : By x := fun z h => wf_u8 (wx z h)
  have by_ : By y := fun z h => wf_u8 (wy z h)
  have bx' : By x' := fun z h => wf_u8 (wx' z h)
  have by' : By y' := fun z h => wf_u8 (wy' z h)
  have br : By rest := fun z h => wf_u8 (wr z h)
  refine Ev.rounds (Ev.congr (fun k => rfl) (Ev.bind alive_ev (Ev.congr (fun k => if_pos rfl) ?_)))
  have stop : Ev (fun k => crosswaylaw10_HeadWrites.j0 k rest true a b x y a' b' x' y') true := Ev.step (f := fun _ => some true) (fun k => by simp only [crosswaylaw10_HeadWrites.j0]; rfl) (Ev.now _)
  by_cases h1 : (x.length : Int) > 400
  · exact Ev.congr (fun k => if_pos h1) stop
  refine Ev.congr (fun k => if_neg h1) ?_
  by_cases h2 : (y.length : Int) > 400
  · exact Ev.congr (fun k => if_pos h2) stop
  refine Ev.congr (fun k => if_neg h2) ?_
  by_cases h3 : (x'.length : Int) > 400
  · exact Ev.congr (fun k => if_pos h3) stop
  refine Ev.congr (fun k => if_neg h3) ?_
  by_cases h4 : (y'.length : Int) > 400
  · exact Ev.congr (fun k => if_pos h4) stop
  refine Ev.congr (fun k => if_neg h4) ?_
  by_cases h5 : (rest.length : Int) > 300
  · rw [decide_eq_true h5]; exact stop
  rw [decide_eq_false h5]
  have hq := bytes_ev a0 a1 b0 b1 (x := x) (y := y) (by omega) (by omega)
  have hrq := rbytes_eq (a := a) (b := b) (x := x) (y := y) (by omega) (by omega)
  have hlen := enc_length a b x y
  have hql : (hbS a b x y).1.length ≤ 2000 := by
    unfold hbS
    split
    · simp
    · split
      · simp
      · dsimp only; omega
  have hs := same_ev (hbS a b x y).1 (hbS a b x y).1 (by omega)
  rw [decide_eq_true rfl] at hs
  refine Ev.step (fun k => by simp only [crosswaylaw10_HeadWrites.j0]; rw [if_neg (by decide)]) (Ev.bind hq ?_)
  refine Ev.congr (fun k => by rw [of_eq a b x y (by omega) (by omega), Option.bind_some, hrq, Option.bind_some, if_pos rfl]) (Ev.bind hs ?_)
  have hself : head_Same.f a b x y a b x y = some true := by rw [same_eq bx by_ bx by_, decide_eq_true ⟨rfl, rfl, rfl, rfl⟩]
  refine Ev.congr (fun k => by
    rw [if_pos rfl, same_eq bx by_ bx' by', Option.bind_some, Option.bind_some, of_eq a' b' x' y' (by omega) (by omega), Option.bind_some, rsame_eq bx by_ bx' by', Option.bind_some, if_neg (by simp), hself, Option.bind_some, if_pos rfl]) ?_
  by_cases k1 : a < 128
  · rw [hbS, if_pos k1]
    exact Ev.congr (f := fun _ => some true) (fun k => by rw [if_neg (by decide)]; rfl) (Ev.now _)
  by_cases k2 : x.length > 255 ∨ y.length > 255
  · rw [hbS, if_neg k1, if_pos k2]
    exact Ev.congr (f := fun _ => some true) (fun k => by rw [if_neg (by decide)]; rfl) (Ev.now _)
  rw [hbS, if_neg k1, if_neg k2]
  have lx2 : x.length ≤ 255 := by omega
  have ly2 : y.length ≤ 255 := by omega
  have hE := enc_By (a := a) (b := b) a0 a1 bx by_ lx2 ly2
  have hER : By (enc a b x y ++ rest) := by
    intro z hz
    rcases List.mem_append.1 hz with h | h
    · exact hE z h
    · exact br z h
  have hp := parse_ev (enc a b x y ++ rest) hER (by rw [List.length_append]; omega)
  rw [parse_enc rest (by omega) a1 b0 b1] at hp
  have hsr := same_ev rest rest (by omega)
  rw [decide_eq_true rfl] at hsr
  refine Ev.congr (fun k => by rw [if_pos rfl, copy_eq _ (by dsimp only; omega), Option.bind_some, if_pos (by dsimp only; omega)]) (Ev.bind hp ?_)
  refine Ev.congr (fun k => by rw [if_pos rfl, hself, Option.bind_some, if_pos rfl]) (Ev.bind hsr (Ev.congr (fun k => if_pos rfl) ?_))
  exact writes_l0 (by omega) a1 b0 b1 bx by_ lx2 ly2 (enc a b x y).length 0 (by omega)
end Go.Proofs.Ytnmhnihhlakinaa.Pure
