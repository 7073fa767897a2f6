/- rank: what the laws lean on. Written by wip/gen/rklib.py. -/
import Derived.Test.YtonofmnjcocokaaRkAlive
namespace Go.Proofs.Ytonofmnjcocokaa.Rk
open Go.RowKit Go.Proofs.YtonofmnjcocokaaW.PrintWords Go.Proofs.YtonofmnjcocokaaW.PrintLast Go.Proofs.YtonofmnjcocokaaW.PrintMore Go.Proofs.Ytonofmnjcocokaa.X Go.Proofs.Ytonofmnjcocokaa.M Go.Proofs.Ytonofmnjcocokaa.Bv Go.Proofs.Ytonofmnjcocokaa.PuLib Go.Proofs.Ytonofmnjcocokaa.PuMix
attribute [local go_sem] max2_int min2_int max_two min_two max_three min_three max_four min_four
set_option linter.unusedVariables false
set_option linter.unusedSimpArgs false
theorem great_calls (keys : List (List Int)) (pk : Nat) (hpk : pk = keys.length) (l : List S25) (p : Nat) (hp : p = l.length) (A : Option Addr) (c : Nat) (B : Option Addr) (d : Nat) (w : World) (hK : Kd.C (Kd.slice 5 (Kd.int .u8)) w A pk keys) (hkc : pk ≤ c) (hC : Kd.C k25 w B p l) (hc : p ≤ d) :
    Calls Try.prog 8 #[.slice A pk c, .slice B p d] w fun e w' => ∃ r, e = .returned (.bool r) ∧ (r = false → pk ≤ 1000 ∧ (∀ key ∈ keys, key.length ≤ 1000) ∧ p ≤ 80) ∧ Drawn0 w w' := by
  subst hpk hp
  obtain ⟨b, hb, hr⟩ := long_ev keys 1000 (by decide)
  have he : Ev (fun k => crosswaylaw23_great.f k keys l) (if b = true then true else decide ((l.length : Int) > 80)) := by
    unfold crosswaylaw23_great.f
    refine Ev.bind hb ?_
    cases b
    · exact Ev.now _
    · exact Ev.now _
  obtain ⟨k, hk⟩ := Ev.rounds he
  refine (crosswaylaw23_great.calls k A c keys B d l _ w hK hkc hC hc hk).mono ?_
  rintro e w' ⟨rfl, hd⟩
  refine ⟨_, rfl, fun h => ?_, hd⟩
  cases b
  · have h1 := hr rfl
    have h2 := of_decide_eq_false (show decide ((l.length : Int) > 80) = false from h)
    exact ⟨h1.1, h1.2, by omega⟩
  · cases h
/-! ### rows of rows, with their elements apart -/
abbrev SL := Option Addr × Nat × Nat
def kSl : Kd SL := Kd.scalar (fun x : SL => Value.slice x.1 x.2.1 x.2.2) (fun _ => rfl)
theorem infoL : (Try.prog.info? 32).map (fun i => (i.zero, i.size, i.bytes)) = some (some (.slice none 0 0), 1, 24) := by kernel_rfl
def RawKeys (w : World) (raws : List SL) (keys : List (List Int)) : Prop := raws.length = keys.length ∧ ∀ (j : Nat) (sl : SL) (key : List Int), raws[j]? = some sl → keys[j]? = some key → sl.2.1 = key.length ∧ key.length ≤ sl.2.2 ∧ Kd.C (Kd.int .u8) w sl.1 key.length key
theorem RawKeys.below {w w' : World} {raws : List SL} {keys : List (List Int)} (h : RawKeys w raws keys) (hb : Below w.heap.size w w') : RawKeys w' raws keys := ⟨h.1, fun j sl key h1 h2 => by
  obtain ⟨h3, h4, h5⟩ := h.2 j sl key h1 h2
  exact ⟨h3, h4, Kd.C_below h5 hb⟩⟩
theorem RawKeys.append {w : World} {r1 r2 : List SL} {k1 k2 : List (List Int)} (h1 : RawKeys w r1 k1) (h2 : RawKeys w r2 k2) : RawKeys w (r1 ++ r2) (k1 ++ k2) := by
  refine ⟨by rw [List.length_append, List.length_append, h1.1, h2.1], fun j sl key a b => ?_⟩
  rcases Nat.lt_or_ge j r1.length with hj | hj
  · rw [List.getElem?_append_left hj] at a
    rw [List.getElem?_append_left (by rw [← h1.1]; exact hj)] at b
    exact h1.2 j sl key a b
  · rw [List.getElem?_append_right hj] at a
    rw [List.getElem?_append_right (by rw [← h1.1]; exact hj), ← h1.1] at b
    exact h2.2 _ sl key a b
theorem raw_of {w : World} {A : Option Addr} {n : Nat} {keys : List (List Int)} (h : Kd.C (Kd.slice 5 (Kd.int .u8)) w A n keys) : ∃ raws, Kd.C kSl w A n raws ∧ RawKeys w raws keys := by
  rcases Nat.eq_zero_or_pos n with h0 | h0
  · subst h0
    obtain rfl : keys = [] := List.length_eq_zero_iff.1 h.1
    exact ⟨[], ⟨rfl, h.2.1, fun h => absurd h (Nat.lt_irrefl 0)⟩, rfl, fun j sl key h1 => by simp at h1⟩
  · obtain ⟨ad, rfl, hc⟩ := h.2.2 h0
    have hex : ∀ j, ∃ sl : SL, ∀ key, keys[j]? = some key → sl.2.1 = key.length ∧ key.length ≤ sl.2.2 ∧ Kd.C (Kd.int .u8) w sl.1 key.length key ∧ w.cell? (ad.add (j * 1)) = some (.slice sl.1 sl.2.1 sl.2.2) := by
      intro j
      cases hj : keys[j]? with
      | none => exact ⟨(none, 0, 0), fun key h => by cases h⟩
      | some key =>
        obtain ⟨cs, _, hK, hcell⟩ := hc j key hj
        obtain ⟨A0, c0, rfl, hl, hC⟩ := hK
        refine ⟨(A0, key.length, c0), fun key2 h2 => ?_⟩
        obtain rfl := Option.some.inj h2
        exact ⟨rfl, hl, hC, hcell 0 _ rfl⟩
    have hf := fun j => Classical.choose_spec (hex j)
    obtain ⟨f, hf2⟩ : ∃ f : Nat → SL, f = fun j => Classical.choose (hex j) := ⟨_, rfl⟩
    have hf : ∀ j key, keys[j]? = some key → (f j).2.1 = key.length ∧ key.length ≤ (f j).2.2 ∧ Kd.C (Kd.int .u8) w (f j).1 key.length key ∧ w.cell? (ad.add (j * 1)) = some (.slice (f j).1 (f j).2.1 (f j).2.2) := by rw [hf2]; exact hf
    have hlen : ((List.range n).map f).length = n := by rw [List.length_map, List.length_range]
    have hget : ∀ j sl, ((List.range n).map f)[j]? = some sl → j < n ∧ sl = f j := by
      intro j sl hj
      have hj1 := (List.getElem?_eq_some_iff.1 hj)
      obtain ⟨hj2, hj3⟩ := hj1
      rw [List.length_map, List.length_range] at hj2
      rw [List.getElem_map, List.getElem_range] at hj3
      exact ⟨hj2, hj3.symm⟩
    refine ⟨(List.range n).map f, ⟨hlen, h.2.1, fun _ => ⟨ad, rfl, fun j sl hj => ?_⟩⟩, by rw [hlen]; exact h.1.symm, fun j sl key h1 h2 => ?_⟩
    · obtain ⟨hjn, rfl⟩ := hget j sl hj
      have hk : j < keys.length := by rw [h.1]; exact hjn
      obtain ⟨_, _, _, hcell⟩ := hf j _ (List.getElem?_eq_getElem hk)
      refine ⟨[.slice (f j).1 (f j).2.1 (f j).2.2], rfl, rfl, fun i u hu => ?_⟩
      obtain ⟨hi, hv2⟩ := List.getElem?_eq_some_iff.1 hu
      obtain rfl : i = 0 := by simp at hi; omega
      rw [← hv2]
      exact hcell
    · obtain ⟨hjn, rfl⟩ := hget j sl h1
      obtain ⟨q1, q2, q3, _⟩ := hf j key h2
      exact ⟨q1, q2, q3⟩
theorem of_raw {w : World} {A : Option Addr} {n : Nat} {raws : List SL} {keys : List (List Int)} (h : Kd.C kSl w A n raws) (hr : RawKeys w raws keys) : Kd.C (Kd.slice 5 (Kd.int .u8)) w A n keys := by
  refine ⟨by rw [← hr.1]; exact h.1, h.2.1, fun h0 => ?_⟩
  obtain ⟨ad, e, hc⟩ := h.2.2 h0
  refine ⟨ad, e, fun j key hj => ?_⟩
  have hjl : j < raws.length := by rw [hr.1]; exact (List.getElem?_eq_some_iff.1 hj).1
  obtain ⟨q1, q2, q3⟩ := hr.2 j _ key (List.getElem?_eq_getElem hjl) hj
  obtain ⟨cs, hcl, hK, hcell⟩ := hc j _ (List.getElem?_eq_getElem hjl)
  have hK' : cs = [.slice raws[j].1 raws[j].2.1 raws[j].2.2] := hK
  subst hK'
  refine ⟨_, rfl, ⟨raws[j].1, raws[j].2.2, by rw [q1], q2, q3⟩, hcell⟩
end Go.Proofs.Ytonofmnjcocokaa.Rk
