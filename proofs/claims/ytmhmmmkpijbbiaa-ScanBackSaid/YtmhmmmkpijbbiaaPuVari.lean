/- The plain law of numbers in one, two, four or eight bytes: what the program's and the document's functions tell, as one function. No memory, no Go. -/
import Derived.Test.YtmhmmmkpijbbiaaPuLib
namespace Go.Proofs.Ytmhmmmkpijbbiaa.PuVari
open Go.RowKit Go.Proofs.YtmhmmmkpijbbiaaW.PrintWords Go.Proofs.YtmhmmmkpijbbiaaW.PrintMore Go.Proofs.Ytmhmmmkpijbbiaa.M Go.Proofs.Ytmhmmmkpijbbiaa.Bv Go.Proofs.Ytmhmmmkpijbbiaa.PuLib

/-- What a form of so many bytes can't have. -/
def lim (f : Nat) : Int := match f with
  | 0 => 64
  | 1 => 16384
  | 2 => 1073741824
  | _ => 4611686018427387904
def siz (f : Nat) : Nat := 2 ^ f
theorem four {f : Nat} (h : f < 4) : f = 0 ∨ f = 1 ∨ f = 2 ∨ f = 3 := by omega
theorem size_eq {f : Nat} (h : f < 4) : vari_form_size.f (f : Int) = some ((siz f : Nat) : Int) := by
  rcases four h with rfl | rfl | rfl | rfl <;> decide +kernel
theorem room_eq {f : Nat} (h : f < 4) : vari_form_room.f (f : Int) = some ((8 * siz f - 2 : Nat) : Int) := by
  rcases four h with rfl | rfl | rfl | rfl <;> decide +kernel
theorem lim_pow {f : Nat} (h : f < 4) : (2 : Int) ^ (8 * siz f - 2) = lim f := by
  rcases four h with rfl | rfl | rfl | rfl <;> decide +kernel
theorem lim_pos {f : Nat} (h : f < 4) : 0 < lim f := by
  rcases four h with rfl | rfl | rfl | rfl <;> decide +kernel
theorem siz_le {f : Nat} (h : f < 4) : 1 ≤ siz f ∧ siz f ≤ 8 := by
  rcases four h with rfl | rfl | rfl | rfl <;> decide +kernel
theorem lim_256 {f : Nat} (h : f < 4) : 4 * lim f = 256 ^ siz f := by
  rcases four h with rfl | rfl | rfl | rfl <;> decide +kernel
theorem lim_le {f : Nat} (h : f < 4) : lim f ≤ 4611686018427387904 := by
  rcases four h with rfl | rfl | rfl | rfl <;> decide +kernel
theorem room_le {f : Nat} (h : f < 4) : 8 * siz f - 2 ≤ 62 := by
  rcases four h with rfl | rfl | rfl | rfl <;> decide +kernel
theorem room_pow {f : Nat} (h : f < 4) : (2 : Nat) ^ (8 * siz f - 2) = (lim f).toNat := by
  rcases four h with rfl | rfl | rfl | rfl <;> decide +kernel
theorem shr_room {f : Nat} (h : f < 4) (v : Int) : shr .u64 v ((8 * siz f - 2 : Nat) : Int) = v / lim f := by
  rw [← lim_pow h]
  unfold shr
  have := room_le h
  rw [Int.toNat_natCast, Nat.min_eq_left (by simp only [IntKind.bits]; omega)]
theorem holds_eq {f : Nat} (h : f < 4) (v : Int) (v0 : 0 ≤ v) : vari_form_holds.f (f : Int) v = some (decide (v < lim f)) := by
  simp only [vari_form_holds.f]
  rw [room_eq h, Option.bind_some, if_pos (by omega), shr_room h]
  have hp := lim_pos h
  by_cases c : v < lim f
  · rw [Int.ediv_eq_zero_of_lt v0 c, decide_eq_true c]
    rfl
  · have h1 : 1 ≤ v / lim f := (Int.le_ediv_iff_mul_le hp).2 (by omega)
    rw [decide_eq_false c]
    congr 1
    rw [beq_eq_false_iff_ne]
    omega
/-- The least form; 4: there is none. -/
def form (v : Int) : Nat := if v < 64 then 0 else if v < 16384 then 1 else if v < 1073741824 then 2 else if v < 4611686018427387904 then 3 else 4
theorem form_lt {v : Int} (h : form v < 4) : v < lim (form v) := by
  unfold form at h ⊢
  by_cases a : v < 64
  · rw [if_pos a]; exact a
  rw [if_neg a] at h ⊢
  by_cases b : v < 16384
  · rw [if_pos b]; exact b
  rw [if_neg b] at h ⊢
  by_cases c : v < 1073741824
  · rw [if_pos c]; exact c
  rw [if_neg c] at h ⊢
  by_cases d : v < 4611686018427387904
  · rw [if_pos d]; exact d
  rw [if_neg d] at h
  omega
theorem form_le4 (v : Int) : form v ≤ 4 := by unfold form; split <;> (try split) <;> (try split) <;> (try split) <;> omega
theorem form_four {v : Int} : form v = 4 ↔ 4611686018427387904 ≤ v := by
  unfold form
  by_cases a : v < 64
  · rw [if_pos a]; omega
  rw [if_neg a]
  by_cases b : v < 16384
  · rw [if_pos b]; omega
  rw [if_neg b]
  by_cases c : v < 1073741824
  · rw [if_pos c]; omega
  rw [if_neg c]
  by_cases d : v < 4611686018427387904
  · rw [if_pos d]; omega
  rw [if_neg d]; omega
/-- A form that has a number is none that is less than its least one. -/
theorem form_min {v : Int} {f : Nat} (h : f < 4) (hv : v < lim f) : form v ≤ f := by
  rcases four h with rfl | rfl | rfl | rfl <;> (simp only [lim] at hv; unfold form)
  · rw [if_pos hv]; exact Nat.le_refl _
  · by_cases a : v < 64
    · rw [if_pos a]; omega
    · rw [if_neg a, if_pos hv]; exact Nat.le_refl _
  · by_cases a : v < 64
    · rw [if_pos a]; omega
    by_cases b : v < 16384
    · rw [if_neg a, if_pos b]; omega
    · rw [if_neg a, if_neg b, if_pos hv]; exact Nat.le_refl _
  · by_cases a : v < 64
    · rw [if_pos a]; omega
    by_cases b : v < 16384
    · rw [if_neg a, if_pos b]; omega
    by_cases c : v < 1073741824
    · rw [if_neg a, if_neg b, if_pos c]; omega
    · rw [if_neg a, if_neg b, if_neg c, if_pos hv]; exact Nat.le_refl _
theorem form_mono {v w : Int} (h : v ≤ w) : form v ≤ form w := by
  by_cases hw : form w < 4
  · exact form_min hw (by have := form_lt hw; omega)
  · have := form_le4 v; omega
theorem least_l0 (v : Int) (v0 : 0 ≤ v) : ∀ (d f : Nat), f + d = 4 → (∀ g, g < f → ¬ v < lim g) → Ev (fun k => vari_least.l0 k v (f : Int)) (if form v < 4 then ((form v : Nat) : Int) else 0, decide (form v < 4)) := by
  intro d
  induction d with
  | zero =>
    intro f hf hn
    have h4 : form v = 4 := by
      have h1 := form_le4 v
      by_cases h : form v < 4
      · exact absurd (form_lt h) (hn _ (by omega))
      · omega
    refine Ev.step (f := fun _ => some (0, false)) (fun k => by simp only [vari_least.l0]; rw [if_neg (by omega)]) (ev_eq (Ev.now _) ?_)
    rw [h4]
    rfl
  | succ d ih =>
    intro f hf hn
    by_cases c : v < lim f
    · have he : form v = f := by
        have h1 := form_min (by omega : f < 4) c
        by_cases h : form v < f
        · exact absurd (form_lt (by omega)) (hn _ h)
        · omega
      refine Ev.step (f := fun _ => some ((f : Int), true)) (fun k => by simp only [vari_least.l0]; rw [if_pos (by omega), holds_eq (by omega) v v0, Option.bind_some, if_pos (decide_eq_true c)]) (ev_eq (Ev.now _) ?_)
      rw [he, if_pos (by omega), decide_eq_true (by omega)]
    · refine Ev.step (fun k => by simp only [vari_least.l0]; rw [if_pos (by omega), holds_eq (by omega) v v0, Option.bind_some, if_neg (by simpa using c), w64_up f (by omega)]) (ih (f + 1) (by omega) (fun g hg => ?_))
      by_cases e : g = f
      · rw [e]; exact c
      · exact hn g (by omega)
theorem least_ev (v : Int) (v0 : 0 ≤ v) : Ev (fun k => vari_least.f k v) (if form v < 4 then ((form v : Nat) : Int) else 0, decide (form v < 4)) :=
  Ev.congr (fun k => rfl) (least_l0 v v0 4 0 rfl (fun g h => absurd h (by omega)))
/-- A number in form f. -/
def putF (f : Nat) (v : Int) : List Int × Int := if v < lim f then (putL ((f : Int) * lim f + v) (siz f), 0) else ([], 11)
theorem mark_lt {f : Nat} (h : f < 4) {v : Int} (v0 : 0 ≤ v) (hv : v < lim f) : 0 ≤ (f : Int) * lim f + v ∧ (f : Int) * lim f + v < 256 ^ siz f := by
  have h1 := lim_256 h
  have h2 := lim_pos h
  rw [← h1]
  clear h1 h2
  rcases four h with rfl | rfl | rfl | rfl <;> (simp only [lim] at hv ⊢; omega)
theorem or_mark {f : Nat} (h : f < 4) {v : Int} (v0 : 0 ≤ v) (hv : v < lim f) : Go.bits .or .u64 (shl .u64 (IntKind.u64.wrap (f : Int)) ((8 * siz f - 2 : Nat) : Int)) v = (f : Int) * lim f + v := by
  have e1 : shl .u64 (IntKind.u64.wrap (f : Int)) ((8 * siz f - 2 : Nat) : Int) = (f : Int) * lim f := by
    rcases four h with rfl | rfl | rfl | rfl <;> decide +kernel
  have h1 := lim_le h
  have h2 := lim_pos h
  have r0 : 0 ≤ (f : Int) * lim f := Int.mul_nonneg (by omega) (by omega)
  have r1 : (f : Int) * lim f < 18446744073709551616 := by
    rcases four h with rfl | rfl | rfl | rfl <;> decide +kernel
  have hm : ((f : Int) * lim f).toNat % 2 ^ (8 * siz f - 2) = 0 := by
    rcases four h with rfl | rfl | rfl | rfl <;> decide +kernel
  rw [e1, u64_or _ _ r0 r1 v0 (by omega), nat_join (8 * siz f - 2) _ _ hm (by rw [room_pow h]; omega)]
  omega
theorem put_form_ev {f : Nat} (h : f < 4) {v : Int} (v0 : 0 ≤ v) : Ev (fun k => vari_form_put.f k (f : Int) v) (putF f v) := by
  unfold putF
  by_cases c : v < lim f
  · rw [if_pos c]
    obtain ⟨m0, m1⟩ := mark_lt h v0 c
    have hs := siz_le h
    have hle := pow256_le (siz f) hs.2
    refine Ev.congr (fun k => by simp only [vari_form_put.f]; rw [holds_eq h v v0, Option.bind_some, if_pos (decide_eq_true c), room_eq h, Option.bind_some, if_pos (by omega), size_eq h, Option.bind_some, or_mark h v0 c]) ?_
    refine Ev.bind (put_ev _ _ m0 (by omega)) (ev_eq (Ev.now _) ?_)
    rw [putS, if_pos ⟨by omega, by omega, by rw [Int.toNat_natCast]; exact m1⟩, Int.toNat_natCast]
  · rw [if_neg c]
    exact Ev.congr (f := fun _ => some ([], 11)) (fun k => by simp only [vari_form_put.f]; rw [holds_eq h v v0, Option.bind_some, if_neg (by simpa using c)]) (Ev.now _)
/-- The least form. -/
def putV (v : Int) : List Int × Int := if form v < 4 then putF (form v) v else ([], 11)
theorem vput_ev {v : Int} (v0 : 0 ≤ v) : Ev (fun k => vari_Put.f k v) (putV v) := by
  unfold putV
  refine Ev.bind (least_ev v v0) ?_
  by_cases c : form v < 4
  · simp only [if_pos c, decide_eq_true c, if_true]
    exact Ev.bind (put_form_ev c v0) (Ev.now _)
  · simp only [if_neg c, decide_eq_false c]
    exact Ev.congr (fun k => if_neg (by decide)) (Ev.now _)
def wideV (v size : Int) : List Int × Int := if size = 1 then putF 0 v else if size = 2 then putF 1 v else if size = 4 then putF 2 v else if size = 8 then putF 3 v else ([], 11)
/-! ### the document's -/
theorem rlimit_siz {f : Nat} (h : f < 4) : crosswayref08_limit.f ((siz f : Nat) : Int) = some (lim f) := by
  rcases four h with rfl | rfl | rfl | rfl <;> decide +kernel
theorem rclass_siz {f : Nat} (h : f < 4) : crosswayref08_class.f ((siz f : Nat) : Int) = some (f : Int) := by
  rcases four h with rfl | rfl | rfl | rfl <;> decide +kernel
theorem rwide_siz {v : Int} (v0 : 0 ≤ v) (v1 : v < 18446744073709551616) {f : Nat} (h : f < 4) : Ev (fun k => crosswayref08_Wide.f k v ((siz f : Nat) : Int)) (putF f v) := by
  unfold putF
  by_cases c : v < lim f
  · obtain ⟨m0, m1⟩ := mark_lt h v0 c
    have hs := siz_le h
    have hle := pow256_le (siz f) hs.2
    have h2 := lim_pos h
    have r0 : 0 ≤ (f : Int) * lim f := Int.mul_nonneg (by omega) (by omega)
    have e1 : IntKind.u64.wrap (IntKind.u64.wrap ((f : Int) * lim f) + v) = (f : Int) * lim f + v := by rw [wrap_id (a := (f : Int) * lim f) r0 (by omega), wrap_id (by omega) (by omega)]
    rw [if_pos c]
    refine Ev.congr (fun k => by simp only [crosswayref08_Wide.f]; rw [rlimit_siz h, Option.bind_some, if_neg (by omega), rclass_siz h, Option.bind_some, Option.bind_some, e1]) ?_
    refine Ev.bind (rput_ev _ _ m0 (by omega)) (ev_eq (Ev.now _) ?_)
    rw [putS, if_pos ⟨by omega, by omega, by rw [Int.toNat_natCast]; exact m1⟩, Int.toNat_natCast]
  · rw [if_neg c]
    exact Ev.congr (f := fun _ => some ([], 11)) (fun k => by simp only [crosswayref08_Wide.f]; rw [rlimit_siz h, Option.bind_some, if_pos (by omega)]) (Ev.now _)
theorem rwide_ev {v : Int} (v0 : 0 ≤ v) (v1 : v < 18446744073709551616) (size : Int) : Ev (fun k => crosswayref08_Wide.f k v size) (wideV v size) := by
  unfold wideV
  by_cases n0 : size = 1
  · rw [if_pos n0, n0]; exact rwide_siz v0 v1 (f := 0) (by omega)
  by_cases n1 : size = 2
  · rw [if_neg n0, if_pos n1, n1]; exact rwide_siz v0 v1 (f := 1) (by omega)
  by_cases n2 : size = 4
  · rw [if_neg n0, if_neg n1, if_pos n2, n2]; exact rwide_siz v0 v1 (f := 2) (by omega)
  by_cases n3 : size = 8
  · rw [if_neg n0, if_neg n1, if_neg n2, if_pos n3, n3]; exact rwide_siz v0 v1 (f := 3) (by omega)
  rw [if_neg n0, if_neg n1, if_neg n2, if_neg n3]
  refine Ev.congr (f := fun _ => some ([], 11)) (fun k => ?_) (Ev.now _)
  simp only [crosswayref08_Wide.f, crosswayref08_limit.f]
  rw [if_neg n0, if_neg n1, if_neg n2, if_neg n3, Option.bind_some, if_pos (by omega)]
theorem rsize_l0 (v : Int) : ∀ (d f : Nat), f + d = 4 → (∀ g, g < f → ¬ v < lim g) → Ev (fun k => crosswayref08_Size.l0 k v ((siz f : Nat) : Int)) (if form v < 4 then ((siz (form v) : Nat) : Int) else 0) := by
  intro d
  induction d with
  | zero =>
    intro f hf hn
    have h4 : form v = 4 := by
      have h1 := form_le4 v
      by_cases h : form v < 4
      · exact absurd (form_lt h) (hn _ (by omega))
      · omega
    obtain rfl : f = 4 := by omega
    refine Ev.step (f := fun _ => some 0) (fun k => by simp only [crosswayref08_Size.l0]; rw [if_neg (by decide)]) (ev_eq (Ev.now _) ?_)
    rw [h4]
    rfl
  | succ d ih =>
    intro f hf hn
    have hs := siz_le (by omega : f < 4)
    have e2 : wrap64 (((siz f : Nat) : Int) * 2) = ((siz (f + 1) : Nat) : Int) := by
      rw [w64_in _ (by omega) (by omega), siz, siz, Nat.pow_succ]
      omega
    by_cases c : v < lim f
    · have he : form v = f := by
        have h1 := form_min (by omega : f < 4) c
        by_cases h : form v < f
        · exact absurd (form_lt (by omega)) (hn _ h)
        · omega
      refine Ev.step (f := fun _ => some ((siz f : Nat) : Int)) (fun k => by simp only [crosswayref08_Size.l0]; rw [if_pos (by omega), rlimit_siz (by omega), Option.bind_some, if_pos c]) (ev_eq (Ev.now _) ?_)
      rw [he, if_pos (by omega)]
    · refine Ev.step (fun k => by simp only [crosswayref08_Size.l0]; rw [if_pos (by omega), rlimit_siz (by omega), Option.bind_some, if_neg c, e2]) (ih (f + 1) (by omega) (fun g hg => ?_))
      by_cases e : g = f
      · rw [e]; exact c
      · exact hn g (by omega)
theorem rsize_ev (v : Int) : Ev (fun k => crosswayref08_Size.f k v) (if form v < 4 then ((siz (form v) : Nat) : Int) else 0) := Ev.congr (fun k => rfl) (rsize_l0 v 4 0 rfl (fun g h => absurd h (by omega)))
theorem rput8_ev {v : Int} (v0 : 0 ≤ v) (v1 : v < 18446744073709551616) : Ev (fun k => crosswayref08_Put.f k v) (putV v) := by
  refine Ev.bind (rsize_ev v) ?_
  unfold putV
  by_cases c : form v < 4
  · rw [if_pos c, if_pos c]
    exact Ev.bind (rwide_siz v0 v1 c) (Ev.now _)
  · rw [if_neg c, if_neg c]
    exact Ev.bind (rwide_ev v0 v1 0) (Ev.now _)
/-! ### take -/
/-- The form of a first byte. -/
def cls (b : List Int) : Nat := (rd b 0 / 64).toNat
/-- The number with which bytes begin. -/
def takeV (b : List Int) : Int × Int × Int := if b.length = 0 then (0, 0, 12) else if b.length < siz (cls b) then (0, 0, 12) else (numS (b.take (siz (cls b))) % lim (cls b), ((siz (cls b) : Nat) : Int), 0)
theorem cls_lt {b : List Int} (hb : ∀ x ∈ b, 0 ≤ x ∧ x < 256) (h : 0 < b.length) : cls b < 4 ∧ rd b 0 / 64 = ((cls b : Nat) : Int) := by
  have := hb _ (rd_mem b 0 h)
  simp only [Int.natCast_zero] at this
  unfold cls
  omega
theorem clear_mark {f : Nat} (h : f < 4) {n : Int} (n0 : 0 ≤ n) (n1 : n < 256 ^ siz f) (hq : n / lim f = (f : Int)) : Go.bits .andNot .u64 n (shl .u64 (IntKind.u64.wrap (f : Int)) ((8 * siz f - 2 : Nat) : Int)) = n % lim f := by
  have e1 : shl .u64 (IntKind.u64.wrap (f : Int)) ((8 * siz f - 2 : Nat) : Int) = (f : Int) * lim f := by
    rcases four h with rfl | rfl | rfl | rfl <;> decide +kernel
  have hp := lim_pos h
  have hle := pow256_le (siz f) (siz_le h).2
  have hm := Int.emod_add_mul_ediv n (lim f)
  have m0 := Int.emod_nonneg n (Int.ne_of_gt hp)
  have m1 := Int.emod_lt_of_pos n hp
  have r0 : 0 ≤ (f : Int) * lim f := Int.mul_nonneg (by omega) (by omega)
  rw [hq, Int.mul_comm] at hm
  have en : n.toNat = ((f : Int) * lim f).toNat ||| (n % lim f).toNat := by
    have hmz : ((f : Int) * lim f).toNat % 2 ^ (8 * siz f - 2) = 0 := by
      rcases four h with rfl | rfl | rfl | rfl <;> decide +kernel
    rw [nat_join (8 * siz f - 2) _ _ hmz (by rw [room_pow h]; omega)]
    omega
  rw [e1, u64_andNot n _ n0 (by omega) r0 (by omega)]
  have key : n.toNat &&& (18446744073709551615 - ((f : Int) * lim f).toNat) = (n % lim f).toNat := by
    rw [en]
    generalize hr : (n % lim f).toNat = r
    have hrl : r < 2 ^ (8 * siz f - 2) := by rw [room_pow h]; omega
    have hb : ((f : Int) * lim f).toNat = 2 ^ (8 * siz f - 2) * f := by
      rcases four h with rfl | rfl | rfl | rfl <;> decide +kernel
    have hroom := room_le h
    have hbl : ((f : Int) * lim f).toNat < 2 ^ 64 := by omega
    apply Nat.eq_of_testBit_eq
    intro i
    have hc : (18446744073709551615 - ((f : Int) * lim f).toNat).testBit i = (decide (i < 64) && !((f : Int) * lim f).toNat.testBit i) := by
      have := Nat.testBit_two_pow_sub_succ hbl i
      rw [← this]
      congr 1
      omega
    rw [Nat.testBit_and, Nat.testBit_or, hc]
    by_cases hi : i < 8 * siz f - 2
    · have hz : ((f : Int) * lim f).toNat.testBit i = false := by
        rw [hb, Nat.testBit_two_pow_mul]
        simp
        omega
      rw [hz, decide_eq_true (by omega)]
      simp
    · have hz : r.testBit i = false := Nat.testBit_lt_two_pow (Nat.lt_of_lt_of_le hrl (Nat.pow_le_pow_right (by omega) (by omega)))
      rw [hz]
      cases ((f : Int) * lim f).toNat.testBit i <;> simp
  rw [key]
  omega
theorem take_head {b : List Int} (h : 0 < b.length) {s : Nat} (hs : 0 < s) : b.take s = rd b 0 :: (b.drop 1).take (s - 1) := by
  cases b with
  | nil => simp at h
  | cons x b =>
    obtain ⟨m, rfl⟩ : ∃ m, s = m + 1 := ⟨s - 1, by omega⟩
    rfl
theorem mark_of {b : List Int} (hb : ∀ x ∈ b, 0 ≤ x ∧ x < 256) (h : 0 < b.length) (hl : siz (cls b) ≤ b.length) : 0 ≤ numS (b.take (siz (cls b))) ∧ numS (b.take (siz (cls b))) < 256 ^ siz (cls b) ∧ numS (b.take (siz (cls b))) / lim (cls b) = ((cls b : Nat) : Int) := by
  obtain ⟨c4, cq⟩ := cls_lt hb h
  have hs := siz_le c4
  have hlen : (b.take (siz (cls b))).length = siz (cls b) := by rw [List.length_take]; omega
  have hr := numS_range (b.take (siz (cls b))) (fun x hx => hb x (List.mem_of_mem_take hx))
  rw [hlen] at hr
  refine ⟨hr.1, hr.2, ?_⟩
  have hx := hb _ (rd_mem b 0 h)
  simp only [Int.natCast_zero] at hx
  have ht := numS_range ((b.drop 1).take (siz (cls b) - 1)) (fun x hx => hb x (List.mem_of_mem_drop (List.mem_of_mem_take hx)))
  have hl2 : ((b.drop 1).take (siz (cls b) - 1)).length = siz (cls b) - 1 := by rw [List.length_take, List.length_drop]; omega
  rw [take_head h (by omega), numS_cons, hl2]
  rw [hl2] at ht
  generalize cls b = f at *
  generalize rd b 0 = x at *
  generalize numS ((b.drop 1).take (siz f - 1)) = q at *
  clear hr hlen hl2 hl
  rcases four c4 with rfl | rfl | rfl | rfl <;> (simp only [lim, siz, Nat.reducePow, Nat.reduceSub] at *; omega)
theorem take_ev (b : List Int) (hb : ∀ x ∈ b, 0 ≤ x ∧ x < 256) (hm : b.length ≤ 9223372036854775807) : Ev (fun k => vari_Take.f k b) (takeV b) := by
  unfold takeV
  by_cases h0 : b.length = 0
  · rw [if_pos h0]
    exact Ev.congr (fun k => by simp only [vari_Take.f]; rw [if_pos (by omega)]) (Ev.now _)
  obtain ⟨c4, cq⟩ := cls_lt hb (by omega)
  have hs := siz_le c4
  have e1 : wrap64 (rd b 0 / 64) = ((cls b : Nat) : Int) := by rw [cq, w64_in _ (by omega) (by omega)]
  rw [if_neg h0]
  by_cases h1 : b.length < siz (cls b)
  · rw [if_pos h1]
    exact Ev.congr (f := fun _ => some (0, 0, 12)) (fun k => by simp only [vari_Take.f]; rw [if_neg (by omega), if_pos (by omega), e1, size_eq c4, Option.bind_some, if_pos (by omega)]) (Ev.now _)
  obtain ⟨n0, n1, nq⟩ := mark_of hb (by omega) (by omega)
  rw [if_neg h1]
  refine Ev.congr (fun k => by simp only [vari_Take.f]; rw [if_neg (by omega), if_pos (by omega), e1, size_eq c4, Option.bind_some, if_neg (by omega), if_pos (by omega), if_pos (by omega), Int.toNat_natCast]) ?_
  refine Ev.bind (num_ev _ (fun x hx => hb x (List.mem_of_mem_take hx))) (Ev.congr (f := fun _ => some (numS (b.take (siz (cls b))) % lim (cls b), ((siz (cls b) : Nat) : Int), 0)) (fun k => ?_) (Ev.now _))
  rw [room_eq c4, Option.bind_some, if_pos (by omega), numT, if_neg (by rw [List.length_take]; omega), clear_mark c4 n0 n1 nq]
theorem rtake_ev (b : List Int) (hb : ∀ x ∈ b, 0 ≤ x ∧ x < 256) (hm : b.length ≤ 9223372036854775807) : Ev (fun k => crosswayref08_Take.f k b) (takeV b) := by
  unfold takeV
  by_cases h0 : b.length = 0
  · rw [if_pos h0]
    exact Ev.congr (fun k => by simp only [crosswayref08_Take.f]; rw [if_pos (by omega)]) (Ev.now _)
  obtain ⟨c4, cq⟩ := cls_lt hb (by omega)
  have hx := hb _ (rd_mem b 0 (by omega))
  simp only [Int.natCast_zero] at hx
  have hs := siz_le c4
  have e1 : Int.tdiv (rd b 0) 64 % 256 = ((cls b : Nat) : Int) := by rw [Int.tdiv_eq_ediv_of_nonneg hx.1, cq]; omega
  have e2 : rd [1, 2, 4, 8] ((cls b : Nat) : Int) = ((siz (cls b) : Nat) : Int) := by
    rcases four c4 with h | h | h | h <;> rw [h] <;> rfl
  have hp := lim_pos c4
  rw [if_neg h0]
  by_cases h1 : b.length < siz (cls b)
  · rw [if_pos h1]
    exact Ev.congr (f := fun _ => some (0, 0, 12)) (fun k => by simp only [crosswayref08_Take.f]; rw [if_neg (by omega), Option.bind_some, if_pos (by omega), e1, if_pos (by omega), if_pos (by simp only [List.length_cons, List.length_nil]; omega), e2, if_pos (by omega)]) (Ev.now _)
  obtain ⟨n0, n1, nq⟩ := mark_of hb (by omega) (by omega)
  rw [if_neg h1]
  refine Ev.congr (fun k => by simp only [crosswayref08_Take.f]; rw [if_neg (by omega), Option.bind_some, if_pos (by omega), e1, if_pos (by omega), if_pos (by simp only [List.length_cons, List.length_nil]; omega), e2, if_neg (by omega), if_pos (by omega), if_pos (by omega), Int.toNat_natCast]) ?_
  refine Ev.bind (rnum_ev _ (fun x hx => hb x (List.mem_of_mem_take hx))) (Ev.congr (f := fun _ => some (numS (b.take (siz (cls b))) % lim (cls b), ((siz (cls b) : Nat) : Int), 0)) (fun k => ?_) (Ev.now _))
  rw [rlimit_siz c4, Option.bind_some, if_neg (by omega), numT, if_neg (by rw [List.length_take]; omega), Int.tmod_eq_emod_of_nonneg n0]
/-! ### rows -/
theorem putF_len {f : Nat} (h : f < 4) (v : Int) : (putF f v).1.length ≤ 8 := by
  have := siz_le h
  unfold putF
  by_cases c : v < lim f
  · rw [if_pos c, putL_length]; omega
  · rw [if_neg c]; simp
theorem putV_len (v : Int) : (putV v).1.length ≤ 8 := by
  unfold putV
  by_cases c : form v < 4
  · rw [if_pos c]; exact putF_len c v
  · rw [if_neg c]; simp
/-- Numbers' least forms, behind what there is. -/
def rowV (acc : List Int) : List Int → List Int × Int
  | [] => (acc, 0)
  | v :: l => if (putV v).2 = 0 then rowV (acc ++ (putV v).1) l else ([], (putV v).2)
theorem row_l0 (l : List Int) (hr : ∀ v ∈ l, 0 ≤ v ∧ v < 18446744073709551616) (hl : l.length ≤ 1000000) : ∀ (d i : Nat) (acc : List Int), i + d = l.length → acc.length ≤ 8 * i → Ev (fun k => vari_Row.l0 k acc l (l.length : Int) (i : Int)) (rowV acc (l.drop i)) := by
  intro d
  induction d with
  | zero =>
    intro i acc hi _
    refine Ev.step (f := fun _ => some (acc, 0)) (fun k => by simp only [vari_Row.l0]; rw [if_neg (by omega)]) (ev_eq (Ev.now _) ?_)
    rw [List.drop_of_length_le (by omega)]
    rfl
  | succ d ih =>
    intro i acc hi ha
    obtain ⟨v0, v1⟩ := hr _ (rd_mem l i (by omega))
    have hlen := putV_len (rd l (i : Int))
    rw [drop_rd l i (by omega), rowV]
    refine Ev.step (fun k => by simp only [vari_Row.l0]; rw [if_pos (by omega), if_pos (by omega), if_pos (by omega)]) (Ev.bind (vput_ev v0) ?_)
    by_cases c : (putV (rd l (i : Int))).2 = 0
    · rw [if_pos c]
      exact Ev.congr (fun k => by rw [if_pos c, if_pos (by omega), w64_up i (by omega)]) (ih (i + 1) _ (by omega) (by rw [List.length_append]; omega))
    · rw [if_neg c]
      exact Ev.congr (fun k => if_neg c) (Ev.now _)
theorem row_ev (l : List Int) (hr : ∀ v ∈ l, 0 ≤ v ∧ v < 18446744073709551616) (hl : l.length ≤ 1000000) : Ev (fun k => vari_Row.f k l) (rowV [] l) := Ev.congr (fun k => rfl) (row_l0 l hr hl l.length 0 [] (by omega) (by simp))
theorem rrow_l0 (l : List Int) (hr : ∀ v ∈ l, 0 ≤ v ∧ v < 18446744073709551616) (hl : l.length ≤ 1000000) : ∀ (d i : Nat) (acc : List Int), i + d = l.length → acc.length ≤ 8 * i → Ev (fun k => crosswayref08_Row.l0 k l acc (i : Int)) (rowV acc (l.drop i)) := by
  intro d
  induction d with
  | zero =>
    intro i acc hi _
    refine Ev.step (f := fun _ => some (acc, 0)) (fun k => by simp only [crosswayref08_Row.l0]; rw [if_neg (by omega)]) (ev_eq (Ev.now _) ?_)
    rw [List.drop_of_length_le (by omega)]
    rfl
  | succ d ih =>
    intro i acc hi ha
    obtain ⟨v0, v1⟩ := hr _ (rd_mem l i (by omega))
    have hlen := putV_len (rd l (i : Int))
    rw [drop_rd l i (by omega), rowV]
    refine Ev.step (fun k => by simp only [crosswayref08_Row.l0]; rw [if_pos (by omega), if_pos (by omega)]) (Ev.bind (rput8_ev v0 v1) ?_)
    by_cases c : (putV (rd l (i : Int))).2 = 0
    · rw [if_pos c]
      exact Ev.congr (fun k => by rw [if_pos c, if_pos (by omega), w64_up i (by omega)]) (ih (i + 1) _ (by omega) (by rw [List.length_append]; omega))
    · rw [if_neg c]
      exact Ev.congr (fun k => if_neg c) (Ev.now _)
theorem rrow_ev (l : List Int) (hr : ∀ v ∈ l, 0 ≤ v ∧ v < 18446744073709551616) (hl : l.length ≤ 1000000) : Ev (fun k => crosswayref08_Row.f k l) (rowV [] l) := Ev.congr (fun k => rfl) (rrow_l0 l hr hl l.length 0 [] (by omega) (by simp))
theorem rowV_len (l : List Int) : ∀ acc, (rowV acc l).1.length ≤ acc.length + 8 * l.length := by
  induction l with
  | nil => intro acc; simp [rowV]
  | cons v l ih =>
    intro acc
    rw [rowV]
    by_cases c : (putV v).2 = 0
    · rw [if_pos c]
      have := ih (acc ++ (putV v).1)
      have := putV_len v
      rw [List.length_append] at *
      rw [List.length_cons]
      omega
    · rw [if_neg c]; simp
/-! ### taken as it was put -/
theorem take_putF {f : Nat} (h : f < 4) {v : Int} (v0 : 0 ≤ v) (hv : v < lim f) (rest : List Int) : takeV ((putF f v).1 ++ rest) = (v, ((siz f : Nat) : Int), 0) := by
  have hs := siz_le h
  have hp := lim_pos h
  obtain ⟨m0, m1⟩ := mark_lt h v0 hv
  have e0 : (putF f v).1 = putL ((f : Int) * lim f + v) (siz f) := by rw [putF, if_pos hv]
  have hlen : (putL ((f : Int) * lim f + v) (siz f)).length = siz f := putL_length _ _
  have hrd : rd (putL ((f : Int) * lim f + v) (siz f) ++ rest) 0 / 64 = (f : Int) := by
    rcases four h with rfl | rfl | rfl | rfl <;> (simp only [lim, siz, putL, Nat.reducePow, rd, Int.toNat_zero, List.cons_append, List.getD_cons_zero] at *; omega)
  have hc : cls (putL ((f : Int) * lim f + v) (siz f) ++ rest) = f := by
    unfold cls
    rw [hrd]
    rfl
  rw [e0, takeV, hc, if_neg (by rw [List.length_append]; omega), if_neg (by rw [List.length_append]; omega)]
  have ht : (putL ((f : Int) * lim f + v) (siz f) ++ rest).take (siz f) = putL ((f : Int) * lim f + v) (siz f) := by
    rw [List.take_append_of_le_length (by omega), List.take_of_length_le (by omega)]
  rw [ht, numS_putL, Int.emod_eq_of_lt m0 m1, Int.add_comm, Int.add_mul_emod_self_right, Int.emod_eq_of_lt v0 hv]
theorem putF_ok {f : Nat} {v : Int} : (putF f v).2 = 0 ↔ v < lim f := by
  unfold putF
  by_cases c : v < lim f
  · rw [if_pos c]; simp [c]
  · rw [if_neg c]; simp [c]
theorem putF_bytes {f : Nat} (v : Int) : ∀ x ∈ (putF f v).1, 0 ≤ x ∧ x < 256 := by
  unfold putF
  by_cases c : v < lim f
  · rw [if_pos c]; exact putL_bytes _ _
  · rw [if_neg c]; simp
theorem putV_ok {v : Int} : (putV v).2 = 0 ↔ form v < 4 := by
  unfold putV
  by_cases c : form v < 4
  · rw [if_pos c, putF_ok]
    exact ⟨fun _ => c, fun _ => form_lt c⟩
  · rw [if_neg c]
    simp [c]
theorem putV_bytes (v : Int) : ∀ x ∈ (putV v).1, 0 ≤ x ∧ x < 256 := by
  unfold putV
  by_cases c : form v < 4
  · rw [if_pos c]; exact putF_bytes v
  · rw [if_neg c]; simp
end Go.Proofs.Ytmhmmmkpijbbiaa.PuVari
