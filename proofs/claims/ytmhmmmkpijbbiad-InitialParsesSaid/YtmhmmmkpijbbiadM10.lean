/- Contracts of the Go functions that the laws reach, each as a plain Lean function: written by xprint.py, a program of this repo. -/
import Derived.Test.YtmhmmmkpijbbiadM0
import Derived.Test.YtmhmmmkpijbbiadM1
import Derived.Test.YtmhmmmkpijbbiadM2
namespace Go.Proofs.Ytmhmmmkpijbbiad.M
open Go.RowKit Go.Proofs.YtmhmmmkpijbbiadW.PrintWords Go.Proofs.YtmhmmmkpijbbiadW.PrintLast Go.Proofs.YtmhmmmkpijbbiadW.PrintMore Go.Proofs.Ytmhmmmkpijbbiad.X
attribute [local go_sem] max2_int min2_int max_two min_two max_three min_three max_four min_four   -- for this text's walks alone
set_option linter.unusedVariables false
set_option linter.unusedSimpArgs false

/-! ### crosswayref10_id: function 42, typed by hand -/
theorem R_empty (W : World) (e : TypeId) : Kd.R (Kd.int .u8) e (W.alloc (.cells #[] e)) W.heap.size (fun _ => True) (.slice (some ⟨W.heap.size, 0, none⟩) 0 0) [] := by
  refine ⟨fun k hk => ?_, [], ?_, Reps.none _ _⟩
  · trivial
  · exact World.ownsRow_lit (base := W.heap.size) (e := e) (size := 1) W #[] 0 (Nat.le_refl _) (by simp [maxLen]) rfl
/-- What the reference's id tells. -/
def refId (l : List Int) : Option (List Int × List Int × Bool) :=
  match l with
  | [] => some ([], [], false)
  | b :: t => if 0 ≤ b ∧ b ≤ 255 then (if (t.length : Int) < b then some ([], [], false) else some (t.take b.toNat, t.drop b.toNat, true)) else none
set_option maxRecDepth 100000 in
set_option maxHeartbeats 1000000 in
theorem refid_true (A : Option Addr) (c m : Nat) (l t r1 r2 : List Int) (w : World) (hr : Kd.C (Kd.int .u8) w A l.length l) (hc : l.length ≤ c) (hl : l.length < 140737488355328) (hlt : l = (m : Int) :: t) (hm : m ≤ 255) (hmt : m ≤ t.length) (h1 : r1 = t.take m) (h2 : r2 = t.drop m) :
    Calls Try.prog 42 #[.slice A l.length c] w fun e w' => ∃ v0 A1 c1, e = .returned (.tuple #[v0, .slice A1 r2.length c1, .bool true]) ∧ Kd.R (Kd.int .u8) 5 w' w.heap.size (fun _ => True) v0 r1 ∧ (∀ W', Kd.C (Kd.int .u8) W' A l.length l → Kd.C (Kd.int .u8) W' A1 r2.length r2) ∧ r2.length ≤ c1 ∧ Below w.heap.size w w' := by
  have hll : l.length = t.length + 1 := by rw [hlt]; rfl
  obtain ⟨i0, hi0, _, hsz, _⟩ := info_parts info5
  obtain ⟨ad, e0, hx⟩ := Kd.at_int hr 0 (by omega) (by omega)
  subst e0
  rw [show ((0 : Int)).toNat = 0 from rfl, Addr.add_zero', show rd l 0 = (m : Int) by rw [hlt]; rfl] at hx
  have hcut := cut_mid (P := Try.prog) 22 5 .i64 .i64 Try.underlying22 hi0 1 hsz (some ad) l.length c (1 : Int) (1 + (m : Int)) (by omega) (by omega) (by omega) hc
  have hcut2 := cut_from (P := Try.prog) 22 5 .i64 Try.underlying22 hi0 1 hsz (some ad) l.length c (1 + (m : Int)) (by omega) (by omega)
  have e1 : (1 + (m : Int)).toNat = 1 + m := by omega
  rw [e1, show ((1 : Int)).toNat = 1 from rfl] at hcut
  rw [e1] at hcut2
  have hmid := Kd.C_mid (lo := 1) (hi := 1 + m) (c := c) hr (by omega) (by omega) hc
  have hdr := fun (W' : World) (h : Kd.C (Kd.int .u8) W' (some ad) l.length l) => Kd.C_drop (m := 1 + m) (c := c) h (by omega) hc
  have z1 : (l.take (1 + m)).drop 1 = r1 := by rw [hlt, Nat.add_comm, List.take_succ_cons, h1]; rfl
  have z2 : l.drop (1 + m) = r2 := by rw [hlt, Nat.add_comm, List.drop_succ_cons, h2]
  have n1 : r1.length = m := by rw [h1, List.length_take]; omega
  have n2 : r2.length = l.length - (1 + m) := by rw [h2, List.length_drop]; omega
  rw [z1] at hmid
  simp only [z2] at hdr
  obtain ⟨A1, hA1⟩ : ∃ A1 : Option Addr, A1 = (if c = 1 then some ad else (some ad).map (·.add (1 * 1))) := ⟨_, rfl⟩
  obtain ⟨A2, hA2⟩ : ∃ A2 : Option Addr, A2 = (if c = 1 + m then some ad else (some ad).map (·.add ((1 + m) * 1))) := ⟨_, rfl⟩
  obtain ⟨c1, hc1⟩ : ∃ c1 : Nat, c1 = c - 1 := ⟨_, rfl⟩
  obtain ⟨c2, hc2⟩ : ∃ c2 : Nat, c2 = c - (1 + m) := ⟨_, rfl⟩
  have hm1 : Kd.C (Kd.int .u8) w A1 r1.length r1 := by rw [hA1]; exact hmid
  have hm2 : ∀ W', Kd.C (Kd.int .u8) W' (some ad) l.length l → Kd.C (Kd.int .u8) W' A2 r2.length r2 := by rw [hA2]; exact hdr
  rw [show 1 + m - 1 = r1.length by omega, ← hc1, ← hA1] at hcut
  rw [← n2, ← hc2, ← hA2] at hcut2
  have g0 : ((l.length : Int) == 0) = false := beq_eq_false_iff_ne.mpr (by omega)
  have g1 : decide ((l.length : Int) - 1 < (m : Int)) = false := decide_eq_false (by omega)
  obtain ⟨n, hn⟩ : ∃ n : Nat, n = l.length := ⟨_, rfl⟩
  rw [← hn] at hcut hcut2 g0 g1 ⊢
  have HM1 := Aside0.mk hm1
  rw [← hn] at hm2
  have HM2 := Aside0.mk hm2
  have HC2 := Aside0.mk (show r2.length ≤ c2 by omega)
  have HN := Aside0.mk (show r1.length < 140737488355328 by omega)
  have q0 : (0 : Nat) < n := by omega
  have wm : IntKind.i64.wrap (m : Int) = (m : Int) := IntWalk.i64_in _ (by omega)
  have hi1 : (1 + (m : Int)) ≤ (n : Int) := by omega
  have hi2 : (0 : Int) ≤ 1 + (m : Int) := by omega
  have ws : IntKind.i64.wrap (1 + (m : Int)) = 1 + (m : Int) := IntWalk.i64_in _ (by omega)
  have ws2 : Go.RowKit.wrap64 (1 + (m : Int)) = 1 + (m : Int) := by rw [← i64_w]; exact ws
  have hnb : (n : Int) < 140737488355328 := by omega
  have hmb : (m : Int) < 140737488355328 := Int.lt_of_le_of_lt (Int.ofNat_le.mpr hm) (by decide)
  clear hr hmid hdr hA1 hA2 hm1 hm2 hlt h1 h2 z1 z2 hll n1 n2 hc1 hc2 hn e1 hm hmt hl hc hi0 hsz
  go_enter Try.func42, Try.ntmps42
  go_wp2_with fail
  go_region_held3 (fun _ => True) (trivial)
    (first
      | (refine Kd.R_append_rows_step (Kd.int .u8) (w0 := w) w.heap.size (by rfl) (.tmp 23) (.tmp 27) 22 5 (.int .u8 0) 1 rfl Try.underlying22 info5 rfl (by decide) (by omega) _ [] r1 _ _ _ (fun _ => True) (fun _ => False) rfl rfl ?aO ?aR (fun _ _ h => h) (fun _ h => h.elim) ?aF ?aB ?aS ?aL ?_; (case aF => exact (fun _ _ => trivial)); (case aR => exact Kd.C_below HM1.out (below_alloc (below_drew (Below.refl _ w)) _)); (case aB => exact below_alloc (below_drew (Below.refl _ w)) _); (case aO => exact Kd.R_drew (R_empty w 5)); (case aS => simp; done); (case aL => have := HN.out; simp; omega); intro v2 w2 ho hb hg hat; have HV := Aside0.mk ho; have HBB := Aside0.mk hb; clear ho hb hg hat))

  go_wp2_with fail
  go_ret3
  exact ⟨v2, A2, c2, rfl, HV.out, HM2.out, HC2.out, HBB.out⟩
set_option maxRecDepth 100000 in
set_option maxHeartbeats 1000000 in
theorem refid_empty (c : Nat) (A : Option Addr) (w : World) :
    Calls Try.prog 42 #[.slice A 0 c] w fun e w' => e = .returned (.tuple #[.slice none 0 0, .slice none 0 0, .bool false]) ∧ Below w.heap.size w w' := by
  go_enter Try.func42, Try.ntmps42
  go_wp2_with fail
  go_ret3
  exact ⟨rfl, Below.refl _ _⟩
set_option maxRecDepth 100000 in
set_option maxHeartbeats 1000000 in
theorem refid_false (A : Option Addr) (c : Nat) (m : Int) (l t : List Int) (w : World) (hr : Kd.C (Kd.int .u8) w A l.length l) (hc : l.length ≤ c) (hl : l.length < 140737488355328) (hlt : l = m :: t) (hm0 : 0 ≤ m) (hm : m ≤ 255) (hmt : (t.length : Int) < m) :
    Calls Try.prog 42 #[.slice A l.length c] w fun e w' => e = .returned (.tuple #[.slice none 0 0, .slice none 0 0, .bool false]) ∧ Below w.heap.size w w' := by
  have hll : l.length = t.length + 1 := by rw [hlt]; rfl
  obtain ⟨ad, e0, hx⟩ := Kd.at_int hr 0 (by omega) (by omega)
  subst e0
  rw [show ((0 : Int)).toNat = 0 from rfl, Addr.add_zero', show rd l 0 = m by rw [hlt]; rfl] at hx
  have g0 : ((l.length : Int) == 0) = false := beq_eq_false_iff_ne.mpr (by omega)
  have g1 : decide ((l.length : Int) - 1 < m) = true := decide_eq_true (by omega)
  obtain ⟨n, hn⟩ : ∃ n : Nat, n = l.length := ⟨_, rfl⟩
  rw [← hn] at g0 g1 ⊢
  have q0 : (0 : Nat) < n := by omega
  have wm : IntKind.i64.wrap m = m := IntWalk.i64_in _ (by omega)
  have hnb : (n : Int) < 140737488355328 := by omega
  clear hr hlt hll hn hm hmt hl hc hm0
  go_enter Try.func42, Try.ntmps42
  go_wp2_with fail
  go_ret3
  exact ⟨rfl, Below.refl _ _⟩
theorem refid_calls (A : Option Addr) (c : Nat) (l r1 r2 : List Int) (ok : Bool) (w : World) (hr : Kd.C (Kd.int .u8) w A l.length l) (hc : l.length ≤ c) (hl : l.length < 140737488355328) (h : refId l = some (r1, r2, ok)) :
    Calls Try.prog 42 #[.slice A l.length c] w fun e w' => ∃ v0 A1 c1, e = .returned (.tuple #[v0, .slice A1 r2.length c1, .bool ok]) ∧ Kd.R (Kd.int .u8) 5 w' w.heap.size (fun _ => True) v0 r1 ∧ (∀ W', Kd.C (Kd.int .u8) W' A l.length l → Kd.C (Kd.int .u8) W' A1 r2.length r2) ∧ r2.length ≤ c1 ∧ Below w.heap.size w w' := by
  rcases l with _ | ⟨b, t⟩
  · simp only [refId, Option.some.injEq, Prod.mk.injEq] at h
    obtain ⟨rfl, rfl, rfl⟩ := h
    exact (refid_empty c A w).mono fun e w' ⟨he, hb⟩ => ⟨_, none, 0, he, Kd.R_nil _ _ _ _ _, fun _ _ => ⟨rfl, Nat.zero_le _, fun h => absurd h (by simp)⟩, Nat.zero_le _, hb⟩
  · unfold refId at h
    dsimp only at h
    by_cases hb : 0 ≤ b ∧ b ≤ 255
    · rw [if_pos hb] at h
      by_cases hlt : (t.length : Int) < b
      · rw [if_pos hlt] at h
        simp only [Option.some.injEq, Prod.mk.injEq] at h
        obtain ⟨rfl, rfl, rfl⟩ := h
        exact (refid_false A c b _ t w hr hc hl rfl hb.1 hb.2 hlt).mono fun e w' ⟨he, hb⟩ => ⟨_, none, 0, he, Kd.R_nil _ _ _ _ _, fun _ _ => ⟨rfl, Nat.zero_le _, fun h => absurd h (by simp)⟩, Nat.zero_le _, hb⟩
      · rw [if_neg hlt] at h
        simp only [Option.some.injEq, Prod.mk.injEq] at h
        obtain ⟨h1, h2, rfl⟩ := h
        obtain ⟨m, rfl⟩ := Int.eq_ofNat_of_zero_le hb.1
        rw [Int.toNat_natCast] at h1 h2
        exact refid_true A c m _ t r1 r2 w hr hc hl rfl (by omega) (by omega) h1.symm h2.symm
    · rw [if_neg hb] at h
      cases h
theorem refId_len {l r1 r2 : List Int} {ok : Bool} (h : refId l = some (r1, r2, ok)) : r1.length ≤ l.length ∧ r2.length ≤ l.length := by
  rcases l with _ | ⟨b, t⟩
  · simp only [refId, Option.some.injEq, Prod.mk.injEq] at h
    obtain ⟨rfl, rfl, rfl⟩ := h
    exact ⟨Nat.le_refl _, Nat.le_refl _⟩
  · unfold refId at h
    dsimp only at h
    split at h
    · split at h
      · simp only [Option.some.injEq, Prod.mk.injEq] at h
        obtain ⟨rfl, rfl, rfl⟩ := h
        exact ⟨Nat.zero_le _, Nat.zero_le _⟩
      · simp only [Option.some.injEq, Prod.mk.injEq] at h
        obtain ⟨rfl, rfl, rfl⟩ := h
        simp only [List.length_take, List.length_drop, List.length_cons]
        omega
    · cases h


/-! ### crosswayref10_Parse: function 24, typed by hand -/
/-- The version's bytes, so many of them. -/
def verTo (l : List Int) : Nat → Int
  | 0 => 0
  | n + 1 => verTo l n * 256 + rd l (n + 1)
def bytes4 (l : List Int) : Prop := ∀ n : Nat, n < 4 → 0 ≤ rd l (n + 1) ∧ rd l (n + 1) ≤ 255
instance instBytes4 (l : List Int) : Decidable (bytes4 l) := Nat.decidableBallLT 4 (fun n _ => 0 ≤ rd l (n + 1) ∧ rd l (n + 1) ≤ 255)
theorem verTo_le {l : List Int} (h : bytes4 l) : ∀ n : Nat, n ≤ 4 → 0 ≤ verTo l n ∧ verTo l n < 256 ^ n := by
  intro n
  induction n with
  | zero => intro _; exact ⟨Int.le_refl _, by simp [verTo]⟩
  | succ n ih =>
    intro hn
    have h1 := ih (by omega)
    have h2 := h n (by omega)
    simp only [verTo, Int.pow_succ]
    omega
theorem verTo_24 {l : List Int} (h : bytes4 l) {m : Nat} (hm : m < 4) : verTo l m < 16777216 := by
  have h1 := verTo_le h m (by omega)
  have h2 : m = 0 ∨ m = 1 ∨ m = 2 ∨ m = 3 := by omega
  rcases h2 with rfl | rfl | rfl | rfl <;> simp at h1 ⊢ <;> omega
theorem four_at' {W : World} {b t : Nat} {x0 x1 x2 x3 : Value} (h : W.heap[b]? = some (.cells #[x0, x1, x2, x3] t (0, 0))) : W.cell? ⟨b, 0, none⟩ = some x0 ∧ W.cell? ⟨b, 1, none⟩ = some x1 ∧ W.cell? ⟨b, 2, none⟩ = some x2 ∧ W.cell? ⟨b, 3, none⟩ = some x3 := ⟨blk_cell h 0, blk_cell h 1, blk_cell h 2, blk_cell h 3⟩
/-- The end with an error: the result's cells are noughts. -/
theorem refend_blk {W : World} {g : Nat} (hT : W.heap[g]? = some (.cells #[.int .u8 0, .int .u32 0, .slice none 0 0, .slice none 0 0] 33 (0, 0))) :
    ((((W.setCell ⟨g, 0, none⟩ (.int .u8 0)).setCell ⟨g, 1, none⟩ (.int .u32 0)).setCell ⟨g, 2, none⟩ (.slice none 0 0)).setCell ⟨g, 3, none⟩ (.slice none 0 0)).heap[g]? = some (.cells #[.int .u8 0, .int .u32 0, .slice none 0 0, .slice none 0 0] 33 (0, 0)) :=
  blk_put (cs := #[.int .u8 0, .int .u32 0, .slice none 0 0, .slice none 0 0]) (blk_put (cs := #[.int .u8 0, .int .u32 0, .slice none 0 0, .slice none 0 0]) (blk_put (cs := #[.int .u8 0, .int .u32 0, .slice none 0 0, .slice none 0 0]) (blk_put (cs := #[.int .u8 0, .int .u32 0, .slice none 0 0, .slice none 0 0]) hT 0 _ rfl) 1 _ rfl) 2 _ rfl) 3 _ rfl
theorem refend_below {w W : World} {g : Nat} (hB : Below w.heap.size w W) (hg : w.heap.size ≤ g) (x0 x1 x2 x3 : Value) : Below w.heap.size w ((((W.setCell ⟨g, 0, none⟩ x0).setCell ⟨g, 1, none⟩ x1).setCell ⟨g, 2, none⟩ x2).setCell ⟨g, 3, none⟩ x3) :=
  (((hB.setCell (p := ⟨g, 0, none⟩) hg _).setCell (p := ⟨g, 1, none⟩) hg _).setCell (p := ⟨g, 2, none⟩) hg _).setCell (p := ⟨g, 3, none⟩) hg _
theorem refRow_below {W W' : World} {B B' : Nat} {v : Value} {l : List Int} (h : RowIn W B B' v l) (hb : Below W.heap.size W W') : RowIn W' B B' v l := Kd.R_grown h (grown_of_below hb none) (fun k hk e => by cases e)
set_option maxRecDepth 100000 in
set_option maxHeartbeats 4000000 in
theorem refparse_straight (A0 : Option Addr) (c0 : Nat) (l0 l5 r1 s1 r2 s2 : List Int) (ok1 ok2 : Bool) (w : World) (hr0 : Kd.C (Kd.int .u8) w A0 l0.length l0) (hc0 : l0.length ≤ c0) (hl : l0.length < 140737488355328) (h5 : 5 ≤ l0.length) (hb : ¬ rd l0 0 < 128) (h4 : bytes4 l0) (hl5 : l5 = l0.drop 5)
    (q1 : refId l5 = some (r1, s1, ok1)) (q2 : ok1 = true → refId s1 = some (r2, s2, ok2)) (R1 R2 R6 : Int) (R3 R4 R5 : List Int) (hres : (if ok1 = true ∧ ok2 = true then (rd l0 0, verTo l0 4, r1, r2, s2, (0 : Int)) else (0, 0, [], [], [], 12)) = (R1, R2, R3, R4, R5, R6)) :
    Calls Try.prog 24 #[.slice A0 l0.length c0] w fun e w' => ∃ v2_ v3_ v4_ : Value, e = .returned (.tuple #[.agg #[.int .u8 R1, .int .u32 R2, v2_, v3_], v4_, .int .i64 R6]) ∧ Kd.R (Kd.int .u8) 5 w' w.heap.size (fun k_ => some k_ ≠ (v3_ : Value).ownBlock ∧ some k_ ≠ (v4_ : Value).ownBlock) v2_ R3 ∧ Kd.R (Kd.int .u8) 5 w' w.heap.size (fun k_ => some k_ ≠ (v2_ : Value).ownBlock ∧ some k_ ≠ (v4_ : Value).ownBlock) v3_ R4 ∧ Kd.R (Kd.int .u8) 5 w' w.heap.size (fun k_ => some k_ ≠ (v2_ : Value).ownBlock ∧ some k_ ≠ (v3_ : Value).ownBlock) v4_ R5 ∧ Below w.heap.size w w' := by
  have hcut := cut_from (P := Try.prog) 22 5 .i64 Try.underlying22 (info_parts info5).choose_spec.1 1 (info_parts info5).choose_spec.2.2.1 A0 l0.length c0 (5 : Int) (by omega) (by omega)
  rw [show ((5 : Int)).toNat = 5 from rfl] at hcut
  have hdr := Kd.C_drop (m := 5) (c := c0) hr0 h5 hc0
  have n5 : l5.length = l0.length - 5 := by rw [hl5, List.length_drop]
  obtain ⟨A5, hA5⟩ : ∃ A5 : Option Addr, A5 = (if c0 = 5 then A0 else A0.map (·.add (5 * 1))) := ⟨_, rfl⟩
  obtain ⟨c5, hc5⟩ : ∃ c5 : Nat, c5 = c0 - 5 := ⟨_, rfl⟩
  have hC5 : Kd.C (Kd.int .u8) w A5 l5.length l5 := by rw [hA5, hl5]; exact hdr
  rw [← n5, ← hA5, ← hc5] at hcut
  have HC5 := Aside0.mk hC5
  have HK5 := Aside0.mk (show l5.length ≤ c5 by omega)
  have HL5 := Aside0.mk (show l5.length < 140737488355328 by omega)
  have Q1 := Aside0.mk q1
  have Q2 := Aside0.mk q2
  have HRES := Aside0.mk hres
  clear hdr n5 hA5 hc5 hC5 hl5 q1 q2 hres
  obtain ⟨ad, e0, hx⟩ := Kd.at_int hr0 0 (by omega) (by omega)
  subst e0
  rw [show ((0 : Int)).toNat = 0 from rfl, Addr.add_zero'] at hx
  have g0 : ((l0.length : Int) == 0) = false := beq_eq_false_iff_ne.mpr (by omega)
  have g1 : decide (rd l0 0 < 128) = false := decide_eq_false hb
  have g2 : decide ((l0.length : Int) < 5) = false := decide_eq_false (by omega)
  obtain ⟨b0, hb0⟩ : ∃ b0 : Int, b0 = rd l0 0 := ⟨_, rfl⟩
  have HR0 := Aside0.mk hr0
  have H4 := Aside0.mk h4
  have HC0 := Aside0.mk hc0
  have HL := Aside0.mk hl
  have HLE := Aside0.mk h5
  rw [← hb0] at hx g1
  obtain ⟨n, hn⟩ : ∃ n : Nat, n = l0.length := ⟨_, rfl⟩
  rw [← hn] at g0 g2 hcut ⊢
  have HN := Aside0.mk hn
  have HB0 := Aside0.mk hb0
  have q0 : (0 : Nat) < n := by omega
  have hx1 : (w.alloc (.cells #[.int .u8 0, .int .u32 0, .slice none 0 0, .slice none 0 0] 33)).cell? ad = some (.int .u8 b0) := by rw [World.cell?_alloc_some w ad _ (by rw [hx]; rfl)]; exact hx
  clear hr0 h4 hc0 hl h5 hb hn hb0
  go_enter Try.func24, Try.ntmps24
  go_wp2_with fail
  clear hx1 hx
  go_loopg [6] 4 (fun kq v6 wr => ∃ (m : Nat) (i : Int), v6 = .int .i64 i ∧ Aside0 (m + kq = 4 ∧ i = 1 + (m : Int)) ∧ Aside0 (wr.heap[w.heap.size]? = some (.cells #[.int .u8 0, .int .u32 0, .slice none 0 0, .slice none 0 0] 33 (0, 0))) ∧ Aside0 (wr.heap[w.heap.size + 1]? = some (.cells #[.int .u8 b0, .int .u32 (verTo l0 m), .slice none 0 0, .slice none 0 0] 33 (0, 0))) ∧ Aside0 (Below w.heap.size w wr) ∧ Aside0 (wr.heap.size = w.heap.size + 2))
  case atStart =>
    refine ⟨0, 1, rfl, ⟨rfl, rfl⟩, ⟨blk_alloc (heap_alloc_new w _) _⟩, ⟨?_⟩, ⟨below_alloc (below_alloc (Below.refl _ w) _) _⟩, ⟨by simp⟩⟩
    have := heap_alloc_new (w.alloc (.cells #[.int .u8 0, .int .u32 0, .slice none 0 0, .slice none 0 0] 33)) (.cells #[.int .u8 b0, .int .u32 0, .slice none 0 0, .slice none 0 0] 33)
    rw [World.size_alloc] at this
    exact this
  case round =>
    obtain ⟨m, i, rfl, HI, HT, HH, HB, HS⟩ := hrel
    have hk1 := blk_cell HH.out 1
    have hf1 := blk_frozen HH.out 1
    simp at hk1
    by_cases hm : i < 5
    · have hc : decide (i < 5) = true := decide_eq_true hm
      have hm4 : m < 4 := by have := HI.out.2; omega
      have hiN : i < (n : Int) := by have := HLE.out; have := HN.out; omega
      have hi0' : 0 ≤ i := by have := HI.out.2; omega
      obtain ⟨ad2, e2, hx⟩ := Kd.at_int (Kd.C_below HR0.out HB.out) i hi0' (by rw [← HN.out]; exact hiN)
      cases e2
      have hrd : rd l0 i = rd l0 (m + 1) := by rw [HI.out.2, Int.add_comm]
      have hv := verTo_le H4.out m (by omega)
      have hb4 := H4.out m hm4
      have hv4 := verTo_24 H4.out hm4
      obtain ⟨V, hV⟩ : ∃ V : Int, V = verTo l0 m := ⟨_, rfl⟩
      obtain ⟨b, hbv⟩ : ∃ b : Int, b = rd l0 (m + 1) := ⟨_, rfl⟩
      rw [← hV] at hv4 hv hk1
      rw [hrd] at hx
      rw [← hbv] at hb4 hx
      have w1 : IntKind.u32.wrap (V * 256) = V * 256 := IntWalk.u32_in _ (by omega)
      have w2 : IntKind.u32.wrap b = b := IntWalk.u32_in _ (by omega)
      have w3 : IntKind.u32.wrap (V * 256 + b) = V * 256 + b := IntWalk.u32_in _ (by omega)
      have HV := Aside0.mk hV
      have HBV := Aside0.mk hbv
      have HM4 := Aside0.mk hm4
      have HIN := Aside0.mk hiN
      have p1 := eq_true hi0'
      have p2 := eq_true hiN
      have w4 : IntKind.i64.wrap (i + 1) = i + 1 := IntWalk.i64_in _ (by have := HI.out; omega)
      clear hV hbv hrd hv hb4 hv4 hm4 hm hiN hi0'
      go_wp2
      go_still_tail 10, (by kernel_rfl)
      change wpList _ _ _ _ _ wr.drew
      go_wp2
      go_roundg (gk - 1)
      case measure => have := HI.out; have := HM4.out; omega
      case rel =>
        refine ⟨m + 1, i + 1, rfl, ⟨by have := HI.out; have := HM4.out; omega, by have := HI.out.2; rw [this]; push_cast; omega⟩, ⟨?_⟩, ⟨?_⟩, ⟨?_⟩, ⟨?_⟩⟩
        · exact blk_far (p := ⟨w.heap.size + 1, 1, none⟩) (blk_drew HT.out) (by dsimp only; omega) _
        · have := blk_put (cs := #[.int .u8 b0, .int .u32 (verTo l0 m), .slice none 0 0, .slice none 0 0]) (blk_drew HH.out) 1 (.int .u32 (V * 256 + b)) rfl
          rw [HV.out, HBV.out] at this ⊢
          exact this
        · exact (below_drew HB.out).setCell (p := ⟨w.heap.size + 1, 1, none⟩) (Nat.le_succ _) _
        · have := HS.out; simpa using this
    · have hc : decide (i < 5) = false := decide_eq_false hm
      have hm4 : m = 4 := by have := HI.out; omega
      subst hm4
      clear hm HI hk1 hf1
      go_wp2_with fail
      (with_reducible refine (refid_calls _ _ _ _ _ _ _ (Kd.C_below HC5.out HB.out) HK5.out HL5.out Q1.out).mono ?_)
      rintro en w1 ⟨v1, A1, c1, rfl, hv1, hC1, hc1, hb1⟩
      obtain ⟨B1, d1, rfl, _, _⟩ := row_at hv1
      have HL1 := Aside0.mk (show s1.length < 140737488355328 by have := (refId_len Q1.out).2; have := HL5.out; omega)
      have HV1 := Aside0.mk (RowIn.of hv1)
      have HC1 := Aside0.mk (hC1 _ HC5.out)
      have HK1 := Aside0.mk hc1
      have HT1 := Aside0.mk (blk_below HT.out hb1)
      have HH1 := Aside0.mk (blk_below HH.out hb1)
      have HB1 := Aside0.mk (HB.out.trans (hb1.mono HB.out.size))
      have HS1 := Aside0.mk hb1.size
      clear hv1 hC1 hc1 hb1 HT HH HB
      rcases ok1 with _ | _
      · have ht0 := blk_cell HT1.out 0
        have ht1 := blk_cell HT1.out 1
        have ht2 := blk_cell HT1.out 2
        have ht3 := blk_cell HT1.out 3
        have hu0 := blk_frozen HT1.out 0
        have hu1 := blk_frozen HT1.out 1
        have hu2 := blk_frozen HT1.out 2
        have hu3 := blk_frozen HT1.out 3
        simp at ht0 ht1 ht2 ht3
        go_wp2_with fail
        have hres := HRES.out
        rw [if_neg (by simp)] at hres
        simp only [Prod.mk.injEq] at hres
        obtain ⟨rfl, rfl, rfl, rfl, rfl, rfl⟩ := hres
        exact bodyPost_ret (results_ctt rfl _ _ w.heap.size 33 #[.int .u8 0, .int .u32 0, .slice none 0 0, .slice none 0 0] (0, 0) _ rfl (refend_blk HT1.out) Try.underlying33 rfl (by kernel_rfl)) rfl ⟨.slice none 0 0, .slice none 0 0, .slice none 0 0, rfl, Kd.R_nil _ _ _ _ _, Kd.R_nil _ _ _ _ _, Kd.R_nil _ _ _ _ _, refend_below HB1.out (Nat.le_refl _) _ _ _ _⟩
      · go_wp2_with fail
        (with_reducible refine (refid_calls _ _ _ _ _ _ _ (Kd.C_below HC1.out HB1.out) HK1.out HL1.out (Q2.out trivial)).mono ?_)
        rintro en w2 ⟨v2, A2, c2, rfl, hv2, hC2, hc2, hb2⟩
        obtain ⟨B2, d2, rfl, _, _⟩ := row_at hv2
        have HV2 := Aside0.mk (RowIn.of hv2)
        have HV12 := Aside0.mk (refRow_below HV1.out hb2)
        have HC2 := Aside0.mk (hC2 _ HC1.out)
        have HK2 := Aside0.mk hc2
        have HL2 := Aside0.mk (show s2.length < 140737488355328 by have := (refId_len (Q2.out trivial)).2; have := HL1.out; omega)
        have HT2 := Aside0.mk (blk_below HT1.out hb2)
        have HH2 := Aside0.mk (blk_below HH1.out hb2)
        have HB2 := Aside0.mk (HB1.out.trans (hb2.mono HB1.out.size))
        have HS2 := Aside0.mk hb2.size
        clear hv2 hC2 hc2 hb2 HT1 HH1 HB1 HV1 HC1 HK1 HL1
        rcases ok2 with _ | _
        · have ht0 := blk_cell HT2.out 0
          have ht1 := blk_cell HT2.out 1
          have ht2 := blk_cell HT2.out 2
          have ht3 := blk_cell HT2.out 3
          have hu0 := blk_frozen HT2.out 0
          have hu1 := blk_frozen HT2.out 1
          have hu2 := blk_frozen HT2.out 2
          have hu3 := blk_frozen HT2.out 3
          simp at ht0 ht1 ht2 ht3
          go_wp2_with fail
          have hres := HRES.out
          rw [if_neg (by simp)] at hres
          simp only [Prod.mk.injEq] at hres
          obtain ⟨rfl, rfl, rfl, rfl, rfl, rfl⟩ := hres
          exact bodyPost_ret (results_ctt rfl _ _ w.heap.size 33 #[.int .u8 0, .int .u32 0, .slice none 0 0, .slice none 0 0] (0, 0) _ rfl (refend_blk HT2.out) Try.underlying33 rfl (by kernel_rfl)) rfl ⟨.slice none 0 0, .slice none 0 0, .slice none 0 0, rfl, Kd.R_nil _ _ _ _ _, Kd.R_nil _ _ _ _ _, Kd.R_nil _ _ _ _ _, refend_below HB2.out (Nat.le_refl _) _ _ _ _⟩
        · have hh2 := blk_cell HH2.out 2
          have hh3 := blk_cell HH2.out 3
          have hf2 := blk_frozen HH2.out 2
          have hf3 := blk_frozen HH2.out 3
          simp at hh2 hh3
          go_wp2_with fail
          have hs1 := HS1.out
          have hs2 := HS2.out
          have hsr := HS.out
          have hT8 := blk_far (blk_far HT2.out (p := ⟨w.heap.size + 1, 2, none⟩) (by dsimp only; omega) (.slice B1 r1.length d1)) (p := ⟨w.heap.size + 1, 3, none⟩) (by dsimp only; omega) (.slice B2 r2.length d2)
          have hH8 := blk_put (cs := #[.int .u8 b0, .int .u32 (verTo l0 4), .slice B1 r1.length d1, .slice none 0 0]) (blk_put (cs := #[.int .u8 b0, .int .u32 (verTo l0 4), .slice none 0 0, .slice none 0 0]) HH2.out 2 (.slice B1 r1.length d1) rfl) 3 (.slice B2 r2.length d2) rfl
          have hV1 := (HV12.out.far (p := ⟨w.heap.size + 1, 2, none⟩) (by dsimp only; omega) (.slice B1 r1.length d1)).far (p := ⟨w.heap.size + 1, 3, none⟩) (by dsimp only; omega) (.slice B2 r2.length d2)
          have hV2 := (HV2.out.far (p := ⟨w.heap.size + 1, 2, none⟩) (by dsimp only; omega) (.slice B1 r1.length d1)).far (p := ⟨w.heap.size + 1, 3, none⟩) (by dsimp only; omega) (.slice B2 r2.length d2)
          have hB8 := (HB2.out.setCell (p := ⟨w.heap.size + 1, 2, none⟩) (Nat.le_succ _) (.slice B1 r1.length d1)).setCell (p := ⟨w.heap.size + 1, 3, none⟩) (Nat.le_succ _) (.slice B2 r2.length d2)
          have hS8 : ((w2.setCell ⟨w.heap.size + 1, 2, none⟩ (.slice B1 r1.length d1)).setCell ⟨w.heap.size + 1, 3, none⟩ (.slice B2 r2.length d2)).heap.size = w2.heap.size := by simp
          generalize (w2.setCell ⟨w.heap.size + 1, 2, none⟩ (.slice B1 r1.length d1)).setCell ⟨w.heap.size + 1, 3, none⟩ (.slice B2 r2.length d2) = w8 at hT8 hH8 hV1 hV2 hB8 hS8 ⊢
          have HT8 := Aside0.mk hT8
          have HH8 := Aside0.mk hH8
          have HV18 := Aside0.mk hV1
          have HV28 := Aside0.mk hV2
          have HB8 := Aside0.mk hB8
          have HS8 := Aside0.mk hS8
          have hk0 := blk_cell hH8 0
          have hk1 := blk_cell hH8 1
          have hk2 := blk_cell hH8 2
          have hk3 := blk_cell hH8 3
          simp at hk0 hk1 hk2 hk3
          clear hT8 hH8 hV1 hV2 hB8 hS8 hs1 hs2 hsr hh2 hh3 hf2 hf3 HT2 HH2 HB2 HV12 HV2
          go_region_held3 (fun w' => w'.cell? ⟨w.heap.size + 1, 0, none⟩ = some (.int .u8 b0) ∧ w'.cell? ⟨w.heap.size + 1, 1, none⟩ = some (.int .u32 (verTo l0 4)) ∧ w'.cell? ⟨w.heap.size + 1, 2, none⟩ = some (.slice B1 r1.length d1) ∧ w'.cell? ⟨w.heap.size + 1, 3, none⟩ = some (.slice B2 r2.length d2))
            (first
              | go_keep
              | exact HSk.out)
            (first
              | (refine Kd.R_append_rows_step (Kd.int .u8) (w0 := w8) w8.heap.size (by rfl) (.tmp 66) (.tmp 67) 22 5 (.int .u8 0) 1 rfl Try.underlying22 info5 rfl (by decide) (by omega) _ [] s2 _ _ _ (fun _ => True) (fun _ => False) rfl rfl ?aO ?aR (fun _ _ h => h) (fun _ h => h.elim) ?aF ?aB ?aS ?aL ?_; (case aF => exact (fun _ _ => trivial)); (case aR => exact Kd.C_below HC2.out (HB8.out.trans ((below_alloc (below_drew (Below.refl _ w8)) _).mono HB8.out.size))); (case aB => exact below_alloc (below_drew (Below.refl _ w8)) _); (case aO => exact Kd.R_drew (R_empty w8 5)); (case aS => simp; done); (case aL => have := HL2.out; simp; omega); intro v3 w10 ho hb hg hat; have HV3 := Aside0.mk (RowIn.of ho); have hz := blk_below HT8.out hb; have ht0 := blk_cell hz 0; have ht1 := blk_cell hz 1; have ht2 := blk_cell hz 2; have ht3 := blk_cell hz 3; have hu0 := blk_frozen hz 0; have hu1 := blk_frozen hz 1; have hu2 := blk_frozen hz 2; have hu3 := blk_frozen hz 3; simp at ht0 ht1 ht2 ht3; have HT10 := Aside0.mk hz; have HSk := Aside0.mk (four_at' (blk_below HH8.out hb)); have HB10 := Aside0.mk (HB8.out.trans (hb.mono HB8.out.size)); have HV110 := Aside0.mk (refRow_below HV18.out hb); have HV210 := Aside0.mk (refRow_below HV28.out hb); clear ho hb hg hat hz))
          go_wp2_with fail
          have hres := HRES.out
          rw [if_pos ⟨trivial, trivial⟩, ← HB0.out] at hres
          simp only [Prod.mk.injEq] at hres
          obtain ⟨rfl, rfl, rfl, rfl, rfl, rfl⟩ := hres
          have hs0 := HS.out
          have hs1 := HS1.out
          have hs2 := HS2.out
          have hs8 := HS8.out
          refine bodyPost_ret (results_ctt rfl _ _ w.heap.size 33 #[.int .u8 b0, .int .u32 (verTo l0 4), .slice B1 r1.length d1, .slice B2 r2.length d2] (0, 0) _ rfl (blk_put (cs := #[.int .u8 b0, .int .u32 (verTo l0 4), .slice B1 r1.length d1, .slice none 0 0]) (blk_put (cs := #[.int .u8 b0, .int .u32 (verTo l0 4), .slice none 0 0, .slice none 0 0]) (blk_put (cs := #[.int .u8 b0, .int .u32 0, .slice none 0 0, .slice none 0 0]) (blk_put (cs := #[.int .u8 0, .int .u32 0, .slice none 0 0, .slice none 0 0]) HT10.out 0 _ rfl) 1 _ rfl) 2 _ rfl) 3 _ rfl) Try.underlying33 rfl (by kernel_rfl)) rfl ?_
          have q1 := (((HV110.out.far (p := ⟨w.heap.size, 0, none⟩) (by dsimp only; omega) (.int .u8 b0)).far (p := ⟨w.heap.size, 1, none⟩) (by dsimp only; omega) (.int .u32 (verTo l0 4))).far (p := ⟨w.heap.size, 2, none⟩) (by dsimp only; omega) (.slice B1 r1.length d1)).far (p := ⟨w.heap.size, 3, none⟩) (by dsimp only; omega) (.slice B2 r2.length d2)
          have q2 := (((HV210.out.far (p := ⟨w.heap.size, 0, none⟩) (by dsimp only; omega) (.int .u8 b0)).far (p := ⟨w.heap.size, 1, none⟩) (by dsimp only; omega) (.int .u32 (verTo l0 4))).far (p := ⟨w.heap.size, 2, none⟩) (by dsimp only; omega) (.slice B1 r1.length d1)).far (p := ⟨w.heap.size, 3, none⟩) (by dsimp only; omega) (.slice B2 r2.length d2)
          have q3 := (((HV3.out.far (p := ⟨w.heap.size, 0, none⟩) (by dsimp only; omega) (.int .u8 b0)).far (p := ⟨w.heap.size, 1, none⟩) (by dsimp only; omega) (.int .u32 (verTo l0 4))).far (p := ⟨w.heap.size, 2, none⟩) (by dsimp only; omega) (.slice B1 r1.length d1)).far (p := ⟨w.heap.size, 3, none⟩) (by dsimp only; omega) (.slice B2 r2.length d2)
          refine ⟨.slice B1 r1.length d1, .slice B2 r2.length d2, v3, rfl, Kd.R_lower (Kd.R_mono q1 (fun k hk => ⟨fun e => ?_, fun e => ?_⟩)) (by omega), Kd.R_lower (Kd.R_mono q2 (fun k hk => ⟨fun e => ?_, fun e => ?_⟩)) (by omega), Kd.R_lower (Kd.R_mono q3 (fun k hk => ⟨fun e => ?_, fun e => ?_⟩)) (by omega), refend_below HB10.out (Nat.le_refl _) _ _ _ _⟩
          · have := q2.base k e.symm; omega
          · have := q3.base k e.symm; omega
          · have := q1.base k e.symm; omega
          · have := q3.base k e.symm; omega
          · have := q1.base k e.symm; omega
          · have := q2.base k e.symm; omega
def crosswayref10_Parse.f (l0 : List Int) : Option (Int × Int × List Int × List Int × List Int × Int) :=
  if l0.length < 140737488355328 then
    if l0.length = 0 then some (0, 0, [], [], [], 12) else if rd l0 0 < 128 then some (0, 0, [], [], [], 14) else if l0.length < 5 then some (0, 0, [], [], [], 12) else
    if bytes4 l0 then (refId (l0.drop 5)).bind fun x => (if x.2.2 = true then refId x.2.1 else some ([], [], false)).bind fun y =>
      some (if x.2.2 = true ∧ y.2.2 = true then (rd l0 0, verTo l0 4, x.1, y.1, y.2.1, (0 : Int)) else (0, 0, [], [], [], 12)) else none
  else none
set_option maxRecDepth 100000 in
set_option maxHeartbeats 1000000 in
theorem refparse_kind (A0 : Option Addr) (c0 : Nat) (l0 : List Int) (w : World) (hr0 : Kd.C (Kd.int .u8) w A0 l0.length l0) (e : Int) (he : (l0.length = 0 ∧ e = 12) ∨ (0 < l0.length ∧ rd l0 0 < 128 ∧ e = 14) ∨ (0 < l0.length ∧ ¬ rd l0 0 < 128 ∧ l0.length < 5 ∧ e = 12)) :
    Calls Try.prog 24 #[.slice A0 l0.length c0] w fun en w' => en = .returned (.tuple #[.agg #[.int .u8 0, .int .u32 0, .slice none 0 0, .slice none 0 0], .slice none 0 0, .int .i64 e]) ∧ Below w.heap.size w w' := by
  have hB := below_alloc (Below.refl w.heap.size w) (.cells #[.int .u8 0, .int .u32 0, .slice none 0 0, .slice none 0 0] 33)
  have hT := heap_alloc_new w (.cells #[.int .u8 0, .int .u32 0, .slice none 0 0, .slice none 0 0] 33)
  have HB := Aside0.mk hB
  have HT := Aside0.mk hT
  clear hB hT
  rcases he with ⟨h0, rfl⟩ | ⟨h0, h1, rfl⟩ | ⟨h0, h1, h2, rfl⟩
  · have g0 : ((l0.length : Int) == 0) = true := beq_iff_eq.mpr (by omega)
    obtain ⟨n, hn⟩ : ∃ n : Nat, n = l0.length := ⟨_, rfl⟩
    rw [← hn] at g0 ⊢
    clear hr0 h0 hn
    go_enter Try.func24, Try.ntmps24
    go_wp2_with fail
    have hT := HT.out
    have hB := HB.out
    (try clear hx1)
    clear HT HB
    generalize w.alloc (.cells #[.int .u8 0, .int .u32 0, .slice none 0 0, .slice none 0 0] 33) = w5 at hT hB ⊢
    refine bodyPost_ret (results_ctt rfl _ _ w.heap.size 33 #[.int .u8 0, .int .u32 0, .slice none 0 0, .slice none 0 0] (0, 0) _ rfl hT Try.underlying33 rfl (by kernel_rfl)) rfl ?_
    exact ⟨rfl, hB⟩
  · obtain ⟨ad, e0, hx⟩ := Kd.at_int hr0 0 (by omega) (by omega)
    subst e0
    rw [show ((0 : Int)).toNat = 0 from rfl, Addr.add_zero'] at hx
    obtain ⟨b0, hb0⟩ : ∃ b0 : Int, b0 = rd l0 0 := ⟨_, rfl⟩
    rw [← hb0] at hx h1
    have g0 : ((l0.length : Int) == 0) = false := beq_eq_false_iff_ne.mpr (by omega)
    have g1 : decide (b0 < 128) = true := decide_eq_true h1
    have hx1 : (w.alloc (.cells #[.int .u8 0, .int .u32 0, .slice none 0 0, .slice none 0 0] 33)).cell? ad = some (.int .u8 b0) := by rw [World.cell?_alloc_some w ad _ (by rw [hx]; rfl)]; exact hx
    obtain ⟨n, hn⟩ : ∃ n : Nat, n = l0.length := ⟨_, rfl⟩
    rw [← hn] at g0 ⊢
    have q0 : (0 : Nat) < n := by omega
    clear hr0 h0 hn h1 hb0
    go_enter Try.func24, Try.ntmps24
    go_wp2_with fail
    have hT := HT.out
    have hB := HB.out
    (try clear hx1)
    clear HT HB
    generalize w.alloc (.cells #[.int .u8 0, .int .u32 0, .slice none 0 0, .slice none 0 0] 33) = w5 at hT hB ⊢
    refine bodyPost_ret (results_ctt rfl _ _ w.heap.size 33 #[.int .u8 0, .int .u32 0, .slice none 0 0, .slice none 0 0] (0, 0) _ rfl hT Try.underlying33 rfl (by kernel_rfl)) rfl ?_
    exact ⟨rfl, hB⟩
  · obtain ⟨ad, e0, hx⟩ := Kd.at_int hr0 0 (by omega) (by omega)
    subst e0
    rw [show ((0 : Int)).toNat = 0 from rfl, Addr.add_zero'] at hx
    obtain ⟨b0, hb0⟩ : ∃ b0 : Int, b0 = rd l0 0 := ⟨_, rfl⟩
    rw [← hb0] at hx h1
    have g0 : ((l0.length : Int) == 0) = false := beq_eq_false_iff_ne.mpr (by omega)
    have g1 : decide (b0 < 128) = false := decide_eq_false h1
    have g2 : decide ((l0.length : Int) < 5) = true := decide_eq_true (by omega)
    have hx1 : (w.alloc (.cells #[.int .u8 0, .int .u32 0, .slice none 0 0, .slice none 0 0] 33)).cell? ad = some (.int .u8 b0) := by rw [World.cell?_alloc_some w ad _ (by rw [hx]; rfl)]; exact hx
    obtain ⟨n, hn⟩ : ∃ n : Nat, n = l0.length := ⟨_, rfl⟩
    rw [← hn] at g0 g2 ⊢
    have q0 : (0 : Nat) < n := by omega
    clear hr0 h0 hn h1 hb0 h2
    go_enter Try.func24, Try.ntmps24
    go_wp2_with fail
    have hT := HT.out
    have hB := HB.out
    (try clear hx1)
    clear HT HB
    generalize w.alloc (.cells #[.int .u8 0, .int .u32 0, .slice none 0 0, .slice none 0 0] 33) = w5 at hT hB ⊢
    refine bodyPost_ret (results_ctt rfl _ _ w.heap.size 33 #[.int .u8 0, .int .u32 0, .slice none 0 0, .slice none 0 0] (0, 0) _ rfl hT Try.underlying33 rfl (by kernel_rfl)) rfl ?_
    exact ⟨rfl, hB⟩
theorem crosswayref10_Parse.calls (A0 : Option Addr) (c0 : Nat) (l0 : List Int) (r1 : Int) (r2 : Int) (r3 : List Int) (r4 : List Int) (r5 : List Int) (r6 : Int) (w : World) (hr0 : Kd.C (Kd.int .u8) w A0 l0.length l0) (hc0 : l0.length ≤ c0) (h : crosswayref10_Parse.f l0 = some (r1, r2, r3, r4, r5, r6)) :
    Calls Try.prog 24 #[.slice A0 l0.length c0] w fun e w' => ∃ v2_ v3_ v4_ : Value, e = .returned (.tuple #[.agg #[.int .u8 r1, .int .u32 r2, v2_, v3_], v4_, .int .i64 r6]) ∧ Kd.R (Kd.int .u8) 5 w' w.heap.size (fun k_ => some k_ ≠ (v3_ : Value).ownBlock ∧ some k_ ≠ (v4_ : Value).ownBlock) v2_ r3 ∧ Kd.R (Kd.int .u8) 5 w' w.heap.size (fun k_ => some k_ ≠ (v2_ : Value).ownBlock ∧ some k_ ≠ (v4_ : Value).ownBlock) v3_ r4 ∧ Kd.R (Kd.int .u8) 5 w' w.heap.size (fun k_ => some k_ ≠ (v2_ : Value).ownBlock ∧ some k_ ≠ (v3_ : Value).ownBlock) v4_ r5 ∧ Below w.heap.size w w' := by
  have fin : ∀ e : Int, (0, 0, [], [], [], e) = (r1, r2, r3, r4, r5, r6) → ((l0.length = 0 ∧ e = 12) ∨ (0 < l0.length ∧ rd l0 0 < 128 ∧ e = 14) ∨ (0 < l0.length ∧ ¬ rd l0 0 < 128 ∧ l0.length < 5 ∧ e = 12)) →
      Calls Try.prog 24 #[.slice A0 l0.length c0] w fun e w' => ∃ v2_ v3_ v4_ : Value, e = .returned (.tuple #[.agg #[.int .u8 r1, .int .u32 r2, v2_, v3_], v4_, .int .i64 r6]) ∧ Kd.R (Kd.int .u8) 5 w' w.heap.size (fun k_ => some k_ ≠ (v3_ : Value).ownBlock ∧ some k_ ≠ (v4_ : Value).ownBlock) v2_ r3 ∧ Kd.R (Kd.int .u8) 5 w' w.heap.size (fun k_ => some k_ ≠ (v2_ : Value).ownBlock ∧ some k_ ≠ (v4_ : Value).ownBlock) v3_ r4 ∧ Kd.R (Kd.int .u8) 5 w' w.heap.size (fun k_ => some k_ ≠ (v2_ : Value).ownBlock ∧ some k_ ≠ (v3_ : Value).ownBlock) v4_ r5 ∧ Below w.heap.size w w' := by
    intro e he hk
    simp only [Prod.mk.injEq] at he
    obtain ⟨rfl, rfl, rfl, rfl, rfl, rfl⟩ := he
    exact (refparse_kind A0 c0 l0 w hr0 e hk).mono fun en w' ⟨he, hB⟩ => ⟨_, _, _, he, Kd.R_nil _ _ _ _ _, Kd.R_nil _ _ _ _ _, Kd.R_nil _ _ _ _ _, hB⟩
  unfold crosswayref10_Parse.f at h
  by_cases hl : l0.length < 140737488355328
  · rw [if_pos hl] at h
    by_cases h0 : l0.length = 0
    · rw [if_pos h0] at h
      exact fin 12 (Option.some.inj h) (.inl ⟨h0, rfl⟩)
    · rw [if_neg h0] at h
      by_cases h1 : rd l0 0 < 128
      · rw [if_pos h1] at h
        exact fin 14 (Option.some.inj h) (.inr (.inl ⟨by omega, h1, rfl⟩))
      · rw [if_neg h1] at h
        by_cases h2 : l0.length < 5
        · rw [if_pos h2] at h
          exact fin 12 (Option.some.inj h) (.inr (.inr ⟨by omega, h1, h2, rfl⟩))
        · rw [if_neg h2] at h
          by_cases h4 : bytes4 l0
          · rw [if_pos h4] at h
            obtain ⟨⟨x1, y1, ok1⟩, q1, h⟩ := Option.bind_eq_some_iff.1 h
            obtain ⟨⟨x2, y2, ok2⟩, q2, h⟩ := Option.bind_eq_some_iff.1 h
            exact refparse_straight A0 c0 l0 (l0.drop 5) x1 y1 x2 y2 ok1 ok2 w hr0 hc0 hl (by omega) h1 h4 rfl q1 (fun e => by rw [if_pos e] at q2; exact q2) r1 r2 r6 r3 r4 r5 (Option.some.inj h)
          · rw [if_neg h4] at h
            cases h
  · rw [if_neg hl] at h
    cases h


/-! ### crosswayref11_Type: function 13 -/
def crosswayref11_Type.f (a0 : Int) : Option (Int) := some (Int.tmod (wrap64 (Int.tdiv (wrap64 (a0)) 16)) 4)
set_option maxHeartbeats 8000000 in
set_option maxRecDepth 100000 in
theorem crosswayref11_Type.calls (a0 : Int) (r : Int) (w : World) (h : crosswayref11_Type.f a0 = some r) :
    Calls Try.prog 13 #[.int .u8 a0] w fun e w' => e = .returned (.int .i64 r) ∧ Drawn0 w w' := by
  have H : (some (Int.tmod (wrap64 (Int.tdiv (wrap64 (a0)) 16)) 4)) = some r := h
  clear h
  obtain rfl := Option.some.inj H
  go_enter Try.func13, Try.ntmps13
  go_wp2
  go_ret
  exact ⟨by first | rfl | (simp; done) | (simp [*]; done), by repeat (first | exact Drawn0.refl _ | apply Drawn0.step)⟩

end Go.Proofs.Ytmhmmmkpijbbiad.M
