/- Contracts of the Go functions that the laws reach, each as a plain Lean function: written by xprint.py, a program of this repo. -/
import Derived.Test.YtbiiccgheblhpacM0
namespace Go.Proofs.Ytbiiccgheblhpac.M
open Go.RowKit Go.Proofs.YtbiiccgheblhpacW.PrintWords Go.Proofs.YtbiiccgheblhpacW.PrintLast Go.Proofs.YtbiiccgheblhpacW.PrintMore Go.Proofs.Ytbiiccgheblhpac.X
attribute [local go_sem] max2_int min2_int max_two min_two max_three min_three max_four min_four   -- for this text's walks alone
set_option linter.unusedVariables false
set_option linter.unusedSimpArgs false

/-! ### halves_Size: function 12 -/
def halves_Size.f (a0 : Int) : Option (Int) := if a0 < 1 then (some 0) else (some (wrap64 (a0 - (wrap64 (Int.tdiv a0 2)))))
set_option maxHeartbeats 8000000 in
set_option maxRecDepth 100000 in
theorem halves_Size.calls (a0 : Int) (r : Int) (w : World) (h : halves_Size.f a0 = some r) :
    Calls Try.prog 12 #[.int .i64 a0] w fun e w' => e = .returned (.int .i64 r) ∧ Drawn0 w w' := by
  have H : (if a0 < 1 then (some 0) else (some (wrap64 (a0 - (wrap64 (Int.tdiv a0 2)))))) = some r := h
  clear h
  by_cases c2 : a0 < 1
  · rw [if_pos c2] at H
    have c2b0 : decide (a0 < 1) = true := decide_eq_true c2
    clear c2
    obtain rfl := Option.some.inj H
    go_enter Try.func12, Try.ntmps12
    go_wp2
    go_ret
    exact ⟨by first | rfl | (simp; done) | (simp [*]; done), by repeat (first | exact Drawn0.refl _ | apply Drawn0.step)⟩
  · rw [if_neg c2] at H
    have c2b0 : decide (a0 < 1) = false := decide_eq_false c2
    clear c2
    obtain rfl := Option.some.inj H
    go_enter Try.func12, Try.ntmps12
    go_wp2
    go_ret
    exact ⟨by first | rfl | (simp; done) | (simp [*]; done), by repeat (first | exact Drawn0.refl _ | apply Drawn0.step)⟩

/-! ### halves_fits: function 20, typed by hand -/
/-- May halves of a text of n bytes be these? -/
def halves_fits.rows (n : Int) (l : List (List Int)) : Bool := l.all fun h => (h.length : Int) == n - n / 2
def halves_fits.f (a0 : Int) (l1 : List (List Int)) : Option Bool := some (decide (2 ≤ a0) && (decide (a0 ≤ 28) && halves_fits.rows a0 l1))
def halves_fits.Idx (ok : Bool) (w : World) (e : Ending) (w' : World) : Prop := ∃ r : Int, e = .returned (.int .i64 r) ∧ decide (0 ≤ r) = !ok ∧ w = w'
theorem halves_fits.row_at {k : IntKind} {t : Nat} {w : World} {A : Option Addr} {n : Nat} {xs : List (List Int)} (h : Kd.C (Kd.slice t (Kd.int k)) w A n xs) (i : Nat) (hi : i < n) : ∃ ad A0 c0, A = some ad ∧ w.cell? (ad.add i) = some (.slice A0 (xs.getD i []).length c0) := by
  obtain ⟨ad, c, e, _, hK, hc0⟩ := Kd.C_get h ([] : List Int) (i : Int) (by omega) (by omega)
  have hc : ∀ j u, c[j]? = some u → w.cell? (ad.add (i * 1 + j)) = some u := hc0
  obtain ⟨A0, c0, rfl, _, _⟩ := hK
  exact ⟨ad, A0, c0, e, by have hq := hc 0 _ rfl; rwa [Nat.mul_one, Nat.add_zero] at hq⟩
theorem halves_fits.all_of (n : Int) (l : List (List Int)) (h : ∀ j, j < l.length → ((l.getD j []).length : Int) = n - n / 2) : halves_fits.rows n l = true := by
  unfold halves_fits.rows
  rw [List.all_eq_true]
  intro x hx
  obtain ⟨j, hj, rfl⟩ := List.getElem_of_mem hx
  have := h j hj
  rw [List.getD_eq_getElem?_getD, List.getElem?_eq_getElem hj] at this
  exact beq_iff_eq.2 this
theorem halves_fits.not_all_of (n : Int) (l : List (List Int)) (j : Nat) (hj : j < l.length) (h : ¬ ((l.getD j []).length : Int) = n - n / 2) : halves_fits.rows n l = false := by
  unfold halves_fits.rows
  rw [List.all_eq_false]
  refine ⟨l[j], List.getElem_mem hj, ?_⟩
  rw [List.getD_eq_getElem?_getD, List.getElem?_eq_getElem hj] at h
  simpa using h
set_option maxRecDepth 100000 in
theorem halves_fits.index (n : Int) (h2 : 2 ≤ n) (h28 : n ≤ 28) (A1 : Option Addr) (c1 : Nat) (l1 : List (List Int)) (w : World) (p : Addr) (hp : w.cell? p = some (.int .i64 n)) (hr : Kd.C (Kd.slice 5 (Kd.int .u8)) w A1 l1.length l1) :
    Calls Try.prog 30 #[.slice A1 l1.length c1, .func (.func 27) #[] #[.pointer (some p)]] w (halves_fits.Idx (halves_fits.rows n l1) w) := by
  have HR := Aside0.mk hr
  have hm : l1.length ≤ 9223372036854775807 := hr.2.1
  clear hr
  go_enter Try.func30, Try.ntmps30
  go_wp2
  go_loop [8] (fun i => ∃ k : Nat, k ≤ l1.length ∧ i = .int .i64 k ∧ Aside0 (∀ j, j < k → ((l1.getD j []).length : Int) = n - n / 2)) (fun i => l1.length - (intOf i).toNat)
  case atStart => exact ⟨0, Nat.zero_le _, rfl, ⟨fun j hj => absurd hj (by omega)⟩⟩
  case round =>
    obtain ⟨k, hk, rfl, HA⟩ := hrel
    by_cases hlt : k < l1.length
    · obtain ⟨ad, A0, c0, e0, hx⟩ := halves_fits.row_at HR.out k hlt
      cases e0
      generalize hL : (l1.getD k []).length = L at hx
      have HL := Aside0.mk hL
      clear hL
      by_cases he : (L : Int) = n - n / 2
      · have HE := Aside0.mk he
        have heb : ((L : Int) != n - n / 2) = false := by rw [he]; simp
        clear he
        go_wp2
        go_round
        case rel => exact ⟨k + 1, by omega, by go_num, ⟨fun j hj => by
          by_cases hjk : j = k
          · rw [hjk, HL.out]; exact HE.out
          · exact HA.out j (by omega)⟩⟩
        case measure => simp [intOf]; omega
      · have HE := Aside0.mk he
        have heb : ((L : Int) != n - n / 2) = true := bne_iff_ne.2 he
        clear he
        go_wp2
        go_ret
        exact ⟨_, rfl, by rw [halves_fits.not_all_of n l1 k hlt (by rw [HL.out]; exact HE.out)]; simp, rfl⟩
    · obtain rfl : k = l1.length := by omega
      go_wp2
      go_ret
      exact ⟨_, rfl, by rw [halves_fits.all_of n l1 HA.out]; rfl, rfl⟩
def halves_fits.Has (ok : Bool) (w : World) (e : Ending) (w' : World) : Prop := e = .returned (.bool (!ok)) ∧ w = w'
set_option maxRecDepth 100000 in
theorem halves_fits.contains (n : Int) (h2 : 2 ≤ n) (h28 : n ≤ 28) (A1 : Option Addr) (c1 : Nat) (l1 : List (List Int)) (w : World) (p : Addr) (hp : w.cell? p = some (.int .i64 n)) (hr : Kd.C (Kd.slice 5 (Kd.int .u8)) w A1 l1.length l1) :
    Calls Try.prog 28 #[.slice A1 l1.length c1, .func (.func 27) #[] #[.pointer (some p)]] w (halves_fits.Has (halves_fits.rows n l1) w) := by
  have HR := Aside0.mk hr
  have HP := Aside0.mk hp
  clear hr hp
  go_enter Try.func28, Try.ntmps28
  go_wp2_with (go_at_call 30; (with_reducible refine (halves_fits.index n h2 h28 A1 c1 l1 w p HP.out HR.out).mono ?_); rintro e w' ⟨i, rfl, hi, rfl⟩)
  go_ret
  exact ⟨by rw [← hi]; rfl, rfl⟩
set_option maxRecDepth 100000 in
theorem halves_fits.calls (a0 : Int) (A1 : Option Addr) (c1 : Nat) (l1 : List (List Int)) (r : Bool) (w : World) (hr1 : Kd.C (Kd.slice 5 (Kd.int .u8)) w A1 l1.length l1) (hc1 : l1.length ≤ c1) (h : halves_fits.f a0 l1 = some r) :
    Calls Try.prog 20 #[.int .i64 a0, .slice A1 l1.length c1] w fun e w' => e = .returned (.bool r) ∧ Below w.heap.size w w' := by
  have hr : (decide (2 ≤ a0) && (decide (a0 ≤ 28) && halves_fits.rows a0 l1)) = r := Option.some.inj h
  clear h
  have HB := Aside0.mk ((Below.refl w.heap.size w).alloc (Nat.le_refl _) (.cells #[.int .i64 a0] 3))
  have HR := Aside0.mk (Kd.C_below hr1 HB.out)
  clear hr1
  by_cases h2 : a0 < 2
  · have hv : (decide (2 ≤ a0) && (decide (a0 ≤ 28) && halves_fits.rows a0 l1)) = false := by rw [decide_eq_false (by omega)]; rfl
    obtain rfl : r = false := hr.symm.trans hv
    clear hv hr
    go_enter Try.func20, Try.ntmps20
    go_wp2_with fail
    go_ret
    exact ⟨rfl, HB.out⟩
  by_cases h28 : 28 < a0
  · have hv : (decide (2 ≤ a0) && (decide (a0 ≤ 28) && halves_fits.rows a0 l1)) = false := by rw [decide_eq_false (p := a0 ≤ 28) (by omega)]; simp
    obtain rfl : r = false := hr.symm.trans hv
    clear hv hr
    have h3 : 2 ≤ a0 := by omega
    go_enter Try.func20, Try.ntmps20
    go_wp2_with fail
    go_ret
    exact ⟨rfl, HB.out⟩
  have h3 : 2 ≤ a0 := by omega
  have h4 : a0 ≤ 28 := by omega
  have hv : (decide (2 ≤ a0) && (decide (a0 ≤ 28) && halves_fits.rows a0 l1)) = halves_fits.rows a0 l1 := by rw [decide_eq_true h3, decide_eq_true h4]; rfl
  have HQ := Aside0.mk (hv.symm.trans hr)
  clear hv hr h2 h28
  go_enter Try.func20, Try.ntmps20
  go_wp2_with (go_at_call 28; refine (halves_fits.contains a0 h3 h4 A1 c1 l1 _ _ ?hp HR.out).mono ?_; (case hp => go_simp); rintro e w' ⟨rfl, rfl⟩; rw [HQ.out])
  go_ret
  exact ⟨by simp, HB.out⟩
theorem halves_fits.calls1 (a0 : Int) (A1 : Option Addr) (c1 : Nat) (x : List Int) (r : Bool) (w : World) (hr1 : Kd.C (Kd.slice 5 (Kd.int .u8)) w A1 1 [x]) (hc1 : 1 ≤ c1) (h : halves_fits.f a0 [x] = some r) :
    Calls Try.prog 20 #[.int .i64 a0, .slice A1 1 c1] w fun e w' => e = .returned (.bool r) ∧ Below w.heap.size w w' := halves_fits.calls a0 A1 c1 [x] r w hr1 hc1 h
theorem halves_fits.calls2 (a0 : Int) (A1 : Option Addr) (c1 : Nat) (x y : List Int) (r : Bool) (w : World) (hr1 : Kd.C (Kd.slice 5 (Kd.int .u8)) w A1 2 [x, y]) (hc1 : 2 ≤ c1) (h : halves_fits.f a0 [x, y] = some r) :
    Calls Try.prog 20 #[.int .i64 a0, .slice A1 2 c1] w fun e w' => e = .returned (.bool r) ∧ Below w.heap.size w w' := halves_fits.calls a0 A1 c1 [x, y] r w hr1 hc1 h


/-! ### slices_Clone_byte_byte: function 26, typed by hand -/
def slices_Clone_byte_byte.f (l0 : List Int) : Option (List Int) := if l0.length < 140737488355328 then some l0 else none
set_option maxRecDepth 100000 in
theorem slices_Clone_byte_byte.calls (A0 : Option Addr) (c0 : Nat) (l0 : List Int) (r : List Int) (w : World) (hr0 : Kd.C (Kd.int .u8) w A0 l0.length l0) (hc0 : l0.length ≤ c0) (h : slices_Clone_byte_byte.f l0 = some r) :
    Calls Try.prog 26 #[.slice A0 l0.length c0] w fun e w' => ∃ v0_ : Value, e = .returned (v0_) ∧ Kd.R (Kd.int .u8) 5 w' w.heap.size (fun _ => True) v0_ r ∧ Below w.heap.size w w' := by
  have h1 : l0.length < 140737488355328 ∧ l0 = r := by
    simp only [slices_Clone_byte_byte.f] at h
    by_cases c1 : l0.length < 140737488355328
    · rw [if_pos c1] at h
      exact ⟨c1, Option.some.inj h⟩
    · rw [if_neg c1] at h
      cases h
  obtain ⟨c1, rfl⟩ := h1
  clear h
  have HL := Aside0.mk c1
  have HR0 := Aside0.mk hr0
  clear c1
  cases A0 with
  | none =>
    have hl : l0 = [] := by
      cases l0 with
      | nil => rfl
      | cons x l =>
        obtain ⟨ad, e, _⟩ := hr0.2.2 (by simp)
        cases e
    subst hl
    clear hr0
    have hn := fun W => Lib.run_eql_slice_nil (P := Try.prog) W 22 5 none 0 c0 0 0 Try.underlying22
    simp only [Option.isNone_none] at hn
    go_enter Try.func26, Try.ntmps26
    go_wp2
    go_ret
    exact ⟨_, rfl, Kd.R_nil _ _ _ _ _, Below.refl _ _⟩
  | some ad =>
    clear hr0
    have hn := fun W => Lib.run_eql_slice_nil (P := Try.prog) W 22 5 (some ad) l0.length c0 0 0 Try.underlying22
    simp only [Option.isNone_some] at hn
    go_enter Try.func26, Try.ntmps26
    go_wp2_with (first | ((with_reducible refine gate_dst (N := 5) rfl ?_); refine Kd.R_lit (Kd.int .u8) _ 5 ?hg (N := 5) ?hd (xs := ([] : List Int)) (inner := []) (ok := fun _ => True) (okp := fun _ => True) ?hr ?hp (fun _ hk => hk) trivial (Below.refl _ _) (Nat.le_refl _) (by simp) ?_; (case hd => rfl); (case hg => rfl); (case hr => first | (go_simp; done) | (go_simp; rfl)); (case hp => exact (Reps.none _ _)); intro v1 w3 ho4 hb hg_ hnew_; clear hg_ hnew_; have HO := Aside0.mk ho4; have HB := Aside0.mk hb; clear hb ho4) | ((with_reducible refine gate_builtin (b := .append) (xs := #[.tmp 5, .tmp 6]) rfl ?_); at_builtin; refine Kd.R_append_rows (Kd.int .u8) (w0 := w) w.heap.size rfl (.tmp 5) (.tmp 6) 22 5 (.int .u8 0) 1 rfl Try.underlying22 info5 rfl (by decide) (by omega) v1 [] l0 _ _ _ (fun _ => True) (fun _ => False) rfl rfl ?aO ?aR (fun _ _ h => h) (fun _ h => h.elim) ?aF ?aB ?aS ?aL ?_; (case aR => exact Kd.C_below HR0.out HB.out); (case aB => exact HB.out); (case aF => exact (fun _ _ => trivial)); (case aO => exact HO.out); (case aS => exact below_size HB.out); (case aL => have := HL.out; simp; omega); intro v2 w5 ho hb hg hat; have HO2 := Aside0.mk ho; have HB2 := Aside0.mk hb; clear ho hb hg hat))
    go_ret
    exact ⟨_, rfl, HO2.out, HB2.out⟩


/-! ### halves_Trim: function 16, typed by hand -/
def halves_Trim.cut (l : List Int) (n : Int) (left : Bool) : List Int := if n % 2 = 0 then l else if left = true then l.set (l.length - 1) (Go.bits .andNot .u8 (rd l ((l.length - 1 : Nat) : Int)) 15) else l.set 0 (Go.bits .andNot .u8 (rd l 0) 240)
def halves_Trim.f (l0 : List Int) (a1 : Int) (a2 : Bool) : Option (List Int × Int) := if (decide (2 ≤ a1) && (decide (a1 ≤ 28) && halves_fits.rows a1 [l0])) = true then some (halves_Trim.cut l0 a1 a2, 0) else some ([], 11)
def halves_Trim.Ptr (p : Option Addr) (m : Int) (w : World) (e : Ending) (w' : World) : Prop := e = .returned (.tuple #[.pointer p, .int .u8 m]) ∧ w = w'
set_option maxRecDepth 100000 in
theorem halves_Trim.odd_even (A : Option Addr) (n c : Nat) (a1 : Int) (a2 : Bool) (w : World) (hz : Int.tmod a1 2 = 0) : Calls Try.prog 23 #[.slice A n c, .int .i64 a1, .bool a2] w (halves_Trim.Ptr none 0 w) := by
  have hb : (Int.tmod a1 2 == 0) = true := beq_iff_eq.2 hz
  clear hz
  go_enter Try.func23, Try.ntmps23
  go_wp2
  go_ret2
  exact ⟨rfl, rfl⟩
set_option maxRecDepth 100000 in
theorem halves_Trim.odd_left (ad : Addr) (n c : Nat) (h0 : 0 < n) (hn : n ≤ 28) (a1 : Int) (w : World) (hz : ¬ Int.tmod a1 2 = 0) : Calls Try.prog 23 #[.slice (some ad) n c, .int .i64 a1, .bool true] w (halves_Trim.Ptr (some (ad.add (n - 1))) 15 w) := by
  have hb : (Int.tmod a1 2 == 0) = false := beq_eq_false_iff_ne.2 hz
  clear hz
  go_enter Try.func23, Try.ntmps23
  go_wp2
  go_ret2
  exact ⟨rfl, rfl⟩
set_option maxRecDepth 100000 in
theorem halves_Trim.odd_right (ad : Addr) (n c : Nat) (h0 : 0 < n) (a1 : Int) (w : World) (hz : ¬ Int.tmod a1 2 = 0) : Calls Try.prog 23 #[.slice (some ad) n c, .int .i64 a1, .bool false] w (halves_Trim.Ptr (some ad) 240 w) := by
  have hb : (Int.tmod a1 2 == 0) = false := beq_eq_false_iff_ne.2 hz
  clear hz
  go_enter Try.func23, Try.ntmps23
  go_wp2
  go_ret2
  exact ⟨rfl, rfl⟩
theorem halves_Trim.add0 (g i : Nat) : (⟨g, 0, none⟩ : Addr).add i = ⟨g, i, none⟩ := by
  unfold Addr.add
  by_cases h : i = 0
  · rw [if_pos h, h]
  · rw [if_neg h, Nat.zero_add]
theorem halves_Trim.odd_left0 (g n c : Nat) (h0 : 0 < n) (hn : n ≤ 28) (a1 : Int) (w : World) (hz : ¬ Int.tmod a1 2 = 0) : Calls Try.prog 23 #[.slice (some ⟨g, 0, none⟩) n c, .int .i64 a1, .bool true] w (halves_Trim.Ptr (some ⟨g, n - 1, none⟩) 15 w) := by
  have h := halves_Trim.odd_left ⟨g, 0, none⟩ n c h0 hn a1 w hz
  rwa [halves_Trim.add0] at h
set_option maxRecDepth 100000 in
theorem halves_Trim.calls (A0 : Option Addr) (c0 : Nat) (l0 : List Int) (a1 : Int) (a2 : Bool) (r1 : List Int) (r2 : Int) (w : World) (hr0 : Kd.C (Kd.int .u8) w A0 l0.length l0) (hc0 : l0.length ≤ c0) (h : halves_Trim.f l0 a1 a2 = some (r1, r2)) :
    Calls Try.prog 16 #[.slice A0 l0.length c0, .int .i64 a1, .bool a2] w fun e w' => ∃ v0_ : Value, e = .returned (.tuple #[v0_, .int .i64 r2]) ∧ Kd.R (Kd.int .u8) 5 w' w.heap.size (fun _ => True) v0_ r1 ∧ Below w.heap.size w w' := by
  unfold halves_Trim.f at h
  have HB := Aside0.mk (below_alloc (Below.refl w.heap.size w) (.cells #[.slice A0 l0.length c0] 22))
  have H1 := Aside0.mk (one_row (t := 5) (u := 22) hr0 hc0)
  have HR := Aside0.mk hr0
  have HC := Aside0.mk hc0
  clear hr0 hc0
  by_cases c : (decide (2 ≤ a1) && (decide (a1 ≤ 28) && halves_fits.rows a1 [l0])) = true
  · rw [if_pos c] at h
    simp only [Option.some.injEq, Prod.mk.injEq] at h
    obtain ⟨rfl, rfl⟩ := h
    have hb := c
    simp only [Bool.and_eq_true, decide_eq_true_eq, halves_fits.rows, List.all_cons, List.all_nil, Bool.and_true, beq_iff_eq] at hb
    obtain ⟨h2, h28, hlen⟩ := hb
    have HLEN := Aside0.mk hlen
    have hpos : 0 < l0.length := by omega
    have hsmall : l0.length ≤ 28 := by omega
    have HF := Aside0.mk (show halves_fits.f a1 [l0] = some true by unfold halves_fits.f; rw [c])
    have HCL := Aside0.mk (show slices_Clone_byte_byte.f l0 = some l0 by unfold slices_Clone_byte_byte.f; rw [if_pos (by omega)])
    clear hlen c
    have htm : Int.tmod a1 2 = a1 % 2 := Int.tmod_eq_emod_of_nonneg (by omega)
    by_cases hz : a1 % 2 = 0
    · have hcut : halves_Trim.cut l0 a1 a2 = l0 := if_pos hz
      have HCUT := Aside0.mk hcut
      have HZ := Aside0.mk (show Int.tmod a1 2 = 0 by omega)
      clear hcut hz htm
      go_enter Try.func16, Try.ntmps16
      go_wp2_with (first | (go_at_call 20; (with_reducible refine (halves_fits.calls1 a1 _ 1 l0 true _ H1.out (Nat.le_refl _) HF.out).mono ?_); rintro e w1 ⟨rfl, hb1⟩; have HB1 := Aside0.mk (below_step HB.out hb1); clear hb1) | (go_at_call 26; (with_reducible refine (slices_Clone_byte_byte.calls A0 c0 l0 l0 _ ?s1 ?s2 HCL.out).mono ?_); (case s1 => exact Kd.C_below HR.out HB1.out); (case s2 => exact HC.out); rintro e w2 ⟨v, rfl, ho, hb2⟩; obtain ⟨g, k, rfl, hg⟩ := R_at ho hpos; have hgw : w.heap.size ≤ g := Nat.le_trans (below_size HB1.out) hg; have HO := Aside0.mk (Kd.R_lower ho (below_size HB1.out)); have HB2 := Aside0.mk (below_step HB1.out hb2); clear ho hb2 hg) | (go_at_call 23; (with_reducible refine (halves_Trim.odd_even _ _ _ a1 a2 _ HZ.out).mono ?_); rintro e w3 ⟨rfl, rfl⟩))
      go_ret2
      exact ⟨_, rfl, by rw [HCUT.out]; exact HO.out, HB2.out⟩
    · have HZ := Aside0.mk (show ¬ Int.tmod a1 2 = 0 by omega)
      clear htm
      cases a2 with
      | true =>
        have hcut : halves_Trim.cut l0 a1 true = l0.set (l0.length - 1) (Go.bits .andNot .u8 (rd l0 ((l0.length - 1 : Nat) : Int)) 15) := by unfold halves_Trim.cut; rw [if_neg hz, if_pos rfl]
        have HCUT := Aside0.mk hcut
        clear hcut hz
        go_enter Try.func16, Try.ntmps16
        go_wp2_with (first | (go_at_call 20; (with_reducible refine (halves_fits.calls1 a1 _ 1 l0 true _ H1.out (Nat.le_refl _) HF.out).mono ?_); rintro e w1 ⟨rfl, hb1⟩; have HB1 := Aside0.mk (below_step HB.out hb1); clear hb1) | (go_at_call 26; (with_reducible refine (slices_Clone_byte_byte.calls A0 c0 l0 l0 _ ?s1 ?s2 HCL.out).mono ?_); (case s1 => exact Kd.C_below HR.out HB1.out); (case s2 => exact HC.out); rintro e w2 ⟨v, rfl, ho, hb2⟩; obtain ⟨g, k, rfl, hg⟩ := R_at ho hpos; have hgw : w.heap.size ≤ g := Nat.le_trans (below_size HB1.out) hg; have HO := Aside0.mk (Kd.R_lower ho (below_size HB1.out)); have HB2 := Aside0.mk (below_step HB1.out hb2); obtain ⟨hc1, hf1⟩ := Kd.R_cell (0 : Int) ho (((l0.length - 1 : Nat) : Int)) (by omega) (by omega); simp only [Int.toNat_natCast, Int.toNat_zero] at hc1 hf1; change World.cell? w2 _ = some (.int .u8 (rd l0 (((l0.length - 1 : Nat) : Int)))) at hc1; clear ho hb2 hg) | (go_at_call 23; (with_reducible refine (halves_Trim.odd_left0 g _ _ hpos hsmall a1 _ HZ.out).mono ?_); rintro e w3 ⟨rfl, rfl⟩))
        go_ret2
        exact ⟨_, rfl, by rw [HCUT.out]; exact (Kd.R_put HO.out ((l0.length - 1 : Nat) : Int) _).1, HB2.out.setCell (p := ⟨g, _, none⟩) hgw _⟩
      | false =>
        have hcut : halves_Trim.cut l0 a1 false = l0.set 0 (Go.bits .andNot .u8 (rd l0 0) 240) := by unfold halves_Trim.cut; rw [if_neg hz, if_neg (by decide)]
        have HCUT := Aside0.mk hcut
        clear hcut hz
        go_enter Try.func16, Try.ntmps16
        go_wp2_with (first | (go_at_call 20; (with_reducible refine (halves_fits.calls1 a1 _ 1 l0 true _ H1.out (Nat.le_refl _) HF.out).mono ?_); rintro e w1 ⟨rfl, hb1⟩; have HB1 := Aside0.mk (below_step HB.out hb1); clear hb1) | (go_at_call 26; (with_reducible refine (slices_Clone_byte_byte.calls A0 c0 l0 l0 _ ?s1 ?s2 HCL.out).mono ?_); (case s1 => exact Kd.C_below HR.out HB1.out); (case s2 => exact HC.out); rintro e w2 ⟨v, rfl, ho, hb2⟩; obtain ⟨g, k, rfl, hg⟩ := R_at ho hpos; have hgw : w.heap.size ≤ g := Nat.le_trans (below_size HB1.out) hg; have HO := Aside0.mk (Kd.R_lower ho (below_size HB1.out)); have HB2 := Aside0.mk (below_step HB1.out hb2); obtain ⟨hc1, hf1⟩ := Kd.R_cell (0 : Int) ho (0) (by omega) (by omega); simp only [Int.toNat_natCast, Int.toNat_zero] at hc1 hf1; change World.cell? w2 _ = some (.int .u8 (rd l0 (0))) at hc1; clear ho hb2 hg) | (go_at_call 23; (with_reducible refine (halves_Trim.odd_right ⟨g, 0, none⟩ _ _ hpos a1 _ HZ.out).mono ?_); rintro e w3 ⟨rfl, rfl⟩))
        go_ret2
        exact ⟨_, rfl, by rw [HCUT.out]; exact (Kd.R_put HO.out 0 _).1, HB2.out.setCell (p := ⟨g, _, none⟩) hgw _⟩
  · rw [if_neg c] at h
    simp only [Option.some.injEq, Prod.mk.injEq] at h
    obtain ⟨rfl, rfl⟩ := h
    have HF := Aside0.mk (show halves_fits.f a1 [l0] = some false by unfold halves_fits.f; rw [Bool.not_eq_true] at c; rw [c])
    clear c
    go_enter Try.func16, Try.ntmps16
    go_wp2_with (go_at_call 20; (with_reducible refine (halves_fits.calls1 a1 _ 1 l0 false _ H1.out (Nat.le_refl _) HF.out).mono ?_); rintro e w1 ⟨rfl, hb1⟩; have HB1 := Aside0.mk (below_step HB.out hb1); clear hb1)
    go_ret2
    exact ⟨_, rfl, Kd.R_nil _ _ _ _ _, HB1.out⟩


/-! ### halves_Cut: function 9 -/
def halves_Cut.f (l0 : List Int) : Option (List Int × List Int × Int) := (halves_fits.f (l0.length : Int) ([] : List (List Int))).bind fun t101 => (if t101 = true then ((halves_Size.f (l0.length : Int)).bind fun t102 => (if 0 ≤ t102 then (if t102 ≤ (l0.length : Int) then ((halves_Trim.f (l0.take (t102 : Int).toNat) (l0.length : Int) true).bind fun bt104 => ((halves_Size.f (l0.length : Int)).bind fun t108 => (if 0 ≤ (wrap64 ((l0.length : Int) - t108)) then (if (wrap64 ((l0.length : Int) - t108)) ≤ (l0.length : Int) then ((halves_Trim.f (l0.drop ((wrap64 ((l0.length : Int) - t108)) : Int).toNat) (l0.length : Int) false).bind fun bt110 => (some (bt104.1, bt110.1, 0))) else (none)) else (none)))) else (none)) else (none))) else (some (([] : List Int), ([] : List Int), 11)))
set_option maxHeartbeats 8000000 in
set_option maxRecDepth 100000 in
theorem halves_Cut.calls (A0 : Option Addr) (c0 : Nat) (l0 : List Int) (r1 : List Int) (r2 : List Int) (r3 : Int) (w : World) (hr0 : Kd.C (Kd.int .u8) w A0 l0.length l0) (hc0 : l0.length ≤ c0) (h : halves_Cut.f l0 = some (r1, r2, r3)) :
    Calls Try.prog 9 #[.slice A0 l0.length c0] w fun e w' => ∃ v0_ v1_ : Value, e = .returned (.tuple #[v0_, v1_, .int .i64 r3]) ∧ Kd.R (Kd.int .u8) 5 w' w.heap.size (fun k_ => some k_ ≠ (v1_ : Value).ownBlock) v0_ r1 ∧ Kd.R (Kd.int .u8) 5 w' w.heap.size (fun k_ => some k_ ≠ (v0_ : Value).ownBlock) v1_ r2 ∧ Below w.heap.size w w' := by
  have HR0 := Aside0.mk hr0
  have HC0 := Aside0.mk hc0
  clear hr0 hc0
  have HB := Aside0.mk (Below.refl w.heap.size w)
  have H : ((halves_fits.f (l0.length : Int) ([] : List (List Int))).bind fun t101 => (if t101 = true then ((halves_Size.f (l0.length : Int)).bind fun t102 => (if 0 ≤ t102 then (if t102 ≤ (l0.length : Int) then ((halves_Trim.f (l0.take (t102 : Int).toNat) (l0.length : Int) true).bind fun bt104 => ((halves_Size.f (l0.length : Int)).bind fun t108 => (if 0 ≤ (wrap64 ((l0.length : Int) - t108)) then (if (wrap64 ((l0.length : Int) - t108)) ≤ (l0.length : Int) then ((halves_Trim.f (l0.drop ((wrap64 ((l0.length : Int) - t108)) : Int).toNat) (l0.length : Int) false).bind fun bt110 => (some (bt104.1, bt110.1, 0))) else (none)) else (none)))) else (none)) else (none))) else (some (([] : List Int), ([] : List Int), 11)))) = some (r1, r2, r3) := h
  clear h
  replace H := Option.bind_eq_some_iff.mp H
  obtain ⟨t101, A20, H⟩ := H
  replace H : (if t101 = true then ((halves_Size.f (l0.length : Int)).bind fun t102 => (if 0 ≤ t102 then (if t102 ≤ (l0.length : Int) then ((halves_Trim.f (l0.take (t102 : Int).toNat) (l0.length : Int) true).bind fun bt104 => ((halves_Size.f (l0.length : Int)).bind fun t108 => (if 0 ≤ (wrap64 ((l0.length : Int) - t108)) then (if (wrap64 ((l0.length : Int) - t108)) ≤ (l0.length : Int) then ((halves_Trim.f (l0.drop ((wrap64 ((l0.length : Int) - t108)) : Int).toNat) (l0.length : Int) false).bind fun bt110 => (some (bt104.1, bt110.1, 0))) else (none)) else (none)))) else (none)) else (none))) else (some (([] : List Int), ([] : List Int), 11))) = some (r1, r2, r3) := H
  have A2 := Aside0.mk A20
  clear A20
  by_cases c3 : t101 = true
  · subst c3
    have H1 : ((halves_Size.f (l0.length : Int)).bind fun t102 => (if 0 ≤ t102 then (if t102 ≤ (l0.length : Int) then ((halves_Trim.f (l0.take (t102 : Int).toNat) (l0.length : Int) true).bind fun bt104 => ((halves_Size.f (l0.length : Int)).bind fun t108 => (if 0 ≤ (wrap64 ((l0.length : Int) - t108)) then (if (wrap64 ((l0.length : Int) - t108)) ≤ (l0.length : Int) then ((halves_Trim.f (l0.drop ((wrap64 ((l0.length : Int) - t108)) : Int).toNat) (l0.length : Int) false).bind fun bt110 => (some (bt104.1, bt110.1, 0))) else (none)) else (none)))) else (none)) else (none))) = some (r1, r2, r3) := by rw [if_pos rfl] at H; exact H
    clear H
    have H := H1
    clear H1
    replace H := Option.bind_eq_some_iff.mp H
    obtain ⟨t102, A40, H⟩ := H
    replace H : (if 0 ≤ t102 then (if t102 ≤ (l0.length : Int) then ((halves_Trim.f (l0.take (t102 : Int).toNat) (l0.length : Int) true).bind fun bt104 => ((halves_Size.f (l0.length : Int)).bind fun t108 => (if 0 ≤ (wrap64 ((l0.length : Int) - t108)) then (if (wrap64 ((l0.length : Int) - t108)) ≤ (l0.length : Int) then ((halves_Trim.f (l0.drop ((wrap64 ((l0.length : Int) - t108)) : Int).toNat) (l0.length : Int) false).bind fun bt110 => (some (bt104.1, bt110.1, 0))) else (none)) else (none)))) else (none)) else (none)) = some (r1, r2, r3) := H
    have A4 := Aside0.mk A40
    clear A40
    by_cases c5 : 0 ≤ t102
    · rw [if_pos c5] at H
      have c5b0 := eq_true c5
      have c5b1 : decide (0 ≤ t102) = true := decide_eq_true c5
      clear c5
      by_cases c6 : t102 ≤ (l0.length : Int)
      · rw [if_pos c6] at H
        have c6b0 := eq_true c6
        have c6b1 : decide (t102 ≤ (l0.length : Int)) = true := decide_eq_true c6
        clear c6
        replace H := Option.bind_eq_some_iff.mp H
        obtain ⟨⟨t104, t105⟩, A70, H⟩ := H
        replace H : ((halves_Size.f (l0.length : Int)).bind fun t108 => (if 0 ≤ (wrap64 ((l0.length : Int) - t108)) then (if (wrap64 ((l0.length : Int) - t108)) ≤ (l0.length : Int) then ((halves_Trim.f (l0.drop ((wrap64 ((l0.length : Int) - t108)) : Int).toNat) (l0.length : Int) false).bind fun bt110 => (some (t104, bt110.1, 0))) else (none)) else (none))) = some (r1, r2, r3) := H
        have A7 := Aside0.mk A70
        clear A70
        replace H := Option.bind_eq_some_iff.mp H
        obtain ⟨t108, A80, H⟩ := H
        replace H : (if 0 ≤ (wrap64 ((l0.length : Int) - t108)) then (if (wrap64 ((l0.length : Int) - t108)) ≤ (l0.length : Int) then ((halves_Trim.f (l0.drop ((wrap64 ((l0.length : Int) - t108)) : Int).toNat) (l0.length : Int) false).bind fun bt110 => (some (t104, bt110.1, 0))) else (none)) else (none)) = some (r1, r2, r3) := H
        have A8 := Aside0.mk A80
        clear A80
        obtain ⟨ji9, hji9⟩ : ∃ j_ : Int, (wrap64 ((l0.length : Int) - t108)) = j_ := ⟨_, rfl⟩
        replace H : (if 0 ≤ (ji9) then (if (ji9) ≤ (l0.length : Int) then ((halves_Trim.f (l0.drop ((ji9) : Int).toNat) (l0.length : Int) false).bind fun bt110 => (some (t104, bt110.1, 0))) else (none)) else (none)) = some (r1, r2, r3) := by first | (rw [hji9] at H; exact H) | (simp only [hji9] at H ⊢; exact H)
        (try rw [hji9] at A2)
        (try rw [hji9] at A4)
        (try rw [hji9] at A7)
        (try rw [hji9] at A8)
        have hji9w : (IntKind.i64.wrap ((l0.length : Int) - t108)) = ji9 := (i64_w _).trans hji9
        by_cases c10 : 0 ≤ (ji9)
        · rw [if_pos c10] at H
          have c10b0 := eq_true c10
          have c10b1 : decide (0 ≤ (ji9)) = true := decide_eq_true c10
          clear c10
          by_cases c11 : (ji9) ≤ (l0.length : Int)
          · rw [if_pos c11] at H
            have c11b0 := eq_true c11
            have c11b1 : decide ((ji9) ≤ (l0.length : Int)) = true := decide_eq_true c11
            clear c11
            replace H := Option.bind_eq_some_iff.mp H
            obtain ⟨⟨t110, t111⟩, A120, H⟩ := H
            replace H : (some (t104, t110, 0)) = some (r1, r2, r3) := H
            have A12 := Aside0.mk A120
            clear A120
            simp only [Option.some.injEq, Prod.mk.injEq] at H
            obtain ⟨rfl, rfl, rfl⟩ := H
            go_enter Try.func9, Try.ntmps9
            go_wp2_with (first | ((with_reducible refine gate_callee (f := 20) rfl ?_); refine goesL_ (some 9) rfl rfl Try.func20 (by kernel_rfl) rfl #[.int .i64 (l0.length : Int), .slice none 0 0] rfl (by (try simp only [List.map_toArray, List.map_cons, List.map_nil]); first | done | rfl | (simp only [List.length_drop, List.length_take]; rfl)) ?_; (refine (halves_fits.calls (l0.length : Int) _ _ ([] : List (List Int)) true _ ?side1 ?side2 A2.out).mono ?_); (case side1 => exact Kd.C_nil _ _); (case side2 => exact Nat.le_refl _); rintro e w13 ⟨rfl, hb⟩; refine ⟨_, rfl, ?_⟩; have n0_ := Aside0.mk (below_step (by repeat (first | (with_reducible first | exact HB.out | apply below_alloc | apply pw_below_drewN | apply below_drew1) | exact HB.out)) hb); clear HB; have HB := n0_; clear n0_; (try clear hb); (try clear hb2); (try clear hk); (try clear hi)) | ((with_reducible refine gate_callee (f := 12) rfl ?_); refine goesL_ (some 14) rfl rfl Try.func12 (by kernel_rfl) rfl #[.int .i64 (l0.length : Int)] rfl (by (try simp only [List.map_toArray, List.map_cons, List.map_nil]); first | done | rfl | (simp only [List.length_drop, List.length_take]; rfl)) ?_; (with_reducible refine (halves_Size.calls (l0.length : Int) t102 _ A4.out).mono ?_); rintro e w' ⟨rfl, ⟨nd, rfl⟩⟩; refine ⟨_, rfl, ?_⟩; obtain ⟨i014, hi014, _, hsz14, _⟩ := info_parts info5; obtain ⟨hcut14, hA14, hC14⟩ := print_take_of (P := Try.prog) (Value.int .u8) 0 22 5 .i64 Try.underlying22 hi014 hsz14 A0 c0 l0 t102 (of_decide_eq_true (by first | (with_reducible assumption) | assumption)) (of_decide_eq_true (by first | (with_reducible assumption) | assumption)) HC0.out; have HR103 := Aside0.mk (Kd.C_of_reads (h1 := fun _ => rfl) (hA14 _ (Kd.reads_of_C HR0.out))); have HC103 := Aside0.mk hC14; clear hA14 hC14 hi014 hsz14) | ((with_reducible refine gate_callee (f := 16) rfl ?_); refine goesL_ (some 17) rfl rfl Try.func16 (by kernel_rfl) rfl #[.slice A0 (l0.take (t102 : Int).toNat).length c0, .int .i64 (l0.length : Int), .bool true] rfl (by (try simp only [List.map_toArray, List.map_cons, List.map_nil]); first | done | (rw [show (l0.take (t102 : Int).toNat).length = t102.toNat from (by rw [List.length_take]; have h_ : (t102 : Int) ≤ (l0.length : Int) := of_decide_eq_true (by first | (with_reducible assumption) | assumption); omega)] <;> rfl) | rfl | (simp only [List.length_drop, List.length_take]; rfl)) ?_; (with_reducible refine (halves_Trim.calls _ _ (l0.take (t102 : Int).toNat) (l0.length : Int) true t104 t105 _ ?side1 ?side2 A7.out).mono ?_); (case side1 => repeat (first | exact (Kd.C_below HR103.out (by repeat (first | (with_reducible first | exact HB.out | apply below_alloc | apply pw_below_drewN | apply below_drew1) | exact HB.out))) | (with_reducible refine Kd.C_alloc ?_ _) | (with_reducible refine Kd.C_drewN ?_ _) | (with_reducible refine Kd.C_drew ?_))); (case side2 => exact HC103.out); rintro e w15 ⟨v106, rfl, ho0, hb⟩; refine ⟨_, rfl, ?_⟩; have n0_ := Aside0.mk (Kd.R_lower ho0 (below_size (by repeat (first | (with_reducible first | exact HB.out | apply below_alloc | apply pw_below_drewN | apply below_drew1) | exact HB.out)))); have n1_ := Aside0.mk (below_step (by repeat (first | (with_reducible first | exact HB.out | apply below_alloc | apply pw_below_drewN | apply below_drew1) | exact HB.out)) hb); clear HB; have HO107 := n0_; have HB := n1_; clear n0_ n1_; (try clear hb); (try clear hb2); (try clear hk); (try clear hi); (try clear ho0)) | ((with_reducible refine gate_callee (f := 12) rfl ?_); refine goesL_ (some 24) rfl rfl Try.func12 (by kernel_rfl) rfl #[.int .i64 (l0.length : Int)] rfl (by (try simp only [List.map_toArray, List.map_cons, List.map_nil]); first | done | rfl | (simp only [List.length_drop, List.length_take]; rfl)) ?_; (with_reducible refine (halves_Size.calls (l0.length : Int) t108 _ A8.out).mono ?_); rintro e w' ⟨rfl, ⟨nd, rfl⟩⟩; refine ⟨_, rfl, ?_⟩; obtain ⟨i016, hi016, _, hsz16, _⟩ := info_parts info5; obtain ⟨A16, hcut16, hA16, hC16⟩ := print_drop_of (P := Try.prog) (Value.int .u8) 0 22 5 .i64 Try.underlying22 hi016 hsz16 A0 c0 l0 (ji9) (of_decide_eq_true (by first | (with_reducible assumption) | assumption)) (of_decide_eq_true (by first | (with_reducible assumption) | assumption)) HC0.out; have HR109 := Aside0.mk (Kd.C_of_reads (h1 := fun _ => rfl) (hA16 _ (Kd.reads_of_C HR0.out))); have HC109 := Aside0.mk hC16; clear hA16 hC16 hi016 hsz16) | ((with_reducible refine gate_callee (f := 16) rfl ?_); refine goesL_ (some 28) rfl rfl Try.func16 (by kernel_rfl) rfl #[.slice A16 (l0.drop ((ji9) : Int).toNat).length (c0 - (ji9).toNat), .int .i64 (l0.length : Int), .bool false] rfl (by (try simp only [List.map_toArray, List.map_cons, List.map_nil]); first | done | (rw [show (l0.drop ((ji9) : Int).toNat).length = (l0.length - (ji9).toNat) from List.length_drop] <;> rfl) | (simp only [hji9]; rfl) | rfl | (simp only [List.length_drop, List.length_take]; rfl)) ?_; (with_reducible refine (halves_Trim.calls _ _ (l0.drop ((ji9) : Int).toNat) (l0.length : Int) false t110 t111 _ ?side1 ?side2 A12.out).mono ?_); (case side1 => repeat (first | exact (Kd.C_below HR109.out (by repeat (first | (with_reducible first | exact HB.out | apply below_alloc | apply pw_below_drewN | apply below_drew1) | exact HB.out))) | (with_reducible refine Kd.C_alloc ?_ _) | (with_reducible refine Kd.C_drewN ?_ _) | (with_reducible refine Kd.C_drew ?_))); (case side2 => exact HC109.out); rintro e w17 ⟨v112, rfl, ho0, hb⟩; refine ⟨_, rfl, ?_⟩; have n0_ := Aside0.mk (Kd.R_elder' (by (with_reducible repeat (first | apply Kd.R_alloc | apply Kd.R_drewN | apply Kd.R_drew)); exact HO107.out) (Kd.R_base ho0) hb); have n1_ := Aside0.mk (Kd.R_lower (Kd.R_new' ho0 (Kd.R_lt (by (with_reducible repeat (first | apply Kd.R_alloc | apply Kd.R_drewN | apply Kd.R_drew)); exact HO107.out))) (below_size (by repeat (first | (with_reducible first | exact HB.out | apply below_alloc | apply pw_below_drewN | apply below_drew1) | exact HB.out)))); have n2_ := Aside0.mk (below_step (by repeat (first | (with_reducible first | exact HB.out | apply below_alloc | apply pw_below_drewN | apply below_drew1) | exact HB.out)) hb); clear HO107; clear HB; have HO107 := n0_; have HO113 := n1_; have HB := n2_; clear n0_ n1_ n2_; (try clear hb); (try clear hb2); (try clear hk); (try clear hi); (try clear ho0)))
            go_ret3
            exact ⟨_, _, by first | rfl | (simp [errW_none, errW_some] <;> rfl) | (simp only [← hji9]; first | rfl | (simp [errW_none, errW_some] <;> rfl)) | (simp [*, errW_none, errW_some] <;> rfl), by (with_reducible repeat (first | apply Kd.R_alloc | apply Kd.R_drewN | apply Kd.R_drew)); exact Kd.R_mono HO107.out (fun _ hk => hk.2), by (with_reducible repeat (first | apply Kd.R_alloc | apply Kd.R_drewN | apply Kd.R_drew)); exact Kd.R_mono HO113.out (fun _ hk => hk.2), by repeat (first | (with_reducible first | exact HB.out | apply below_alloc | apply pw_below_drewN | apply below_drew1) | exact HB.out)⟩
          · rw [if_neg c11] at H
            exact absurd H (by simp)
        · rw [if_neg c10] at H
          exact absurd H (by simp)
      · rw [if_neg c6] at H
        exact absurd H (by simp)
    · rw [if_neg c5] at H
      exact absurd H (by simp)
  · replace c3 := Bool.eq_false_iff.mpr c3
    subst c3
    have H1 : (some (([] : List Int), ([] : List Int), 11)) = some (r1, r2, r3) := by rw [if_neg (show ¬ (false = true) by decide)] at H; exact H
    clear H
    have H := H1
    clear H1
    simp only [Option.some.injEq, Prod.mk.injEq] at H
    obtain ⟨rfl, rfl, rfl⟩ := H
    go_enter Try.func9, Try.ntmps9
    go_wp2_with (first | ((with_reducible refine gate_callee (f := 20) rfl ?_); refine goesL_ (some 9) rfl rfl Try.func20 (by kernel_rfl) rfl #[.int .i64 (l0.length : Int), .slice none 0 0] rfl (by (try simp only [List.map_toArray, List.map_cons, List.map_nil]); first | done | rfl | (simp only [List.length_drop, List.length_take]; rfl)) ?_; (refine (halves_fits.calls (l0.length : Int) _ _ ([] : List (List Int)) false _ ?side1 ?side2 A2.out).mono ?_); (case side1 => exact Kd.C_nil _ _); (case side2 => exact Nat.le_refl _); rintro e w18 ⟨rfl, hb⟩; refine ⟨_, rfl, ?_⟩; have n0_ := Aside0.mk (below_step (by repeat (first | (with_reducible first | exact HB.out | apply below_alloc | apply pw_below_drewN | apply below_drew1) | exact HB.out)) hb); clear HB; have HB := n0_; clear n0_; (try clear hb); (try clear hb2); (try clear hk); (try clear hi)))
    go_ret3
    exact ⟨_, _, by first | rfl | (simp [errW_none, errW_some] <;> rfl) | (simp [*, errW_none, errW_some] <;> rfl), by first | exact Kd.R_nil _ _ _ _ _ | exact Kd.N_nil _ _ _ _ _ | exact Kd.V_nil _ _ _ _ _ | exact Kd.Q_nil _ _ _ _ _ | exact Kd.S_nil _ _ _ _ _, by first | exact Kd.R_nil _ _ _ _ _ | exact Kd.N_nil _ _ _ _ _ | exact Kd.V_nil _ _ _ _ _ | exact Kd.Q_nil _ _ _ _ _ | exact Kd.S_nil _ _ _ _ _, by repeat (first | (with_reducible first | exact HB.out | apply below_alloc | apply pw_below_drewN | apply below_drew1) | exact HB.out)⟩

/-! ### crosswayref00_SameBytes: function 11 -/
def crosswayref00_SameBytes.l0 : Nat → List Int → List Int → Int → Option (Bool)
  | 0, _, _, _ => none
  | k + 1, x0, x1, x5 => if x5 < (x0.length : Int) then (if 0 ≤ x5 then (if x5 < (x1.length : Int) then (if (rd x0 x5) = (rd x1 x5) then (crosswayref00_SameBytes.l0 k x0 x1 (wrap64 (x5 + 1))) else (some false)) else (none)) else (none)) else (some true)
def crosswayref00_SameBytes.f (k : Nat) (l0 : List Int) (l1 : List Int) : Option (Bool) := if (l0.length : Int) = (l1.length : Int) then (crosswayref00_SameBytes.l0 k l0 l1 0) else (some false)
theorem crosswayref00_SameBytes.mono_l : ∀ k, (∀ y0 y1 y2, LeO (crosswayref00_SameBytes.l0 k y0 y1 y2) (crosswayref00_SameBytes.l0 (k + 1) y0 y1 y2))
  | 0 => fun _ _ _ r h => by simp [crosswayref00_SameBytes.l0] at h
  | k + 1 => by
    have ih0 := crosswayref00_SameBytes.mono_l k
    · intro y0 y1 y2
      unfold crosswayref00_SameBytes.l0
      repeat' first
      | (with_reducible exact ih0 _ _ _)
      | (with_reducible exact LeO.refl _)
      | (with_reducible exact LeO.none _)
      | (with_reducible refine LeO.ite ?_ ?_)
      | (with_reducible refine LeO.bind ?_ (fun _ => ?_))
      | exact ih0 _ _ _
      | exact LeO.none _
      | refine LeO.ite ?_ ?_
      | refine LeO.bind ?_ (fun _ => ?_)
theorem crosswayref00_SameBytes.mono : ∀ a0 a1 k, LeO (crosswayref00_SameBytes.f k a0 a1) (crosswayref00_SameBytes.f (k + 1) a0 a1) := by
  intro a0 a1 k
  have ih0 := crosswayref00_SameBytes.mono_l k
  unfold crosswayref00_SameBytes.f
  repeat' first
      | (with_reducible exact ih0 _ _ _)
      | (with_reducible exact LeO.refl _)
      | (with_reducible exact LeO.none _)
      | (with_reducible refine LeO.ite ?_ ?_)
      | (with_reducible refine LeO.bind ?_ (fun _ => ?_))
      | exact ih0 _ _ _
      | exact LeO.none _
      | refine LeO.ite ?_ ?_
      | refine LeO.bind ?_ (fun _ => ?_)
set_option maxHeartbeats 8000000 in
set_option maxRecDepth 100000 in
theorem crosswayref00_SameBytes.calls (k : Nat) (A0 : Option Addr) (c0 : Nat) (l0 : List Int) (A1 : Option Addr) (c1 : Nat) (l1 : List Int) (r : Bool) (w : World) (hr0 : Kd.C (Kd.int .u8) w A0 l0.length l0) (hc0 : l0.length ≤ c0) (hr1 : Kd.C (Kd.int .u8) w A1 l1.length l1) (hc1 : l1.length ≤ c1) (h : crosswayref00_SameBytes.f k l0 l1 = some r) :
    Calls Try.prog 11 #[.slice A0 l0.length c0, .slice A1 l1.length c1] w fun e w' => e = .returned (.bool r) ∧ Drawn0 w w' := by
  have HR0 := Aside0.mk hr0
  have HC0 := Aside0.mk hc0
  clear hr0 hc0
  have HR1 := Aside0.mk hr1
  have HC1 := Aside0.mk hc1
  clear hr1 hc1
  have H : (if (l0.length : Int) = (l1.length : Int) then (crosswayref00_SameBytes.l0 k l0 l1 0) else (some false)) = some r := h
  clear h
  by_cases c3 : (l0.length : Int) = (l1.length : Int)
  · rw [if_pos c3] at H
    have c3b0 : ((l0.length : Int) == (l1.length : Int)) = true := beq_iff_eq.mpr c3
    have c3b1 : ((l0.length : Int) != (l1.length : Int)) = false := bne_eq_false_iff_eq.mpr c3
    have c3b2 : (l0.length == l1.length) = true := by first | simpa using c3 | (simp at c3 ⊢; omega)
    clear c3
    have H' := Aside0.mk H
    clear H
    go_enter Try.func11, Try.ntmps11
    go_wp2
    repeat (go_quiet (fail); try go_wp2)
    go_loopg [5] k (fun kq v5 w' => ∃ (x5_1 : Int), v5 = .int .i64 x5_1 ∧ Aside0 (crosswayref00_SameBytes.l0 kq l0 l1 x5_1 = some r) ∧ Aside0 (kq ≤ k) ∧ Drawn0 w w')
    case atStart => exact ⟨(0), (by first | rfl | (simp; done) | (simp [*]; done)), H', ⟨Nat.le_refl _⟩, by repeat (first | exact Drawn0.refl _ | apply Drawn0.step)⟩
    case round =>
      clear H'
      try clear c1
      try clear p2
      try clear c3
      try clear c3b0
      try clear c3b1
      try clear c3b2
      obtain ⟨x5_1, rfl, HA, HK1, ⟨m1, rfl⟩⟩ := hrel
      cases gk with
      | zero => exact absurd HA.out (by simp [crosswayref00_SameBytes.l0])
      | succ k1 =>
        have H := HA.out
        clear HA
        simp only [crosswayref00_SameBytes.l0] at H
        by_cases c4 : x5_1 < (l0.length : Int)
        · rw [if_pos c4] at H
          have c4b0 : decide (x5_1 < (l0.length : Int)) = true := decide_eq_true c4
          clear c4
          by_cases c5 : 0 ≤ x5_1
          · rw [if_pos c5] at H
            have c5b0 : decide (0 ≤ x5_1) = true := decide_eq_true c5
            clear c5
            by_cases c6 : x5_1 < (l1.length : Int)
            · rw [if_pos c6] at H
              have c6b0 : decide (x5_1 < (l1.length : Int)) = true := decide_eq_true c6
              clear c6
              by_cases c7 : (rd l0 x5_1) = (rd l1 x5_1)
              · rw [if_pos c7] at H
                have c7b0 : ((rd l0 x5_1) == (rd l1 x5_1)) = true := beq_iff_eq.mpr c7
                have c7b1 : ((rd l0 x5_1) != (rd l1 x5_1)) = false := bne_eq_false_iff_eq.mpr c7
                clear c7
                have H' := Aside0.mk H
                clear H
                have p114 : 0 ≤ (x5_1 : Int) := of_decide_eq_true (by first | (with_reducible assumption) | assumption)
                have q114 : x5_1 < (l0.length : Int) := of_decide_eq_true (by first | (with_reducible assumption) | assumption)
                obtain ⟨ad114, e114, hx114_0⟩ := Kd.at_int HR0.out x5_1 p114 q114
                cases e114
                replace p114 := eq_true p114
                replace q114 := eq_true q114
                have p115 : 0 ≤ (x5_1 : Int) := of_decide_eq_true (by first | (with_reducible assumption) | assumption)
                have q115 : x5_1 < (l1.length : Int) := of_decide_eq_true (by first | (with_reducible assumption) | assumption)
                obtain ⟨ad115, e115, hx115_0⟩ := Kd.at_int HR1.out x5_1 p115 q115
                cases e115
                replace p115 := eq_true p115
                replace q115 := eq_true q115
                go_wp2
                repeat (go_quiet (fail); try go_wp2)
                go_roundg k1
                case measure => have := HK1.out; omega
                case rel => exact ⟨(wrap64 (x5_1 + 1)), (by first | rfl | (simp; done) | (simp [*]; done)), H', ⟨by have := HK1.out; omega⟩, by repeat (first | exact Drawn0.refl _ | apply Drawn0.step)⟩
              · rw [if_neg c7] at H
                have c7b0 : ((rd l0 x5_1) == (rd l1 x5_1)) = false := beq_eq_false_iff_ne.mpr c7
                have c7b1 : ((rd l0 x5_1) != (rd l1 x5_1)) = true := bne_iff_ne.mpr c7
                obtain rfl := Option.some.inj H
                have p114 : 0 ≤ (x5_1 : Int) := of_decide_eq_true (by first | (with_reducible assumption) | assumption)
                have q114 : x5_1 < (l0.length : Int) := of_decide_eq_true (by first | (with_reducible assumption) | assumption)
                obtain ⟨ad114, e114, hx114_0⟩ := Kd.at_int HR0.out x5_1 p114 q114
                cases e114
                replace p114 := eq_true p114
                replace q114 := eq_true q114
                have p115 : 0 ≤ (x5_1 : Int) := of_decide_eq_true (by first | (with_reducible assumption) | assumption)
                have q115 : x5_1 < (l1.length : Int) := of_decide_eq_true (by first | (with_reducible assumption) | assumption)
                obtain ⟨ad115, e115, hx115_0⟩ := Kd.at_int HR1.out x5_1 p115 q115
                cases e115
                replace p115 := eq_true p115
                replace q115 := eq_true q115
                go_wp2
                repeat (go_quiet (fail); try go_wp2)
                go_ret
                exact ⟨by first | rfl | (simp; done) | (simp [*]; done), by repeat (first | exact Drawn0.refl _ | apply Drawn0.step)⟩
            · rw [if_neg c6] at H
              exact absurd H (by simp)
          · rw [if_neg c5] at H
            exact absurd H (by simp)
        · rw [if_neg c4] at H
          have c4b0 : decide (x5_1 < (l0.length : Int)) = false := decide_eq_false c4
          clear c4
          obtain rfl := Option.some.inj H
          go_wp2
          repeat (go_quiet (fail); try go_wp2)
          go_ret
          exact ⟨by first | rfl | (simp; done) | (simp [*]; done), by repeat (first | exact Drawn0.refl _ | apply Drawn0.step)⟩
  · rw [if_neg c3] at H
    have c3b0 : ((l0.length : Int) == (l1.length : Int)) = false := beq_eq_false_iff_ne.mpr c3
    have c3b1 : ((l0.length : Int) != (l1.length : Int)) = true := bne_iff_ne.mpr c3
    have c3b2 : (l0.length == l1.length) = false := by first | simpa using c3 | (simp at c3 ⊢; omega)
    obtain rfl := Option.some.inj H
    go_enter Try.func11, Try.ntmps11
    go_wp2
    repeat (go_quiet (fail); try go_wp2)
    go_ret
    exact ⟨by first | rfl | (simp; done) | (simp [*]; done), by repeat (first | exact Drawn0.refl _ | apply Drawn0.step)⟩

/-! ### slices_Grow_byte_byte: function 31, typed by hand -/
/-- Grow of a nil slice: no element, and room. -/
def slices_Grow_byte_byte.f (a1 : Int) : Option (List Int) := if 0 ≤ a1 then (if a1 < 140737488355328 then some [] else none) else none
set_option maxRecDepth 100000 in
theorem slices_Grow_byte_byte.calls (a1 : Int) (r : List Int) (w : World) (h : slices_Grow_byte_byte.f a1 = some r) :
    Calls Try.prog 31 #[.slice none 0 0, .int .i64 a1] w fun e w' => ∃ v0_ : Value, e = .returned (v0_) ∧ Kd.R (Kd.int .u8) 5 w' w.heap.size (fun _ => True) v0_ r ∧ Below w.heap.size w w' := by
  have h1 : 0 ≤ a1 ∧ a1 < 140737488355328 ∧ [] = r := by
    simp only [slices_Grow_byte_byte.f] at h
    by_cases c1 : 0 ≤ a1
    · rw [if_pos c1] at h
      by_cases c2 : a1 < 140737488355328
      · rw [if_pos c2] at h
        exact ⟨c1, c2, Option.some.inj h⟩
      · rw [if_neg c2] at h
        cases h
    · rw [if_neg c1] at h
      cases h
  obtain ⟨c1, c2, rfl⟩ := h1
  clear h
  obtain ⟨i0, hi0, _, _, _⟩ := info_parts info5
  by_cases c3 : a1 = 0
  · subst c3
    clear hi0
    go_enter Try.func31, Try.ntmps31
    go_wp2
    go_ret
    exact ⟨_, rfl, Kd.R_nil _ _ _ _ _, Below.refl _ _⟩
  · have c4 : 0 < a1 := by omega
    have HI := Aside0.mk hi0
    clear c3 hi0
    go_enter Try.func31, Try.ntmps31
    go_wp2_with (at_builtin; refine Kd.R_append_zeros (Kd.int .u8) (w0 := w) w.heap.size rfl (.tmp 20) (.tmp 21) 22 3 5 (.int .u8 0) 1 rfl Try.underlying22 Try.underlying3 info5 rfl (by decide) (by omega) (.slice none 0 0) [] 0 a1 (fun _ => True) rfl rfl rfl (fun _ _ => trivial) (Kd.R_nil _ _ _ _ _) ?h0 (Below.refl _ _) (Nat.le_refl _) ?hl ?_; (case h0 => omega); (case hl => simp; omega); intro v1 w1 ho hb hg hat; obtain ⟨A1, k1, rfl⟩ := Kd.R_slice ho; have hcut := cut_to (P := Try.prog) 22 5 .i64 Try.underlying22 HI.out A1 _ k1 0 (by decide) (by omega) (Kd.R_reads' ho).2.1; have HO := Aside0.mk ho; have HB := Aside0.mk hb; clear ho hb hg hat)
    go_ret
    exact ⟨_, rfl, Kd.R_take (m := 0) HO.out (by omega), HB.out⟩


end Go.Proofs.Ytbiiccgheblhpac.M
