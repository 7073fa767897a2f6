/- rank: alive. Written by wip/gen/rkalive.py. -/
import Derived.Test.YtonofmnjcocokaaRkFirst
import Derived.Test.YtonofmnjcocokaaRkSort
import Derived.StillTailTactics
namespace Go.Proofs.Ytonofmnjcocokaa.Rk
open Go.RowKit Go.Proofs.YtonofmnjcocokaaW.PrintWords Go.Proofs.YtonofmnjcocokaaW.PrintLast Go.Proofs.YtonofmnjcocokaaW.PrintMore Go.Proofs.Ytonofmnjcocokaa.X Go.Proofs.Ytonofmnjcocokaa.M Go.Proofs.Ytonofmnjcocokaa.Bv Go.Proofs.Ytonofmnjcocokaa.PuLib Go.Proofs.Ytonofmnjcocokaa.PuMix
attribute [local go_sem] max2_int min2_int max_two min_two max_three min_three max_four min_four
set_option linter.unusedVariables false
set_option linter.unusedSimpArgs false
theorem C_u8 {w : World} {x t : Nat} (xs : List Int) (hb : w.heap[x]? = some (.cells (xs.map (Value.int .u8)).toArray t (0, 0))) (hl : xs.length ≤ 9223372036854775807) : Kd.C (Kd.int .u8) w (some ⟨x, 0, none⟩) xs.length xs := by
  refine ⟨rfl, hl, fun _ => ⟨_, rfl, fun j p hj => ⟨[.int .u8 p], rfl, rfl, fun i u hu => ?_⟩⟩⟩
  obtain ⟨hi, hv2⟩ := List.getElem?_eq_some_iff.1 hu
  obtain rfl : i = 0 := by simp at hi; omega
  simp only [List.getElem_cons_zero] at hv2
  subst hv2
  have h := cell_of_row w x j _ t (0, 0) hb
  have he : (⟨x, 0, none⟩ : Addr).add (j * (Kd.int .u8).sz + 0) = ⟨x, j, none⟩ := by
    have hsz : (Kd.int .u8).sz = 1 := rfl
    rw [Addr.add_mid, hsz]
    congr 1
    omega
  rw [he, h]
  simp [hj]
/-- Entries in a block. -/
def cellsE : List S25 → List Value
  | [] => []
  | x :: r => .int .i64 x.f0 :: .int .i64 x.f1 :: cellsE r
theorem cellsE_get (l : List S25) : ∀ (j : Nat) (p : S25), l[j]? = some p → (cellsE l)[j * 2]? = some (.int .i64 p.f0) ∧ (cellsE l)[j * 2 + 1]? = some (.int .i64 p.f1) := by
  induction l with
  | nil => intro j p h; simp at h
  | cons x r ih =>
    intro j p h
    cases j with
    | zero =>
      simp at h
      subst h
      exact ⟨rfl, rfl⟩
    | succ j =>
      have h1 := ih j p (by simpa using h)
      rw [Nat.add_mul, Nat.one_mul]
      exact h1
theorem C_blkE {w : World} {x t : Nat} (l : List S25) (hb : w.heap[x]? = some (.cells (cellsE l).toArray t (0, 0))) (hl : l.length ≤ 1000000) : Kd.C k25 w (some ⟨x, 0, none⟩) l.length l := by
  refine ⟨rfl, by omega, fun _ => ⟨_, rfl, fun j p hj => ⟨_, rfl, k25_mk w p, fun i u hu => ?_⟩⟩⟩
  have hsz : k25.sz = 2 := rfl
  obtain ⟨h0, h1⟩ := cellsE_get l j p hj
  rw [Addr.add_mid, hsz]
  have hc := fun k => cell_of_row w x k _ t (0, 0) hb
  obtain ⟨hi, hv2⟩ := List.getElem?_eq_some_iff.1 hu
  have hi2 : i = 0 ∨ i = 1 := by simp at hi; omega
  rcases hi2 with rfl | rfl
  · rw [show 0 + (j * 2 + 0) = j * 2 by omega, hc, List.getElem?_toArray, h0, ← hv2]; rfl
  · rw [show 0 + (j * 2 + 1) = j * 2 + 1 by omega, hc, List.getElem?_toArray, h1, ← hv2]; rfl
def e53 : S25 := ⟨5, 3⟩
def e641 : S25 := ⟨64, 1⟩
def e60 : S25 := ⟨6, 0⟩
def e63 : S25 := ⟨6, 3⟩
theorem all_3 : allS 7 [1] [e53, e641, e60] = [(5, (scoreS 7 [1] 5 3).1)] := rfl
theorem all_2 : allS 7 [1] [e53, e63] = [(5, (scoreS 7 [1] 5 3).1), (6, (scoreS 7 [1] 6 3).1)] := rfl
theorem all_1 (key : List Int) : allS 7 key [e53] = [(5, (scoreS 7 key 5 3).1)] := rfl
theorem first3 (g1 g2 : Nat) (w : World) (h1 : w.heap[g1]? = some (.cells #[.int .u8 1] 5 (0, 0))) (h2 : w.heap[g2]? = some (.cells #[.int .i64 5, .int .i64 3, .int .i64 64, .int .i64 1, .int .i64 6, .int .i64 0] 25 (0, 0))) : Calls Try.prog 11 #[.int .u64 7, .slice (some ⟨g1, 0, none⟩) 1 1, .slice (some ⟨g2, 0, none⟩) 3 3] w fun e w' => e = .returned (.tuple #[.int .i64 5, .bool true]) ∧ Below w.heap.size w w' := by
  refine (first_calls 7 [1] 1 rfl [e53, e641, e60] 3 rfl (by decide) _ 1 _ 3 w (C_u8 [1] h1 (by decide)) (by decide) (C_blkE [e53, e641, e60] h2 (by decide)) (by decide)).mono ?_
  rintro e w' ⟨rfl, hb⟩
  refine ⟨?_, hb⟩
  unfold firstS
  rw [all_3]
  rfl
theorem first0 (w : World) : Calls Try.prog 11 #[.int .u64 7, .slice none 0 0, .slice none 0 0] w fun e w' => e = .returned (.tuple #[.int .i64 0, .bool false]) ∧ Below w.heap.size w w' := 
  first_calls 7 [] 0 rfl [] 0 rfl (by decide) _ 0 _ 0 w (Kd.C_nil _ _) (by decide) (Kd.C_nil _ _) (by decide)
theorem perm2 {a b : Int} {l : List Int} (h : l.Perm [a, b]) : ∃ c d, l = [c, d] ∧ c + d = a + b := by
  have hl := h.length_eq
  obtain ⟨c, d, rfl⟩ : ∃ c d, l = [c, d] := by
    match l, hl with
    | [c, d], _ => exact ⟨c, d, rfl⟩
  refine ⟨c, d, rfl, ?_⟩
  have hc : c ∈ [a, b] := h.mem_iff.1 (by simp)
  simp only [List.mem_cons, List.not_mem_nil, or_false] at hc
  rcases hc with rfl | rfl
  · have h1 := (List.perm_cons c).1 h
    have h2 : d ∈ [b] := h1.mem_iff.1 (by simp)
    rw [List.mem_singleton.1 h2]
  · have h1 := (List.perm_cons c).1 (h.trans (List.Perm.swap c a []))
    have h2 : d ∈ [a] := h1.mem_iff.1 (by simp)
    rw [List.mem_singleton.1 h2, Int.add_comm]
theorem order2 (g1 g2 : Nat) (w : World) (h1 : w.heap[g1]? = some (.cells #[.int .u8 1] 5 (0, 0))) (h2 : w.heap[g2]? = some (.cells #[.int .i64 5, .int .i64 3, .int .i64 6, .int .i64 3] 25 (0, 0))) : Calls Try.prog 15 #[.int .u64 7, .slice (some ⟨g1, 0, none⟩) 1 1, .slice (some ⟨g2, 0, none⟩) 2 2] w fun e w' => ∃ g c x y, e = .returned (.slice (some ⟨g, 0, none⟩) 2 c) ∧ x + y = 11 ∧ w'.cell? ⟨g, 0, none⟩ = some (.int .i64 x) ∧ w'.cell? ⟨g, 1, none⟩ = some (.int .i64 y) ∧ g < w'.heap.size ∧ Below w.heap.size w w' := by
  refine (ranked_calls 7 [1] 1 rfl [e53, e63] 2 rfl (by decide) _ 1 _ 2 w (C_u8 [1] h1 (by decide)) (by decide) (C_blkE [e53, e63] h2 (by decide)) (by decide)).mono ?_
  rintro e w' ⟨A, q, c, rfl, hq, hr, hb⟩
  have hp : (orderS 7 [1] [e53, e63]).Perm [5, 6] := by
    unfold orderS sortedS
    rw [all_2]
    exact (List.mergeSort_perm _ _).map _
  obtain ⟨x, y, ho, hxy⟩ := perm2 hp
  rw [ho] at hq hr
  obtain rfl : q = 2 := hq
  obtain ⟨g, c2, hg, _, hlt, _⟩ := Kd.R_form hr (Nat.zero_lt_succ _)
  cases hg
  have hC := (Kd.R_reads' hr).2.2
  obtain ⟨a2, ha, hc⟩ := hC.2.2 (Nat.zero_lt_succ _)
  obtain rfl := Option.some.inj ha
  obtain ⟨cs, _, hK, h0⟩ := hc 0 x rfl
  have hK' : cs = [.int .i64 x] := hK
  subst hK'
  obtain ⟨cs, _, hK, h1⟩ := hc 1 y rfl
  have hK' : cs = [.int .i64 y] := hK
  subst hK'
  have h00 := h0 0 _ rfl
  have h10 := h1 0 _ rfl
  exact ⟨g, c, x, y, rfl, hxy, h00, h10, hlt, hb⟩
theorem score17 (w : World) : Calls Try.prog 9 #[.int .u64 7, .slice none 0 0, .agg #[.int .i64 1, .int .i64 17]] w fun e w' => e = .returned (.tuple #[.int .u64 0, .bool false]) ∧ Below w.heap.size w w' :=
  score_calls 7 [] 0 rfl 1 17 none 0 w _ (Kd.F_nil _ _ (fun _ => True)) (by decide)
theorem ids2 : idsS 7 [[1], [2]] [e53] = [5, 5] := rfl
theorem chosen2 (g g1 g2 g3 : Nat) (w : World) (h : w.heap[g]? = some (.cells #[.slice (some ⟨g1, 0, none⟩) 1 1, .slice (some ⟨g2, 0, none⟩) 1 1] 32 (0, 0))) (h1 : w.heap[g1]? = some (.cells #[.int .u8 1] 5 (0, 0))) (h2 : w.heap[g2]? = some (.cells #[.int .u8 2] 5 (0, 0))) (h3 : w.heap[g3]? = some (.cells #[.int .i64 5, .int .i64 3] 25 (0, 0))) : Calls Try.prog 17 #[.int .u64 7, .slice (some ⟨g, 0, none⟩) 2 2, .slice (some ⟨g3, 0, none⟩) 1 1] w fun e w' => ∃ b, e = .returned (.map (some b)) ∧ w.heap.size ≤ b ∧ ChosenAt w' b [5, 5] ∧ Below w.heap.size w w' := by
  have hK : Kd.C (Kd.slice 5 (Kd.int .u8)) w (some ⟨g, 0, none⟩) 2 [[1], [2]] := by
    refine ⟨rfl, by decide, fun _ => ⟨_, rfl, fun j p hj => ?_⟩⟩
    have hc := fun k => cell_of_row w g k _ _ (0, 0) h
    have hsz : (Kd.slice 5 (Kd.int .u8)).sz = 1 := rfl
    match j, hj with
    | 0, hj =>
      obtain rfl := Option.some.inj hj
      refine ⟨[.slice (some ⟨g1, 0, none⟩) 1 1], rfl, ⟨_, _, rfl, by decide, C_u8 [1] h1 (by decide)⟩, fun i u hu => ?_⟩
      obtain ⟨hi, hv2⟩ := List.getElem?_eq_some_iff.1 hu
      obtain rfl : i = 0 := by simp at hi; omega
      rw [Addr.add_mid, hsz, hc, ← hv2]
      rfl
    | 1, hj =>
      obtain rfl := Option.some.inj hj
      refine ⟨[.slice (some ⟨g2, 0, none⟩) 1 1], rfl, ⟨_, _, rfl, by decide, C_u8 [2] h2 (by decide)⟩, fun i u hu => ?_⟩
      obtain ⟨hi, hv2⟩ := List.getElem?_eq_some_iff.1 hu
      obtain rfl : i = 0 := by simp at hi; omega
      rw [Addr.add_mid, hsz, hc, ← hv2]
      rfl
    | j + 2, hj => simp at hj
  have hc := chosen_calls 7 [[1], [2]] 2 rfl (by decide) [e53] 1 rfl (by decide) _ 2 _ 1 w hK (by decide) (C_blkE [e53] h3 (by decide)) (by decide)
  rw [ids2] at hc
  exact hc
theorem ChosenAt.len {w : World} {b : Nat} {cs : List Int} (h : ChosenAt w b cs) : ∃ n : Nat, (Builtin.len_ #[44] 3 #[.map (some b)]).run Try.prog w = .ok (.int .i64 n) w ∧ n ≤ cs.length ∧ ∃ ns : List Int, ns.Nodup ∧ (∀ x, x ∈ ns ↔ x ∈ cs) ∧ n = ns.length := by
  obtain ⟨D, hown, h2, h3, h4, ns, hn1, hn2, hn3⟩ := h
  exact ⟨Maps.size D, hown.len lawCI _, hown.size_le, ns, hn1, hn2, hn3⟩
set_option maxRecDepth 100000 in
theorem ChosenAt.look {w : World} {b : Nat} {cs : List Int} (h : ChosenAt w b cs) (id : Int) (hid : 0 ≤ id ∧ id < 64) : (Instr.lookup 44 (.map (some b)) (.int .i64 id) false).run Try.prog w = .ok (.int .i64 (cs.count id : Int)) w := by
  obtain ⟨D, hown, h2, h3, h4, _⟩ := h
  have hkey := Maps.keyOf_int_mk (P := Try.prog) Try.underlying3 (a := id) (WalkArith.wf_i64 (by omega))
  have hz : (zeroValue 3).run Try.prog w = .ok (.int .i64 0) w := by kernel_rfl
  obtain ⟨c1, hlk, hc1, hwc⟩ := hown.lookup_int lawI lawCI Try.underlying3 hz hkey
  have h5 := (h3 id).symm.trans hc1
  injection h5 with h5
  injection h5 with h5 h6
  rw [h6]
  exact hlk
theorem len55 {ns : List Int} (h1 : ns.Nodup) (h2 : ∀ x, x ∈ ns ↔ x ∈ ([5, 5] : List Int)) : ns.length = 1 := by
  match ns, h1, h2 with
  | [], _, h2 => exact absurd ((h2 5).2 (by simp)) List.not_mem_nil
  | [_], _, _ => rfl
  | a :: b :: r, h1, h2 =>
    have ha := (h2 a).1 (by simp)
    have hb := (h2 b).1 (by simp)
    simp at ha hb
    subst ha hb
    simp at h1
set_option maxRecDepth 100000 in
set_option maxHeartbeats 8000000 in
theorem alive_calls (W : World) : Calls Try.prog 7 #[] W fun en W' => en = .returned (.bool true) ∧ Below W.heap.size W W' := by
  go_enter Try.func7, Try.ntmps7
  go_wp2_with fail
  (with_reducible refine (first3 _ _ _ ?h1 ?h2).mono ?_)
  case h1 => exact blk_alloc (blk_new W _) _
  case h2 => exact blk_newN (Array.size_push _) _
  rintro en w1 ⟨rfl, hb1⟩
  have HB1 := Aside0.mk (show Below W.heap.size W w1 from Below.trans (below_alloc (below_alloc (Below.refl W.heap.size W) _) _) (hb1.mono (by simp; omega)))
  clear hb1
  go_wp2_with fail
  (with_reducible refine (first0 _).mono ?_)
  rintro en w2 ⟨rfl, hb2⟩
  have HB2 := Aside0.mk (HB1.out.trans (hb2.mono HB1.out.size))
  clear hb2 HB1
  go_wp2_with fail
  (with_reducible refine (order2 _ _ _ ?h1 ?h2).mono ?_)
  case h1 => exact blk_alloc (blk_new w2 _) _
  case h2 => exact blk_newN (Array.size_push _) _
  rintro en w3 ⟨g, c, x, y, rfl, hxy, hx, hy, hg, hb3⟩
  have HB3 := Aside0.mk (show Below W.heap.size W w3 from Below.trans (below_alloc (below_alloc HB2.out _) _) (hb3.mono (by have h1 := HB2.out.size; simp; omega)))
  have HX := Aside0.mk hx
  have HY := Aside0.mk hy
  have HXY := Aside0.mk hxy
  have HG := Aside0.mk hg
  clear hb3 HB2 hx hy hxy hg
  go_wp2_with fail
  (with_reducible refine (chosen2 _ w3.heap.size (w3.heap.size + 1) _ _ ?h ?h1 ?h2 ?h3).mono ?_)
  case h => exact blk_alloc (blk_newN (by simp) _) _
  case h1 => exact blk_alloc (blk_alloc (blk_alloc (blk_new w3 _) _) _) _
  case h2 => exact blk_alloc (blk_alloc (blk_newN (Array.size_push _) _) _) _
  case h3 => exact blk_newN (by simp) _
  rintro en w4 ⟨b, rfl, hbb, hC, hb4⟩
  have hb34 : Below w3.heap.size w3 w4 := Below.trans (below_alloc (below_alloc (below_alloc (below_alloc (Below.refl w3.heap.size w3) _) _) _) _) (hb4.mono (by simp; omega))
  have HB4 := Aside0.mk (HB3.out.trans (hb34.mono HB3.out.size))
  have HX4 := Aside0.mk ((hb34.cell (p := ⟨g, 0, none⟩) HG.out).trans HX.out)
  have HY4 := Aside0.mk ((hb34.cell (p := ⟨g, 1, none⟩) HG.out).trans HY.out)
  have HG4 := Aside0.mk (show g < w4.heap.size from Nat.lt_of_lt_of_le HG.out hb34.size)
  have HC4 := Aside0.mk hC
  clear hbb hC hb4 hb34 HB3 HX HY HG
  go_wp2_with fail
  (with_reducible refine (score17 _).mono ?_)
  rintro en w5 ⟨rfl, hb5⟩
  have hx5 := (hb5.cell (p := ⟨g, 0, none⟩) HG4.out).trans HX4.out
  have hy5 := (hb5.cell (p := ⟨g, 1, none⟩) HG4.out).trans HY4.out
  have HB5 := Aside0.mk (HB4.out.trans (hb5.mono HB4.out.size))
  have hC5 : ChosenAt w5.drew b [5, 5] := HC4.out.below (below_drew hb5) HC4.out.lt
  obtain ⟨n, hn, _, ns, hn1, hn2, hn3⟩ := hC5.len
  rw [len55 hn1 hn2] at hn3
  subst hn3
  have hlk := hC5.look 5 (by decide)
  rw [show (([5, 5] : List Int).count 5 : Int) = 2 by decide] at hlk
  have hxy := HXY.out
  have hw : wrap64 (x + y) = 11 := by rw [hxy]; unfold wrap64; omega
  clear hn1 hn2 hC5 hb5 HX4 HY4 HG4 HC4 HXY HB4
  go_wp2_with fail
  go_still_tail 37, (by kernel_rfl)
  change wpList _ _ _ _ _ w5.drew
  go_wp2_with fail
  go_ret
  exact ⟨rfl, HB5.out.drew⟩
end Go.Proofs.Ytonofmnjcocokaa.Rk
