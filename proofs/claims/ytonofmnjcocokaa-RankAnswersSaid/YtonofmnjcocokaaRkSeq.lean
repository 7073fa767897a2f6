/- rank: scored entries are collected. Written by wip/gen/rkseq.py. -/
import Derived.Test.YtonofmnjcocokaaRkAll
import Derived.RangeFuncNested
import Derived.RangeFuncBound
import Derived.RangeFuncCalls
import Derived.RangeFuncLeaves
import Derived.Shelf.Abstract
import Derived.Shelf.RegionOpen
import Derived.OwnWalkIn
import Derived.TacticsInMore
import Derived.LoopNIn
import Derived.LoopIn
namespace Go.Proofs.Ytonofmnjcocokaa.Rk
open Go.Shelf
open Go.RowKit Go.Proofs.YtonofmnjcocokaaW.PrintWords Go.Proofs.YtonofmnjcocokaaW.PrintLast Go.Proofs.YtonofmnjcocokaaW.PrintMore Go.Proofs.Ytonofmnjcocokaa.X Go.Proofs.Ytonofmnjcocokaa.M Go.Proofs.Ytonofmnjcocokaa.Bv Go.Proofs.Ytonofmnjcocokaa.PuLib Go.Proofs.Ytonofmnjcocokaa.PuMix
attribute [local go_sem] max2_int min2_int max_two min_two max_three min_three max_four min_four
attribute [local go_sem] Oper.semAt_some
set_option linter.unusedVariables false
set_option linter.unusedSimpArgs false
theorem at_S {W : World} {ok : Nat → Prop} {ad : Addr} {p : Nat} {l : List (Int × Int)} (h : Kd.F kS W ok (some ad) p l) (k : Nat) (hk : k < l.length) : W.cell? (ad.add (k * 2)) = some (.int .i64 (l.getD k (0, 0)).1) ∧ W.cell? ⟨(ad.add (k * 2)).block, (ad.add (k * 2)).off + 1, none⟩ = some (.int .u64 (l.getD k (0, 0)).2) := by
  have hl : l.length = p := (Kd.F_now h).1
  obtain ⟨a2, ha, hr⟩ := (Kd.F_now h).2.2 (by omega)
  obtain rfl := Option.some.inj ha
  have hp : l[k]? = some (l.getD k (0, 0)) := by rw [List.getD_eq_getElem?_getD, List.getElem?_eq_getElem hk]; rfl
  obtain ⟨cs, _, hK, hc⟩ := hr k _ hp
  obtain rfl := kS_open hK
  exact ⟨hc 0 _ rfl, by rw [← add_field _ _ 1 (by omega)]; exact hc 1 _ rfl⟩
theorem values_calls (A : Option Addr) (n c : Nat) (w : World) : Calls Try.prog 27 #[.slice A n c] w fun e w' => e = .returned (.func (.func 38) #[] #[.pointer (some ⟨w.heap.size, 0, none⟩)]) ∧ w' = w.alloc (.cells #[.slice A n c] 54) := by
  go_enter Try.func27, Try.ntmps27
  go_wp2
  go_ret
  exact ⟨rfl, rfl⟩
/-- Blocks below B stay. -/
def KB (B : Nat) (W W' : World) : Prop := ∀ k, k < B → W'.heap[k]? = W.heap[k]?
set_option maxRecDepth 100000 in
set_option maxHeartbeats 4000000 in
theorem values1_in (n : Nat) (hn : 1 ≤ n) (l Bs B N : Nat) (A : Option Addr) (p c : Nat) (xs : List (Int × Int)) (hp : p = xs.length) (hl : p ≤ 3000) (hN : 1000000 ≤ N) (hBs : Bs < B) (J Jx : List (Int × Int) → World → Prop) (hJa : ∀ ys W o, J ys W → J ys (W.alloc o))
    (hY : ∀ pre x W, J pre W → pre.length < N → YieldAt Fence.wide (n - 1) Try.prog l #[sv x] W fun e W' =>
      (e = .returned (.bool true) ∧ J (pre ++ [x]) W' ∧ KB B W W') ∨ (e = .returned (.bool false) ∧ Jx (pre ++ [x]) W'))
    (W : World) (hc0 : W.heap[Bs]? = some (.cells #[.slice A p c] 54 (0, 0))) (hBW : B ≤ W.heap.size) (hF : Kd.F kS W (fun k => k < B) A p xs) (h0 : J [] W) :
    CallsIn Fence.wide n Try.prog 38 #[.func (.yield l) #[] #[], .pointer (some ⟨Bs, 0, none⟩)] W fun e W' => (∃ v, e = .returned v) ∧
      ((∃ ys, ys = xs ∧ J ys W') ∨ (∃ pre, True ∧ Jx pre W')) := by
  refine callsIn_of_wp Try.func38 rfl trivial ?_ rfl
  simp only [Try.ntmps38, List.size_toArray, List.length_cons, List.length_nil, Nat.reduceAdd, Nat.reduceSub, Array.replicate_succ, Array.replicate_zero, List.push_toArray, List.append_toArray, List.nil_append, List.cons_append]
  have HY := Aside0.mk hY
  have HB0 := Aside0.mk hc0
  have HJ0 := Aside0.mk h0
  have HP := Aside0.mk hp
  have HL := Aside0.mk hl
  have HF := Aside0.mk hF
  have HBW := Aside0.mk hBW
  have hs0 := blk_cell hc0 0
  simp at hs0
  clear hY hc0 h0 hp hl hF hBW
  gi_wp2
  gi_loopw [7] (fun i wr => ∃ k : Nat, k ≤ p ∧ i = .int .i64 (k : Int) ∧ Aside0 (J (xs.take k) wr) ∧ Aside0 (KB B W wr ∧ B ≤ wr.heap.size))
    (fun i _ => p - (intOf i).toNat)
  case atStart => exact ⟨0, Nat.zero_le _, rfl, HJ0, ⟨fun _ _ => rfl, HBW.out⟩⟩
  case round =>
    obtain ⟨k, hk, rfl, HJ, HKB⟩ := hrel
    clear hs0
    by_cases hlt : k < p
    · have HKL := Aside0.mk hlt
      obtain ⟨ad, hA, _⟩ := (Kd.F_now HF.out).2.2 (Nat.lt_of_le_of_lt (Nat.zero_le _) hlt)
      subst hA
      obtain ⟨x, hx⟩ : ∃ x, x = xs.getD k (0, 0) := ⟨_, rfl⟩
      have HX := Aside0.mk hx
      have hFr : Kd.F kS wr (fun k => k < B) (some ad) p xs := Kd.F_step HF.out (fun j hj _ => HKB.out.1 j hj)
      have hcell := at_S hFr k (by rw [← HP.out]; exact hlt)
      rw [← hx] at hcell
      obtain ⟨hd0, hd1⟩ := hcell
      have q0 : (0 : Int) ≤ (k : Int) ∧ (k : Int) < (p : Int) := by omega
      have q1 : (k : Int) < (p : Int) := by omega
      have q2 : (p : Int) ≤ 3000 := by have h1 := HL.out; omega
      clear hx hlt hk hFr
      obtain ⟨fn, tmps, assign, body, hyl, hR⟩ := HY.out _ x (wr.alloc (.cells #[.int .i64 x.1, .int .u64 x.2] 57)) (hJa _ _ _ HJ.out) (by have h1 := HL.out; have h2 := HKL.out; rw [List.length_take]; omega)
      have HR := Aside0.mk hR
      clear hR
      gi_wp2
      refine HR.out.mono ?_
      rintro e W3 (⟨rfl, hJ3, hk3⟩ | ⟨rfl, hJx3⟩)
      · have e9 : xs.take (k + 1) = xs.take k ++ [x] := by
          rw [HX.out, List.take_succ_eq_append_getElem (by have h1 := HP.out; have h2 := HKL.out; omega), List.getD_eq_getElem?_getD, List.getElem?_eq_getElem (by have h1 := HP.out; have h2 := HKL.out; omega)]
          rfl
        have HJ3 := Aside0.mk (show J (xs.take (k + 1)) W3 by rw [e9]; exact hJ3)
        have HK4 := Aside0.mk (show KB B W W3 ∧ B ≤ W3.heap.size by
          have h1 : KB B W W3 := fun j hj => (hk3 j hj).trans ((Below.heap_alloc _ _ _ (Nat.lt_of_lt_of_le hj HKB.out.2)).trans (HKB.out.1 j hj))
          refine ⟨h1, ?_⟩
          have h2 := h1 (B - 1) (by omega)
          have h3 : B - 1 < W.heap.size := by have h4 := HBW.out; omega
          rw [Array.getElem?_eq_getElem h3] at h2
          have h4 := (Array.getElem?_eq_some_iff.1 h2).1
          omega)
        clear hk3 hd0 hd1 hJ3 e9
        gi_wp2
        go_roundw
        case rel => exact ⟨k + 1, by have h1 := HKL.out; omega, by go_num, HJ3, HK4⟩
        case measure => simp [intOf]; omega
      · gi_wp2
        refine bodyPost_ret (results_none rfl _ _ _) rfl ?_
        exact ⟨⟨_, rfl⟩, .inr ⟨_, trivial, hJx3⟩⟩
    · obtain rfl : k = p := by omega
      have h1 := HJ.out
      rw [List.take_of_length_le (Nat.le_of_eq HP.out.symm)] at h1
      have HJ := Aside0.mk h1
      clear h1 hlt hk
      gi_wp2
      go_end0
      exact ⟨⟨_, rfl⟩, .inl ⟨_, rfl, HJ.out⟩⟩
theorem seq_stops (n : Nat) (hn : 1 ≤ n) (Bs B : Nat) (A : Option Addr) (p c : Nat) (xs : List (Int × Int)) (hp : p = xs.length) (hl : p ≤ 3000) (hBs : Bs < B) (w : World) (hc0 : w.heap[Bs]? = some (.cells #[.slice A p c] 54 (0, 0))) (hBW : B ≤ w.heap.size) (hF : Kd.F kS w (fun k => k < B) A p xs) :
    SeqStopsK Fence.wide n Try.prog 38 #[.pointer (some ⟨Bs, 0, none⟩)] (fun x : Int × Int => #[sv x]) (KB B) (fun ys => ys = xs) (fun _ => True) 1000000 w := by
  intro l J Jx W hW hJ hJx hY h0
  exact values1_in n hn l Bs B 1000000 A p c xs hp hl (Nat.le_refl _) hBs J Jx (fun ys W1 o h1 => hJ ys W1 _ none h1 (World.grownBy_alloc W1 o none) (fun r e => by cases e)) hY W (blk_below hc0 hW) (Nat.le_trans hBW hW.size) (Kd.F_below hF hW) h0
end Go.Proofs.Ytonofmnjcocokaa.Rk
