/- ghash: bytes are cut into parts of sixteen. Written by wip/gen/ghchunk.py. -/
import Derived.Test.YtmhmmmkpijbbiabGhNew
import Derived.RangeFuncNested
import Derived.RangeFuncBound
import Derived.RangeFuncCalls
import Derived.RangeFuncLeaves
import Derived.Shelf.Abstract
import Derived.Shelf.RegionOpen
import Derived.OwnWalkIn
import Derived.TacticsInMore
import Derived.LoopNIn
import Derived.LoopIn
namespace Go.Proofs.Ytmhmmmkpijbbiab.Gh
open Go.Shelf
open Go.RowKit Go.Proofs.YtmhmmmkpijbbiabW.PrintWords Go.Proofs.YtmhmmmkpijbbiabW.PrintLast Go.Proofs.YtmhmmmkpijbbiabW.PrintMore Go.Proofs.Ytmhmmmkpijbbiab.X Go.Proofs.Ytmhmmmkpijbbiab.M Go.Proofs.Ytmhmmmkpijbbiab.Bv Go.Proofs.Ytmhmmmkpijbbiab.Gf
attribute [local go_sem] max2_int min2_int max_two min_two max_three min_three max_four min_four
attribute [local go_sem] Oper.semAt_some
set_option linter.unusedVariables false
set_option linter.unusedSimpArgs false
/-- The part number x of a row of len bytes at A. -/
def cv (A : Option Addr) (len x : Nat) : Value := .slice (A.map (·.add (16 * x))) (min 16 (len - 16 * x)) (min 16 (len - 16 * x))
def parts (len : Nat) : List Nat := List.range ((len + 15) / 16)
set_option maxRecDepth 10000 in
theorem cut_from16 (A : Option Addr) (len c k : Nat) (h : 16 * k < len) (hc : len ≤ c) : ∀ W : World, (Instr.slice 22 (.slice A len c) (some (.int .i64 ((16 * k : Nat) : Int))) none none).run Try.prog W = .ok (.slice (A.map (·.add (16 * k))) (len - 16 * k) (c - 16 * k)) W := by
  intro W
  obtain ⟨i, hi, hz⟩ := Option.map_eq_some_iff.1 M.info5
  simp only [Prod.mk.injEq] at hz
  have h1 := cut_from (P := Try.prog) 22 5 .i64 rfl hi 1 hz.2.1 A len c ((16 * k : Nat) : Int) (by omega) (by omega)
  rw [h1 W, Int.toNat_natCast, if_neg (by omega), Nat.mul_one]
set_option maxRecDepth 10000 in
theorem cut_lhm (A : Option Addr) (len c lo e : Nat) (h : lo < e) (he : e ≤ c) : ∀ W : World, (Instr.slice 22 (.slice A len c) (some (.int .i64 (lo : Int))) (some (.int .i64 (e : Int))) (some (.int .i64 (e : Int)))).run Try.prog W = .ok (.slice (A.map (·.add lo)) (e - lo) (e - lo)) W := by
  intro W
  have hel : Try.prog.elem 22 = 5 := rfl
  obtain ⟨i, hi, hz⟩ := Option.map_eq_some_iff.1 M.info5
  simp only [Prod.mk.injEq] at hz
  rw [run_slice_lhm W 22 A len c rfl .i64 .i64 .i64 _ _ _ (by omega) (by omega) (by omega) (by omega), hel]
  have h1 : ¬ e = lo := by omega
  simp [sizeOf, typeInfo, hi, hz.2.1, sliced, Result.andThen, h1]
theorem cut_part16 (A : Option Addr) (len c k : Nat) (h : 16 * k < len) (hc : len ≤ c) : ∀ W : World, (Instr.slice 22 (.slice A len c) (some (.int .i64 ((16 * k : Nat) : Int))) (some (.int .i64 ((16 * k + min 16 (len - 16 * k) : Nat) : Int))) (some (.int .i64 ((16 * k + min 16 (len - 16 * k) : Nat) : Int)))).run Try.prog W = .ok (cv A len k) W := by
  intro W
  rw [cut_lhm A len c (16 * k) (16 * k + min 16 (len - 16 * k)) (by omega) (by omega), Nat.add_sub_cancel_left]
  rfl
set_option maxRecDepth 100000 in
set_option maxHeartbeats 4000000 in
theorem chunk1_in (n : Nat) (hn : 1 ≤ n) (l Bs Bn N : Nat) (A : Option Addr) (len c : Nat) (hc : len ≤ c) (hl : len ≤ 1000000) (hN : 1000000 ≤ N) (J Jx : List Nat → World → Prop) (hJd : ∀ xs W, J xs W → J xs W.drew)
    (hY : ∀ pre x W, J pre W → pre.length < N → YieldAt Fence.wide (n - 1) Try.prog l #[cv A len x] W fun e W' =>
      (e = .returned (.bool true) ∧ J (pre ++ [x]) W' ∧ (∀ k, k = Bs ∨ k = Bn → W'.heap[k]? = W.heap[k]?)) ∨ (e = .returned (.bool false) ∧ Jx (pre ++ [x]) W'))
    (W : World) (hc0 : W.heap[Bs]? = some (.cells #[.slice A len c] 22 (0, 0))) (hc1 : W.heap[Bn]? = some (.cells #[.int .i64 16] 3 (0, 0))) (h0 : J [] W) :
    CallsIn Fence.wide n Try.prog 41 #[.func (.yield l) #[] #[], .pointer (some ⟨Bs, 0, none⟩), .pointer (some ⟨Bn, 0, none⟩)] W fun e W' => (∃ v, e = .returned v) ∧
      ((∃ ys, ys = parts len ∧ J ys W') ∨ (∃ pre, True ∧ Jx pre W')) := by
  refine callsIn_of_wp Try.func41 rfl trivial ?_ rfl
  simp only [Try.ntmps41, List.size_toArray, List.length_cons, List.length_nil, Nat.reduceAdd, Nat.reduceSub, Array.replicate_succ, Array.replicate_zero, List.push_toArray, List.append_toArray, List.nil_append, List.cons_append]
  have HY := Aside0.mk hY
  have HB0 := Aside0.mk hc0
  have HB1 := Aside0.mk hc1
  have HJ0 := Aside0.mk h0
  have HC := Aside0.mk hc
  have HL := Aside0.mk hl
  clear hY hc0 hc1 h0 hc hl
  gi_wp2
  gi_loopw [4] (fun i wr => ∃ k : Nat, 16 * k ≤ len + 15 ∧ i = .int .i64 ((16 * k : Nat) : Int) ∧ Aside0 (J (List.range k) wr) ∧ Aside0 (wr.heap[Bs]? = some (.cells #[.slice A len c] 22 (0, 0)) ∧ wr.heap[Bn]? = some (.cells #[.int .i64 16] 3 (0, 0))))
    (fun i _ => len + 16 - (intOf i).toNat)
  case atStart => exact ⟨0, by omega, rfl, HJ0, ⟨HB0.out, HB1.out⟩⟩
  case round =>
    obtain ⟨k, hk, rfl, HJ, HBB⟩ := hrel
    have hs0 := blk_cell HBB.out.1 0
    have hs1 := blk_cell HBB.out.2 0
    simp at hs0 hs1
    have ht0 := blk_cell HBB.out.1 0
    have ht1 := blk_cell HBB.out.2 0
    by_cases hlt : 16 * k < len
    · have hcut := cut_from16 A len c k hlt HC.out
      have hpar := cut_part16 A len c k hlt HC.out
      obtain ⟨x, hx⟩ : ∃ x : Int, x = ((16 * k : Nat) : Int) := ⟨_, rfl⟩
      rw [← hx] at hcut ⊢
      rw [← hx] at hpar
      have q1 : x < (len : Int) := by omega
      have HX := Aside0.mk hx
      have HP := Aside0.mk hpar
      have HK := Aside0.mk hlt
      clear hx hpar hk hlt ht0 ht1
      gi_wp2
      gi_region
      have hmin : (if ((len - 16 * k : Nat) : Int) < 16 then ((len - 16 * k : Nat) : Int) else 16) = ((min 16 (len - 16 * k) : Nat) : Int) := by split <;> omega
      rw [hmin]
      clear hmin
      obtain ⟨y, hy⟩ : ∃ y : Int, y = ((min 16 (len - 16 * k) : Nat) : Int) := ⟨_, rfl⟩
      obtain ⟨z, hz⟩ : ∃ z : Int, z = ((16 * k + min 16 (len - 16 * k) : Nat) : Int) := ⟨_, rfl⟩
      have hpar := HP.out
      rw [← hz] at hpar
      rw [← hy]
      have hxy : wrap64 (x + y) = z := by
        have h1 := HX.out
        have h2 := HL.out
        have h3 := HK.out
        unfold wrap64
        omega
      clear hcut HP hy hz
      obtain ⟨fn, tmps, assign, body, hyl, hR⟩ := HY.out _ k wr.drew (hJd _ _ HJ.out) (by have h1 := HL.out; have h2 := HK.out; rw [List.length_range]; omega)
      have HR := Aside0.mk hR
      clear hR
      gi_wp2
      refine HR.out.mono ?_
      rintro e W3 (⟨rfl, hJ3, hk3⟩ | ⟨rfl, hJx3⟩)
      · have HS3 := Aside0.mk (show W3.heap[Bs]? = some (.cells #[.slice A len c] 22 (0, 0)) from (hk3 Bs (.inl rfl)).trans HBB.out.1)
        have HN3 := Aside0.mk (show W3.heap[Bn]? = some (.cells #[.int .i64 16] 3 (0, 0)) from (hk3 Bn (.inr rfl)).trans HBB.out.2)
        have hs2 := blk_cell HN3.out 0
        simp at hs2
        have HJ3 := Aside0.mk hJ3
        clear hk3 hs0 hs1 hJ3
        gi_wp2
        go_roundw
        case rel =>
          refine ⟨k + 1, by have := HK.out; omega, ?_, ⟨by rw [List.range_succ]; exact HJ3.out⟩, ⟨HS3.out, HN3.out⟩⟩
          have h1 := HX.out
          have h2 := HL.out
          have h3 := HK.out
          congr 1
          unfold wrap64
          omega
        case measure =>
          have h1 := HX.out
          have h2 := HL.out
          have h3 := HK.out
          simp [intOf]
          unfold wrap64
          omega
      · gi_wp2
        refine bodyPost_ret (results_none rfl _ _ _) rfl ?_
        exact ⟨⟨_, rfl⟩, .inr ⟨_, trivial, hJx3⟩⟩
    · have hk2 : k = (len + 15) / 16 := by omega
      have q1 : ¬ ((16 * k : Nat) : Int) < (len : Int) := by omega
      obtain ⟨x, hx⟩ : ∃ x : Int, x = ((16 * k : Nat) : Int) := ⟨_, rfl⟩
      rw [← hx] at q1 ⊢
      have HK2 := Aside0.mk hk2
      clear hx hk2 hk hlt ht0 ht1
      gi_wp2
      go_end0
      exact ⟨⟨_, rfl⟩, .inl (by unfold parts; rw [← HK2.out]; exact HJ.out)⟩
theorem chunk_calls (A : Option Addr) (len c : Nat) (w : World) : Calls Try.prog 29 #[.slice A len c, .int .i64 16] w fun e w' => e = .returned (.func (.func 41) #[] #[.pointer (some ⟨w.heap.size, 0, none⟩), .pointer (some ⟨w.heap.size + 1, 0, none⟩)]) ∧ w' = (w.alloc (.cells #[.slice A len c] 22)).alloc (.cells #[.int .i64 16] 3) := by
  go_enter Try.func29, Try.ntmps29
  go_wp2
  go_ret
  exact ⟨rfl, rfl⟩
theorem stops (n : Nat) (hn : 1 ≤ n) (Bs Bn : Nat) (A : Option Addr) (len c : Nat) (hc : len ≤ c) (hl : len ≤ 1000000) (w : World) (hc0 : w.heap[Bs]? = some (.cells #[.slice A len c] 22 (0, 0))) (hc1 : w.heap[Bn]? = some (.cells #[.int .i64 16] 3 (0, 0))) :
    SeqStopsK Fence.wide n Try.prog 41 #[.pointer (some ⟨Bs, 0, none⟩), .pointer (some ⟨Bn, 0, none⟩)] (fun x : Nat => #[cv A len x]) (fun W W' => ∀ k, k = Bs ∨ k = Bn → W'.heap[k]? = W.heap[k]?) (fun xs => xs = parts len) (fun _ => True) 1000000 w := by
  intro l J Jx W hW hJ hJx hY h0
  exact chunk1_in n hn l Bs Bn 1000000 A len c hc hl (Nat.le_refl _) J Jx (fun xs W1 h1 => hJ xs W1 _ none h1 (drew_grow W1 none) (fun r e => by cases e)) hY W (blk_below hc0 hW) (blk_below hc1 hW) h0
end Go.Proofs.Ytmhmmmkpijbbiab.Gh
