/- ghash: a hash is made of a key; the bytes of elements. Written by wip/gen/ghnew.py. -/
import Derived.Test.YtmhmmmkpijbbiabGhTimes
import Derived.Test.YtmhmmmkpijbbiabArrX
import Derived.Test.YtmhmmmkpijbbiabPuCat
namespace Go.Proofs.Ytmhmmmkpijbbiab.Gh
open Go.RowKit Go.Proofs.YtmhmmmkpijbbiabW.PrintWords Go.Proofs.YtmhmmmkpijbbiabW.PrintLast Go.Proofs.YtmhmmmkpijbbiabW.PrintMore Go.Proofs.Ytmhmmmkpijbbiab.X Go.Proofs.Ytmhmmmkpijbbiab.M Go.Proofs.Ytmhmmmkpijbbiab.Bv Go.Proofs.Ytmhmmmkpijbbiab.Gf Go.Proofs.Ytmhmmmkpijbbiab.Arr Go.Proofs.Ytmhmmmkpijbbiab.ArrX Go.Proofs.Ytmhmmmkpijbbiab.PuLib Go.Proofs.Ytmhmmmkpijbbiab.PuCat
open Go.Proofs.Ytmhmmmkpijbbiab.ArrW (byteAt beN R_of_arrU arrU arrU_size arrU_get prow_at)
attribute [local go_sem] max2_int min2_int max_two min_two max_three min_three max_four min_four
set_option linter.unusedVariables false
set_option linter.unusedSimpArgs false
/-! ### the sum of rows is the product -/
theorem S_split (e : Nat) : ∀ k o, S e (k + 4) o = ((if e.testBit (k + 3) then o else 0) ^^^ ((if e.testBit (k + 2) then nx o else 0) ^^^ ((if e.testBit (k + 1) then nx (nx o) else 0) ^^^ (if e.testBit k then nx (nx (nx o)) else 0)))) ^^^ S e k (nx (nx (nx (nx o)))) := by
  intro k o
  show ((if e.testBit (k + 3) then o else 0) ^^^ ((if e.testBit (k + 2) then nx o else 0) ^^^ ((if e.testBit (k + 1) then nx (nx o) else 0) ^^^ ((if e.testBit k then nx (nx (nx o)) else 0) ^^^ S e k (nx (nx (nx (nx o)))))))) = _
  simp only [Nat.xor_assoc]
theorem bit_ent (n e k i : Nat) : (e / 2 ^ k % 16 / 2 ^ i % 2 = 1) = (i < 4 ∧ e.testBit (k + i) = true) := by
  have h1 : (e / 2 ^ k % 16).testBit i = (decide (i < 4) && e.testBit (k + i)) := by
    rw [show (16 : Nat) = 2 ^ 4 from rfl, Nat.testBit_mod_two_pow, Nat.testBit_div_two_pow, Nat.add_comm i k]
  have h2 : (e / 2 ^ k % 16).testBit i = decide (e / 2 ^ k % 16 / 2 ^ i % 2 = 1) := Nat.testBit_eq_decide_div_mod_eq
  rw [h1] at h2
  apply propext
  rw [← decide_eq_true_iff (p := e / 2 ^ k % 16 / 2 ^ i % 2 = 1), ← h2, Bool.and_eq_true, decide_eq_true_iff]
theorem ent_bits (e p k : Nat) : ent p (e / 2 ^ k % 16) = ((if e.testBit (k + 3) then p else 0) ^^^ ((if e.testBit (k + 2) then nx p else 0) ^^^ ((if e.testBit (k + 1) then nx (nx p) else 0) ^^^ (if e.testBit k then nx (nx (nx p)) else 0)))) := by
  have b0 := bit_ent p e k 0
  have b1 := bit_ent p e k 1
  have b2 := bit_ent p e k 2
  have b3 := bit_ent p e k 3
  simp only [Nat.pow_zero, Nat.div_one, Nat.add_zero, Nat.pow_succ, Nat.one_mul, Nat.reduceMul] at b0 b1 b2 b3
  unfold ent
  simp only [b0, b1, b2, b3, Nat.reduceLT, true_and]
  rw [Nat.xor_assoc]
theorem tm_S (n e : Nat) : ∀ k, k ≤ 32 → tmK n e k ^^^ S e (128 - 4 * k) (pk n k) = S e 128 n
  | 0, _ => by
    show 0 ^^^ S e 128 n = _
    rw [Nat.zero_xor]
  | k + 1, h => by
    rw [← tm_S n e k (by omega)]
    obtain ⟨m, hm⟩ : ∃ m, m = 128 - 4 * (k + 1) := ⟨_, rfl⟩
    rw [← hm, show 128 - 4 * k = m + 4 by omega, S_split]
    show (tmK n e k ^^^ ent (pk n k) (nib e k)) ^^^ S e m (nx (nx (nx (nx (pk n k))))) = _
    unfold nib
    rw [show 124 - 4 * k = m by omega, ent_bits, Nat.xor_assoc]
theorem tm_mul (n e : Nat) : tmK n e 32 = mul e n := by
  have h := tm_S n e 32 (by omega)
  rw [show 128 - 4 * 32 = 0 from rfl] at h
  show _ = S e 128 n
  rw [← h]
  show _ = tmK n e 32 ^^^ 0
  rw [Nat.xor_zero]
theorem mul_calls' (W : World) (h n e : Nat) (d : Bool) (hn : n < top) (he : e < top) (hh : HashAt W h n d) :
    Calls Try.prog 22 #[.pointer (some ⟨h, 0, none⟩), el e] W fun en W' => en = .returned (el (mul e n)) ∧ HashAt W' h n true ∧ W.grownBy W' (some h) := by
  rw [← tm_mul]
  exact times_calls W h n e d hn he hh
/-! ### bytes of elements -/
theorem putL_be (h : Int) : ∀ s, s ≤ 8 → putL h s = (List.range s).map fun j => byteAt h (s - 1 - j)
  | 0, _ => rfl
  | s + 1, hs => by
    have e : (256 : Int) ^ s = 2 ^ (8 * s) := by rw [Int.pow_mul]; rfl
    rw [putL, putL_be h s (by omega), List.range_succ_eq_map, List.map_cons, List.map_map, e]
    show byteAt h s :: _ = byteAt h (s + 1 - 1 - 0) :: _
    rw [show s + 1 - 1 - 0 = s by omega]
    congr 1
    apply List.map_congr_left
    intro j hj
    show byteAt h (s - 1 - j) = byteAt h (s + 1 - 1 - (j + 1))
    rw [show s - 1 - j = s + 1 - 1 - (j + 1) by omega]
theorem bytes_E (x : Nat) : putL (E x).1 8 ++ putL (E x).2 8 = bytesN x := by
  rw [show putL (E x).1 8 = beN (E x).1 8 from putL_be _ 8 (by omega), show putL (E x).2 8 = beN (E x).2 8 from putL_be _ 8 (by omega)]
  exact words_bytes x
theorem bytes_ev {x : Nat} (hx : x < top) : Ev (fun k => poly_Elem_Bytes.f k (E x).1 (E x).2) (bytesN x) := by
  obtain ⟨a1, a2⟩ := word_lt hx
  have p1 := put_ev (E x).1 8 a1.1 a1.2
  have p2 := put_ev (E x).2 8 a2.1 a2.2
  have e1 : putS (E x).1 8 = (putL (E x).1 8, 0) := if_pos ⟨by omega, by omega, by have := a1.2; show (E x).1 < 256 ^ 8; rw [show (256 : Int) ^ 8 = 18446744073709551616 by decide]; exact this⟩
  have e2 : putS (E x).2 8 = (putL (E x).2 8, 0) := if_pos ⟨by omega, by omega, by have := a2.2; show (E x).2 < 256 ^ 8; rw [show (256 : Int) ^ 8 = 18446744073709551616 by decide]; exact this⟩
  rw [e1] at p1
  rw [e2] at p2
  refine Ev.bind p1 (Ev.bind p2 ?_)
  have h := cat_ev [putL (E x).1 8, putL (E x).2 8] (by simp) (by
    intro r hr
    simp only [List.mem_cons, List.not_mem_nil, or_false] at hr
    rcases hr with rfl | rfl <;> rw [putL_length] <;> omega)
  refine Ev.congr (fun k => by rfl) (Ev.bind h (PuLib.ev_eq (Ev.now _) ?_))
  rw [List.flatten_cons, List.flatten_cons, List.flatten_nil, List.append_nil, bytes_E]
theorem of_ev (l : List Int) (hb : ∀ x ∈ l, 0 ≤ x ∧ x < 256) (hl : l.length = 16) : Ev (fun k => poly_Of.f k l) (numS (l.take 8), numS (l.drop 8), 0) := by
  refine Ev.congr (fun k => by rw [poly_Of.f, if_pos (by omega), if_pos (by omega)]) ?_
  have n1 := num_ev (l.take 8) (fun x hx => hb x (List.mem_of_mem_take hx))
  have n2 := num_ev (l.drop 8) (fun x hx => hb x (List.mem_of_mem_drop hx))
  have e1 : numT (l.take 8) = (numS (l.take 8), 0) := if_neg (by rw [List.length_take]; omega)
  have e2 : numT (l.drop 8) = (numS (l.drop 8), 0) := if_neg (by rw [List.length_drop]; omega)
  rw [e1] at n1
  rw [e2] at n2
  exact Ev.bind n1 (Ev.bind n2 (Ev.now _))
theorem ofN_ev {a : Nat} (ha : a < top) : Ev (fun k => poly_Of.f k (bytesN a)) ((E a).1, (E a).2, 0) := by
  have hof := of_ev (bytesN a) (fun x hx => bytesN_mem hx) (bytesN_length a)
  have e1 : (bytesN a).take 8 = putL (E a).1 8 := by rw [← bytes_E, List.take_left' (putL_length _ _)]
  have e2 : (bytesN a).drop 8 = putL (E a).2 8 := by rw [← bytes_E, List.drop_left' (putL_length _ _)]
  have w := word_lt ha
  rw [e1, e2, numS_putL, numS_putL, show (256 : Int) ^ 8 = 18446744073709551616 by decide, show (E a).1 % 18446744073709551616 = (E a).1 from Int.emod_eq_of_lt w.1.1 w.1.2, show (E a).2 % 18446744073709551616 = (E a).2 from Int.emod_eq_of_lt w.2.1 w.2.2] at hof
  exact hof
/-- Sixteen bytes are those of an element. -/
theorem bytes_all (l : List Int) (hb : ∀ x ∈ l, 0 ≤ x ∧ x < 256) (hl : l.length = 16) : ∃ y, y < top ∧ l = bytesN y := by
  have r1 := numS_range (l.take 8) (fun x hx => hb x (List.mem_of_mem_take hx))
  have r2 := numS_range (l.drop 8) (fun x hx => hb x (List.mem_of_mem_drop hx))
  have t1 : (l.take 8).length = 8 := by rw [List.length_take]; omega
  have t2 : (l.drop 8).length = 8 := by rw [List.length_drop]; omega
  rw [t1, show (256 : Int) ^ 8 = 18446744073709551616 by decide] at r1
  rw [t2, show (256 : Int) ^ 8 = 18446744073709551616 by decide] at r2
  obtain ⟨y, hy, y1, y2⟩ := E_of r1.1 r1.2 r2.1 r2.2
  refine ⟨y, hy, ?_⟩
  have q1 := putL_numS (l.take 8) (fun x hx => hb x (List.mem_of_mem_take hx))
  have q2 := putL_numS (l.drop 8) (fun x hx => hb x (List.mem_of_mem_drop hx))
  rw [t1] at q1
  rw [t2] at q2
  rw [← bytes_E, ← y1, ← y2, q1, q2, List.take_append_drop]
theorem of_calls (n : Nat) (hn : n < top) (A : Option Addr) (c : Nat) (w : World) (hC : Kd.C (Kd.int .u8) w A (bytesN n).length (bytesN n)) (hc : (bytesN n).length ≤ c) :
    Calls Try.prog 26 #[.slice A (bytesN n).length c] w fun e w' => e = .returned (.tuple #[el n, .int .i64 0]) ∧ Below w.heap.size w w' := by
  obtain ⟨k, hk⟩ := Ev.rounds (ofN_ev hn)
  exact poly_Of.calls k A c _ _ _ _ w hC hc hk
theorem ofbad_calls (l : List Int) (hl : ¬ l.length = 16) (A : Option Addr) (c : Nat) (w : World) (hC : Kd.C (Kd.int .u8) w A l.length l) (hc : l.length ≤ c) :
    Calls Try.prog 26 #[.slice A l.length c] w fun e w' => e = .returned (.tuple #[el 0, .int .i64 11]) ∧ Below w.heap.size w w' :=
  poly_Of.calls 0 A c l _ _ _ w hC hc (by rw [poly_Of.f, if_neg (by omega)]; rfl)
theorem ebytes_calls (n : Nat) (hn : n < top) (w : World) :
    Calls Try.prog 18 #[el n] w fun e w' => ∃ v, e = .returned v ∧ Kd.R (Kd.int .u8) 5 w' w.heap.size (fun _ => True) v (bytesN n) ∧ Below w.heap.size w w' := by
  obtain ⟨k, hk⟩ := Ev.rounds (bytes_ev hn)
  exact poly_Elem_Bytes.calls k _ _ _ w hk
/-! ### a new hash -/
def hashC (hi lo : Int) : Array Value := (#[.int .u64 hi, .int .u64 lo, .int .u32 0, .int .i32 0, .int .u32 0, .int .i64 0] : Array Value) ++ Array.replicate 1024 (.int .u64 0)
theorem zero_hash (hi lo : Int) : (Try.zeroCells76.setIfInBounds 0 (.int .u64 hi)).setIfInBounds 1 (.int .u64 lo) = hashC hi lo := by kernel_rfl
theorem hashC_size (hi lo : Int) : (hashC hi lo).size = 1030 := by unfold hashC; rw [Array.size_append, Array.size_replicate]; rfl
theorem hashC_zero (hi lo : Int) {i : Nat} (h : 6 ≤ i) (h2 : i < 1030) : (hashC hi lo)[i]? = some (.int .u64 0) := by
  unfold hashC
  have h3 : (#[.int .u64 hi, .int .u64 lo, .int .u32 0, .int .i32 0, .int .u32 0, .int .i64 0] : Array Value).size = 6 := rfl
  rw [Array.getElem?_append_right (by rw [h3]; exact h), h3, Array.getElem?_replicate, if_pos (by omega)]
theorem hashC_0 (hi lo : Int) : (hashC hi lo)[0]? = some (.int .u64 hi) := by
  unfold hashC
  rw [Array.getElem?_append_left (by show _ < 6; omega)]
  rfl
theorem hashC_1 (hi lo : Int) : (hashC hi lo)[1]? = some (.int .u64 lo) := by
  unfold hashC
  rw [Array.getElem?_append_left (by show _ < 6; omega)]
  rfl
theorem hashC_2 (hi lo : Int) : (hashC hi lo)[2]? = some (.int .u32 0) := by
  unfold hashC
  rw [Array.getElem?_append_left (by show _ < 6; omega)]
  rfl
theorem hashC_3 (hi lo : Int) : (hashC hi lo)[3]? = some (.int .i32 0) := by
  unfold hashC
  rw [Array.getElem?_append_left (by show _ < 6; omega)]
  rfl
theorem hashC_5 (hi lo : Int) : (hashC hi lo)[5]? = some (.int .i64 0) := by
  unfold hashC
  rw [Array.getElem?_append_left (by show _ < 6; omega)]
  rfl
theorem hash_new {W : World} {h n : Nat} (hb : W.heap[h]? = some (.cells (hashC (E n).1 (E n).2) 76 (0, 0))) : HashAt W h n false := by
  have hc : ∀ i, W.cell? ⟨h, i, none⟩ = (hashC (E n).1 (E n).2)[i]? := fun i => blk_cell hb i
  refine ⟨blk_lt hb, fun i hi => ⟨⟨_, (hc i).trans (Array.getElem?_eq_getElem (by rw [hashC_size]; exact hi))⟩, blk_frozen hb i⟩, ⟨(hc 0).trans (hashC_0 _ _), (hc 1).trans (hashC_1 _ _)⟩, (hc 3).trans (hashC_3 _ _), ?_⟩
  exact ⟨(hc 2).trans (hashC_2 _ _), (hc 5).trans (hashC_5 _ _), fun r _ hr => ⟨(hc _).trans (hashC_zero _ _ (by omega) (by omega)), (hc _).trans (hashC_zero _ _ (by omega) (by omega))⟩⟩
set_option maxRecDepth 100000 in
set_option maxHeartbeats 4000000 in
theorem new_calls (n : Nat) (hn : n < top) (A : Option Addr) (c : Nat) (w : World) (hC : Kd.C (Kd.int .u8) w A (bytesN n).length (bytesN n)) (hc : (bytesN n).length ≤ c) :
    Calls Try.prog 9 #[.slice A (bytesN n).length c] w fun e w' => ∃ h, e = .returned (.tuple #[.pointer (some ⟨h, 0, none⟩), .int .i64 0]) ∧ HashAt w' h n false ∧ w.heap.size ≤ h ∧ Below w.heap.size w w' := by
  have HN := Aside0.mk hn
  have HC := Aside0.mk hC
  have HL := Aside0.mk hc
  have HBL := Aside0.mk (bytesN_length n)
  clear hn hC hc
  go_enter Try.func9, Try.ntmps9
  go_wp2_with fail
  (with_reducible refine (of_calls n HN.out A c _ HC.out HL.out).mono ?_)
  rintro e w1 ⟨rfl, hb1⟩
  have HB1 := Aside0.mk hb1
  clear hb1
  go_upto_region 4 with (fail)
  obtain ⟨w2, hw2⟩ : ∃ w2, w2 = w1.alloc (.cells #[.int .u64 (E n).1, .int .u64 (E n).2] 36) := ⟨_, rfl⟩
  have H2 := blk_new w1 (.cells #[.int .u64 (E n).1, .int .u64 (E n).2] 36)
  try rw [← hw2]
  rw [← hw2] at H2
  have hk0 := blk_cell H2 0
  have hk1 := blk_cell H2 1
  simp at hk0 hk1
  clear H2
  go_wp2_with fail
  go_ret2
  rw [zero_hash]
  have hs1 := HB1.out.size
  refine ⟨w1.heap.size + 1, rfl, hash_new (blk_newN (Array.size_push _) _), by omega, below_alloc (below_alloc HB1.out _) _⟩
set_option maxRecDepth 100000 in
set_option maxHeartbeats 4000000 in
theorem newbad_calls (l : List Int) (hl : ¬ l.length = 16) (A : Option Addr) (c : Nat) (w : World) (hC : Kd.C (Kd.int .u8) w A l.length l) (hc : l.length ≤ c) :
    Calls Try.prog 9 #[.slice A l.length c] w fun e w' => e = .returned (.tuple #[.pointer none, .int .i64 11]) ∧ Below w.heap.size w w' := by
  have HN := Aside0.mk hl
  have HC := Aside0.mk hC
  have HL := Aside0.mk hc
  clear hl hC hc
  obtain ⟨m, hm⟩ : ∃ m, m = l.length := ⟨_, rfl⟩
  have HM := Aside0.mk hm
  rw [← hm]
  clear hm
  go_enter Try.func9, Try.ntmps9
  go_wp2_with fail
  rw [HM.out]
  (with_reducible refine (ofbad_calls l HN.out A c _ HC.out HL.out).mono ?_)
  rintro e w1 ⟨rfl, hb1⟩
  have HB1 := Aside0.mk hb1
  clear hb1
  go_wp2_with fail
  go_ret2
  exact ⟨rfl, below_alloc HB1.out _⟩
end Go.Proofs.Ytmhmmmkpijbbiab.Gh
