/- ghash: the reference's Blocks. Written by wip/gen/ghref.py. -/
import Derived.Test.YtmhmmmkpijbbiabGhPoly
namespace Go.Proofs.Ytmhmmmkpijbbiab.Gh
open Go.RowKit Go.Proofs.YtmhmmmkpijbbiabW.PrintWords Go.Proofs.YtmhmmmkpijbbiabW.PrintLast Go.Proofs.YtmhmmmkpijbbiabW.PrintMore Go.Proofs.Ytmhmmmkpijbbiab.X Go.Proofs.Ytmhmmmkpijbbiab.M Go.Proofs.Ytmhmmmkpijbbiab.Bv Go.Proofs.Ytmhmmmkpijbbiab.Gf Go.Proofs.Ytmhmmmkpijbbiab.Arr Go.Proofs.Ytmhmmmkpijbbiab.ArrX Go.Proofs.Ytmhmmmkpijbbiab.PuLib Go.Proofs.Ytmhmmmkpijbbiab.PuCat
open Go.Proofs.Ytmhmmmkpijbbiab.ArrW (infoP_ zeroP)
attribute [local go_sem] max2_int min2_int max_two min_two max_three min_three max_four min_four
set_option linter.unusedVariables false
set_option linter.unusedSimpArgs false
/-- The bytes of a row, as cells. -/
def cellsB (l : List Int) : Array Value := (l.map (Value.int .u8)).toArray
theorem pad_set (m : List Int) (k : Nat) (hk : k < m.length) (hm : m.length ≤ 16) : (pad (m.take k)).set k (m.getD k 0) = pad (m.take (k + 1)) := by
  have h1 : (m.take k).length = k := by rw [List.length_take]; omega
  have h2 : (m.take (k + 1)).length = k + 1 := by rw [List.length_take]; omega
  unfold pad
  rw [h1, h2, List.set_append_right _ _ (by omega), h1, Nat.sub_self, show 16 - k = (16 - (k + 1)) + 1 by omega, List.replicate_succ, List.set_cons_zero, List.take_succ_eq_append_getElem hk, List.append_assoc, List.getD_eq_getElem?_getD, List.getElem?_eq_getElem hk]
  rfl
theorem cells_set (m : List Int) (k : Nat) (hk : k < m.length) (hm : m.length ≤ 16) : (cellsB (pad (m.take k))).setIfInBounds k (.int .u8 (m.getD k 0)) = cellsB (pad (m.take (k + 1))) := by
  unfold cellsB
  rw [List.setIfInBounds_toArray, ← pad_set m k hk hm, List.map_set]
theorem byte_at {w : World} {ad : Addr} {n j : Nat} {l : List Int} (hC : Kd.C (Kd.int .u8) w (some ad) n l) (hj : j < n) : w.cell? (ad.add j) = some (.int .u8 (l.getD j 0)) := by
  obtain ⟨a2, ha, hr⟩ := hC.2.2 (by omega)
  obtain rfl := Option.some.inj ha
  have hl : l.length = n := hC.1
  have hp : l[j]? = some (l.getD j 0) := by rw [List.getD_eq_getElem?_getD, List.getElem?_eq_getElem (by omega)]; rfl
  obtain ⟨cs, _, hK, hc⟩ := hr j _ hp
  have hK' : cs = [.int .u8 (l.getD j 0)] := hK
  subst hK'
  have h1 := hc 0 _ rfl
  rw [show j * (Kd.int .u8).sz + 0 = j from (show j * 1 + 0 = j by omega)] at h1
  exact h1
theorem part_get (l : List Int) (q k : Nat) (hk : k < (part l q).length) : (part l q).getD k 0 = l.getD (16 * q + k) 0 := by
  have h1 := hk
  rw [part_length] at h1
  unfold part
  rw [List.getD_eq_getElem?_getD, List.getD_eq_getElem?_getD, List.getElem?_take, if_pos (by omega), List.getElem?_drop]
theorem cells_at (m : List Int) (k : Nat) (hk : k ≤ m.length) (h16 : k < 16) : (cellsB (pad (m.take k)))[k]? = some (.int .u8 0) := by
  have h1 : (m.take k).length = k := by rw [List.length_take]; omega
  have h2 : (pad (m.take k))[k]? = some 0 := by
    unfold pad
    rw [h1, List.getElem?_append_right (by omega), h1, Nat.sub_self, List.getElem?_replicate, if_pos (by omega)]
  unfold cellsB
  rw [List.getElem?_toArray, List.getElem?_map, h2]
  rfl
theorem blocks_take (l : List Int) (q : Nat) (hq : q < (l.length + 15) / 16) : (blocksN l).take q ++ [blk16 l q] = (blocksN l).take (q + 1) := by
  have h1 : q < (blocksN l).length := by rw [blocksN_length]; exact hq
  rw [take_succ_getD _ h1]
  congr 2
  rw [List.getD_eq_getElem?_getD]
  unfold blocksN parts
  rw [List.getElem?_map, List.getElem?_range hq]
  rfl
theorem mk16 : ∀ w : World, (Instr.makeSlice 22 (.int .i64 16) (.int .i64 16)).run Try.prog w = .ok (.slice (some ⟨w.heap.size, 0, none⟩) 16 16) (w.alloc (.cells (cellsB (pad [])) 5)) := fun w => by kernel_rfl
set_option maxRecDepth 100000 in
set_option maxHeartbeats 8000000 in
theorem rblocks_calls (l : List Int) (p : Nat) (hp : p = l.length) (hb : ∀ x ∈ l, 0 ≤ x ∧ x < 256) (hp3 : p ≤ 3000) (A : Option Addr) (c : Nat) (w : World) (hC : Kd.C (Kd.int .u8) w A p l) (hc : p ≤ c) :
    Calls Try.prog 11 #[.slice A p c] w fun e w' => ∃ v, e = .returned v ∧ Kd.R kP 43 w' w.heap.size (fun _ => True) v (blocksN l) ∧ Below w.heap.size w w' := by
  have HP := Aside0.mk hp
  have HBY := Aside0.mk hb
  have HP3 := Aside0.mk hp3
  have HC := Aside0.mk hC
  obtain ⟨Q, hQ⟩ : ∃ Q, Q = (p + 15) / 16 := ⟨_, rfl⟩
  have HQ := Aside0.mk hQ
  clear hp hb hp3 hC hc hQ
  go_enter Try.func11, Try.ntmps11
  go_wp2_with fail
  go_loopw [3, 4] (fun v3 v4 wr => ∃ (q s : Nat) (A5 : Option Addr) (c5 : Nat), s = 16 * q ∧ q ≤ Q ∧ v4 = .int .i64 s ∧ v3 = .slice A5 q c5 ∧ Aside0 (Kd.R kP 43 wr w.heap.size (fun _ => True) (.slice A5 q c5) ((blocksN l).take q)) ∧ Aside0 (Below w.heap.size w wr)) (fun _ v4 _ => p + 16 - (intOf v4).toNat)
  case atStart => exact ⟨0, 0, _, _, rfl, Nat.zero_le _, rfl, rfl, ⟨R_emptyP w _ (Nat.le_refl _)⟩, ⟨below_alloc (Below.refl _ _) _⟩⟩
  case round =>
    obtain ⟨q, s, A5, c5, hs, hq, rfl, rfl, HR, HB⟩ := hrel
    by_cases hlt : s < p
    · have HKL := Aside0.mk hlt
      have HSQ := Aside0.mk hs
      obtain ⟨ad, hA, _⟩ := HC.out.2.2 (Nat.lt_of_le_of_lt (Nat.zero_le _) hlt)
      subst hA
      have e2 : (s : Int) < (p : Int) := by omega
      clear hs hq hlt
      have hmk := mk16
      obtain ⟨M, hM⟩ : ∃ M, M = (part l q).length := ⟨_, rfl⟩
      have HM := Aside0.mk (show M = (part l q).length ∧ M = min 16 (p - s) by rw [hM, part_length, HP.out, HSQ.out]; exact ⟨rfl, rfl⟩)
      clear hM
      go_wp2_with fail
      obtain ⟨bx, hbx⟩ : ∃ bx, bx = wr.heap.size := ⟨_, rfl⟩
      have HI := Aside0.mk (show (wr.alloc (.cells (cellsB (pad [])) 5)).heap[bx]? = some (.cells (cellsB (pad ((part l q).take 0))) 5 (0, 0)) by rw [hbx]; exact blk_new wr _)
      have HJ := Aside0.mk (below_alloc (Below.refl wr.heap.size wr) (.cells (cellsB (pad [])) 5))
      have HBX := Aside0.mk hbx
      rw [← hbx]
      clear hmk hbx
      go_loopw [6] (fun v6 wi => ∃ k : Nat, k ≤ M ∧ v6 = .int .i64 k ∧ Aside0 (wi.heap[bx]? = some (.cells (cellsB (pad ((part l q).take k))) 5 (0, 0))) ∧ Aside0 (Below wr.heap.size wr wi)) (fun v6 _ => 16 - (intOf v6).toNat)
      case atStart => exact ⟨0, Nat.zero_le _, rfl, HI, HJ⟩
      case round =>
        clear HI HJ
        obtain ⟨k, hk, rfl, HI, HJ⟩ := hrel
        by_cases hkm : k < M
        · have HKM := Aside0.mk hkm
          have m16 : M ≤ 16 ∧ s + M ≤ p := by have h1 := HM.out.2; have h2 := HKL.out; omega
          have hld := byte_at (j := s + k) (Kd.C_below (Kd.C_below HC.out HB.out) HJ.out) (by omega)
          have hst := (blk_cell HI.out k).trans (cells_at (part l q) k (by have h1 := HM.out.1; omega) (by omega))
          obtain ⟨xv, hxv⟩ : ∃ xv, xv = l.getD (s + k) 0 := ⟨_, rfl⟩
          rw [← hxv] at hld
          have HXV := Aside0.mk (show xv = (part l q).getD k 0 by rw [hxv, part_get l q k (by have h1 := HM.out.1; omega), HSQ.out])
          clear hxv
          have e3 : (k : Int) < 16 := by omega
          have e4 : (s : Int) + (k : Int) < (p : Int) := by omega
          have e5 : (0 : Int) ≤ (s : Int) + (k : Int) ∧ (s : Int) + (k : Int) < (p : Int) := by omega
          have e6 : (p : Int) ≤ 3000 := by have h1 := HP3.out; omega
          have e7 : (0 : Int) ≤ (k : Int) ∧ (k : Int) < 16 := by omega
          have hfz := blk_frozen HI.out k
          clear hkm hk m16
          go_wp2_with fail
          go_roundw
          case measure => simp [intOf]; omega
          case rel =>
            refine ⟨k + 1, HKM.out, by go_num, ⟨?_⟩, ⟨Below.setCell (p := ⟨bx, k, none⟩) HJ.out (by have h1 := HBX.out; exact Nat.le_of_eq h1.symm) _⟩⟩
            have h1 := blk_set HI.out k (.int .u8 xv)
            rw [HXV.out, cells_set (part l q) k (by have h2 := HM.out.1; have h3 := HKM.out; omega) (by rw [part_length]; omega)] at h1
            rw [HXV.out]
            exact h1
        · have hke : k = M := by omega
          have hpk : pad ((part l q).take k) = bytesN (blk16 l q) := by
            rw [blk16_bytes HBY.out q, List.take_of_length_le (by have h1 := HM.out.1; omega)]
          have HX := Aside0.mk (show Kd.C (Kd.int .u8) wr (some ⟨bx, 0, none⟩) 16 (bytesN (blk16 l q)) by
            have h1 := HI.out
            rw [hpk] at h1
            have h2 := C_blk (bytesN (blk16 l q)) h1 (by rw [bytesN_length]; omega)
            rw [bytesN_length] at h2
            exact h2)
          have HR := Aside0.mk (Kd.R_below HR.out HJ.out)
          have HB := Aside0.mk (HB.out.trans (HJ.out.mono HB.out.size))
          have e6 : (p : Int) ≤ 3000 := by have h1 := HP3.out; omega
          by_cases h16 : (k : Int) < 16
          · have e8 : ¬ (s : Int) + (k : Int) < (p : Int) := by have h1 := HM.out.2; omega
            clear hke hpk HI HJ hk hkm
            go_wp2_with fail
            (with_reducible refine (ofP_calls (blk16 l q) (some ⟨bx, 0, none⟩) 16 wr HX.out).mono ?_)
            rintro en w9 ⟨rfl, hb⟩
            obtain ⟨y, hy⟩ : ∃ y, y = blk16 l q := ⟨_, rfl⟩
            rw [← hy]
            have HY := Aside0.mk hy
            have HR := Aside0.mk (Kd.R_below HR.out hb)
            have HB := Aside0.mk (HB.out.trans (hb.mono HB.out.size))
            clear hb hy HX
            go_wp2_with (first | (refine wpList_bsP1 rfl (.tmp 38) rfl y rfl ?_) | ((with_reducible refine gate_builtin (b := .append) (xs := #[.tmp 36, .tmp 39]) rfl ?_); at_builtin; refine append_P_list rfl (.tmp 36) (.tmp 39) rfl rfl w9 w.heap.size w9.heap.size (.slice A5 q c5) _ y rfl rfl rfl HR.out HB.out.size (by rw [List.length_take, blocksN_length]; have h1 := HP.out; have h2 := HP3.out; omega) ?_; intro v4 w4 ho hg; obtain ⟨A6, c6, rfl⟩ := Kd.R_slice ho; (have hl : ((blocksN l).take q ++ [y]).length = q + 1 := by rw [List.length_append, List.length_take, blocksN_length, Nat.min_eq_left (by have h1 := HP.out; have h2 := HKL.out; have h3 := HSQ.out; omega)]; rfl); rw [hl] at ho ⊢; (have hx : (blocksN l).take q ++ [y] = (blocksN l).take (q + 1) := by rw [HY.out]; exact blocks_take l q (by have h1 := HP.out; have h2 := HKL.out; have h3 := HSQ.out; omega)); rw [hx] at ho; have HR6 := Aside0.mk ho; have HB6 := Aside0.mk (HB.out.grown hg HB.out.size (fun i hi => Kd.R_base HR.out i hi)); clear ho hg hl hx))
            go_roundw
            case measure => have h2 := HKL.out; have h3 := HP3.out; simp [intOf]; omega
            case rel => exact ⟨q + 1, s + 16, A6, c6, by have h2 := HSQ.out; omega, by have h1 := HKL.out; have h2 := HSQ.out; have h3 := HQ.out; omega, by go_num, rfl, HR6, HB6⟩
          · clear hke hpk HI HJ hk hkm
            go_wp2_with fail
            (with_reducible refine (ofP_calls (blk16 l q) (some ⟨bx, 0, none⟩) 16 wr HX.out).mono ?_)
            rintro en w9 ⟨rfl, hb⟩
            obtain ⟨y, hy⟩ : ∃ y, y = blk16 l q := ⟨_, rfl⟩
            rw [← hy]
            have HY := Aside0.mk hy
            have HR := Aside0.mk (Kd.R_below HR.out hb)
            have HB := Aside0.mk (HB.out.trans (hb.mono HB.out.size))
            clear hb hy HX
            go_wp2_with (first | (refine wpList_bsP1 rfl (.tmp 38) rfl y rfl ?_) | ((with_reducible refine gate_builtin (b := .append) (xs := #[.tmp 36, .tmp 39]) rfl ?_); at_builtin; refine append_P_list rfl (.tmp 36) (.tmp 39) rfl rfl w9 w.heap.size w9.heap.size (.slice A5 q c5) _ y rfl rfl rfl HR.out HB.out.size (by rw [List.length_take, blocksN_length]; have h1 := HP.out; have h2 := HP3.out; omega) ?_; intro v4 w4 ho hg; obtain ⟨A6, c6, rfl⟩ := Kd.R_slice ho; (have hl : ((blocksN l).take q ++ [y]).length = q + 1 := by rw [List.length_append, List.length_take, blocksN_length, Nat.min_eq_left (by have h1 := HP.out; have h2 := HKL.out; have h3 := HSQ.out; omega)]; rfl); rw [hl] at ho ⊢; (have hx : (blocksN l).take q ++ [y] = (blocksN l).take (q + 1) := by rw [HY.out]; exact blocks_take l q (by have h1 := HP.out; have h2 := HKL.out; have h3 := HSQ.out; omega)); rw [hx] at ho; have HR6 := Aside0.mk ho; have HB6 := Aside0.mk (HB.out.grown hg HB.out.size (fun i hi => Kd.R_base HR.out i hi)); clear ho hg hl hx))
            go_roundw
            case measure => have h2 := HKL.out; have h3 := HP3.out; simp [intOf]; omega
            case rel => exact ⟨q + 1, s + 16, A6, c6, by have h2 := HSQ.out; omega, by have h1 := HKL.out; have h2 := HSQ.out; have h3 := HQ.out; omega, by go_num, rfl, HR6, HB6⟩
    · have hqQ : q = Q := by have h1 := HQ.out; omega
      subst hqQ
      have q1 : ¬ (s : Int) < (p : Int) := by omega
      go_wp2_with fail
      go_ret
      have h1 := HR.out
      rw [List.take_of_length_le (by rw [blocksN_length]; have h2 := HQ.out; have h3 := HP.out; omega)] at h1
      exact ⟨_, rfl, h1, HB.out⟩
end Go.Proofs.Ytmhmmmkpijbbiab.Gh
