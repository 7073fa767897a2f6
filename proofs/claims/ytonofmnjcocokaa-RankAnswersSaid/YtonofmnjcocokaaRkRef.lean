/- rank: the reference's Order and First. -/
import Derived.Test.YtonofmnjcocokaaRkRefM
import Derived.StillTailTactics
namespace Go.Proofs.Ytonofmnjcocokaa.Rk
open Go.RowKit Go.Proofs.YtonofmnjcocokaaW.PrintWords Go.Proofs.YtonofmnjcocokaaW.PrintLast Go.Proofs.YtonofmnjcocokaaW.PrintMore Go.Proofs.Ytonofmnjcocokaa.X Go.Proofs.Ytonofmnjcocokaa.M Go.Proofs.Ytonofmnjcocokaa.Bv Go.Proofs.Ytonofmnjcocokaa.PuLib Go.Proofs.Ytonofmnjcocokaa.PuMix
open Go.Lib Go.Sort
attribute [local go_sem] max2_int min2_int max_two min_two max_three min_three max_four min_four
set_option linter.unusedVariables false
set_option linter.unusedSimpArgs false
theorem buildU64 : ∀ w : World, (Instr.build 65 #[]).run Try.prog w = .ok (.agg (arrV 64 fun _ => .int .u64 0)) w := fun w => by kernel_rfl
theorem zeroU64 : ∀ w : World, (zeroValue 65).run Try.prog w = .ok (.agg (arrV 64 fun _ => .int .u64 0)) w := fun w => by kernel_rfl
abbrev svR (x : S34) : Value := .agg #[.int .i64 x.f0, .int .i64 x.f1]
theorem infoR : (Try.prog.info? 34).map (fun i => (i.zero, i.size, i.bytes)) = some (some (.agg #[.int .i64 0, .int .i64 0]), 2, 16) := by kernel_rfl
theorem at_R2 {w : World} {ad : Addr} {p : Nat} {l : List S34} (h : Kd.C k34 w (some ad) p l) {i : Nat} {x : S34} (hx : l[i]? = some x) : w.cell? (ad.add (i * 2)) = some (.int .i64 x.f0) ∧ w.cell? ⟨(ad.add (i * 2)).block, (ad.add (i * 2)).off + 1, none⟩ = some (.int .i64 x.f1) ∧ (loadVar 34 (ad.add (i * 2))).run Try.prog w = .ok (svR x) w := by
  have hi := (List.getElem?_eq_some_iff.1 hx).1
  have hlp : l.length = p := h.1
  obtain ⟨ad2, e, h0, h1⟩ := at_T34 h (i : Int) (by omega) (by omega)
  obtain rfl := Option.some.inj e
  have hr : rd_T34 l (i : Int) = x := by
    unfold rd_T34
    rw [Int.toNat_natCast, List.getD_eq_getElem?_getD, hx]
    rfl
  rw [hr, Int.toNat_natCast] at h0 h1
  refine ⟨h0, h1, ?_⟩
  have hl := run_loadCells_list (P := Try.prog) w (ad.add (i * 2)) [.int .i64 x.f0, .int .i64 x.f1] (fun j v hv => by
    obtain ⟨hjl, hv⟩ := List.getElem?_eq_some_iff.1 hv
    have hj2 : j = 0 ∨ j = 1 := by simp at hjl; omega
    rcases hj2 with rfl | rfl
    · rw [← hv, Addr.add_zero']; exact h0
    · rw [← hv, add_add_, add_field _ _ 1 (by omega)]; exact h1)
  obtain ⟨i0, hi0, hz⟩ := Option.map_eq_some_iff.1 infoR
  simp only [Prod.mk.injEq] at hz
  have hl2 : (loadCells (ad.add (i * 2)) 2).run Try.prog w = .ok #[.int .i64 x.f0, .int .i64 x.f1] w := hl
  simp [loadVar, sizeOf, typeInfo, run_underlying Try.underlying34, hi0, hz.2.1, hl2]
/-- The reference's two arrays. -/
def RefI (w wr : World) (st hs : List (Int × Int)) : Prop := wr.heap[w.heap.size]? = some (.cells (arrV 64 fun j => .int .u64 (scF st j)) 65 (0, 0)) ∧ wr.heap[w.heap.size + 1]? = some (.cells (arrV 64 fun j => .bool (hasS hs j)) 66 (0, 0)) ∧ Below w.heap.size w wr
theorem RefI.bel {w wr : World} {st hs : List (Int × Int)} (h : RefI w wr st hs) : Below w.heap.size w wr := h.2.2
theorem RefI.below {w wr w' : World} {st hs : List (Int × Int)} (h : RefI w wr st hs) (hb : Below wr.heap.size wr w') : RefI w w' st hs := ⟨blk_below h.1 hb, blk_below h.2.1 hb, h.2.2.trans (hb.mono h.2.2.size)⟩
theorem RefI.lt {w wr : World} {st hs : List (Int × Int)} (h : RefI w wr st hs) : w.heap.size + 2 ≤ wr.heap.size := by
  have h1 := (Array.getElem?_eq_some_iff.1 h.2.1).1
  omega
theorem RefI.apart {w wr w' : World} {st hs : List (Int × Int)} (h : RefI w wr st hs) (hb : Below (w.heap.size + 2) wr w') : RefI w w' st hs := ⟨(hb.block _ (by omega)).trans h.1, (hb.block _ (by omega)).trans h.2.1, h.2.2.trans (hb.mono (by omega))⟩
theorem fun_put {α : Type} (f : Nat → α) (g : α → Value) (n : Nat) (v : α) : (fun j2 : Nat => if j2 = n then g v else g (f j2)) = (fun j2 => g ((fun j1 : Nat => if j1 = n then v else f j1) j2)) := by
  funext j2
  dsimp only
  split <;> rfl
theorem RefI.put {w wr : World} {st : List (Int × Int)} (h : RefI w wr st st) {n : Nat} (s : Int) (hn : hasS st n = false) : RefI w ((wr.setCell ⟨w.heap.size, n, none⟩ (.int .u64 s)).setCell ⟨w.heap.size + 1, n, none⟩ (.bool true)) (st ++ [((n : Int), s)]) (st ++ [((n : Int), s)]) := by
  refine ⟨?_, ?_, ?_⟩
  · have h1 := arrV_put (i := n) h.1 (.int .u64 s)
    rw [fun_put (scF st) (.int .u64) n s, scF_snoc st n s hn] at h1
    exact blk_far h1 (by dsimp only; omega) _
  · have h1 := arrV_put (i := n) (blk_far h.2.1 (p := ⟨w.heap.size, n, none⟩) (by dsimp only; omega) (.int .u64 s)) (.bool true)
    rw [fun_put (hasS st) .bool n true, hasS_snoc st n s] at h1
    exact h1
  · exact (h.2.2.setCell (p := ⟨w.heap.size, n, none⟩) (Nat.le_refl _) _).setCell (p := ⟨w.heap.size + 1, n, none⟩) (Nat.le_succ _) _
theorem R_emptyI (W : World) (base : Nat) (hb : base ≤ W.heap.size) : Kd.R (Kd.int .i64) 3 (W.alloc (.cells #[] 3)) base (fun _ => True) (.slice (some ⟨W.heap.size, 0, none⟩) 0 0) [] :=
  ⟨fun _ _ => trivial, [], ⟨rfl, .inr ⟨W.heap.size, 0, #[], rfl, hb, blk_new W _, Nat.le_refl 0, by decide, rfl, rfl⟩⟩, Reps.none _ _⟩
theorem RefI.drop {w wr : World} {st : List (Int × Int)} {x : Int × Int} {r : List (Int × Int)} (h : RefI w wr st (x :: r)) (hd : ((x :: r).map (·.1)).Nodup) {n : Nat} (hn : x.1 = (n : Int)) : RefI w (wr.setCell ⟨w.heap.size + 1, n, none⟩ (.bool false)) st r := by
  refine ⟨blk_far h.1 (by dsimp only; omega) _, ?_, h.2.2.setCell (p := ⟨w.heap.size + 1, n, none⟩) (Nat.le_succ _) _⟩
  have h1 := arrV_put (i := n) h.2.1 (.bool false)
  rw [fun_put (hasS (x :: r)) .bool n false, hasS_tail hd hn] at h1
  exact h1
def lenOf : Value → Nat
  | .slice _ n _ => n
  | _ => 0
set_option maxRecDepth 100000 in
set_option maxHeartbeats 8000000 in
theorem rorder_calls (seed : Int) (key : List Int) (pk : Nat) (hpk : pk = key.length) (l : List S25) (p : Nat) (hp : p = l.length) (hp3 : p ≤ 2000) (A : Option Addr) (c : Nat) (B : Option Addr) (d : Nat) (w : World) (hK : Kd.C (Kd.int .u8) w A pk key) (hkc : pk ≤ c) (hC : Kd.C k34 w B p (l.map toR)) (hc : p ≤ d) :
    Calls Try.prog 16 #[.int .u64 seed, .slice A pk c, .slice B p d] w fun e w' => ∃ A' q c', e = .returned (.slice A' q c') ∧ q = (orderS seed key l).length ∧ Kd.R (Kd.int .i64) 3 w' w.heap.size (fun _ => True) (.slice A' q c') (orderS seed key l) ∧ Below w.heap.size w w' := by
  have HPK := Aside0.mk hpk
  have HP := Aside0.mk hp
  have HP3 := Aside0.mk hp3
  have HC := Aside0.mk hC
  have HD := Aside0.mk hc
  have HK := Aside0.mk (Kd.C_F (Kd.heap_int .u8) hK)
  have HKC := Aside0.mk hkc
  clear hpk hp hp3 hC hc hK hkc
  have hz1 := zeroU64
  have hz2 := zeroB64
  have hss1 := store_same (P := Try.prog) (W := w) rfl (arrV 64 fun _ => .int .u64 0) 65 (arrV_one _ _ fun _ => rfl)
  have hss2 := store_same (P := Try.prog) (W := w.alloc (.cells (arrV 64 fun _ => .int .u64 0) 65)) (N := w.heap.size + 1) (by simp) (arrV 64 fun _ => .bool false) 66 (arrV_one _ _ fun _ => rfl)
  go_enter Try.func16, Try.ntmps16
  go_wp2_with (first | (refine wpList_build_of rfl 65 rfl (buildU64 _) ?_) | (refine wpList_build_of rfl 66 rfl (buildB64 _) ?_))
  clear hz1 hz2 hss1 hss2
  have HI : Aside0 (RefI w ((w.alloc (.cells (arrV 64 fun _ => .int .u64 0) 65)).alloc (.cells (arrV 64 fun _ => .bool false) 66)) (allS seed key (l.take 0)) (allS seed key (l.take 0))) := ⟨blk_alloc (blk_new w _) _, blk_newN (by simp) _, below_alloc (below_alloc (Below.refl _ _) _) _⟩
  go_loopw [9] (fun v9 wr => ∃ k : Nat, k ≤ p ∧ v9 = .int .i64 k ∧ Aside0 (RefI w wr (allS seed key (l.take k)) (allS seed key (l.take k)))) (fun v9 _ => p - (intOf v9).toNat)
  case atStart => exact ⟨0, Nat.zero_le _, rfl, HI⟩
  case round =>
    clear HI
    obtain ⟨k, hk, rfl, HI⟩ := hrel
    by_cases hlt : k < p
    · have HKL := Aside0.mk hlt
      have hkl : k < l.length := by have h1 := HP.out; omega
      obtain ⟨ad, rfl, _⟩ := HC.out.2.2 (by omega)
      obtain ⟨x, hx⟩ : ∃ x, x = l.getD k z25 := ⟨_, rfl⟩
      obtain ⟨st, hst⟩ : ∃ st, st = allS seed key (l.take k) := ⟨_, rfl⟩
      have HSTEP := Aside0.mk (show allS seed key (l.take (k + 1)) = stA seed key st x by rw [allS_take _ _ _ hkl, ← hst, ← hx])
      rw [← hst] at HI
      have hxl : (l.map toR)[k]? = some (toR x) := by rw [List.getElem?_map, hx, List.getD_eq_getElem?_getD, List.getElem?_eq_getElem hkl]; rfl
      have HAT := Aside0.mk (fun (W : World) (h : Kd.C k34 W (some ad) p (l.map toR)) => at_R2 h hxl)
      have HLD := Aside0.mk (HAT.out wr (Kd.C_below HC.out HI.out.bel)).2.2
      have e1 : ((0 : Int) ≤ (k : Int)) = True := eq_true (by omega)
      have e2 : ((k : Int) < (p : Int)) = True := eq_true (by omega)
      have e2b : (k : Int) < (p : Int) := by omega
      have e3 : (p : Int) ≤ 2000 := by have h1 := HP3.out; omega
      clear hx hst hlt hk hxl hkl
      go_wp2_with (refine wpList_load_of rfl 34 (.tmp 28) rfl (ad.add (k * 2)) rfl HLD.out ?_)
      unfold svR toR
      dsimp only
      (with_reducible refine (rscore_calls seed key pk HPK.out x.f0 x.f1 A c _ _ (Kd.F_below HK.out HI.out.bel) HKC.out).mono ?_)
      rintro en w2 ⟨rfl, hb⟩
      have HI2 := Aside0.mk (HI.out.below hb)
      obtain ⟨hd0, hd1, _⟩ := HAT.out w2 (Kd.C_below HC.out HI2.out.bel)
      clear hb HI HLD
      unfold toR at hd0 hd1
      dsimp only at hd0 hd1
      by_cases hr : rightS x.f0 x.f1 = true
      · have hrt := of_decide_eq_true hr
        have hsc : (scoreS seed key x.f0 x.f1).2 = true := by unfold scoreS; rw [if_pos hr]
        obtain ⟨s, hs⟩ : ∃ s, s = (scoreS seed key x.f0 x.f1).1 := ⟨_, rfl⟩
        rw [hsc, ← hs]
        obtain ⟨f0, f1⟩ := x
        dsimp only at hd0 hd1 hrt hr hs hsc
        obtain ⟨j, rfl⟩ := Int.eq_ofNat_of_zero_le hrt.1
        have hj : j < 64 := by omega
        have hc1 := arrV_cell HI2.out.2.1 hj
        have hf1 := blk_frozen HI2.out.1 j
        have hc2 := arrV_cell HI2.out.1 hj
        have hf2 := blk_frozen HI2.out.2.1 j
        have e4 : ((0 : Int) ≤ (j : Int)) = True := eq_true (by omega)
        have e5 : ((j : Int) < 64) = True := eq_true (by omega)
        cases hh : hasS st j with
        | true =>
          have HN := Aside0.mk (show stA seed key st ⟨(j : Int), f1⟩ = st by unfold stA; rw [if_neg (fun h => h.2 hh)])
          rw [hh] at hc1
          clear hh hrt hr hs hsc
          go_wp2_with fail
          go_roundw
          case measure => simp [intOf]; omega
          case rel => exact ⟨k + 1, by have h2 := HKL.out; omega, by go_num, ⟨by rw [HSTEP.out, HN.out]; exact HI2.out⟩⟩
        | false =>
          have HN := Aside0.mk (show stA seed key st ⟨(j : Int), f1⟩ = st ++ [((j : Int), s)] by unfold stA; rw [if_pos ⟨hr, by unfold hasS at hh; rw [hh]; exact Bool.false_ne_true⟩, hs])
          have HH := Aside0.mk hh
          rw [hh] at hc1
          clear hh hrt hr hs hsc
          obtain ⟨hd2, _, _⟩ := HAT.out (w2.setCell ⟨w.heap.size, j, none⟩ (.int .u64 s)) (Kd.C_below HC.out (HI2.out.bel.setCell (p := ⟨w.heap.size, j, none⟩) (Nat.le_refl _) _))
          unfold toR at hd2
          dsimp only at hd2
          go_wp2_with fail
          go_roundw
          case measure => simp [intOf]; omega
          case rel => exact ⟨k + 1, by have h2 := HKL.out; omega, by go_num, ⟨by rw [HSTEP.out, HN.out]; exact HI2.out.put s HH.out⟩⟩
      · have hsc : scoreS seed key x.f0 x.f1 = (0, false) := by unfold scoreS; rw [if_neg hr]
        have HN := Aside0.mk (show stA seed key st x = st by unfold stA; rw [if_neg (fun h => hr h.1)])
        rw [hsc]
        clear hr hsc
        go_wp2_with fail
        go_roundw
        case measure => simp [intOf]; omega
        case rel => exact ⟨k + 1, by have h2 := HKL.out; omega, by go_num, ⟨by rw [HSTEP.out, HN.out]; exact HI2.out⟩⟩
    · have hkp : k = p := by omega
      subst k
      have hi := HI.out
      rw [List.take_of_length_le (Nat.le_of_eq HP.out.symm)] at hi
      obtain ⟨st, hst⟩ : ∃ st, st = allS seed key l := ⟨_, rfl⟩
      obtain ⟨sd, hsd⟩ : ∃ sd, sd = ranS seed key l := ⟨_, rfl⟩
      rw [← hst] at hi
      have hmm : ∀ x, x ∈ sd ↔ x ∈ st := fun x => by rw [hsd, hst]; exact ran_mem seed key l
      have HMM := Aside0.mk hmm
      have HND := Aside0.mk (show (st.map (·.1)).Nodup by rw [hst]; exact allS_nodup seed key l)
      have HNS := Aside0.mk (show (sd.map (·.1)).Nodup by rw [hsd]; exact ran_nodup seed key l)
      have HRG := Aside0.mk (show ∀ x ∈ sd, 0 ≤ x.1 ∧ x.1 < 64 by intro x hx; refine allS_mem seed key l x ?_; rw [← hst]; exact (hmm x).1 hx)
      have HPW := Aside0.mk (show sd.Pairwise (fun x y => ltOf ordC y x = false) by rw [hsd]; exact sorted_pw _)
      have HOD := Aside0.mk (show orderS seed key l = sd.map (·.1) by rw [hsd]; rfl)
      have HLE := Aside0.mk (show sd.length ≤ 2000 by have h1 := allS_length seed key l; have h2 := sortedS_length (allS seed key l); have h3 : sd.length = (sortedS (allS seed key l)).length := by { rw [hsd]; rfl }; have h4 := HP.out; have h5 := HP3.out; omega)
      have HI2 := Aside0.mk (show RefI w wr st (sd.drop 0) from ⟨hi.1, by
        have h1 : hasS st = hasS sd := by
          funext j
          rw [Bool.eq_iff_iff, hasS_iff, hasS_iff]
          simp only [hmm]
        rw [List.drop_zero, ← h1]
        exact hi.2.1, hi.2.2⟩)
      obtain ⟨q, hq⟩ : ∃ q, q = sd.length := ⟨_, rfl⟩
      have HQ := Aside0.mk hq
      clear hst hsd hi hmm HI hlt hk hq
      go_wp2_with fail
      have HI3 : Aside0 (RefI w (wr.alloc (.cells #[] 3)) st (sd.drop 0)) := ⟨HI2.out.below (below_alloc (Below.refl _ _) _)⟩
      have HR3 : Aside0 (Kd.R (Kd.int .i64) 3 (wr.alloc (.cells #[] 3)) (w.heap.size + 2) (fun _ => True) (.slice (some ⟨wr.heap.size, 0, none⟩) 0 0) ((sd.take 0).map (·.1))) := ⟨R_emptyI wr _ HI2.out.lt⟩
      clear HI2
      go_loopw [12] (fun v12 wr2 => ∃ (k : Nat) (A12 : Option Addr) (c12 : Nat), k ≤ q ∧ v12 = .slice A12 k c12 ∧ Aside0 (RefI w wr2 st (sd.drop k)) ∧ Aside0 (Kd.R (Kd.int .i64) 3 wr2 (w.heap.size + 2) (fun _ => True) (.slice A12 k c12) ((sd.take k).map (·.1)))) (fun v12 _ => q - lenOf v12)
      case atStart => exact ⟨0, _, 0, Nat.zero_le _, rfl, HI3, HR3⟩
      case round =>
        clear HI3 HR3
        obtain ⟨k, A12, c12, hk, rfl, HI, HR⟩ := hrel
        obtain ⟨w4, hw4⟩ : ∃ w4, w4 = wr := ⟨_, rfl⟩
        subst hw4
        have HKQ := Aside0.mk hk
        obtain ⟨rem, hrem⟩ : ∃ rem, rem = sd.drop k := ⟨_, rfl⟩
        have HREM := Aside0.mk hrem
        rw [← hrem] at HI
        have HRS := Aside0.mk (show ∀ x ∈ rem, x ∈ sd by rw [hrem]; exact fun x hx => List.mem_of_mem_drop hx)
        have HRN := Aside0.mk (show (rem.map (·.1)).Nodup by rw [hrem]; exact HNS.out.sublist ((List.drop_sublist k sd).map _))
        have HRP := Aside0.mk (show rem.Pairwise (fun x y => ltOf ordC y x = false) by rw [hrem]; exact HPW.out.sublist (List.drop_sublist k sd))
        have HRR := Aside0.mk (show ∀ x ∈ rem, 0 ≤ x.1 ∧ x.1 < 64 from fun x hx => HRG.out x (HRS.out x hx))
        have HRM := Aside0.mk (show ∀ x ∈ rem, ∀ i : Nat, x.1 = (i : Int) → scF st i = x.2 from fun x hx i hi => scF_mem HND.out ((HMM.out x).1 (HRS.out x hx)) hi)
        clear hrem hk
        go_wp2_with fail
        go_loopw [13, 14] (fun v13 v14 wr3 => ∃ (i : Nat) (best : Int), i ≤ 64 ∧ v14 = .int .i64 i ∧ v13 = .int .i64 best ∧ Aside0 (BestI rem i best) ∧ Aside0 (Below w4.heap.size w4 wr3)) (fun _ v14 _ => 64 - (intOf v14).toNat)
        case atStart => exact ⟨0, -1, by omega, rfl, rfl, ⟨best_zero HRR.out⟩, ⟨Below.refl _ _⟩⟩
        case round =>
          obtain ⟨i, best, hi, rfl, rfl, HBI, HBB⟩ := hrel
          by_cases hlt : i < 64
          · have HIW := Aside0.mk (HI.out.below HBB.out)
            have hc1 := arrV_cell HIW.out.2.1 hlt
            have hc2 := arrV_cell HIW.out.1 hlt
            have e4 : ((0 : Int) ≤ (i : Int)) = True := eq_true (by omega)
            have e5 : ((i : Int) < 64) = True := eq_true (by omega)
            have e5b : (i : Int) < 64 := by omega
            have HDW := Aside0.mk (show Below w4.heap.size w4 wr.drew from below_drew HBB.out)
            cases hh : hasS rem i with
            | false =>
              have HBN := Aside0.mk (best_none HBI.out (fun x hx he => by rw [hasS_iff.2 ⟨x, hx, he⟩] at hh; cases hh))
              rw [hh] at hc1
              have HIL := Aside0.mk hlt
              clear hh hi hlt
              go_wp2_with fail
              have HSS := Aside0.mk (show wr.drew.cell? ⟨w.heap.size + 1, i, none⟩ = some (.bool false) from hc1)
              clear hc1 hc2
              refine Held.wp_region_G (S := (fun W : World => W.cell? ⟨w.heap.size + 1, i, none⟩ = some (.bool false))) (by kernel_rfl) ?_
              change Held.wpAnyG _ _ _ _ _ 16 _ _ _
              refine Held.wpAnyG_take (i := 0) (v := (.int .i64 (i : Int))) rfl (by kernel_rfl) (by kernel_rfl) (by kernel_rfl) (fun _ _ _ h => h) HSS.out (by first | (with_reducible rfl) | (simp [Region.wanted, yielded, Act.put]; done) | rfl) (fun W h => by go_simp) (some 62) rfl #[true, false, false, false, false, false, false, false, false, false, false, false, false, false, false, false] (by kernel_rfl) ?_
              simp only [Act.put, List.setIfInBounds_toArray, List.set_cons_zero, List.set_cons_succ]
              refine Held.wpAnyG_take (i := 1) (v := (.pointer (some ⟨w.heap.size + 1, i, none⟩))) rfl (by kernel_rfl) (by kernel_rfl) (by kernel_rfl) (fun _ _ _ h => h) HSS.out (by first | (with_reducible rfl) | (simp [Region.wanted, yielded, Act.put]; done) | rfl) (fun W hs => by go_simp) (some 63) rfl #[true, true, false, false, false, false, false, false, false, false, false, false, false, false, false, false] (by kernel_rfl) ?_
              simp only [Act.put, List.setIfInBounds_toArray, List.set_cons_zero, List.set_cons_succ]
              refine Held.wpAnyG_take (i := 2) (v := (.bool false)) rfl (by kernel_rfl) (by kernel_rfl) (by kernel_rfl) (fun _ _ _ h => h) HSS.out (by first | (with_reducible rfl) | (simp [Region.wanted, yielded, Act.put]; done) | rfl) (fun W hs => by have hx1 := hs; go_simp) (some 64) rfl #[true, true, true, false, false, false, false, false, false, false, false, false, false, false, false, false] (by kernel_rfl) ?_
              simp only [Act.put, List.setIfInBounds_toArray, List.set_cons_zero, List.set_cons_succ]
              refine Held.wpAnyG_take (i := 3) (v := (.bool false)) rfl (by kernel_rfl) (by kernel_rfl) (by kernel_rfl) (fun _ _ _ h => h) HSS.out (by first | (with_reducible rfl) | (simp [Region.wanted, yielded, Act.put]; done) | rfl) (fun W h => by go_simp) (some 65) rfl #[true, true, true, true, false, false, false, false, false, false, false, false, false, false, false, false] (by kernel_rfl) ?_
              simp only [Act.put, List.setIfInBounds_toArray, List.set_cons_zero, List.set_cons_succ]
              refine Held.wpAnyG_skip (i := 4) rfl (by kernel_rfl) (by kernel_rfl) (by kernel_rfl) (fun _ _ _ h => h) HSS.out (by first | (with_reducible rfl) | (simp [Region.wanted, yielded, Act.put]; done) | rfl) (some 66) rfl #[true, true, true, true, true, false, false, false, false, false, false, false, false, false, false, false] (by kernel_rfl) ?_
              simp only [Act.put, List.setIfInBounds_toArray, List.set_cons_zero, List.set_cons_succ]
              refine Held.wpAnyG_skip (i := 5) rfl (by kernel_rfl) (by kernel_rfl) (by kernel_rfl) (fun _ _ _ h => h) HSS.out (by first | (with_reducible rfl) | (simp [Region.wanted, yielded, Act.put]; done) | rfl) (some 67) rfl #[true, true, true, true, true, true, false, false, false, false, false, false, false, false, false, false] (by kernel_rfl) ?_
              simp only [Act.put, List.setIfInBounds_toArray, List.set_cons_zero, List.set_cons_succ]
              refine Held.wpAnyG_skip (i := 6) rfl (by kernel_rfl) (by kernel_rfl) (by kernel_rfl) (fun _ _ _ h => h) HSS.out (by first | (with_reducible rfl) | (simp [Region.wanted, yielded, Act.put]; done) | rfl) (some 68) rfl #[true, true, true, true, true, true, true, false, false, false, false, false, false, false, false, false] (by kernel_rfl) ?_
              simp only [Act.put, List.setIfInBounds_toArray, List.set_cons_zero, List.set_cons_succ]
              refine Held.wpAnyG_skip (i := 7) rfl (by kernel_rfl) (by kernel_rfl) (by kernel_rfl) (fun _ _ _ h => h) HSS.out (by first | (with_reducible rfl) | (simp [Region.wanted, yielded, Act.put]; done) | rfl) (some 69) rfl #[true, true, true, true, true, true, true, true, false, false, false, false, false, false, false, false] (by kernel_rfl) ?_
              simp only [Act.put, List.setIfInBounds_toArray, List.set_cons_zero, List.set_cons_succ]
              refine Held.wpAnyG_skip (i := 8) rfl (by kernel_rfl) (by kernel_rfl) (by kernel_rfl) (fun _ _ _ h => h) HSS.out (by first | (with_reducible rfl) | (simp [Region.wanted, yielded, Act.put]; done) | rfl) (some 70) rfl #[true, true, true, true, true, true, true, true, true, false, false, false, false, false, false, false] (by kernel_rfl) ?_
              simp only [Act.put, List.setIfInBounds_toArray, List.set_cons_zero, List.set_cons_succ]
              refine Held.wpAnyG_skip (i := 9) rfl (by kernel_rfl) (by kernel_rfl) (by kernel_rfl) (fun _ _ _ h => h) HSS.out (by first | (with_reducible rfl) | (simp [Region.wanted, yielded, Act.put]; done) | rfl) (some 71) rfl #[true, true, true, true, true, true, true, true, true, true, false, false, false, false, false, false] (by kernel_rfl) ?_
              simp only [Act.put, List.setIfInBounds_toArray, List.set_cons_zero, List.set_cons_succ]
              refine Held.wpAnyG_skip (i := 10) rfl (by kernel_rfl) (by kernel_rfl) (by kernel_rfl) (fun _ _ _ h => h) HSS.out (by first | (with_reducible rfl) | (simp [Region.wanted, yielded, Act.put]; done) | rfl) (some 72) rfl #[true, true, true, true, true, true, true, true, true, true, true, false, false, false, false, false] (by kernel_rfl) ?_
              simp only [Act.put, List.setIfInBounds_toArray, List.set_cons_zero, List.set_cons_succ]
              refine Held.wpAnyG_skip (i := 11) rfl (by kernel_rfl) (by kernel_rfl) (by kernel_rfl) (fun _ _ _ h => h) HSS.out (by first | (with_reducible rfl) | (simp [Region.wanted, yielded, Act.put]; done) | rfl) (some 73) rfl #[true, true, true, true, true, true, true, true, true, true, true, true, false, false, false, false] (by kernel_rfl) ?_
              simp only [Act.put, List.setIfInBounds_toArray, List.set_cons_zero, List.set_cons_succ]
              refine Held.wpAnyG_skip (i := 12) rfl (by kernel_rfl) (by kernel_rfl) (by kernel_rfl) (fun _ _ _ h => h) HSS.out (by first | (with_reducible rfl) | (simp [Region.wanted, yielded, Act.put]; done) | rfl) (some 74) rfl #[true, true, true, true, true, true, true, true, true, true, true, true, true, false, false, false] (by kernel_rfl) ?_
              simp only [Act.put, List.setIfInBounds_toArray, List.set_cons_zero, List.set_cons_succ]
              refine Held.wpAnyG_skip (i := 13) rfl (by kernel_rfl) (by kernel_rfl) (by kernel_rfl) (fun _ _ _ h => h) HSS.out (by first | (with_reducible rfl) | (simp [Region.wanted, yielded, Act.put]; done) | rfl) (some 75) rfl #[true, true, true, true, true, true, true, true, true, true, true, true, true, true, false, false] (by kernel_rfl) ?_
              simp only [Act.put, List.setIfInBounds_toArray, List.set_cons_zero, List.set_cons_succ]
              refine Held.wpAnyG_skip (i := 14) rfl (by kernel_rfl) (by kernel_rfl) (by kernel_rfl) (fun _ _ _ h => h) HSS.out (by first | (with_reducible rfl) | (simp [Region.wanted, yielded, Act.put]; done) | rfl) (some 76) rfl #[true, true, true, true, true, true, true, true, true, true, true, true, true, true, true, false] (by kernel_rfl) ?_
              simp only [Act.put, List.setIfInBounds_toArray, List.set_cons_zero, List.set_cons_succ]
              refine Held.wpAnyG_take (i := 15) (v := (.bool false)) rfl (by kernel_rfl) (by kernel_rfl) (by kernel_rfl) (fun _ _ _ h => h) HSS.out (by first | (with_reducible rfl) | (simp [Region.wanted, yielded, Act.put]; done) | rfl) (fun W hs => by go_simp) (some 77) rfl #[true, true, true, true, true, true, true, true, true, true, true, true, true, true, true, true] (by kernel_rfl) ?_
              simp only [Act.put, List.setIfInBounds_toArray, List.set_cons_zero, List.set_cons_succ]
              refine Held.wpAnyG_done (by kernel_rfl) ?_ _
              go_wp2_with fail
              go_roundw
              case measure => simp [intOf]; omega
              case rel => exact ⟨i + 1, best, by omega, by go_num, rfl, HBN, HDW⟩
            | true =>
              obtain ⟨x, hx, hxi⟩ := hasS_iff.1 hh
              rw [hh] at hc1
              rw [HRM.out x hx i hxi] at hc2
              clear hh
              have HIL := Aside0.mk hlt
              by_cases hb : best < 0
              · have HBN := Aside0.mk (best_first HRN.out HBI.out hb (fun x hx => (HRR.out x hx).1) hx hxi)
                have HSS := Aside0.mk (show wr.drew.cell? ⟨w.heap.size + 1, i, none⟩ = some (.bool true) from hc1)
                clear hi hlt hx hxi hc2 hc1
                go_wp2_with fail
                refine Held.wp_region_G (S := (fun W : World => W.cell? ⟨w.heap.size + 1, i, none⟩ = some (.bool true))) (by kernel_rfl) ?_
                change Held.wpAnyG _ _ _ _ _ 16 _ _ _
                refine Held.wpAnyG_take (i := 0) (v := (.int .i64 (i : Int))) rfl (by kernel_rfl) (by kernel_rfl) (by kernel_rfl) (fun _ _ _ h => h) HSS.out (by first | (with_reducible rfl) | (simp [Region.wanted, yielded, Act.put]; done) | rfl) (fun W h => by go_simp) (some 62) rfl #[true, false, false, false, false, false, false, false, false, false, false, false, false, false, false, false] (by kernel_rfl) ?_
                simp only [Act.put, List.setIfInBounds_toArray, List.set_cons_zero, List.set_cons_succ]
                refine Held.wpAnyG_take (i := 1) (v := (.pointer (some ⟨w.heap.size + 1, i, none⟩))) rfl (by kernel_rfl) (by kernel_rfl) (by kernel_rfl) (fun _ _ _ h => h) HSS.out (by first | (with_reducible rfl) | (simp [Region.wanted, yielded, Act.put]; done) | rfl) (fun W hs => by go_simp) (some 63) rfl #[true, true, false, false, false, false, false, false, false, false, false, false, false, false, false, false] (by kernel_rfl) ?_
                simp only [Act.put, List.setIfInBounds_toArray, List.set_cons_zero, List.set_cons_succ]
                refine Held.wpAnyG_take (i := 2) (v := (.bool true)) rfl (by kernel_rfl) (by kernel_rfl) (by kernel_rfl) (fun _ _ _ h => h) HSS.out (by first | (with_reducible rfl) | (simp [Region.wanted, yielded, Act.put]; done) | rfl) (fun W hs => by have hx1 := hs; go_simp) (some 64) rfl #[true, true, true, false, false, false, false, false, false, false, false, false, false, false, false, false] (by kernel_rfl) ?_
                simp only [Act.put, List.setIfInBounds_toArray, List.set_cons_zero, List.set_cons_succ]
                refine Held.wpAnyG_take (i := 3) (v := (.bool true)) rfl (by kernel_rfl) (by kernel_rfl) (by kernel_rfl) (fun _ _ _ h => h) HSS.out (by first | (with_reducible rfl) | (simp [Region.wanted, yielded, Act.put]; done) | rfl) (fun W h => by go_simp) (some 65) rfl #[true, true, true, true, false, false, false, false, false, false, false, false, false, false, false, false] (by kernel_rfl) ?_
                simp only [Act.put, List.setIfInBounds_toArray, List.set_cons_zero, List.set_cons_succ]
                refine Held.wpAnyG_take (i := 4) (v := (.int .i64 best)) rfl (by kernel_rfl) (by kernel_rfl) (by kernel_rfl) (fun _ _ _ h => h) HSS.out (by first | (with_reducible rfl) | (simp [Region.wanted, yielded, Act.put]; done) | rfl) (fun W h => by go_simp) (some 66) rfl #[true, true, true, true, true, false, false, false, false, false, false, false, false, false, false, false] (by kernel_rfl) ?_
                simp only [Act.put, List.setIfInBounds_toArray, List.set_cons_zero, List.set_cons_succ]
                refine Held.wpAnyG_take (i := 5) (v := (.bool true)) rfl (by kernel_rfl) (by kernel_rfl) (by kernel_rfl) (fun _ _ _ h => h) HSS.out (by first | (with_reducible rfl) | (simp [Region.wanted, yielded, Act.put]; done) | rfl) (fun W hs => by go_simp) (some 67) rfl #[true, true, true, true, true, true, false, false, false, false, false, false, false, false, false, false] (by kernel_rfl) ?_
                simp only [Act.put, List.setIfInBounds_toArray, List.set_cons_zero, List.set_cons_succ]
                refine Held.wpAnyG_take (i := 6) (v := (.bool true)) rfl (by kernel_rfl) (by kernel_rfl) (by kernel_rfl) (fun _ _ _ h => h) HSS.out (by first | (with_reducible rfl) | (simp [Region.wanted, yielded, Act.put]; done) | rfl) (fun W h => by go_simp) (some 68) rfl #[true, true, true, true, true, true, true, false, false, false, false, false, false, false, false, false] (by kernel_rfl) ?_
                simp only [Act.put, List.setIfInBounds_toArray, List.set_cons_zero, List.set_cons_succ]
                refine Held.wpAnyG_skip (i := 7) rfl (by kernel_rfl) (by kernel_rfl) (by kernel_rfl) (fun _ _ _ h => h) HSS.out (by first | (with_reducible rfl) | (simp [Region.wanted, yielded, Act.put]; done) | rfl) (some 69) rfl #[true, true, true, true, true, true, true, true, false, false, false, false, false, false, false, false] (by kernel_rfl) ?_
                simp only [Act.put, List.setIfInBounds_toArray, List.set_cons_zero, List.set_cons_succ]
                refine Held.wpAnyG_skip (i := 8) rfl (by kernel_rfl) (by kernel_rfl) (by kernel_rfl) (fun _ _ _ h => h) HSS.out (by first | (with_reducible rfl) | (simp [Region.wanted, yielded, Act.put]; done) | rfl) (some 70) rfl #[true, true, true, true, true, true, true, true, true, false, false, false, false, false, false, false] (by kernel_rfl) ?_
                simp only [Act.put, List.setIfInBounds_toArray, List.set_cons_zero, List.set_cons_succ]
                refine Held.wpAnyG_skip (i := 9) rfl (by kernel_rfl) (by kernel_rfl) (by kernel_rfl) (fun _ _ _ h => h) HSS.out (by first | (with_reducible rfl) | (simp [Region.wanted, yielded, Act.put]; done) | rfl) (some 71) rfl #[true, true, true, true, true, true, true, true, true, true, false, false, false, false, false, false] (by kernel_rfl) ?_
                simp only [Act.put, List.setIfInBounds_toArray, List.set_cons_zero, List.set_cons_succ]
                refine Held.wpAnyG_skip (i := 10) rfl (by kernel_rfl) (by kernel_rfl) (by kernel_rfl) (fun _ _ _ h => h) HSS.out (by first | (with_reducible rfl) | (simp [Region.wanted, yielded, Act.put]; done) | rfl) (some 72) rfl #[true, true, true, true, true, true, true, true, true, true, true, false, false, false, false, false] (by kernel_rfl) ?_
                simp only [Act.put, List.setIfInBounds_toArray, List.set_cons_zero, List.set_cons_succ]
                refine Held.wpAnyG_skip (i := 11) rfl (by kernel_rfl) (by kernel_rfl) (by kernel_rfl) (fun _ _ _ h => h) HSS.out (by first | (with_reducible rfl) | (simp [Region.wanted, yielded, Act.put]; done) | rfl) (some 73) rfl #[true, true, true, true, true, true, true, true, true, true, true, true, false, false, false, false] (by kernel_rfl) ?_
                simp only [Act.put, List.setIfInBounds_toArray, List.set_cons_zero, List.set_cons_succ]
                refine Held.wpAnyG_skip (i := 12) rfl (by kernel_rfl) (by kernel_rfl) (by kernel_rfl) (fun _ _ _ h => h) HSS.out (by first | (with_reducible rfl) | (simp [Region.wanted, yielded, Act.put]; done) | rfl) (some 74) rfl #[true, true, true, true, true, true, true, true, true, true, true, true, true, false, false, false] (by kernel_rfl) ?_
                simp only [Act.put, List.setIfInBounds_toArray, List.set_cons_zero, List.set_cons_succ]
                refine Held.wpAnyG_skip (i := 13) rfl (by kernel_rfl) (by kernel_rfl) (by kernel_rfl) (fun _ _ _ h => h) HSS.out (by first | (with_reducible rfl) | (simp [Region.wanted, yielded, Act.put]; done) | rfl) (some 75) rfl #[true, true, true, true, true, true, true, true, true, true, true, true, true, true, false, false] (by kernel_rfl) ?_
                simp only [Act.put, List.setIfInBounds_toArray, List.set_cons_zero, List.set_cons_succ]
                refine Held.wpAnyG_take (i := 14) (v := (.bool true)) rfl (by kernel_rfl) (by kernel_rfl) (by kernel_rfl) (fun _ _ _ h => h) HSS.out (by first | (with_reducible rfl) | (simp [Region.wanted, yielded, Act.put]; done) | rfl) (fun W hs => by go_simp) (some 76) rfl #[true, true, true, true, true, true, true, true, true, true, true, true, true, true, true, false] (by kernel_rfl) ?_
                simp only [Act.put, List.setIfInBounds_toArray, List.set_cons_zero, List.set_cons_succ]
                refine Held.wpAnyG_take (i := 15) (v := (.bool true)) rfl (by kernel_rfl) (by kernel_rfl) (by kernel_rfl) (fun _ _ _ h => h) HSS.out (by first | (with_reducible rfl) | (simp [Region.wanted, yielded, Act.put]; done) | rfl) (fun W hs => by go_simp) (some 77) rfl #[true, true, true, true, true, true, true, true, true, true, true, true, true, true, true, true] (by kernel_rfl) ?_
                simp only [Act.put, List.setIfInBounds_toArray, List.set_cons_zero, List.set_cons_succ]
                refine Held.wpAnyG_done (by kernel_rfl) ?_ _
                go_wp2_with fail
                go_roundw
                case measure => simp [intOf]; omega
                case rel => exact ⟨i + 1, (i : Int), by omega, by go_num, rfl, HBN, HDW⟩
              · rcases HBI.out with ⟨hbb, _⟩ | ⟨m, hm, hmi, rfl, hmin⟩
                · omega
                obtain ⟨n, hn⟩ := Int.eq_ofNat_of_zero_le (HRR.out m hm).1
                have hn64 : n < 64 := by have h1 := (HRR.out m hm).2; omega
                have hc3 := arrV_cell HIW.out.1 hn64
                rw [HRM.out m hm n hn] at hc3
                have f4 : ((0 : Int) ≤ (n : Int)) = True := eq_true (by omega)
                have f5 : ((n : Int) < 64) = True := eq_true (by omega)
                have f6 : ¬ (n : Int) < 0 := by omega
                have HSS := Aside0.mk (show wr.drew.cell? ⟨w.heap.size + 1, i, none⟩ = some (.bool true) ∧ wr.drew.cell? ⟨w.heap.size, i, none⟩ = some (.int .u64 x.2) ∧ wr.drew.cell? ⟨w.heap.size, n, none⟩ = some (.int .u64 m.2) from ⟨hc1, hc2, hc3⟩)
                by_cases hs : m.2 < x.2
                · have HBN := Aside0.mk (best_more HRN.out hm hmi hmin hx hxi hs)
                  clear hi hlt hx hxi hc2 hc1 hc3 hm hmi hmin HBI hb
                  rw [hn]
                  clear hn
                  go_wp2_with fail
                  refine Held.wp_region_G (S := (fun W : World => W.cell? ⟨w.heap.size + 1, i, none⟩ = some (.bool true) ∧ W.cell? ⟨w.heap.size, i, none⟩ = some (.int .u64 x.2) ∧ W.cell? ⟨w.heap.size, n, none⟩ = some (.int .u64 m.2))) (by kernel_rfl) ?_
                  change Held.wpAnyG _ _ _ _ _ 16 _ _ _
                  refine Held.wpAnyG_take (i := 0) (v := (.int .i64 (i : Int))) rfl (by kernel_rfl) (by kernel_rfl) (by kernel_rfl) (fun _ _ _ h => h) HSS.out (by first | (with_reducible rfl) | (simp [Region.wanted, yielded, Act.put]; done) | rfl) (fun W h => by go_simp) (some 62) rfl #[true, false, false, false, false, false, false, false, false, false, false, false, false, false, false, false] (by kernel_rfl) ?_
                  simp only [Act.put, List.setIfInBounds_toArray, List.set_cons_zero, List.set_cons_succ]
                  refine Held.wpAnyG_take (i := 1) (v := (.pointer (some ⟨w.heap.size + 1, i, none⟩))) rfl (by kernel_rfl) (by kernel_rfl) (by kernel_rfl) (fun _ _ _ h => h) HSS.out (by first | (with_reducible rfl) | (simp [Region.wanted, yielded, Act.put]; done) | rfl) (fun W hs => by go_simp) (some 63) rfl #[true, true, false, false, false, false, false, false, false, false, false, false, false, false, false, false] (by kernel_rfl) ?_
                  simp only [Act.put, List.setIfInBounds_toArray, List.set_cons_zero, List.set_cons_succ]
                  refine Held.wpAnyG_take (i := 2) (v := (.bool true)) rfl (by kernel_rfl) (by kernel_rfl) (by kernel_rfl) (fun _ _ _ h => h) HSS.out (by first | (with_reducible rfl) | (simp [Region.wanted, yielded, Act.put]; done) | rfl) (fun W hs => by have hx1 := hs.1; go_simp) (some 64) rfl #[true, true, true, false, false, false, false, false, false, false, false, false, false, false, false, false] (by kernel_rfl) ?_
                  simp only [Act.put, List.setIfInBounds_toArray, List.set_cons_zero, List.set_cons_succ]
                  refine Held.wpAnyG_take (i := 3) (v := (.bool true)) rfl (by kernel_rfl) (by kernel_rfl) (by kernel_rfl) (fun _ _ _ h => h) HSS.out (by first | (with_reducible rfl) | (simp [Region.wanted, yielded, Act.put]; done) | rfl) (fun W h => by go_simp) (some 65) rfl #[true, true, true, true, false, false, false, false, false, false, false, false, false, false, false, false] (by kernel_rfl) ?_
                  simp only [Act.put, List.setIfInBounds_toArray, List.set_cons_zero, List.set_cons_succ]
                  refine Held.wpAnyG_take (i := 4) (v := (.int .i64 (n : Int))) rfl (by kernel_rfl) (by kernel_rfl) (by kernel_rfl) (fun _ _ _ h => h) HSS.out (by first | (with_reducible rfl) | (simp [Region.wanted, yielded, Act.put]; done) | rfl) (fun W h => by go_simp) (some 66) rfl #[true, true, true, true, true, false, false, false, false, false, false, false, false, false, false, false] (by kernel_rfl) ?_
                  simp only [Act.put, List.setIfInBounds_toArray, List.set_cons_zero, List.set_cons_succ]
                  refine Held.wpAnyG_take (i := 5) (v := (.bool false)) rfl (by kernel_rfl) (by kernel_rfl) (by kernel_rfl) (fun _ _ _ h => h) HSS.out (by first | (with_reducible rfl) | (simp [Region.wanted, yielded, Act.put]; done) | rfl) (fun W hs => by go_simp) (some 67) rfl #[true, true, true, true, true, true, false, false, false, false, false, false, false, false, false, false] (by kernel_rfl) ?_
                  simp only [Act.put, List.setIfInBounds_toArray, List.set_cons_zero, List.set_cons_succ]
                  refine Held.wpAnyG_take (i := 6) (v := (.bool false)) rfl (by kernel_rfl) (by kernel_rfl) (by kernel_rfl) (fun _ _ _ h => h) HSS.out (by first | (with_reducible rfl) | (simp [Region.wanted, yielded, Act.put]; done) | rfl) (fun W h => by go_simp) (some 68) rfl #[true, true, true, true, true, true, true, false, false, false, false, false, false, false, false, false] (by kernel_rfl) ?_
                  simp only [Act.put, List.setIfInBounds_toArray, List.set_cons_zero, List.set_cons_succ]
                  refine Held.wpAnyG_take (i := 7) (v := (.int .i64 (i : Int))) rfl (by kernel_rfl) (by kernel_rfl) (by kernel_rfl) (fun _ _ _ h => h) HSS.out (by first | (with_reducible rfl) | (simp [Region.wanted, yielded, Act.put]; done) | rfl) (fun W h => by go_simp) (some 69) rfl #[true, true, true, true, true, true, true, true, false, false, false, false, false, false, false, false] (by kernel_rfl) ?_
                  simp only [Act.put, List.setIfInBounds_toArray, List.set_cons_zero, List.set_cons_succ]
                  refine Held.wpAnyG_take (i := 8) (v := (.pointer (some ⟨w.heap.size, i, none⟩))) rfl (by kernel_rfl) (by kernel_rfl) (by kernel_rfl) (fun _ _ _ h => h) HSS.out (by first | (with_reducible rfl) | (simp [Region.wanted, yielded, Act.put]; done) | rfl) (fun W hs => by go_simp) (some 70) rfl #[true, true, true, true, true, true, true, true, true, false, false, false, false, false, false, false] (by kernel_rfl) ?_
                  simp only [Act.put, List.setIfInBounds_toArray, List.set_cons_zero, List.set_cons_succ]
                  refine Held.wpAnyG_take (i := 9) (v := (.int .u64 x.2)) rfl (by kernel_rfl) (by kernel_rfl) (by kernel_rfl) (fun _ _ _ h => h) HSS.out (by first | (with_reducible rfl) | (simp [Region.wanted, yielded, Act.put]; done) | rfl) (fun W hs => by have hx1 := hs.2.1; go_simp) (some 71) rfl #[true, true, true, true, true, true, true, true, true, true, false, false, false, false, false, false] (by kernel_rfl) ?_
                  simp only [Act.put, List.setIfInBounds_toArray, List.set_cons_zero, List.set_cons_succ]
                  refine Held.wpAnyG_take (i := 10) (v := (.int .i64 (n : Int))) rfl (by kernel_rfl) (by kernel_rfl) (by kernel_rfl) (fun _ _ _ h => h) HSS.out (by first | (with_reducible rfl) | (simp [Region.wanted, yielded, Act.put]; done) | rfl) (fun W h => by go_simp) (some 72) rfl #[true, true, true, true, true, true, true, true, true, true, true, false, false, false, false, false] (by kernel_rfl) ?_
                  simp only [Act.put, List.setIfInBounds_toArray, List.set_cons_zero, List.set_cons_succ]
                  refine Held.wpAnyG_take (i := 11) (v := (.pointer (some ⟨w.heap.size, n, none⟩))) rfl (by kernel_rfl) (by kernel_rfl) (by kernel_rfl) (fun _ _ _ h => h) HSS.out (by first | (with_reducible rfl) | (simp [Region.wanted, yielded, Act.put]; done) | rfl) (fun W hs => by go_simp) (some 73) rfl #[true, true, true, true, true, true, true, true, true, true, true, true, false, false, false, false] (by kernel_rfl) ?_
                  simp only [Act.put, List.setIfInBounds_toArray, List.set_cons_zero, List.set_cons_succ]
                  refine Held.wpAnyG_take (i := 12) (v := (.int .u64 m.2)) rfl (by kernel_rfl) (by kernel_rfl) (by kernel_rfl) (fun _ _ _ h => h) HSS.out (by first | (with_reducible rfl) | (simp [Region.wanted, yielded, Act.put]; done) | rfl) (fun W hs => by have hx1 := hs.2.2; go_simp) (some 74) rfl #[true, true, true, true, true, true, true, true, true, true, true, true, true, false, false, false] (by kernel_rfl) ?_
                  simp only [Act.put, List.setIfInBounds_toArray, List.set_cons_zero, List.set_cons_succ]
                  refine Held.wpAnyG_take (i := 13) (v := (.bool true)) rfl (by kernel_rfl) (by kernel_rfl) (by kernel_rfl) (fun _ _ _ h => h) HSS.out (by first | (with_reducible rfl) | (simp [Region.wanted, yielded, Act.put]; done) | rfl) (fun W hs => by go_simp) (some 75) rfl #[true, true, true, true, true, true, true, true, true, true, true, true, true, true, false, false] (by kernel_rfl) ?_
                  simp only [Act.put, List.setIfInBounds_toArray, List.set_cons_zero, List.set_cons_succ]
                  refine Held.wpAnyG_take (i := 14) (v := (.bool true)) rfl (by kernel_rfl) (by kernel_rfl) (by kernel_rfl) (fun _ _ _ h => h) HSS.out (by first | (with_reducible rfl) | (simp [Region.wanted, yielded, Act.put]; done) | rfl) (fun W hs => by go_simp) (some 76) rfl #[true, true, true, true, true, true, true, true, true, true, true, true, true, true, true, false] (by kernel_rfl) ?_
                  simp only [Act.put, List.setIfInBounds_toArray, List.set_cons_zero, List.set_cons_succ]
                  refine Held.wpAnyG_take (i := 15) (v := (.bool true)) rfl (by kernel_rfl) (by kernel_rfl) (by kernel_rfl) (fun _ _ _ h => h) HSS.out (by first | (with_reducible rfl) | (simp [Region.wanted, yielded, Act.put]; done) | rfl) (fun W hs => by go_simp) (some 77) rfl #[true, true, true, true, true, true, true, true, true, true, true, true, true, true, true, true] (by kernel_rfl) ?_
                  simp only [Act.put, List.setIfInBounds_toArray, List.set_cons_zero, List.set_cons_succ]
                  refine Held.wpAnyG_done (by kernel_rfl) ?_ _
                  go_wp2_with fail
                  go_roundw
                  case measure => simp [intOf]; omega
                  case rel => exact ⟨i + 1, (i : Int), by omega, by go_num, rfl, HBN, HDW⟩
                · have HBN := Aside0.mk (best_less HRN.out hm hmi hmin hx hxi hs)
                  clear hi hlt hx hxi hc2 hc1 hc3 hm hmi hmin HBI hb
                  rw [hn] at HBN ⊢
                  clear hn
                  go_wp2_with fail
                  refine Held.wp_region_G (S := (fun W : World => W.cell? ⟨w.heap.size + 1, i, none⟩ = some (.bool true) ∧ W.cell? ⟨w.heap.size, i, none⟩ = some (.int .u64 x.2) ∧ W.cell? ⟨w.heap.size, n, none⟩ = some (.int .u64 m.2))) (by kernel_rfl) ?_
                  change Held.wpAnyG _ _ _ _ _ 16 _ _ _
                  refine Held.wpAnyG_take (i := 0) (v := (.int .i64 (i : Int))) rfl (by kernel_rfl) (by kernel_rfl) (by kernel_rfl) (fun _ _ _ h => h) HSS.out (by first | (with_reducible rfl) | (simp [Region.wanted, yielded, Act.put]; done) | rfl) (fun W h => by go_simp) (some 62) rfl #[true, false, false, false, false, false, false, false, false, false, false, false, false, false, false, false] (by kernel_rfl) ?_
                  simp only [Act.put, List.setIfInBounds_toArray, List.set_cons_zero, List.set_cons_succ]
                  refine Held.wpAnyG_take (i := 1) (v := (.pointer (some ⟨w.heap.size + 1, i, none⟩))) rfl (by kernel_rfl) (by kernel_rfl) (by kernel_rfl) (fun _ _ _ h => h) HSS.out (by first | (with_reducible rfl) | (simp [Region.wanted, yielded, Act.put]; done) | rfl) (fun W hs => by go_simp) (some 63) rfl #[true, true, false, false, false, false, false, false, false, false, false, false, false, false, false, false] (by kernel_rfl) ?_
                  simp only [Act.put, List.setIfInBounds_toArray, List.set_cons_zero, List.set_cons_succ]
                  refine Held.wpAnyG_take (i := 2) (v := (.bool true)) rfl (by kernel_rfl) (by kernel_rfl) (by kernel_rfl) (fun _ _ _ h => h) HSS.out (by first | (with_reducible rfl) | (simp [Region.wanted, yielded, Act.put]; done) | rfl) (fun W hs => by have hx1 := hs.1; go_simp) (some 64) rfl #[true, true, true, false, false, false, false, false, false, false, false, false, false, false, false, false] (by kernel_rfl) ?_
                  simp only [Act.put, List.setIfInBounds_toArray, List.set_cons_zero, List.set_cons_succ]
                  refine Held.wpAnyG_take (i := 3) (v := (.bool true)) rfl (by kernel_rfl) (by kernel_rfl) (by kernel_rfl) (fun _ _ _ h => h) HSS.out (by first | (with_reducible rfl) | (simp [Region.wanted, yielded, Act.put]; done) | rfl) (fun W h => by go_simp) (some 65) rfl #[true, true, true, true, false, false, false, false, false, false, false, false, false, false, false, false] (by kernel_rfl) ?_
                  simp only [Act.put, List.setIfInBounds_toArray, List.set_cons_zero, List.set_cons_succ]
                  refine Held.wpAnyG_take (i := 4) (v := (.int .i64 (n : Int))) rfl (by kernel_rfl) (by kernel_rfl) (by kernel_rfl) (fun _ _ _ h => h) HSS.out (by first | (with_reducible rfl) | (simp [Region.wanted, yielded, Act.put]; done) | rfl) (fun W h => by go_simp) (some 66) rfl #[true, true, true, true, true, false, false, false, false, false, false, false, false, false, false, false] (by kernel_rfl) ?_
                  simp only [Act.put, List.setIfInBounds_toArray, List.set_cons_zero, List.set_cons_succ]
                  refine Held.wpAnyG_take (i := 5) (v := (.bool false)) rfl (by kernel_rfl) (by kernel_rfl) (by kernel_rfl) (fun _ _ _ h => h) HSS.out (by first | (with_reducible rfl) | (simp [Region.wanted, yielded, Act.put]; done) | rfl) (fun W hs => by go_simp) (some 67) rfl #[true, true, true, true, true, true, false, false, false, false, false, false, false, false, false, false] (by kernel_rfl) ?_
                  simp only [Act.put, List.setIfInBounds_toArray, List.set_cons_zero, List.set_cons_succ]
                  refine Held.wpAnyG_take (i := 6) (v := (.bool false)) rfl (by kernel_rfl) (by kernel_rfl) (by kernel_rfl) (fun _ _ _ h => h) HSS.out (by first | (with_reducible rfl) | (simp [Region.wanted, yielded, Act.put]; done) | rfl) (fun W h => by go_simp) (some 68) rfl #[true, true, true, true, true, true, true, false, false, false, false, false, false, false, false, false] (by kernel_rfl) ?_
                  simp only [Act.put, List.setIfInBounds_toArray, List.set_cons_zero, List.set_cons_succ]
                  refine Held.wpAnyG_take (i := 7) (v := (.int .i64 (i : Int))) rfl (by kernel_rfl) (by kernel_rfl) (by kernel_rfl) (fun _ _ _ h => h) HSS.out (by first | (with_reducible rfl) | (simp [Region.wanted, yielded, Act.put]; done) | rfl) (fun W h => by go_simp) (some 69) rfl #[true, true, true, true, true, true, true, true, false, false, false, false, false, false, false, false] (by kernel_rfl) ?_
                  simp only [Act.put, List.setIfInBounds_toArray, List.set_cons_zero, List.set_cons_succ]
                  refine Held.wpAnyG_take (i := 8) (v := (.pointer (some ⟨w.heap.size, i, none⟩))) rfl (by kernel_rfl) (by kernel_rfl) (by kernel_rfl) (fun _ _ _ h => h) HSS.out (by first | (with_reducible rfl) | (simp [Region.wanted, yielded, Act.put]; done) | rfl) (fun W hs => by go_simp) (some 70) rfl #[true, true, true, true, true, true, true, true, true, false, false, false, false, false, false, false] (by kernel_rfl) ?_
                  simp only [Act.put, List.setIfInBounds_toArray, List.set_cons_zero, List.set_cons_succ]
                  refine Held.wpAnyG_take (i := 9) (v := (.int .u64 x.2)) rfl (by kernel_rfl) (by kernel_rfl) (by kernel_rfl) (fun _ _ _ h => h) HSS.out (by first | (with_reducible rfl) | (simp [Region.wanted, yielded, Act.put]; done) | rfl) (fun W hs => by have hx1 := hs.2.1; go_simp) (some 71) rfl #[true, true, true, true, true, true, true, true, true, true, false, false, false, false, false, false] (by kernel_rfl) ?_
                  simp only [Act.put, List.setIfInBounds_toArray, List.set_cons_zero, List.set_cons_succ]
                  refine Held.wpAnyG_take (i := 10) (v := (.int .i64 (n : Int))) rfl (by kernel_rfl) (by kernel_rfl) (by kernel_rfl) (fun _ _ _ h => h) HSS.out (by first | (with_reducible rfl) | (simp [Region.wanted, yielded, Act.put]; done) | rfl) (fun W h => by go_simp) (some 72) rfl #[true, true, true, true, true, true, true, true, true, true, true, false, false, false, false, false] (by kernel_rfl) ?_
                  simp only [Act.put, List.setIfInBounds_toArray, List.set_cons_zero, List.set_cons_succ]
                  refine Held.wpAnyG_take (i := 11) (v := (.pointer (some ⟨w.heap.size, n, none⟩))) rfl (by kernel_rfl) (by kernel_rfl) (by kernel_rfl) (fun _ _ _ h => h) HSS.out (by first | (with_reducible rfl) | (simp [Region.wanted, yielded, Act.put]; done) | rfl) (fun W hs => by go_simp) (some 73) rfl #[true, true, true, true, true, true, true, true, true, true, true, true, false, false, false, false] (by kernel_rfl) ?_
                  simp only [Act.put, List.setIfInBounds_toArray, List.set_cons_zero, List.set_cons_succ]
                  refine Held.wpAnyG_take (i := 12) (v := (.int .u64 m.2)) rfl (by kernel_rfl) (by kernel_rfl) (by kernel_rfl) (fun _ _ _ h => h) HSS.out (by first | (with_reducible rfl) | (simp [Region.wanted, yielded, Act.put]; done) | rfl) (fun W hs => by have hx1 := hs.2.2; go_simp) (some 74) rfl #[true, true, true, true, true, true, true, true, true, true, true, true, true, false, false, false] (by kernel_rfl) ?_
                  simp only [Act.put, List.setIfInBounds_toArray, List.set_cons_zero, List.set_cons_succ]
                  refine Held.wpAnyG_take (i := 13) (v := (.bool false)) rfl (by kernel_rfl) (by kernel_rfl) (by kernel_rfl) (fun _ _ _ h => h) HSS.out (by first | (with_reducible rfl) | (simp [Region.wanted, yielded, Act.put]; done) | rfl) (fun W hs => by go_simp) (some 75) rfl #[true, true, true, true, true, true, true, true, true, true, true, true, true, true, false, false] (by kernel_rfl) ?_
                  simp only [Act.put, List.setIfInBounds_toArray, List.set_cons_zero, List.set_cons_succ]
                  refine Held.wpAnyG_take (i := 14) (v := (.bool false)) rfl (by kernel_rfl) (by kernel_rfl) (by kernel_rfl) (fun _ _ _ h => h) HSS.out (by first | (with_reducible rfl) | (simp [Region.wanted, yielded, Act.put]; done) | rfl) (fun W hs => by go_simp) (some 76) rfl #[true, true, true, true, true, true, true, true, true, true, true, true, true, true, true, false] (by kernel_rfl) ?_
                  simp only [Act.put, List.setIfInBounds_toArray, List.set_cons_zero, List.set_cons_succ]
                  refine Held.wpAnyG_take (i := 15) (v := (.bool false)) rfl (by kernel_rfl) (by kernel_rfl) (by kernel_rfl) (fun _ _ _ h => h) HSS.out (by first | (with_reducible rfl) | (simp [Region.wanted, yielded, Act.put]; done) | rfl) (fun W hs => by go_simp) (some 77) rfl #[true, true, true, true, true, true, true, true, true, true, true, true, true, true, true, true] (by kernel_rfl) ?_
                  simp only [Act.put, List.setIfInBounds_toArray, List.set_cons_zero, List.set_cons_succ]
                  refine Held.wpAnyG_done (by kernel_rfl) ?_ _
                  go_wp2_with fail
                  go_roundw
                  case measure => simp [intOf]; omega
                  case rel => exact ⟨i + 1, (n : Int), by omega, by go_num, rfl, HBN, HDW⟩
          · have hi64 : i = 64 := by omega
            subst i
            have HIW := Aside0.mk (HI.out.below HBB.out)
            have HRW := Aside0.mk (Kd.R_below HR.out HBB.out)
            cases hrm : rem with
            | nil =>
              have hb := HBI.out
              rw [hrm] at hb
              obtain rfl := best_end_nil hb
              have hkq : k = q := by
                have h1 := HREM.out
                rw [hrm] at h1
                have h2 := congrArg List.length h1
                rw [List.length_drop, List.length_nil] at h2
                have h3 := HKQ.out
                have h4 := HQ.out
                omega
              subst k
              have hr := HRW.out
              rw [List.take_of_length_le (Nat.le_of_eq HQ.out.symm), ← HOD.out] at hr
              have HRF := Aside0.mk (Kd.R_lower hr (Nat.le_add_right _ 2))
              have HQL := Aside0.mk (show q = (orderS seed key l).length by rw [HOD.out, List.length_map]; exact HQ.out)
              clear hb hrm hi hlt hr HI HR HBI
              go_wp2_with fail
              go_ret
              exact ⟨_, _, _, rfl, HQL.out, HRF.out, HIW.out.bel⟩
            | cons x r =>
              have hb := HBI.out
              rw [hrm] at hb
              have hbest := best_end_cons hb (by rw [← hrm]; exact HRR.out) (by rw [← hrm]; exact HRP.out)
              have hxr := HRR.out x (by rw [hrm]; exact List.mem_cons_self)
              obtain ⟨n, hn⟩ := Int.eq_ofNat_of_zero_le hxr.1
              have hn64 : n < 64 := by omega
              rw [hn] at hbest
              subst hbest
              have hkl : k < sd.length := by
                have h1 := HREM.out
                rw [hrm] at h1
                have h2 := congrArg List.length h1
                rw [List.length_drop, List.length_cons] at h2
                omega
              have hcons := HREM.out
              rw [hrm, List.drop_eq_getElem_cons hkl] at hcons
              injection hcons with hx0 hr0
              have HR0 := Aside0.mk hr0
              have HTK := Aside0.mk (show (sd.take (k + 1)).map (·.1) = (sd.take k).map (·.1) ++ [(n : Int)] by rw [List.take_succ_eq_append_getElem hkl, List.map_append, List.map_cons, List.map_nil, ← hx0, hn])
              have HI5 := Aside0.mk (show RefI w wr st (x :: r) by rw [← hrm]; exact HIW.out)
              have HND2 := Aside0.mk (show ((x :: r).map (·.1)).Nodup by rw [← hrm]; exact HRN.out)
              have HXN := Aside0.mk hn
              obtain ⟨ys, hys⟩ : ∃ ys, ys = (sd.take k).map (·.1) := ⟨_, rfl⟩
              have HYL := Aside0.mk (show ys.length = k by rw [hys, List.length_map, List.length_take]; omega)
              have HKL := Aside0.mk hkl
              rw [← hys] at HRW HTK
              have f4 : ((0 : Int) ≤ (n : Int)) = True := eq_true (by omega)
              have f5 : ((n : Int) < 64) = True := eq_true (by omega)
              clear hb hrm hi hlt HI HR HBI hx0 hr0 hxr hn hys hkl HIW
              go_wp2_with ((with_reducible refine gate_builtin (b := .append) (xs := #[.tmp 82, .tmp 84]) rfl ?_); at_builtin; refine R_appendG (Kd.int .i64) (w0 := wr) (W := wr) (w.heap.size + 2) _ rfl rfl (.tmp 82) (.tmp 84) 41 3 (.int .i64 0) 8 rfl Try.underlying41 infoI rfl (by decide) (by omega) (.slice A12 k c12) ys (n : Int) [.int .i64 (n : Int)] (fun _ => True) (fun _ => False) rfl rfl (show (Kd.int .i64).M wr _ _ (n : Int) [.int .i64 (n : Int)] from rfl) (fun _ hk => hk.elim) (fun _ _ => trivial) HRW.out (Below.refl _ _) HI5.out.lt (by rw [HYL.out]; have h1 := HLE.out; have h2 := HKL.out; omega) ?_)
              intro v6 w6 ho hb6 hg6 _
              obtain ⟨A6, c6, rfl⟩ := Kd.R_slice ho
              rw [List.length_append, List.length_singleton, HYL.out] at ho ⊢
              rw [← HTK.out] at ho
              have HI6 := Aside0.mk (HI5.out.apart hb6)
              have HR6 := Aside0.mk ho
              have hfr := blk_frozen HI6.out.2.1 n
              have hc6 := arrV_cell HI6.out.2.1 hn64
              have HR7 := Aside0.mk (Kd.R_set HR6.out HI6.out.2.1 (fun q hq => by rw [List.mem_singleton.1 hq]; decide) n (.bool false))
              clear ho hb6 hg6
              go_wp2_with fail
              refine ⟨⟨k + 1, A6, c6, by have h1 := HKL.out; have h2 := HQ.out; omega, rfl, ⟨?_⟩, HR7⟩, ?_⟩
              · rw [← HR0.out]
                exact HI6.out.drop HND2.out HXN.out
              · show q - (k + 1) < q - k
                have h1 := HKL.out
                have h2 := HQ.out
                omega
theorem first_orderL (seed : Int) (key : List Int) (l : List S25) : firstS seed key l = match orderS seed key l with | [] => (0, false) | x :: _ => (x, true) := by
  by_cases h0 : allS seed key l = []
  · have h1 : orderS seed key l = [] := by unfold orderS sortedS; rw [h0]; simp
    rw [h1]
    unfold firstS
    rw [h0]
    rfl
  · obtain ⟨m, hm, hf⟩ := firstL_min h0
    have hmr : m ∈ ranS seed key l := (ran_mem seed key l).2 hm.1
    unfold firstS
    rw [hf, orderS_eq]
    cases hr : ranS seed key l with
    | nil => rw [hr] at hmr; cases hmr
    | cons x r =>
      have hx : x ∈ allS seed key l := (ran_mem seed key l).1 (by rw [hr]; exact List.mem_cons_self)
      have hp : (x :: r).Pairwise (fun x y => ltOf ordC y x = false) := by rw [← hr]; exact sorted_pw _
      have h2 : ltOf ordC m x = false := by
        rw [hr] at hmr
        rcases List.mem_cons.1 hmr with rfl | hm2
        · exact ltF_refl _
        · exact (List.pairwise_cons.1 hp).1 m hm2
      have h3 := totS _ _ h2 (hm.2 x hx)
      rw [h3]
      rfl
set_option maxRecDepth 100000 in
theorem rfirst_calls (seed : Int) (key : List Int) (pk : Nat) (hpk : pk = key.length) (l : List S25) (p : Nat) (hp : p = l.length) (hp3 : p ≤ 2000) (A : Option Addr) (c : Nat) (B : Option Addr) (d : Nat) (w : World) (hK : Kd.C (Kd.int .u8) w A pk key) (hkc : pk ≤ c) (hC : Kd.C k34 w B p (l.map toR)) (hc : p ≤ d) :
    Calls Try.prog 12 #[.int .u64 seed, .slice A pk c, .slice B p d] w fun e w' => e = .returned (pvF (firstS seed key l)) ∧ Below w.heap.size w w' := by
  have HO := Aside0.mk (rorder_calls seed key pk hpk l p hp hp3 A c B d w hK hkc hC hc)
  clear hpk hp hp3 hK hkc hC hc
  go_enter Try.func12, Try.ntmps12
  go_wp2_with fail
  (with_reducible refine HO.out.mono ?_)
  rintro en w2 ⟨A2, q, c2, rfl, hq, hr, hb⟩
  have HB := Aside0.mk hb
  have hC := (Kd.R_reads' hr).2.2
  rw [← hq] at hC
  have hfo := first_orderL seed key l
  obtain ⟨od, hod⟩ : ∃ od, od = orderS seed key l := ⟨_, rfl⟩
  rw [← hod] at hq hC hfo
  cases od with
  | nil =>
    obtain rfl : q = 0 := hq
    have HFS := Aside0.mk (show firstS seed key l = (0, false) from hfo)
    clear hr hC hb hod HO hfo
    go_wp2_with fail
    go_ret2
    exact ⟨by rw [HFS.out]; rfl, HB.out⟩
  | cons x r =>
    have hqp : 0 < q := by rw [hq]; exact Nat.zero_lt_succ _
    obtain ⟨ad, rfl, _⟩ := hC.2.2 hqp
    have hc0 := at_I2 hC (k := 0) (v := x) rfl
    rw [Addr.add_zero'] at hc0
    have HFS := Aside0.mk (show firstS seed key l = (x, true) from hfo)
    have e1 : ¬ q = 0 := by omega
    have e2 : (0 : Int) < (q : Int) := by omega
    clear hr hC hb hod hfo HO hq hqp
    go_wp2_with fail
    go_ret2
    exact ⟨by rw [HFS.out]; rfl, HB.out⟩
end Go.Proofs.Ytonofmnjcocokaa.Rk
