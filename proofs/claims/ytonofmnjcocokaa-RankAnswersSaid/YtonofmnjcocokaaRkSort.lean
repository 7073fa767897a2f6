/- rank: Order. Written by wip/gen/rksort.py. -/
import Derived.Test.YtonofmnjcocokaaRkColl
import Derived.Shelf.SlSortCmp.NoneTotal
import Derived.Test.YtonofmnjcocokaaShelf
namespace Go.Proofs.Ytonofmnjcocokaa.Rk
open Go.Shelf
open Go.RowKit Go.Proofs.YtonofmnjcocokaaW.PrintWords Go.Proofs.YtonofmnjcocokaaW.PrintLast Go.Proofs.YtonofmnjcocokaaW.PrintMore Go.Proofs.Ytonofmnjcocokaa.X Go.Proofs.Ytonofmnjcocokaa.M Go.Proofs.Ytonofmnjcocokaa.Bv Go.Proofs.Ytonofmnjcocokaa.PuLib Go.Proofs.Ytonofmnjcocokaa.PuMix
open Go.Lib Go.Sort
attribute [local go_sem] max2_int min2_int max_two min_two max_three min_three max_four min_four
set_option linter.unusedVariables false
set_option linter.unusedSimpArgs false
def encS (x : Int × Int) : List Value := [.int .i64 x.1, .int .u64 x.2]
theorem ltOrd (x y : Int × Int) : ltOf ordC x y = decide (y.2 < x.2 ∨ (y.2 = x.2 ∧ x.1 < y.1)) := by
  unfold ltOf ordC orC cmpC
  by_cases h1 : y.2 < x.2
  · simp [h1]
  · by_cases h2 : x.2 < y.2
    · simp [h1, h2]; omega
    · have h3 : y.2 = x.2 := by omega
      by_cases h4 : x.1 < y.1
      · simp [h3, h4]
      · by_cases h5 : y.1 < x.1
        · simp [h3, h4, h5]
        · simp [h3, h4, h5]
theorem swoS : SWO (ltOf ordC) where
  irrefl x := by rw [ltOrd]; simp
  trans x y z h1 h2 := by rw [ltOrd] at *; simp at *; omega
  ntrans x y z h1 h2 := by rw [ltOrd] at *; simp at *; omega
theorem totS (x y : Int × Int) (h1 : ltOf ordC x y = false) (h2 : ltOf ordC y x = false) : x = y := by
  rw [ltOrd] at h1 h2
  simp at h1 h2
  obtain ⟨a, b⟩ := x
  obtain ⟨c, d⟩ := y
  simp at h1 h2 ⊢
  omega
def sortedS (xs : List (Int × Int)) : List (Int × Int) := xs.mergeSort fun x y => !(ltOf ordC) y x
theorem sortedS_length (xs : List (Int × Int)) : (sortedS xs).length = xs.length := (List.mergeSort_perm xs _).length_eq
theorem cmpLaysS (blk off size : Nat) (w : World) : CmpLays Try.prog 25 #[] encS 2 ordC blk off size w := fun _ _ _ _ x y => order_calls x y _
theorem holds_R {W : World} {base g n c : Nat} {xs : List (Int × Int)} (h : Kd.R kS 57 W base (fun _ => True) (.slice (some ⟨g, 0, none⟩) n c) xs) : HoldsK encS 2 W g 0 xs.toArray := by
  intro t ht
  rw [size_flatK, List.size_toArray] at ht
  rw [get_flatK _ _ _ _ (by rw [List.size_toArray]; exact ht)]
  obtain ⟨cells, hb⟩ := Kd.R_typed h g rfl
  have hC := (Kd.R_reads' h).2.2
  obtain ⟨a2, ha, hr⟩ := hC.2.2 (by omega)
  obtain rfl := Option.some.inj ha
  have hk : t / 2 < xs.length := by omega
  have hp : xs[t / 2]? = some (xs[t / 2]'hk) := List.getElem?_eq_getElem hk
  obtain ⟨cs, _, hK, hc⟩ := hr _ _ hp
  obtain rfl := kS_open hK
  have he : xs.toArray[t / 2]! = xs[t / 2]'hk := by rw [getElem!_pos _ _ (by simpa using hk)]; rfl
  rw [he]
  have ht2 : t % 2 = 0 ∨ t % 2 = 1 := by omega
  refine ⟨?_, blk_frozen hb _⟩
  have hsz : kS.sz = 2 := rfl
  rcases ht2 with h2 | h2
  · rw [h2]
    have h3 := hc 0 _ rfl
    rw [Addr.add_mid, hsz] at h3
    rw [show 0 + t = 0 + (t / 2 * 2 + 0) by omega]
    exact h3
  · rw [h2]
    have h3 := hc 1 _ rfl
    rw [Addr.add_mid, hsz] at h3
    rw [show 0 + t = 0 + (t / 2 * 2 + 1) by omega]
    exact h3
theorem kS_mkK (w : World) (x : Int × Int) : kS.K w x [.int .i64 x.1, .int .u64 x.2] := ⟨[.int .i64 x.1], [.int .u64 x.2], rfl, rfl, rfl⟩
theorem C_holds {W : World} {g : Nat} (d : Array (Int × Int)) (h : HoldsK encS 2 W g 0 d) (hl : d.size ≤ 1000000) : Kd.C kS W (some ⟨g, 0, none⟩) d.size d.toList := by
  refine ⟨by simp, by omega, fun _ => ⟨_, rfl, fun j p hj => ⟨[.int .i64 p.1, .int .u64 p.2], rfl, kS_mkK W p, fun i u hu => ?_⟩⟩⟩
  have hjl : j < d.size := by have h1 := (List.getElem?_eq_some_iff.1 hj).1; simpa using h1
  have hi : i < 2 := by have h1 := (List.getElem?_eq_some_iff.1 hu).1; simpa using h1
  have h1 := (HoldsK.cell h hjl hi).1
  have hd : d[j]! = p := by
    rw [getElem!_pos d j hjl]
    have h2 := (List.getElem?_eq_some_iff.1 hj).2
    simpa using h2
  rw [hd] at h1
  have hsz : kS.sz = 2 := rfl
  rw [Addr.add_mid, hsz, ← Nat.add_assoc, h1]
  have h3 := (List.getElem?_eq_some_iff.1 hu).2
  rw [← h3]
  refine congrArg some ?_
  exact getElem!_pos (encS p) i (by simpa [encS] using hi)
theorem sortWorld_below {B : Nat} {w : World} {blk off n : Nat} {d : Array (Int × Int)} {os : Array Obj} (hB : B ≤ blk) (hl : blk < w.heap.size) : Below B w (sortWorldK encS 2 w blk off n d os) := by
  refine ⟨rfl, rfl, rfl, size_sortWorldK_c _ _ _ _ _ _ _ _, fun i hi => ?_⟩
  show ((w.heap.modify blk _) ++ os)[i]? = w.heap[i]?
  rw [Array.getElem?_append_left (by rw [Array.size_modify]; omega), Array.getElem?_modify, if_neg (by omega)]
set_option maxHeartbeats 1000000 in
theorem sortfunc_calls (xs : List (Int × Int)) (A : Option Addr) (q c base : Nat) (W : World) (hq : q = xs.length) (hq3 : q ≤ 3000) (HR : Kd.R kS 57 W base (fun _ => True) (.slice A q c) xs) :
    Calls Try.prog 37 #[.slice A q c, .func (.func 25) #[] #[]] W fun e w' => e = .returned (.tuple #[]) ∧ Kd.C kS w' A q (sortedS xs) ∧ Below base W w' := by
  rcases Nat.eq_zero_or_pos q with h0 | h0
  · subst h0
    obtain rfl : xs = [] := List.length_eq_zero_iff.1 hq.symm
    refine (AnyF.slices_SortFunc_none Try.sortS A c _ W).mono ?_
    rintro e w' ⟨rfl, rfl⟩
    exact ⟨rfl, ⟨by rw [sortedS_length]; rfl, by omega, fun h => absurd h (Nat.lt_irrefl 0)⟩, Below.refl _ _⟩
  · obtain ⟨ad, hA, _⟩ := (Kd.R_reads' HR).2.2.2.2 (by omega)
    subst hA
    obtain ⟨g, rfl⟩ := Kd.R_head HR
    have eg : ∀ args w, (callFunc 25 args).run Try.prog w = .ok (.enter 25 args) w := enters_of Try.func25 (by kernel_rfl) rfl
    have hlt : g < W.heap.size := by
      obtain ⟨cells, hb⟩ := Kd.R_typed HR g rfl
      exact blk_lt hb
    have hH := holds_R HR
    have hsz : xs.toArray.size = q := by rw [List.size_toArray, hq]
    have hcon := AnyQ.slices_SortFunc_total Try.sortS 2 Try.isAgg57 Try.sizeOf57 encS (fun _ => rfl) (fun x v hv => by simp [encS] at hv; rcases hv with rfl | rfl <;> rfl) ordC swoS 25 #[] g 0 c xs.toArray W eg (cmpLaysS g 0 _ W) hH hlt (by rw [hsz]; omega) totS
    rw [hsz] at hcon
    refine Calls.mono hcon ?_
    rintro e w' ⟨rfl, n, os, rfl⟩
    have hs2 : (xs.toArray.toList.mergeSort fun x y => !(ltOf ordC) y x).toArray = (sortedS xs).toArray := rfl
    rw [hs2]
    have hsz2 : (sortedS xs).toArray.size = q := by rw [List.size_toArray, sortedS_length, hq]
    have h1 := C_holds _ (holdsK_sortWorldK_c encS 2 W g 0 xs.toArray (sortedS xs).toArray n os hH hlt (by rw [hsz2, hsz])) (by rw [hsz2]; omega)
    rw [hsz2] at h1
    exact ⟨rfl, h1, sortWorld_below (Kd.R_base HR g rfl) hlt⟩
set_option maxRecDepth 100000 in
theorem sorted_calls (Bs : Nat) (A : Option Addr) (p c : Nat) (xs : List (Int × Int)) (hp : p = xs.length) (hl : p ≤ 3000) (w : World) (hc0 : w.heap[Bs]? = some (.cells #[.slice A p c] 54 (0, 0))) (hF : Kd.F kS w (fun k => k < w.heap.size) A p xs) :
    Calls Try.prog 26 #[.func (.func 38) #[] #[.pointer (some ⟨Bs, 0, none⟩)], .func (.func 25) #[] #[]] w fun e w' => ∃ A' c', e = .returned (.slice A' p c') ∧ Kd.C kS w' A' p (sortedS xs) ∧ Below w.heap.size w w' := by
  have HA := Aside0.mk (collect_calls Bs A p c xs hp hl w hc0 hF)
  have HP := Aside0.mk hp
  have HL := Aside0.mk hl
  clear hp hl hc0 hF
  go_enter Try.func26, Try.ntmps26
  go_wp2_with fail
  (with_reducible refine HA.out.mono ?_)
  rintro en w2 ⟨v, rfl, hr, hb⟩
  obtain ⟨A1, c1, rfl⟩ := Kd.R_slice hr
  rw [← HP.out] at hr ⊢
  have HS := Aside0.mk (sortfunc_calls xs A1 p c1 _ w2 HP.out HL.out hr)
  have HB := Aside0.mk hb
  clear hr hb
  go_wp2_with fail
  (with_reducible refine HS.out.mono ?_)
  rintro en w3 ⟨rfl, hc, hb3⟩
  have HC := Aside0.mk hc
  have HB3 := Aside0.mk (HB.out.trans (hb3.mono (Nat.le_succ _)))
  clear hc hb3
  go_wp2_with fail
  go_ret
  exact ⟨_, _, rfl, HC.out, HB3.out⟩
def orderS (seed : Int) (key : List Int) (l : List S25) : List Int := (sortedS (allS seed key l)).map (·.1)
theorem R_appendG {P : Program} {ops : Array Oper} {rest : List Oper} {o : Oper} {a : Act} {Q : Exit → Act → World → Prop} {α : Type} (d : Kd α) {w0 W : World} (base g : Nat) (hgs : g = W.heap.size) (hgd : o.guard = none) (s x : Operand) (t e : TypeId) (z : Value) (bytes : Nat)
    (ho : o.op = .call { callee := .builtin .append, args := #[s, x], argTypes := #[t, t] })
    (ht : P.underlying t = some (.slice e)) (hinfo : (P.info? e).map (fun i => (i.zero, i.size, i.bytes)) = some (some z, d.sz, bytes)) (hz : z.cells.size = d.sz) (hs0 : 0 < d.sz) (hb0 : 0 < bytes)
    (v : Value) (xs : List α) (p : α) (cs : List Value) (ok okp : Nat → Prop) (hs : a.eval s = v) (hx : a.eval x = .slice (some ⟨g, 0, none⟩) 1 1) (hp : d.M W base okp p cs) (hokp : ∀ k, okp k → ok k ∧ some k ≠ v.ownBlock) (hfresh : ∀ k, W.heap.size ≤ k → ok k)
    (HO : d.R e W base ok v xs) (HB : Below base w0 W) (hbase : base ≤ W.heap.size) (hl : (xs.length + 1) * bytes ≤ 140737488355328)
    (h : ∀ v1 w1, d.R e w1 base ok v1 (xs ++ [p]) → Below base w0 w1 → W.grownBy w1 v.ownBlock → (v1.ownBlock = v.ownBlock ∨ ∃ b, v1.ownBlock = some b ∧ W.heap.size ≤ b) → wpList P ops Q rest (a.put o.dst v1) w1) :
    wpList P ops Q (o :: rest) a (W.alloc (.cells cs.toArray e)) := by
  subst hgs
  exact Kd.R_append d base hgd s x t e z bytes ho ht hinfo hz hs0 hb0 v xs p cs ok okp hs hx hp hokp hfresh HO HB hbase hl h
theorem infoI : (Try.prog.info? 3).map (fun i => (i.zero, i.size, i.bytes)) = some (some (.int .i64 0), 1, 8) := by kernel_rfl
set_option maxRecDepth 100000 in
set_option maxHeartbeats 8000000 in
theorem ranked_calls (seed : Int) (key : List Int) (pk : Nat) (hpk : pk = key.length) (l : List S25) (p : Nat) (hp : p = l.length) (hp3 : p ≤ 2000) (A : Option Addr) (c : Nat) (B : Option Addr) (d : Nat) (w : World) (hK : Kd.C (Kd.int .u8) w A pk key) (hkc : pk ≤ c) (hC : Kd.C k25 w B p l) (hc : p ≤ d) :
    Calls Try.prog 15 #[.int .u64 seed, .slice A pk c, .slice B p d] w fun e w' => ∃ A' q c', e = .returned (.slice A' q c') ∧ q = (orderS seed key l).length ∧ Kd.R (Kd.int .i64) 3 w' w.heap.size (fun _ => True) (.slice A' q c') (orderS seed key l) ∧ Below w.heap.size w w' := by
  have HA := Aside0.mk (all_calls seed key pk hpk l p hp (by omega) A c B d w hK hkc hC hc)
  have HLE := Aside0.mk (show (allS seed key l).length ≤ 2000 by have h1 := allS_length seed key l; omega)
  clear hpk hp hp3 hC hc hK hkc
  go_enter Try.func15, Try.ntmps15
  go_wp2_with fail
  (with_reducible refine HA.out.mono ?_)
  rintro en w2 ⟨A2, q, c2, rfl, hq, hr, hb⟩
  have HB := Aside0.mk hb
  have HQ := Aside0.mk hq
  have hr1 := (Kd.R_reads' hr).2.2
  rw [← hq] at hr1
  have HR1 := Aside0.mk hr1
  clear hr hb hq hr1 HA
  go_wp2_with fail
  (with_reducible refine (values_calls A2 q c2 w2).mono ?_)
  rintro en w3 ⟨rfl, hw3⟩
  have h3 : w3.heap[w2.heap.size]? = some (.cells #[.slice A2 q c2] 54 (0, 0)) := by rw [hw3]; exact blk_new w2 _
  have hb3 : Below w2.heap.size w2 w3 := by rw [hw3]; exact below_alloc (Below.refl _ _) _
  have HB3 := Aside0.mk (HB.out.trans (hb3.mono HB.out.size))
  have HS := Aside0.mk (sorted_calls w2.heap.size A2 q c2 _ HQ.out (by rw [HQ.out]; have h1 := HLE.out; omega) w3 h3 (Kd.F_mono (Kd.C_F heapS (Kd.C_below HR1.out hb3)) (fun k hk => hk)))
  clear hw3 h3 hb3
  go_wp2_with fail
  (with_reducible refine HS.out.mono ?_)
  rintro en w4 ⟨A4, c4, rfl, hc4, hb4⟩
  have HB4 := Aside0.mk (HB3.out.trans (hb4.mono HB3.out.size))
  have HC4 := Aside0.mk hc4
  have HF4 := Aside0.mk (Kd.C_F heapS hc4)
  clear hc4 hb4 HS
  go_wp2_with fail
  obtain ⟨so, hso⟩ : ∃ so, so = sortedS (allS seed key l) := ⟨_, rfl⟩
  have HSO := Aside0.mk hso
  have HSL := Aside0.mk (show q = so.length by rw [hso, sortedS_length]; exact HQ.out)
  have HQ3 := Aside0.mk (show q ≤ 2000 by have h1 := HLE.out; have h2 := HQ.out; omega)
  rw [← hso] at HF4
  clear hso HC4
  go_loopw [8, 19] (fun v8 v19 wr => ∃ (k : Nat) (A8 : Option Addr) (c8 : Nat), k ≤ q ∧ v19 = .int .i64 k ∧ v8 = .slice A8 k c8 ∧ Aside0 (Kd.R (Kd.int .i64) 3 wr w4.heap.size (fun _ => True) (.slice A8 k c8) ((so.take k).map (·.1))) ∧ Aside0 (Below w4.heap.size w4 wr)) (fun _ v19 _ => q - (intOf v19).toNat)
  case atStart => exact ⟨0, none, 0, Nat.zero_le _, rfl, rfl, ⟨Kd.R_nil _ _ _ _ _⟩, ⟨Below.refl _ _⟩⟩
  case round =>
    obtain ⟨k, A8, c8, hk, rfl, rfl, HR, HBB⟩ := hrel
    by_cases hlt : k < q
    · have HKL := Aside0.mk hlt
      obtain ⟨ad, hA, _⟩ := (Kd.F_now HF4.out).2.2 (Nat.lt_of_le_of_lt (Nat.zero_le _) hlt)
      subst hA
      obtain ⟨x, hx⟩ : ∃ x, x = so.getD k (0, 0) := ⟨_, rfl⟩
      have HX := Aside0.mk hx
      have hcell := at_S (Kd.F_below HF4.out HBB.out) k (by rw [← HSL.out]; exact hlt)
      rw [← hx] at hcell
      obtain ⟨hd0, hd1⟩ := hcell
      have e1 : (0 : Int) ≤ (k : Int) ∧ (k : Int) < (q : Int) := by omega
      have e2 : (k : Int) < (q : Int) := by omega
      have e3 : (q : Int) ≤ 2000 := by have h1 := HQ3.out; omega
      obtain ⟨ys, hys⟩ : ∃ ys, ys = (so.take k).map (·.1) := ⟨_, rfl⟩
      have HYS := Aside0.mk hys
      rw [← hys] at HR
      obtain ⟨w5, hw5⟩ : ∃ w5, w5 = wr.alloc (.cells #[.int .i64 x.1, .int .u64 x.2] 57) := ⟨_, rfl⟩
      have HW5 := Aside0.mk hw5
      have HB5 := Aside0.mk (show Below w4.heap.size w4 w5 by rw [hw5]; exact below_alloc HBB.out _)
      have HR5 := Aside0.mk (show Kd.R (Kd.int .i64) 3 w5 w4.heap.size (fun _ => True) (.slice A8 k c8) ys by rw [hw5]; exact Kd.R_alloc HR.out _)
      have HLEN := Aside0.mk (show ys.length = k by rw [hys, List.length_map, List.length_take, Nat.min_eq_left (by have h1 := HSL.out; omega)])
      have HS5 := Aside0.mk (show wr.heap.size + 1 = w5.heap.size by rw [hw5]; exact (Array.size_push _).symm)
      clear hx hys hw5 hlt hk
      go_wp2_with ((with_reducible refine gate_builtin (b := .append) (xs := #[.tmp 23, .tmp 26]) rfl ?_); at_builtin; rw [← HW5.out]; refine R_appendG (Kd.int .i64) (w0 := w4) (W := w5) w4.heap.size _ HS5.out rfl (.tmp 23) (.tmp 26) 41 3 (.int .i64 0) 8 rfl Try.underlying41 infoI rfl (by decide) (by omega) (.slice A8 k c8) ys x.1 [.int .i64 x.1] (fun _ => True) (fun _ => False) rfl rfl (show (Kd.int .i64).M w5 _ _ x.1 [.int .i64 x.1] from rfl) (fun _ hk => hk.elim) (fun _ _ => trivial) HR5.out HB5.out HB5.out.size (by rw [HLEN.out]; have h1 := HQ3.out; have h2 := HKL.out; omega) ?_)
      intro v6 w6 ho hb6 hg6 _
      obtain ⟨A6, c6, rfl⟩ := Kd.R_slice ho
      rw [List.length_append, List.length_singleton, HLEN.out] at ho ⊢
      have hx2 : ys ++ [x.1] = (so.take (k + 1)).map (·.1) := by
        rw [HYS.out, List.take_succ_eq_append_getElem (by have h1 := HSL.out; have h2 := HKL.out; omega), List.map_append, HX.out, List.getD_eq_getElem?_getD, List.getElem?_eq_getElem (by have h1 := HSL.out; have h2 := HKL.out; omega)]
        rfl
      rw [hx2] at ho
      have HR6 := Aside0.mk ho
      have HB6 := Aside0.mk hb6
      clear ho hb6 hg6 hx2 hd0 hd1
      go_wp2_with fail
      go_roundw
      case measure => simp [intOf]; omega
      case rel => exact ⟨k + 1, A6, c6, by have h2 := HKL.out; omega, by go_num, rfl, HR6, HB6⟩
    · obtain rfl : k = q := by omega
      have hr := HR.out
      rw [List.take_of_length_le (Nat.le_of_eq HSL.out.symm)] at hr
      have HRR := Aside0.mk (Kd.R_lower hr HB4.out.size)
      have HBF := Aside0.mk (HB4.out.trans (HBB.out.mono HB4.out.size))
      clear hr hlt
      go_wp2_with fail
      go_ret
      refine ⟨_, _, _, rfl, ?_, ?_, HBF.out⟩
      · unfold orderS; rw [List.length_map, ← HSO.out]; exact HSL.out
      · unfold orderS; rw [← HSO.out]; exact HRR.out
end Go.Proofs.Ytonofmnjcocokaa.Rk
