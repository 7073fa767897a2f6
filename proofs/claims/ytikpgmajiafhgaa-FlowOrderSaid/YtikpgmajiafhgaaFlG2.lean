/- flow: the walks of its exported methods, against a list of entries -/
-- MERGED by wip/tools/merge.py
import Derived.Test.YtikpgmajiafhgaaFlG1
import Derived.Deep.MidRow
/- flow: make. Written by wip/gen/flq.py. -/
namespace Go.Proofs.Ytikpgmajiafhgaa.Fl
open Go.RowKit Go.Proofs.YtikpgmajiafhgaaW.PrintWords Go.Proofs.YtikpgmajiafhgaaW.PrintLast Go.Proofs.YtikpgmajiafhgaaW.PrintMore Go.Proofs.Ytikpgmajiafhgaa.X Go.Proofs.Ytikpgmajiafhgaa.M Go.Proofs.Ytikpgmajiafhgaa.Bv Go.Proofs.Ytikpgmajiafhgaa.PuLib Go.Proofs.Ytikpgmajiafhgaa.PuMix Go.Proofs.Ytikpgmajiafhgaa.PuCat
set_option linter.unusedVariables false
set_option linter.unusedSimpArgs false
abbrev kz : List Int := List.replicate 34 0
theorem zeroK : ∀ w : World, (zeroValue 29).run Try.prog w = .ok (kv kz) w := fun w => by kernel_rfl
theorem buildK : ∀ w : World, (Instr.build 29 #[]).run Try.prog w = .ok (kv kz) w := fun w => by kernel_rfl
/-- Two results, the first of them in a box. -/
theorem results_cell_tmp {fn : Func} {p q : Tmp} {ty : TypeId} (h : fn.results = #[.cell p ty, .tmp q]) (tmps : Array Value) (w : World) (g : Nat) {v u : Value}
    (hp : tmps.getD p undef = .pointer (some ⟨g, 0, none⟩)) (hl : (loadVar ty ⟨g, 0, none⟩).run Try.prog w = .ok v w) (hq : tmps.getD q undef = u) : (results fn tmps).run Try.prog w = .ok (.tuple #[v, u]) w := by
  have hp' : tmps[p]?.getD undef = .pointer (some ⟨g, 0, none⟩) := by simpa using hp
  have hq' : tmps[q]?.getD undef = u := by simpa using hq
  simp [results, h, hp', hq', asAddr, hl]
section
variable {W w : World} {O : Nat → Prop} {b : Nat} {T : Tb} {vc vn vf : Value}
theorem TabAt.row (h : TabAt W O b T vc vn vf) {g : Nat} (hg : ¬ O g) (cs : Array Value) : TabAt (W.setRow g cs) O b T vc vn vf :=
  h.same (fun k hk => setRow_other W g k cs (fun e => hg (e ▸ hk))) (by simp [World.setRow])
theorem Keep.row (h : Keep O w W) {g : Nat} (hg : w.heap.size ≤ g) (cs : Array Value) : Keep O w (W.setRow g cs) :=
  ⟨⟨h.below.os, h.below.tape, h.below.output, by have h1 := h.below.size; simpa [World.setRow] using h1, fun k hk => absurd hk (Nat.not_lt_zero k)⟩, fun k hk hn => (setRow_other W g k cs (by omega)).trans (h.same k hk hn)⟩
end
theorem store_newD {P : Program} {W : World} {N : Nat} (h : W.heap.size = N) (c1 c2 : List Value) (t : TypeId) (hl : c2.length = c1.length) (h1 : ∀ v ∈ c2, v.oneCell' = true) : (storeCells ⟨N, 0, none⟩ c2).run P (W.alloc (.cells c1.toArray t)).drew = .ok () (W.alloc (.cells c2.toArray t)).drew :=
  store_new (W := W.drew) h c1 c2 t hl h1
theorem infoK1 : (Try.prog.info? 29).map (·.size) = some 34 := by kernel_rfl
theorem encA34 {k : List Int} (h : k.length = 34) : (encK k).toArray.size = 34 := by simp [encK_length, h]
theorem encKA_one (k : List Int) : (encK k).toArray.all (·.oneCell') = true := by
  rw [Array.all_eq_true']
  intro v hv
  exact encK_one k v (by simpa using hv)
/-- What makes room. -/
structure MakeR (T : Tb) (now : Int) (T' : Tb) (key : List Int) (ev : Bool) : Prop where
  sweep : ∃ T1, ((T.count < T.most ∧ T1 = T) ∨ (¬ T.count < T.most ∧ ∃ fu cnt, whereR (fun x => overS x.la T.idle now) fu T T.first 0 (T1, cnt))) ∧
    ((T1.count < T1.most ∧ T' = T1 ∧ key = kz ∧ ev = false) ∨ (¬ T1.count < T1.most ∧ ∃ n x, T1.first = ((n : Nat) : Int) ∧ T1.nodes[n]? = some x ∧ x.ky.length = 34 ∧ RemR T1 n T' ∧ key = x.ky ∧ ev = true))
set_option maxRecDepth 100000 in
set_option maxHeartbeats 4000000 in
theorem make_calls {T T' : Tb} {now : Int} {key : List Int} {ev : Bool} (hr : MakeR T now T' key ev) (O : Nat → Prop) (b : Nat) (vc vn vf : Value) (w : World) (hT : TabAt w O b T vc vn vf) :
    Calls Try.prog 43 #[.pointer (some ⟨b, 0, none⟩), .int .u64 now] w fun en w' => en = .returned (.tuple #[kv key, .bool ev]) ∧ ∃ O', (∃ vf', TabAt w' O' b T' vc vn vf') ∧ Keep O w w' ∧ ∀ k, O' k → O k ∨ w.heap.size ≤ k := by
  obtain ⟨T1, hs, hm⟩ := hr.sweep
  have HM := Aside0.mk hm
  obtain ⟨g, hg⟩ : ∃ g, g = w.heap.size := ⟨_, rfl⟩
  obtain ⟨w0, hw0⟩ : ∃ w0, w0 = w.alloc (.cells (encK kz).toArray 29) := ⟨_, rfl⟩
  have HB0 := Aside0.mk (show Below w.heap.size w w0 by rw [hw0]; exact below_alloc (Below.refl _ _) _)
  have HT0 := Aside0.mk (hT.below HB0.out)
  have HG0 := Aside0.mk (show w0.heap[g]? = some (.cells (encK kz).toArray 29 (0, 0)) by rw [hw0, hg]; exact blk_new w _)
  have HN0 := Aside0.mk (show ∀ k, O k → k ≠ g from fun k hk => by have := hT.lt k hk; omega)
  have HLT := Aside0.mk hT.lt
  have HG := Aside0.mk hg
  have HW0 := Aside0.mk hw0
  have hz := zeroK
  clear hr hm hT hw0
  rcases hs with ⟨hc, rfl⟩ | ⟨hc, fu, cnt, hw⟩
  · have hd := decide_eq_true hc
    have HD := Aside0.mk hc
    clear hc
    go_enter Try.func43, Try.ntmps43
    go_wp2_with fail
    rw [← hg, ← HW0.out]
    clear hg
    (with_reducible refine (room_calls O b T1 vc vn vf w0 HT0.out).mono ?_)
    rintro en w1 ⟨rfl, hb⟩
    rw [hd]
    have HT1 := Aside0.mk (HT0.out.below hb)
    have HK1 := Aside0.mk ((Keep.of_below (O := O) HB0.out).trans (Keep.of_below (O := O) hb) (fun k hk => .inl hk))
    have HG1 := Aside0.mk ((hb.block g (blk_lt HG0.out)).trans HG0.out)
    have HO1 := Aside0.mk (show ∀ k, O k → O k ∨ w.heap.size ≤ k from fun k hk => .inl hk)
    have HN1 := HN0
    clear hb HT0 HG0 HW0
    go_wp2_with fail
    (with_reducible refine (room_calls O b T1 vc vn vf w1 HT1.out).mono ?_)
    rintro en w2 ⟨rfl, hb2⟩
    have HT2 := Aside0.mk (HT1.out.below hb2)
    have HK2 := Aside0.mk (HK1.out.trans (Keep.of_below (O := O) hb2) (fun k hk => .inl hk))
    have HG2 := Aside0.mk ((hb2.block g (blk_lt HG1.out)).trans HG1.out)
    clear hb2 HT1 HK1 HG1
    rcases HM.out with ⟨h1, rfl, rfl, rfl⟩ | ⟨h1, n, x, hf, hx, h34, hrem, rfl, rfl⟩
    · have hd1 := decide_eq_true h1
      rw [hd1]
      clear h1
      go_wp2_with (first | (refine Fl.wpList_build_of rfl 29 rfl (buildK _) ?_) | (refine wpList_store_row rfl 29 (.tmp 4) (.tmp 15) rfl g _ rfl rfl 29 _ HG2.out (by kernel_rfl) rfl (by kernel_rfl) ?_))
      have h3 := setRow_heap w2 g _ (encK kz).toArray 29 (0, 0) HG2.out
      refine bodyPost_ret (results_cell_tmp rfl _ _ g rfl (box_key rfl h3) rfl) rfl ⟨rfl, O, ⟨_, HT2.out.row (fun h => HN1.out g h rfl) _⟩, HK2.out.row (by rw [HG.out]; exact Nat.le_refl _) _, HO1.out⟩
    · have hd1 : decide (T1.count < T1.most) = false := decide_eq_false (by omega)
      rw [hd1]
      clear h1
      have hnl := (List.getElem?_eq_some_iff.1 hx).1
      obtain ⟨gn, cn, hvn⟩ := HT2.out.vnForm (by omega)
      subst hvn
      have hc3 := HT2.out.cell 3
      have hc5 := HT2.out.cell 5
      simp [hf] at hc3 hc5
      obtain ⟨N, hN⟩ : ∃ N, N = T1.nodes.length := ⟨_, rfl⟩
      rw [← hN] at hc3 hnl HT2
      have e1 : ((0 : Int) ≤ (n : Int)) = True := eq_true (by omega)
      have e2 : ((n : Int) < (N : Int)) = True := eq_true (by omega)
      have hss := store_newD (P := Try.prog) (W := w2) rfl (encK kz) (encK x.ky) 29 (by rw [encK_length, encK_length, h34]; rfl) (encK_one _)
      have hlen : (encK x.ky).length = 34 := by rw [encK_length, h34]
      have HF := Aside0.mk hf
      have HREM := Aside0.mk hrem
      have H34 := Aside0.mk h34
      have HNN := Aside0.mk hN
      have HX := Aside0.mk hx
      clear hx h34 hrem hnl hf hN
      have HB5 := Aside0.mk (fun (W2 : World) (hb : Below w2.heap.size w2 W2) (g' i : Nat) (v : Value) (h : w2.cell? ⟨g', i, none⟩ = some v) => cell_below h hb)
      have HLB := Aside0.mk (fun (W2 : World) (hb : Below w2.heap.size w2 W2) => node_key ((HT2.out.below hb).nd HX.out))
      have HC35 := Aside0.mk (And.intro hc3 hc5)
      have HSS := Aside0.mk (below_drew (Below.refl w2.heap.size w2))
      clear hc3 hc5
      go_wp2_with fail
      refine Held.wp_region_G (S := (fun W : World => Below w2.heap.size w2 W)) (by kernel_rfl) ?_
      change Held.wpAnyG _ _ _ _ _ 13 _ _ _
      refine Held.wpAnyG_take (i := 0) (v := (.pointer (some ⟨b, 0, none⟩))) rfl (by kernel_rfl) (by kernel_rfl) (by kernel_rfl) (fun _ _ _ h => h) HSS.out (by first | (with_reducible rfl) | (simp [Region.wanted, yielded, Act.put]; done) | rfl) (fun W h => by go_simp) (some 16) rfl #[true, false, false, false, false, false, false, false, false, false, false, false, false] (by kernel_rfl) ?_
      simp only [Act.put, List.setIfInBounds_toArray, List.set_cons_zero, List.set_cons_succ]
      refine Held.wpAnyG_take (i := 1) (v := (.pointer (some ⟨b, 0, none⟩))) rfl (by kernel_rfl) (by kernel_rfl) (by kernel_rfl) (fun _ _ _ h => h) HSS.out (by first | (with_reducible rfl) | (simp [Region.wanted, yielded, Act.put]; done) | rfl) (fun W hs => by go_simp) (some 17) rfl #[true, true, false, false, false, false, false, false, false, false, false, false, false] (by kernel_rfl) ?_
      simp only [Act.put, List.setIfInBounds_toArray, List.set_cons_zero, List.set_cons_succ]
      refine Held.wpAnyG_take (i := 2) (v := (.pointer (some ⟨b, 3, none⟩))) rfl (by kernel_rfl) (by kernel_rfl) (by kernel_rfl) (fun _ _ _ h => h) HSS.out (by first | (with_reducible rfl) | (simp [Region.wanted, yielded, Act.put]; done) | rfl) (fun W hs => by go_simp) (some 18) rfl #[true, true, true, false, false, false, false, false, false, false, false, false, false] (by kernel_rfl) ?_
      simp only [Act.put, List.setIfInBounds_toArray, List.set_cons_zero, List.set_cons_succ]
      refine Held.wpAnyG_take (i := 3) (v := (.slice (some ⟨gn, 0, none⟩) N cn)) rfl (by kernel_rfl) (by kernel_rfl) (by kernel_rfl) (fun _ _ _ h => h) HSS.out (by first | (with_reducible rfl) | (simp [Region.wanted, yielded, Act.put]; done) | rfl) (fun W hs => by have hc := HB5.out W hs b 3 _ HC35.out.1; go_simp) (some 19) rfl #[true, true, true, true, false, false, false, false, false, false, false, false, false] (by kernel_rfl) ?_
      simp only [Act.put, List.setIfInBounds_toArray, List.set_cons_zero, List.set_cons_succ]
      refine Held.wpAnyG_take (i := 4) (v := (.pointer (some ⟨b, 0, none⟩))) rfl (by kernel_rfl) (by kernel_rfl) (by kernel_rfl) (fun _ _ _ h => h) HSS.out (by first | (with_reducible rfl) | (simp [Region.wanted, yielded, Act.put]; done) | rfl) (fun W h => by go_simp) (some 20) rfl #[true, true, true, true, true, false, false, false, false, false, false, false, false] (by kernel_rfl) ?_
      simp only [Act.put, List.setIfInBounds_toArray, List.set_cons_zero, List.set_cons_succ]
      refine Held.wpAnyG_take (i := 5) (v := (.pointer (some ⟨b, 0, none⟩))) rfl (by kernel_rfl) (by kernel_rfl) (by kernel_rfl) (fun _ _ _ h => h) HSS.out (by first | (with_reducible rfl) | (simp [Region.wanted, yielded, Act.put]; done) | rfl) (fun W hs => by go_simp) (some 21) rfl #[true, true, true, true, true, true, false, false, false, false, false, false, false] (by kernel_rfl) ?_
      simp only [Act.put, List.setIfInBounds_toArray, List.set_cons_zero, List.set_cons_succ]
      refine Held.wpAnyG_take (i := 6) (v := (.pointer (some ⟨b, 5, none⟩))) rfl (by kernel_rfl) (by kernel_rfl) (by kernel_rfl) (fun _ _ _ h => h) HSS.out (by first | (with_reducible rfl) | (simp [Region.wanted, yielded, Act.put]; done) | rfl) (fun W hs => by go_simp) (some 22) rfl #[true, true, true, true, true, true, true, false, false, false, false, false, false] (by kernel_rfl) ?_
      simp only [Act.put, List.setIfInBounds_toArray, List.set_cons_zero, List.set_cons_succ]
      refine Held.wpAnyG_take (i := 7) (v := (.int .i64 (n : Int))) rfl (by kernel_rfl) (by kernel_rfl) (by kernel_rfl) (fun _ _ _ h => h) HSS.out (by first | (with_reducible rfl) | (simp [Region.wanted, yielded, Act.put]; done) | rfl) (fun W hs => by have hc := HB5.out W hs b 5 _ HC35.out.2; go_simp) (some 23) rfl #[true, true, true, true, true, true, true, true, false, false, false, false, false] (by kernel_rfl) ?_
      simp only [Act.put, List.setIfInBounds_toArray, List.set_cons_zero, List.set_cons_succ]
      refine Held.wpAnyG_take (i := 8) (v := (.pointer (some ⟨gn, n * 38, none⟩))) rfl (by kernel_rfl) (by kernel_rfl) (by kernel_rfl) (fun _ _ _ h => h) HSS.out (by first | (with_reducible rfl) | (simp [Region.wanted, yielded, Act.put]; done) | rfl) (fun W hs => by go_simp) (some 24) rfl #[true, true, true, true, true, true, true, true, true, false, false, false, false] (by kernel_rfl) ?_
      simp only [Act.put, List.setIfInBounds_toArray, List.set_cons_zero, List.set_cons_succ]
      refine Held.wpAnyG_take (i := 9) (v := (.pointer (some ⟨gn, n * 38 + 2, none⟩))) rfl (by kernel_rfl) (by kernel_rfl) (by kernel_rfl) (fun _ _ _ h => h) HSS.out (by first | (with_reducible rfl) | (simp [Region.wanted, yielded, Act.put]; done) | rfl) (fun W hs => by go_simp) (some 25) rfl #[true, true, true, true, true, true, true, true, true, true, false, false, false] (by kernel_rfl) ?_
      simp only [Act.put, List.setIfInBounds_toArray, List.set_cons_zero, List.set_cons_succ]
      refine Held.wpAnyG_take (i := 10) (v := (kv x.ky)) rfl (by kernel_rfl) (by kernel_rfl) (by kernel_rfl) (fun _ _ _ h => h) HSS.out (by first | (with_reducible rfl) | (simp [Region.wanted, yielded, Act.put]; done) | rfl) (fun W hs => Held.run_load_of 29 (.tmp 25) rfl ⟨gn, n * 38 + 2, none⟩ rfl (HLB.out W hs)) (some 26) rfl #[true, true, true, true, true, true, true, true, true, true, true, false, false] (by kernel_rfl) ?_
      simp only [Act.put, List.setIfInBounds_toArray, List.set_cons_zero, List.set_cons_succ]
      refine Held.wpAnyG_one 11 (by kernel_rfl) rfl #[true, true, true, true, true, true, true, true, true, true, true, true, false] (by kernel_rfl) (fun K hK => ?_)
      go_wp2_with fail
      have HSA := Aside0.mk (show Below w2.heap.size w2 (w2.alloc (.cells (encK kz).toArray 29)).drew from below_drew (below_alloc (Below.refl _ _) _))
      clear HSS
      have HSS := HSA
      clear HSA
      refine hK _ _ HSS.out ?_
      clear hK K
      refine Held.wpAnyG_last 12 (by kernel_rfl) rfl (by kernel_rfl) (by kernel_rfl) ?_
      go_upto_region 6 with fail
      obtain ⟨w5, hw5⟩ : ∃ w5, w5 = (w2.alloc (.cells (encK x.ky).toArray 29)).drew := ⟨_, rfl⟩
      have HB6 := Aside0.mk (show Below w2.heap.size w2 w5 by rw [hw5]; exact below_drew (below_alloc (Below.refl _ _) _))
      have HT5 := Aside0.mk (HT2.out.below HB6.out)
      have HK5 := Aside0.mk (HK2.out.trans (Keep.of_below (O := O) HB6.out) (fun k hk => .inl hk))
      have HG5 := Aside0.mk ((HB6.out.block g (blk_lt HG2.out)).trans HG2.out)
      have HH5 := Aside0.mk (show w5.heap[w2.heap.size]? = some (.cells (encK x.ky).toArray 29 (0, 0)) by rw [hw5]; exact blk_new w2 _)
      have HGL := Aside0.mk (blk_lt HG2.out)
      have HLT2 := Aside0.mk HT2.out.lt
      obtain ⟨g2, hg2⟩ : ∃ g2, g2 = w2.heap.size := ⟨_, rfl⟩
      rw [← hw5, ← hg2]
      rw [← hg2] at HH5 HGL HLT2
      have hc5 := HT5.out.cell 5
      simp [HF.out] at hc5
      clear hss HSS HLB HC35 HB5 hg2 hw5 HB6 hlen
      go_wp2_with fail
      (with_reducible refine (remove_calls HREM.out O b _ _ _ w5 (by rw [HNN.out] at HT5; exact HT5.out)).mono ?_)
      rintro en w6 ⟨rfl, O2, ⟨vf2, hT2⟩, hk2, ho2⟩
      have HG6 := Aside0.mk (hk2.blk HG5.out (fun h => HN1.out g h rfl))
      have HH6 := Aside0.mk (hk2.blk HH5.out (fun h => by have h1 := HLT2.out _ h; omega))
      have HO6 := Aside0.mk (show ∀ k, O2 k → O k ∨ w.heap.size ≤ k from fun k hk => by
        rcases ho2 k hk with h | h
        · exact HO1.out k h
        · exact .inr (Nat.le_trans HK5.out.below.size h))
      have HN6 := Aside0.mk (show ∀ k, O2 k → k ≠ g from fun k hk => by
        rcases ho2 k hk with h | h
        · exact HN1.out k h
        · have h1 := blk_lt HG5.out
          omega)
      have HT6 := Aside0.mk hT2
      have HK6 := Aside0.mk (HK5.out.trans hk2 HO1.out)
      clear hT2 hk2 ho2 HT5 HK5 HG5 HH5 HT2 hc5
      go_wp2_with (first | (refine wpList_load_of rfl 29 (.tmp 6) rfl ⟨g2, 0, none⟩ rfl (box_key H34.out HH6.out) ?_) | (refine wpList_store_row rfl 29 (.tmp 4) (.tmp 33) rfl g _ rfl rfl 29 _ HG6.out (infoK1.trans (by rw [encA34 H34.out])) (by rw [encA34 H34.out]; rfl) (encKA_one _) ?_))
      have h3 := setRow_heap w6 g _ (encK x.ky).toArray 29 (0, 0) HG6.out
      refine bodyPost_ret (results_cell_tmp rfl _ _ g rfl (box_key H34.out h3) rfl) rfl ⟨rfl, O2, ⟨_, HT6.out.row (fun h => HN6.out g h rfl) _⟩, HK6.out.row (by rw [HG.out]; exact Nat.le_refl _) _, HO6.out⟩
  · have hd := decide_eq_false hc
    have HW := Aside0.mk hw
    clear hc hw
    go_enter Try.func43, Try.ntmps43
    go_wp2_with fail
    rw [← hg, ← HW0.out]
    clear hg
    (with_reducible refine (room_calls O b T vc vn vf w0 HT0.out).mono ?_)
    rintro en wa ⟨rfl, hb⟩
    rw [hd]
    have HTa := Aside0.mk (HT0.out.below hb)
    have HKa := Aside0.mk ((Keep.of_below (O := O) HB0.out).trans (Keep.of_below (O := O) hb) (fun k hk => .inl hk))
    have HGa := Aside0.mk ((hb.block g (blk_lt HG0.out)).trans HG0.out)
    clear hb HT0 HG0 HW0
    go_wp2_with fail
    (with_reducible refine (sweep_calls now O b T vc vn vf wa HTa.out fu T1 cnt HW.out).mono ?_)
    rintro en w1 ⟨rfl, O1, ⟨vf1, hT1⟩, hk1, ho1⟩
    have HT1 := Aside0.mk hT1
    have HK1 := Aside0.mk (HKa.out.trans hk1 (fun k hk => .inl hk))
    have HG1 := Aside0.mk (hk1.blk HGa.out (fun h => HN0.out g h rfl))
    have HO1 := Aside0.mk (show ∀ k, O1 k → O k ∨ w.heap.size ≤ k from fun k hk => (ho1 k hk).imp id (fun h => Nat.le_trans HKa.out.below.size h))
    have HN1 := Aside0.mk (show ∀ k, O1 k → k ≠ g from fun k hk => by
      have hlt := blk_lt HGa.out
      rcases ho1 k hk with h | h
      · exact HN0.out k h
      · omega)
    clear hT1 hk1 ho1 HTa HKa HGa HN0
    go_wp2_with fail
    (with_reducible refine (room_calls O1 b T1 vc vn vf1 w1 HT1.out).mono ?_)
    rintro en w2 ⟨rfl, hb2⟩
    have HT2 := Aside0.mk (HT1.out.below hb2)
    have HK2 := Aside0.mk (HK1.out.trans (Keep.of_below (O := O) hb2) (fun k hk => .inl hk))
    have HG2 := Aside0.mk ((hb2.block g (blk_lt HG1.out)).trans HG1.out)
    clear hb2 HT1 HK1 HG1
    rcases HM.out with ⟨h1, rfl, rfl, rfl⟩ | ⟨h1, n, x, hf, hx, h34, hrem, rfl, rfl⟩
    · have hd1 := decide_eq_true h1
      rw [hd1]
      clear h1
      go_wp2_with (first | (refine Fl.wpList_build_of rfl 29 rfl (buildK _) ?_) | (refine wpList_store_row rfl 29 (.tmp 4) (.tmp 15) rfl g _ rfl rfl 29 _ HG2.out (by kernel_rfl) rfl (by kernel_rfl) ?_))
      have h3 := setRow_heap w2 g _ (encK kz).toArray 29 (0, 0) HG2.out
      refine bodyPost_ret (results_cell_tmp rfl _ _ g rfl (box_key rfl h3) rfl) rfl ⟨rfl, O1, ⟨_, HT2.out.row (fun h => HN1.out g h rfl) _⟩, HK2.out.row (by rw [HG.out]; exact Nat.le_refl _) _, HO1.out⟩
    · have hd1 : decide (T1.count < T1.most) = false := decide_eq_false (by omega)
      rw [hd1]
      clear h1
      have hnl := (List.getElem?_eq_some_iff.1 hx).1
      obtain ⟨gn, cn, hvn⟩ := HT2.out.vnForm (by omega)
      subst hvn
      have hc3 := HT2.out.cell 3
      have hc5 := HT2.out.cell 5
      simp [hf] at hc3 hc5
      obtain ⟨N, hN⟩ : ∃ N, N = T1.nodes.length := ⟨_, rfl⟩
      rw [← hN] at hc3 hnl HT2
      have e1 : ((0 : Int) ≤ (n : Int)) = True := eq_true (by omega)
      have e2 : ((n : Int) < (N : Int)) = True := eq_true (by omega)
      have hss := store_newD (P := Try.prog) (W := w2) rfl (encK kz) (encK x.ky) 29 (by rw [encK_length, encK_length, h34]; rfl) (encK_one _)
      have hlen : (encK x.ky).length = 34 := by rw [encK_length, h34]
      have HF := Aside0.mk hf
      have HREM := Aside0.mk hrem
      have H34 := Aside0.mk h34
      have HNN := Aside0.mk hN
      have HX := Aside0.mk hx
      clear hx h34 hrem hnl hf hN
      have HB5 := Aside0.mk (fun (W2 : World) (hb : Below w2.heap.size w2 W2) (g' i : Nat) (v : Value) (h : w2.cell? ⟨g', i, none⟩ = some v) => cell_below h hb)
      have HLB := Aside0.mk (fun (W2 : World) (hb : Below w2.heap.size w2 W2) => node_key ((HT2.out.below hb).nd HX.out))
      have HC35 := Aside0.mk (And.intro hc3 hc5)
      have HSS := Aside0.mk (below_drew (Below.refl w2.heap.size w2))
      clear hc3 hc5
      go_wp2_with fail
      refine Held.wp_region_G (S := (fun W : World => Below w2.heap.size w2 W)) (by kernel_rfl) ?_
      change Held.wpAnyG _ _ _ _ _ 13 _ _ _
      refine Held.wpAnyG_take (i := 0) (v := (.pointer (some ⟨b, 0, none⟩))) rfl (by kernel_rfl) (by kernel_rfl) (by kernel_rfl) (fun _ _ _ h => h) HSS.out (by first | (with_reducible rfl) | (simp [Region.wanted, yielded, Act.put]; done) | rfl) (fun W h => by go_simp) (some 16) rfl #[true, false, false, false, false, false, false, false, false, false, false, false, false] (by kernel_rfl) ?_
      simp only [Act.put, List.setIfInBounds_toArray, List.set_cons_zero, List.set_cons_succ]
      refine Held.wpAnyG_take (i := 1) (v := (.pointer (some ⟨b, 0, none⟩))) rfl (by kernel_rfl) (by kernel_rfl) (by kernel_rfl) (fun _ _ _ h => h) HSS.out (by first | (with_reducible rfl) | (simp [Region.wanted, yielded, Act.put]; done) | rfl) (fun W hs => by go_simp) (some 17) rfl #[true, true, false, false, false, false, false, false, false, false, false, false, false] (by kernel_rfl) ?_
      simp only [Act.put, List.setIfInBounds_toArray, List.set_cons_zero, List.set_cons_succ]
      refine Held.wpAnyG_take (i := 2) (v := (.pointer (some ⟨b, 3, none⟩))) rfl (by kernel_rfl) (by kernel_rfl) (by kernel_rfl) (fun _ _ _ h => h) HSS.out (by first | (with_reducible rfl) | (simp [Region.wanted, yielded, Act.put]; done) | rfl) (fun W hs => by go_simp) (some 18) rfl #[true, true, true, false, false, false, false, false, false, false, false, false, false] (by kernel_rfl) ?_
      simp only [Act.put, List.setIfInBounds_toArray, List.set_cons_zero, List.set_cons_succ]
      refine Held.wpAnyG_take (i := 3) (v := (.slice (some ⟨gn, 0, none⟩) N cn)) rfl (by kernel_rfl) (by kernel_rfl) (by kernel_rfl) (fun _ _ _ h => h) HSS.out (by first | (with_reducible rfl) | (simp [Region.wanted, yielded, Act.put]; done) | rfl) (fun W hs => by have hc := HB5.out W hs b 3 _ HC35.out.1; go_simp) (some 19) rfl #[true, true, true, true, false, false, false, false, false, false, false, false, false] (by kernel_rfl) ?_
      simp only [Act.put, List.setIfInBounds_toArray, List.set_cons_zero, List.set_cons_succ]
      refine Held.wpAnyG_take (i := 4) (v := (.pointer (some ⟨b, 0, none⟩))) rfl (by kernel_rfl) (by kernel_rfl) (by kernel_rfl) (fun _ _ _ h => h) HSS.out (by first | (with_reducible rfl) | (simp [Region.wanted, yielded, Act.put]; done) | rfl) (fun W h => by go_simp) (some 20) rfl #[true, true, true, true, true, false, false, false, false, false, false, false, false] (by kernel_rfl) ?_
      simp only [Act.put, List.setIfInBounds_toArray, List.set_cons_zero, List.set_cons_succ]
      refine Held.wpAnyG_take (i := 5) (v := (.pointer (some ⟨b, 0, none⟩))) rfl (by kernel_rfl) (by kernel_rfl) (by kernel_rfl) (fun _ _ _ h => h) HSS.out (by first | (with_reducible rfl) | (simp [Region.wanted, yielded, Act.put]; done) | rfl) (fun W hs => by go_simp) (some 21) rfl #[true, true, true, true, true, true, false, false, false, false, false, false, false] (by kernel_rfl) ?_
      simp only [Act.put, List.setIfInBounds_toArray, List.set_cons_zero, List.set_cons_succ]
      refine Held.wpAnyG_take (i := 6) (v := (.pointer (some ⟨b, 5, none⟩))) rfl (by kernel_rfl) (by kernel_rfl) (by kernel_rfl) (fun _ _ _ h => h) HSS.out (by first | (with_reducible rfl) | (simp [Region.wanted, yielded, Act.put]; done) | rfl) (fun W hs => by go_simp) (some 22) rfl #[true, true, true, true, true, true, true, false, false, false, false, false, false] (by kernel_rfl) ?_
      simp only [Act.put, List.setIfInBounds_toArray, List.set_cons_zero, List.set_cons_succ]
      refine Held.wpAnyG_take (i := 7) (v := (.int .i64 (n : Int))) rfl (by kernel_rfl) (by kernel_rfl) (by kernel_rfl) (fun _ _ _ h => h) HSS.out (by first | (with_reducible rfl) | (simp [Region.wanted, yielded, Act.put]; done) | rfl) (fun W hs => by have hc := HB5.out W hs b 5 _ HC35.out.2; go_simp) (some 23) rfl #[true, true, true, true, true, true, true, true, false, false, false, false, false] (by kernel_rfl) ?_
      simp only [Act.put, List.setIfInBounds_toArray, List.set_cons_zero, List.set_cons_succ]
      refine Held.wpAnyG_take (i := 8) (v := (.pointer (some ⟨gn, n * 38, none⟩))) rfl (by kernel_rfl) (by kernel_rfl) (by kernel_rfl) (fun _ _ _ h => h) HSS.out (by first | (with_reducible rfl) | (simp [Region.wanted, yielded, Act.put]; done) | rfl) (fun W hs => by go_simp) (some 24) rfl #[true, true, true, true, true, true, true, true, true, false, false, false, false] (by kernel_rfl) ?_
      simp only [Act.put, List.setIfInBounds_toArray, List.set_cons_zero, List.set_cons_succ]
      refine Held.wpAnyG_take (i := 9) (v := (.pointer (some ⟨gn, n * 38 + 2, none⟩))) rfl (by kernel_rfl) (by kernel_rfl) (by kernel_rfl) (fun _ _ _ h => h) HSS.out (by first | (with_reducible rfl) | (simp [Region.wanted, yielded, Act.put]; done) | rfl) (fun W hs => by go_simp) (some 25) rfl #[true, true, true, true, true, true, true, true, true, true, false, false, false] (by kernel_rfl) ?_
      simp only [Act.put, List.setIfInBounds_toArray, List.set_cons_zero, List.set_cons_succ]
      refine Held.wpAnyG_take (i := 10) (v := (kv x.ky)) rfl (by kernel_rfl) (by kernel_rfl) (by kernel_rfl) (fun _ _ _ h => h) HSS.out (by first | (with_reducible rfl) | (simp [Region.wanted, yielded, Act.put]; done) | rfl) (fun W hs => Held.run_load_of 29 (.tmp 25) rfl ⟨gn, n * 38 + 2, none⟩ rfl (HLB.out W hs)) (some 26) rfl #[true, true, true, true, true, true, true, true, true, true, true, false, false] (by kernel_rfl) ?_
      simp only [Act.put, List.setIfInBounds_toArray, List.set_cons_zero, List.set_cons_succ]
      refine Held.wpAnyG_one 11 (by kernel_rfl) rfl #[true, true, true, true, true, true, true, true, true, true, true, true, false] (by kernel_rfl) (fun K hK => ?_)
      go_wp2_with fail
      have HSA := Aside0.mk (show Below w2.heap.size w2 (w2.alloc (.cells (encK kz).toArray 29)).drew from below_drew (below_alloc (Below.refl _ _) _))
      clear HSS
      have HSS := HSA
      clear HSA
      refine hK _ _ HSS.out ?_
      clear hK K
      refine Held.wpAnyG_last 12 (by kernel_rfl) rfl (by kernel_rfl) (by kernel_rfl) ?_
      go_upto_region 6 with fail
      obtain ⟨w5, hw5⟩ : ∃ w5, w5 = (w2.alloc (.cells (encK x.ky).toArray 29)).drew := ⟨_, rfl⟩
      have HB6 := Aside0.mk (show Below w2.heap.size w2 w5 by rw [hw5]; exact below_drew (below_alloc (Below.refl _ _) _))
      have HT5 := Aside0.mk (HT2.out.below HB6.out)
      have HK5 := Aside0.mk (HK2.out.trans (Keep.of_below (O := O) HB6.out) (fun k hk => .inl hk))
      have HG5 := Aside0.mk ((HB6.out.block g (blk_lt HG2.out)).trans HG2.out)
      have HH5 := Aside0.mk (show w5.heap[w2.heap.size]? = some (.cells (encK x.ky).toArray 29 (0, 0)) by rw [hw5]; exact blk_new w2 _)
      have HGL := Aside0.mk (blk_lt HG2.out)
      have HLT2 := Aside0.mk HT2.out.lt
      obtain ⟨g2, hg2⟩ : ∃ g2, g2 = w2.heap.size := ⟨_, rfl⟩
      rw [← hw5, ← hg2]
      rw [← hg2] at HH5 HGL HLT2
      have hc5 := HT5.out.cell 5
      simp [HF.out] at hc5
      clear hss HSS HLB HC35 HB5 hg2 hw5 HB6 hlen
      go_wp2_with fail
      (with_reducible refine (remove_calls HREM.out O1 b _ _ _ w5 (by rw [HNN.out] at HT5; exact HT5.out)).mono ?_)
      rintro en w6 ⟨rfl, O2, ⟨vf2, hT2⟩, hk2, ho2⟩
      have HG6 := Aside0.mk (hk2.blk HG5.out (fun h => HN1.out g h rfl))
      have HH6 := Aside0.mk (hk2.blk HH5.out (fun h => by have h1 := HLT2.out _ h; omega))
      have HO6 := Aside0.mk (show ∀ k, O2 k → O k ∨ w.heap.size ≤ k from fun k hk => by
        rcases ho2 k hk with h | h
        · exact HO1.out k h
        · exact .inr (Nat.le_trans HK5.out.below.size h))
      have HN6 := Aside0.mk (show ∀ k, O2 k → k ≠ g from fun k hk => by
        rcases ho2 k hk with h | h
        · exact HN1.out k h
        · have h1 := blk_lt HG5.out
          omega)
      have HT6 := Aside0.mk hT2
      have HK6 := Aside0.mk (HK5.out.trans hk2 HO1.out)
      clear hT2 hk2 ho2 HT5 HK5 HG5 HH5 HT2 hc5
      go_wp2_with (first | (refine wpList_load_of rfl 29 (.tmp 6) rfl ⟨g2, 0, none⟩ rfl (box_key H34.out HH6.out) ?_) | (refine wpList_store_row rfl 29 (.tmp 4) (.tmp 33) rfl g _ rfl rfl 29 _ HG6.out (infoK1.trans (by rw [encA34 H34.out])) (by rw [encA34 H34.out]; rfl) (encKA_one _) ?_))
      have h3 := setRow_heap w6 g _ (encK x.ky).toArray 29 (0, 0) HG6.out
      refine bodyPost_ret (results_cell_tmp rfl _ _ g rfl (box_key H34.out h3) rfl) rfl ⟨rfl, O2, ⟨_, HT6.out.row (fun h => HN6.out g h rfl) _⟩, HK6.out.row (by rw [HG.out]; exact Nat.le_refl _) _, HO6.out⟩
end Go.Proofs.Ytikpgmajiafhgaa.Fl
/- flow: a node written whole; a walk's state. Written by wip/gen/flr.py. -/
namespace Go.Proofs.Ytikpgmajiafhgaa.Fl
open Go.RowKit Go.Proofs.YtikpgmajiafhgaaW.PrintWords Go.Proofs.YtikpgmajiafhgaaW.PrintLast Go.Proofs.YtikpgmajiafhgaaW.PrintMore Go.Proofs.Ytikpgmajiafhgaa.X Go.Proofs.Ytikpgmajiafhgaa.M Go.Proofs.Ytikpgmajiafhgaa.Bv Go.Proofs.Ytikpgmajiafhgaa.PuLib Go.Proofs.Ytikpgmajiafhgaa.PuMix Go.Proofs.Ytikpgmajiafhgaa.PuCat
set_option linter.unusedVariables false
set_option linter.unusedSimpArgs false
section
variable {W : World} {O : Nat → Prop} {b : Nat} {T : Tb} {vc vn vf : Value}
theorem TabAt.putNd {g n cap : Nat} (h : TabAt W O b T vc (.slice (some ⟨g, 0, none⟩) n cap) vf) {j : Nat} {x : Nd} (hx : T.nodes[j]? = some x) (x' : Nd) (h34 : x'.ky.length = 34) :
    TabAt (W.setCells g (j * 38) (encN x')) O b { T with nodes := T.nodes.set j x' } vc (.slice (some ⟨g, 0, none⟩) n cap) vf ∧ Keep O W (W.setCells g (j * 38) (encN x')) := by
  have hg := h.vnOwn
  have hjl := (List.getElem?_eq_some_iff.1 hx).1
  have hnd := h.nd hx
  have hlen := encN_length x hnd.1
  have hlen' := encN_length x' h34
  have hseg : (encN x).take 0 ++ encN x' ++ (encN x).drop (0 + (encN x').length) = encN x' := by
    rw [List.take_zero, List.nil_append, List.drop_eq_nil_of_le (by omega), List.append_nil]
  have h1 := Kd.R_seg h.rn (j : Int) (by omega) (by rw [hg.2.2]; omega) (c := encN x) (seg := encN x') (j := 0) (by rw [hlen]; rfl) (fun m v hv => by rw [Int.toNat_natCast]; exact hnd.2 m v hv) (show 0 + (encN x').length ≤ 38 by omega) (okp := fun _ => False) (x' := x') (show _ = encN x' ∧ _ from ⟨hseg, h34⟩) (fun k hk => hk.elim)
  rw [Int.toNat_natCast, Nat.add_zero] at h1
  obtain ⟨hR, hgr⟩ := h1
  change Kd.R kN 91 (W.setCells g (j * 38) (encN x')) 0 _ _ _ at hR
  change W.grownBy (W.setCells g (j * 38) (encN x')) (some g) at hgr
  obtain ⟨cs, hcN⟩ := h.vnBlk
  have hother : ∀ k, k < W.heap.size → k ≠ g → (W.setCells g (j * 38) (encN x')).heap[k]? = W.heap[k]? := fun k hk hn => hgr.block k hk (fun e => hn (by injection e))
  refine ⟨⟨(hother b (h.lt b h.ob) (fun e => hg.2.1 e.symm)).trans h.blk, h.ob, ?_, hR, ?_, fun k hk => Nat.lt_of_lt_of_le (h.lt k hk) hgr.size⟩, ⟨hgr.os, hgr.tape, hgr.output, hgr.size, fun k hk => absurd hk (Nat.not_lt_zero k)⟩, fun k hk hn => hother k hk (fun e => hn (by rw [e]; exact hg.1))⟩
  · have h2 := R_tight h.rc rfl (fun _ _ _ _ _ _ z => z)
    refine Kd.R_mono (R_same h2 (fun k hk => hother k (h.lt k hk.2.1) (fun e => ?_))) (fun k hk => hk.2)
    obtain ⟨c1, h3⟩ := typeC h hk.1
    exact nodeInt hcN h3 e.symm
  · have h2 := R_tight h.rf rfl (fun _ _ _ _ _ _ z => z)
    refine Kd.R_mono (R_same h2 (fun k hk => hother k (h.lt k hk.2.1) (fun e => ?_))) (fun k hk => hk.2)
    obtain ⟨c1, h3⟩ := typeF h hk.1
    exact nodeInt hcN h3 e.symm
theorem TabAt.thereNd {g n cap : Nat} (h : TabAt W O b T vc (.slice (some ⟨g, 0, none⟩) n cap) vf) {j : Nat} {x : Nd} (hx : T.nodes[j]? = some x) : W.there g (j * 38) 38 := fun i hi => by
  have hnd := h.nd hx
  have hlen := encN_length x hnd.1
  refine ⟨?_, h.frN _⟩
  rw [hnd.2 i ((encN x)[i]'(by omega)) (List.getElem?_eq_getElem (by omega))]
  rfl
end
/-- A walk's state: a table, what stays, boxes of keys beside it. -/
structure St (w : World) (O0 : Nat → Prop) (W : World) (O : Nat → Prop) (b : Nat) (T : Tb) (vc vn vf : Value) (l : List (Nat × List Int)) : Prop where
  t : TabAt W O b T vc vn vf
  k : Keep O0 w W
  o : ∀ k, O k → O0 k ∨ w.heap.size ≤ k
  x : ∀ p ∈ l, W.heap[p.1]? = some (.cells (encK p.2).toArray 29 (0, 0)) ∧ ¬ O p.1 ∧ w.heap.size ≤ p.1 ∧ p.2.length = 34
section
variable {w W W' : World} {O0 O O' : Nat → Prop} {b : Nat} {T T' : Tb} {vc vn vf vc' vn' vf' : Value} {l : List (Nat × List Int)}
theorem St.below (h : St w O0 W O b T vc vn vf l) (hb : Below W.heap.size W W') : St w O0 W' O b T vc vn vf l :=
  ⟨h.t.below hb, h.k.trans (Keep.of_below (O := O) hb) h.o, h.o, fun p hp => ⟨(hb.block p.1 (blk_lt (h.x p hp).1)).trans (h.x p hp).1, (h.x p hp).2⟩⟩
theorem St.step (h : St w O0 W O b T vc vn vf l) (hT : TabAt W' O' b T' vc' vn' vf') (hk : Keep O W W') (ho : ∀ k, O' k → O k ∨ W.heap.size ≤ k) : St w O0 W' O' b T' vc' vn' vf' l := by
  refine ⟨hT, h.k.trans hk h.o, fun k hk' => ?_, fun p hp => ⟨hk.blk (h.x p hp).1 (h.x p hp).2.1, fun hn => ?_, (h.x p hp).2.2⟩⟩
  · rcases ho k hk' with h1 | h1
    · exact h.o k h1
    · exact .inr (Nat.le_trans h.k.below.size h1)
  · rcases ho _ hn with h1 | h1
    · exact (h.x p hp).2.1 h1
    · have := blk_lt (h.x p hp).1
      omega
theorem St.same (h : St w O0 W O b T vc vn vf l) (hT : TabAt W' O b T' vc' vn' vf') (hk : Keep O W W') : St w O0 W' O b T' vc' vn' vf' l := h.step hT hk (fun k hk => .inl hk)
theorem St.box (h : St w O0 W O b T vc vn vf l) {g : Nat} {key : List Int} (hg : W.heap[g]? = some (.cells (encK key).toArray 29 (0, 0))) (hn : ¬ O g) (hl : w.heap.size ≤ g) (h34 : key.length = 34) : St w O0 W O b T vc vn vf ((g, key) :: l) :=
  ⟨h.t, h.k, h.o, fun p hp => by
    rcases List.mem_cons.1 hp with rfl | hp
    · exact ⟨hg, hn, hl, h34⟩
    · exact h.x p hp⟩
/-- The result's box is written: the end of a walk. -/
theorem St.fin (h : St w O0 W O b T vc vn vf l) {g : Nat} (hn : ¬ O g) (hl : w.heap.size ≤ g) (cs : Array Value) : ∃ O', (∃ vn' vf', TabAt (W.setRow g cs) O' b T vc vn' vf') ∧ Keep O0 w (W.setRow g cs) ∧ ∀ k, O' k → O0 k ∨ w.heap.size ≤ k :=
  ⟨O, ⟨vn, vf, h.t.row hn cs⟩, h.k.row hl cs, h.o⟩
end
end Go.Proofs.Ytikpgmajiafhgaa.Fl
/- flow: a node that is built of its parts. -/
namespace Go.Proofs.Ytikpgmajiafhgaa.Fl
open Go.RowKit Go.Proofs.YtikpgmajiafhgaaW.PrintWords Go.Proofs.YtikpgmajiafhgaaW.PrintLast Go.Proofs.YtikpgmajiafhgaaW.PrintMore Go.Proofs.Ytikpgmajiafhgaa.X Go.Proofs.Ytikpgmajiafhgaa.M Go.Proofs.Ytikpgmajiafhgaa.Bv Go.Proofs.Ytikpgmajiafhgaa.PuLib Go.Proofs.Ytikpgmajiafhgaa.PuMix Go.Proofs.Ytikpgmajiafhgaa.PuCat
set_option linter.unusedVariables false
set_option linter.unusedSimpArgs false
theorem buildE (bk la : Int) : ∀ w : World, (Instr.build 43 #[(0, .int .i64 bk), (1, .int .u64 la)]).run Try.prog w = .ok (.agg #[.int .i64 bk, .int .u64 la]) w := fun w => by kernel_rfl
theorem buildP (bk la : Int) (a0 a1 a2 a3 a4 a5 a6 a7 a8 a9 a10 a11 a12 a13 a14 a15 a16 a17 a18 a19 a20 a21 a22 a23 a24 a25 a26 a27 a28 a29 a30 a31 a32 a33 : Int) : ∀ w : World, (Instr.build 91 #[(0, .agg #[.int .i64 bk, .int .u64 la]), (1, kv [a0, a1, a2, a3, a4, a5, a6, a7, a8, a9, a10, a11, a12, a13, a14, a15, a16, a17, a18, a19, a20, a21, a22, a23, a24, a25, a26, a27, a28, a29, a30, a31, a32, a33])]).run Try.prog w = .ok (nv ⟨bk, la, [a0, a1, a2, a3, a4, a5, a6, a7, a8, a9, a10, a11, a12, a13, a14, a15, a16, a17, a18, a19, a20, a21, a22, a23, a24, a25, a26, a27, a28, a29, a30, a31, a32, a33], 0, 0⟩) w := fun w => by kernel_rfl
theorem buildQ (bk la : Int) (k : List Int) (h : k.length = 34) : ∀ w : World, (Instr.build 91 #[(0, .agg #[.int .i64 bk, .int .u64 la]), (1, kv k)]).run Try.prog w = .ok (nv ⟨bk, la, k, 0, 0⟩) w := by
  iterate 34 (rcases k with _ | ⟨_, k⟩; · simp at h)
  rcases k with _ | ⟨_, k⟩
  · exact buildP bk la _ _ _ _ _ _ _ _ _ _ _ _ _ _ _ _ _ _ _ _ _ _ _ _ _ _ _ _ _ _ _ _ _ _
  · simp at h
end Go.Proofs.Ytikpgmajiafhgaa.Fl
/- flow: Put. Written by wip/gen/flv.py. -/
namespace Go.Proofs.Ytikpgmajiafhgaa.Fl
open Go.RowKit Go.Proofs.YtikpgmajiafhgaaW.PrintWords Go.Proofs.YtikpgmajiafhgaaW.PrintLast Go.Proofs.YtikpgmajiafhgaaW.PrintMore Go.Proofs.Ytikpgmajiafhgaa.X Go.Proofs.Ytikpgmajiafhgaa.M Go.Proofs.Ytikpgmajiafhgaa.Bv Go.Proofs.Ytikpgmajiafhgaa.PuLib Go.Proofs.Ytikpgmajiafhgaa.PuMix Go.Proofs.Ytikpgmajiafhgaa.PuCat
set_option linter.unusedVariables false
set_option linter.unusedSimpArgs false
/-- Three results, the first of them in a box. -/
theorem results_cell_tmp2 {fn : Func} {p q r : Tmp} {ty : TypeId} (h : fn.results = #[.cell p ty, .tmp q, .tmp r]) (tmps : Array Value) (w : World) (g : Nat) {v u s : Value}
    (hp : tmps.getD p undef = .pointer (some ⟨g, 0, none⟩)) (hl : (loadVar ty ⟨g, 0, none⟩).run Try.prog w = .ok v w) (hq : tmps.getD q undef = u) (hr : tmps.getD r undef = s) : (results fn tmps).run Try.prog w = .ok (.tuple #[v, u, s]) w := by
  have hp' : tmps[p]?.getD undef = .pointer (some ⟨g, 0, none⟩) := by simpa using hp
  have hq' : tmps[q]?.getD undef = u := by simpa using hq
  have hr' : tmps[r]?.getD undef = s := by simpa using hr
  simp [results, h, hp', hq', hr', asAddr, hl]
theorem run_build_of2 {o : Oper} {a : Act} {w : World} (ty : TypeId) (i j : Nat) (x y : Operand) (ho : o.op = .build ty #[(i, x), (j, y)]) {u v r : Value} (hx : a.eval x = u) (hy : a.eval y = v) (h : (Instr.build ty #[(i, u), (j, v)]).run Try.prog w = .ok r w) : (execOp a.eval o).run Try.prog w = .ok (.value r) w := by
  unfold execOp
  simp [ho, hx, hy, h]
theorem infoN1 : (Try.prog.info? 91).map (·.size) = some 38 := by kernel_rfl
theorem encNA38 {x : Nd} (h : x.ky.length = 34) : (encN x).toArray.size = 38 := by simp [encN_length x h]
theorem link_count (T : Tb) (n : Nat) : (T.link n).count = T.count := by
  unfold Tb.link
  split <;> rfl
/-- What finds. -/
structure FindR (T : Tb) (k : List Int) (c : Nat) (th : Bool) : Prop where
  len0 : 0 < T.cells.length
  len : T.cells.length ≤ 1000000
  f : ∃ fu, findF T.cells T.nodes k fu (homeN k T.cells.length) = some (c, th)
theorem findR_calls {T : Tb} {k : List Int} {c : Nat} {th : Bool} (h : FindR T k c th) (hk : KeyOk k) (O : Nat → Prop) (b : Nat) (vc vn vf : Value) (w : World) (hT : TabAt w O b T vc vn vf) :
    Calls Try.prog 38 #[.pointer (some ⟨b, 0, none⟩), kv k] w fun e w' => e = .returned (.tuple #[.int .i64 (c : Int), .bool th]) ∧ Below w.heap.size w w' := by
  obtain ⟨fu, hf⟩ := h.f
  exact find_calls k hk O b T vc vn vf w hT h.len h.len0 _ c (homeN_eq k h.len0) th fu hf
/-- What puts, behind the tests. -/
structure PutT (T : Tb) (k : List Int) (bk now : Int) (T' : Tb) (key : List Int) (ev : Bool) : Prop where
  tail : ∃ Ta n Tb x Tc c th Td Te, MakeR T now Ta key ev ∧ key.length = 34 ∧ NodeR Ta n Tb ∧ Tb.nodes[n]? = some x ∧ Tc = { Tb with nodes := Tb.nodes.set n ⟨bk, now, k, 0, 0⟩ } ∧ FindR Tc k c th ∧ c < Tc.cells.length ∧
    Td = { Tc with cells := Tc.cells.set c (n : Int) } ∧ (Td.last = -1 ∨ ∃ (m : Nat) (y : Nd), Td.last = (m : Int) ∧ m ≠ n ∧ Td.nodes[m]? = some y) ∧ Te = Td.link n ∧ 0 ≤ Te.count ∧ Te.count ≤ 1000000 ∧ T' = { Te with count := Te.count + 1 }
set_option maxRecDepth 100000 in
set_option maxHeartbeats 4000000 in
theorem put_calls {T T' : Tb} {k : List Int} {bk now : Int} {key : List Int} {ev : Bool} (hk : KeyOk k) (hk34 : k.length = 34) (hb0 : 0 ≤ bk) (hb1 : bk < 64) {c0 : Nat} {th0 : Bool} (hf : FindR T k c0 th0)
    (hr : (th0 = false ∧ PutT T k bk now T' key ev) ∨ (th0 = true ∧ ∃ n x Td, DropR T c0 n Td ∧ T.nodes[n]? = some x ∧ overS x.la T.idle now = true ∧ PutT Td k bk now T' key ev)) (O : Nat → Prop) (b : Nat) (vc vn vf : Value) (w : World) (hT : TabAt w O b T vc vn vf) :
    Calls Try.prog 23 #[.pointer (some ⟨b, 0, none⟩), kv k, .int .i64 bk, .int .u64 now] w fun en w' => en = .returned (.tuple #[kv key, .bool ev, .int .i64 0]) ∧ ∃ O', (∃ vn' vf', TabAt w' O' b T' vc vn' vf') ∧ Keep O w w' ∧ ∀ k, O' k → O k ∨ w.heap.size ≤ k := by
  have HR := Aside0.mk hr
  obtain ⟨gk, hgk⟩ : ∃ gk, gk = w.heap.size := ⟨_, rfl⟩
  obtain ⟨w0, hw0⟩ : ∃ w0, w0 = (w.alloc (.cells (encK k).toArray 29)).alloc (.cells (encK kz).toArray 29) := ⟨_, rfl⟩
  have HB0 := Aside0.mk (show Below w.heap.size w w0 by rw [hw0]; exact below_alloc (below_alloc (Below.refl _ _) _) _)
  have hz1 : w0.heap[gk]? = some (.cells (encK k).toArray 29 (0, 0)) := by rw [hw0, hgk]; exact blk_alloc (blk_new w _) _
  have hz2 : w0.heap[gk + 1]? = some (.cells (encK kz).toArray 29 (0, 0)) := by
    rw [hw0, hgk]; have h := heap_alloc_new (w.alloc (.cells (encK k).toArray 29)) (.cells (encK kz).toArray 29); rw [World.size_alloc] at h; exact h
  have hno : ∀ j, gk ≤ j → ¬ O j := fun j hj h => by have := hT.lt j h; omega
  have HS0 := Aside0.mk ((((St.mk hT (Keep.refl O w) (fun k hk => .inl hk) (fun p hp => absurd hp List.not_mem_nil) : St w O w O b T vc vn vf [])).below HB0.out |>.box hz2 (hno _ (by omega)) (by omega) rfl) |>.box hz1 (hno _ (Nat.le_refl _)) (by omega) hk34)
  have HK := Aside0.mk hk
  have HF := Aside0.mk hf
  have HW0 := Aside0.mk hw0
  have HLK := Aside0.mk (show (loadVar 29 ⟨gk, 0, none⟩).run Try.prog w0 = .ok (kv k) w0 from box_key hk34 hz1)
  rw [hw0, hgk] at HLK
  have HG := Aside0.mk hgk
  have hz := zeroK
  have e1 : (bk < 0) = False := eq_false (by omega)
  have e2 : ((64 : Int) ≤ bk) = False := eq_false (by omega)
  have e3 : decide (bk < 0) = false := decide_eq_false (by omega)
  have e4 : decide ((64 : Int) ≤ bk) = false := decide_eq_false (by omega)
  clear hr hT hw0 hz1 hz2 hno hk hf hgk
  go_enter Try.func23, Try.ntmps23
  go_wp2_with (refine wpList_load_of rfl 29 (.tmp 5) rfl ⟨w.heap.size, 0, none⟩ rfl HLK.out ?_)
  rw [← HW0.out, ← HG.out]
  (with_reducible refine (findR_calls HF.out HK.out O b vc vn vf w0 HS0.out.t).mono ?_)
  rintro en w1 ⟨rfl, hb⟩
  have HS := Aside0.mk (HS0.out.below hb)
  have H34 := Aside0.mk hk34
  clear hb HS0 HLK HW0 HB0 hk34 HF
  rcases HR.out with ⟨rfl, hp⟩ | ⟨rfl, n0, x0, Td0, hdr, hx0, hov, hp⟩
  · have HP := Aside0.mk hp
    clear HR hp
    go_wp2_with fail
    obtain ⟨Ta, n, Tb, x, Tc, c, th, Td, Te, hmk, hky, hnd, hx, hTc, hfi, hcl, hTd, hlk, hTe, hc0, hc1, hT'⟩ := HP.out.tail
    have HND := Aside0.mk hnd
    have HX := Aside0.mk hx
    have HTC := Aside0.mk hTc
    have HFI := Aside0.mk hfi
    have HCL := Aside0.mk hcl
    have HTD := Aside0.mk hTd
    have HLKE := Aside0.mk hlk
    have HTE := Aside0.mk hTe
    have HCT := Aside0.mk (And.intro hc0 hc1)
    have HTL := Aside0.mk hT'
    have HKY := Aside0.mk hky
    clear hnd hx hTc hfi hcl hTd hlk hTe hc0 hc1 hT' HP
    (with_reducible refine (make_calls hmk O b vc vn vf w1 HS.out.t).mono ?_)
    rintro en w2 ⟨rfl, O2, ⟨vf2, hT2⟩, hk2, ho2⟩
    have HS2 := Aside0.mk (HS.out.step hT2 hk2 ho2)
    clear hT2 hk2 ho2 HS hmk
    have hss := store_new (P := Try.prog) (W := w2) rfl (encK kz) (encK key) 29 (by rw [encK_length, encK_length, hky]; rfl) (encK_one _)
    have hlen : (encK key).length = 34 := by rw [encK_length, hky]
    clear hky
    go_wp2_with fail
    obtain ⟨w3, hw3⟩ : ∃ w3, w3 = w2.alloc (.cells (encK key).toArray 29) := ⟨_, rfl⟩
    obtain ⟨gg, hgg⟩ : ∃ gg, gg = w2.heap.size := ⟨_, rfl⟩
    have HB3 := Aside0.mk (show Below w2.heap.size w2 w3 by rw [hw3]; exact below_alloc (Below.refl _ _) _)
    have HS3 := Aside0.mk ((HS2.out.below HB3.out).box (g := gg) (key := key) (by rw [hw3, hgg]; exact blk_new w2 _) (fun h => by have := HS2.out.t.lt _ h; omega) (by rw [hgg]; exact HS2.out.k.below.size) HKY.out)
    rw [← hw3, ← hgg]
    clear hss hlen HB3 hw3 hgg HS2
    (with_reducible refine (node_calls HND.out O2 b _ _ vf2 w3 HS3.out.t).mono ?_)
    rintro en w4 ⟨rfl, O4, ⟨vn4, vf4, hT4⟩, hk4, ho4⟩
    have HS4 := Aside0.mk (HS3.out.step hT4 hk4 ho4)
    clear hT4 hk4 ho4 HS3 HND
    obtain ⟨gn, cn, hvn⟩ := HS4.out.t.vnForm (by have := (List.getElem?_eq_some_iff.1 HX.out).1; omega)
    subst hvn
    have HRD := Aside0.mk (fun (W : World) (hs : Below w4.heap.size w4 W) => (HS4.out.below hs))
    have hnl := (List.getElem?_eq_some_iff.1 HX.out).1
    obtain ⟨N, hN⟩ : ∃ N, N = Tb.nodes.length := ⟨_, rfl⟩
    rw [← hN] at HS4 hnl HRD
    have e5 : ((0 : Int) ≤ (n : Int)) = True := eq_true (by omega)
    have e6 : ((n : Int) < (N : Int)) = True := eq_true (by omega)
    have HNN := Aside0.mk hN
    have HSS := Aside0.mk (below_drew (Below.refl w4.heap.size w4))
    clear hnl hN
    go_wp2_with fail
    refine Held.wp_region_G (S := (fun W : World => Below w4.heap.size w4 W)) (by kernel_rfl) ?_
    change Held.wpAnyG _ _ _ _ _ 12 _ _ _
    refine Held.wpAnyG_take (i := 0) (v := (.pointer (some ⟨b, 0, none⟩))) rfl (by kernel_rfl) (by kernel_rfl) (by kernel_rfl) (fun _ _ _ h => h) HSS.out (by first | (with_reducible rfl) | (simp [Region.wanted, yielded, Act.put]; done) | rfl) (fun W h => by go_simp) (some 55) rfl #[true, false, false, false, false, false, false, false, false, false, false, false] (by kernel_rfl) ?_
    simp only [Act.put, List.setIfInBounds_toArray, List.set_cons_zero, List.set_cons_succ]
    refine Held.wpAnyG_take (i := 1) (v := (.pointer (some ⟨b, 0, none⟩))) rfl (by kernel_rfl) (by kernel_rfl) (by kernel_rfl) (fun _ _ _ h => h) HSS.out (by first | (with_reducible rfl) | (simp [Region.wanted, yielded, Act.put]; done) | rfl) (fun W hs => by go_simp) (some 56) rfl #[true, true, false, false, false, false, false, false, false, false, false, false] (by kernel_rfl) ?_
    simp only [Act.put, List.setIfInBounds_toArray, List.set_cons_zero, List.set_cons_succ]
    refine Held.wpAnyG_take (i := 2) (v := (.pointer (some ⟨b, 3, none⟩))) rfl (by kernel_rfl) (by kernel_rfl) (by kernel_rfl) (fun _ _ _ h => h) HSS.out (by first | (with_reducible rfl) | (simp [Region.wanted, yielded, Act.put]; done) | rfl) (fun W hs => by go_simp) (some 57) rfl #[true, true, true, false, false, false, false, false, false, false, false, false] (by kernel_rfl) ?_
    simp only [Act.put, List.setIfInBounds_toArray, List.set_cons_zero, List.set_cons_succ]
    refine Held.wpAnyG_take (i := 3) (v := (.slice (some ⟨gn, 0, none⟩) N cn)) rfl (by kernel_rfl) (by kernel_rfl) (by kernel_rfl) (fun _ _ _ h => h) HSS.out (by first | (with_reducible rfl) | (simp [Region.wanted, yielded, Act.put]; done) | rfl) (fun W hs => by have hc := (HRD.out W hs).t.cell 3; simp at hc; go_simp) (some 58) rfl #[true, true, true, true, false, false, false, false, false, false, false, false] (by kernel_rfl) ?_
    simp only [Act.put, List.setIfInBounds_toArray, List.set_cons_zero, List.set_cons_succ]
    refine Held.wpAnyG_take (i := 4) (v := (.int .i64 (n : Int))) rfl (by kernel_rfl) (by kernel_rfl) (by kernel_rfl) (fun _ _ _ h => h) HSS.out (by first | (with_reducible rfl) | (simp [Region.wanted, yielded, Act.put]; done) | rfl) (fun W h => by go_simp) (some 59) rfl #[true, true, true, true, true, false, false, false, false, false, false, false] (by kernel_rfl) ?_
    simp only [Act.put, List.setIfInBounds_toArray, List.set_cons_zero, List.set_cons_succ]
    refine Held.wpAnyG_take (i := 5) (v := (.int .i64 bk)) rfl (by kernel_rfl) (by kernel_rfl) (by kernel_rfl) (fun _ _ _ h => h) HSS.out (by first | (with_reducible rfl) | (simp [Region.wanted, yielded, Act.put]; done) | rfl) (fun W h => by go_simp) (some 60) rfl #[true, true, true, true, true, true, false, false, false, false, false, false] (by kernel_rfl) ?_
    simp only [Act.put, List.setIfInBounds_toArray, List.set_cons_zero, List.set_cons_succ]
    refine Held.wpAnyG_take (i := 6) (v := (.int .u64 now)) rfl (by kernel_rfl) (by kernel_rfl) (by kernel_rfl) (fun _ _ _ h => h) HSS.out (by first | (with_reducible rfl) | (simp [Region.wanted, yielded, Act.put]; done) | rfl) (fun W h => by go_simp) (some 61) rfl #[true, true, true, true, true, true, true, false, false, false, false, false] (by kernel_rfl) ?_
    simp only [Act.put, List.setIfInBounds_toArray, List.set_cons_zero, List.set_cons_succ]
    refine Held.wpAnyG_take (i := 7) (v := (.agg #[.int .i64 bk, .int .u64 now])) rfl (by kernel_rfl) (by kernel_rfl) (by kernel_rfl) (fun _ _ _ h => h) HSS.out (by first | (with_reducible rfl) | (simp [Region.wanted, yielded, Act.put]; done) | rfl) (fun W hs => run_build_of2 43 0 1 (.tmp 60) (.tmp 61) rfl rfl rfl (buildE bk now W)) (some 62) rfl #[true, true, true, true, true, true, true, true, false, false, false, false] (by kernel_rfl) ?_
    simp only [Act.put, List.setIfInBounds_toArray, List.set_cons_zero, List.set_cons_succ]
    refine Held.wpAnyG_take (i := 8) (v := (kv k)) rfl (by kernel_rfl) (by kernel_rfl) (by kernel_rfl) (fun _ _ _ h => h) HSS.out (by first | (with_reducible rfl) | (simp [Region.wanted, yielded, Act.put]; done) | rfl) (fun W hs => Held.run_load_of 29 (.tmp 5) rfl ⟨gk, 0, none⟩ rfl (box_key H34.out ((HRD.out W hs).x (gk, k) (by simp)).1)) (some 63) rfl #[true, true, true, true, true, true, true, true, true, false, false, false] (by kernel_rfl) ?_
    simp only [Act.put, List.setIfInBounds_toArray, List.set_cons_zero, List.set_cons_succ]
    refine Held.wpAnyG_take (i := 9) (v := (nv ⟨bk, now, k, 0, 0⟩)) rfl (by kernel_rfl) (by kernel_rfl) (by kernel_rfl) (fun _ _ _ h => h) HSS.out (by first | (with_reducible rfl) | (simp [Region.wanted, yielded, Act.put]; done) | rfl) (fun W hs => run_build_of2 91 0 1 (.tmp 62) (.tmp 63) rfl rfl rfl (buildQ bk now k H34.out W)) (some 64) rfl #[true, true, true, true, true, true, true, true, true, true, false, false] (by kernel_rfl) ?_
    simp only [Act.put, List.setIfInBounds_toArray, List.set_cons_zero, List.set_cons_succ]
    refine Held.wpAnyG_take (i := 10) (v := (.pointer (some ⟨gn, n * 38, none⟩))) rfl (by kernel_rfl) (by kernel_rfl) (by kernel_rfl) (fun _ _ _ h => h) HSS.out (by first | (with_reducible rfl) | (simp [Region.wanted, yielded, Act.put]; done) | rfl) (fun W hs => by go_simp) (some 65) rfl #[true, true, true, true, true, true, true, true, true, true, true, false] (by kernel_rfl) ?_
    simp only [Act.put, List.setIfInBounds_toArray, List.set_cons_zero, List.set_cons_succ]
    refine Held.wpAnyG_last 11 (by kernel_rfl) rfl (by kernel_rfl) (by kernel_rfl) ?_
    go_upto_region 11 with (refine wpList_store_mid rfl 91 (.tmp 65) (.tmp 64) rfl gn (n * 38) (encN ⟨bk, now, k, 0, 0⟩).toArray rfl rfl (by rw [encNA38 H34.out]; exact (HRD.out _ HSS.out).t.thereNd HX.out) (infoN1.trans (by rw [encNA38 H34.out])) (all_oneCell_toArray (encN_one _)) ?_)
    obtain ⟨w5, hw5⟩ : ∃ w5, w5 = w4.drew.setCells gn (n * 38) (encN ⟨bk, now, k, 0, 0⟩) := ⟨_, rfl⟩
    have HS5 := Aside0.mk (show St w O w5 O4 b Tc vc (.slice (some ⟨gn, 0, none⟩) N cn) vf4 [(gg, key), (gk, k), (gk + 1, kz)] by
      have h1 := HRD.out _ HSS.out
      have h2 := h1.t.putNd HX.out ⟨bk, now, k, 0, 0⟩ H34.out
      rw [hw5, HTC.out]
      exact h1.same h2.1 h2.2)
    have HN5 := Aside0.mk (show Tc.nodes[n]? = some ⟨bk, now, k, 0, 0⟩ by
      rw [HTC.out]
      exact List.getElem?_set_self (List.getElem?_eq_some_iff.1 HX.out).1)
    rw [← hw5]
    clear hw5 HRD HSS HS4 HX HNN
    go_wp2_with (refine wpList_load_of rfl 29 (.tmp 5) rfl ⟨gk, 0, none⟩ rfl (box_key H34.out (HS5.out.x (gk, k) (by simp)).1) ?_)
    (with_reducible refine (findR_calls HFI.out HK.out O4 b _ _ _ w5 HS5.out.t).mono ?_)
    rintro en w6 ⟨rfl, hb6⟩
    have HS6 := Aside0.mk (HS5.out.below hb6)
    clear hb6 HS5
    obtain ⟨gc, cc, hvc⟩ := HS6.out.t.vcForm HFI.out.len0
    subst hvc
    have hc2 := HS6.out.t.cell 2
    simp at hc2
    have hcc := HS6.out.t.cl (List.getElem?_eq_getElem HCL.out)
    have hfc := HS6.out.t.frC c
    obtain ⟨L, hL⟩ : ∃ L, L = Tc.cells.length := ⟨_, rfl⟩
    have hcl := HCL.out
    rw [← hL] at hc2 hcl HS6
    have e7 : ((0 : Int) ≤ (c : Int)) = True := eq_true (by omega)
    have e8 : ((c : Int) < (L : Int)) = True := eq_true (by omega)
    have HLL := Aside0.mk hL
    clear hL hcl
    go_wp2_with fail
    obtain ⟨w7, hw7⟩ : ∃ w7, w7 = w6.setCell ⟨gc, c, none⟩ (.int .i64 (n : Int)) := ⟨_, rfl⟩
    have HS7 := Aside0.mk (show St w O w7 O4 b Td (.slice (some ⟨gc, 0, none⟩) L cc) (.slice (some ⟨gn, 0, none⟩) N cn) vf4 [(gg, key), (gk, k), (gk + 1, kz)] by
      rw [hw7, HTD.out]
      exact HS6.out.same (HS6.out.t.setCl c n) (Keep.put (p := ⟨gc, c, none⟩) HS6.out.t.vcOwn.1 _))
    rw [← hw7]
    clear hw7 HS6 hc2 hcc hfc
    (with_reducible refine (link_calls n O4 b Td _ _ _ w7 HS7.out.t ⟨bk, now, k, 0, 0⟩ (by rw [HTD.out]; exact HN5.out) HLKE.out).mono ?_)
    rintro en w8 ⟨rfl, hT8, hk8⟩
    have HS8 := Aside0.mk (HS7.out.same (show TabAt w8 O4 b Te _ _ _ by rw [HTE.out]; exact hT8) hk8)
    clear hT8 hk8 HS7
    have hc7 := HS8.out.t.cell 7
    simp at hc7
    have hf7 := HS8.out.t.fr 7
    have hw1 : wrap64 (Te.count + 1) = Te.count + 1 := w64_in _ (by have h1 := HCT.out; omega) (by have h1 := HCT.out; omega)
    go_upto_region 15 with fail
    obtain ⟨w9, hw9⟩ : ∃ w9, w9 = w8.setCell ⟨b, 7, none⟩ (.int .i64 (Te.count + 1)) := ⟨_, rfl⟩
    have HS9 := Aside0.mk (show St w O w9 O4 b T' (.slice (some ⟨gc, 0, none⟩) L cc) (.slice (some ⟨gn, 0, none⟩) N cn) vf4 [(gg, key), (gk, k), (gk + 1, kz)] by
      rw [hw9, HTL.out]
      exact HS8.out.same (HS8.out.t.setCount _) (Keep.put (p := ⟨b, 7, none⟩) HS8.out.t.ob _))
    rw [← hw9]
    have HBZ := Aside0.mk (HS9.out.x (gk + 1, kz) (by simp)).1
    clear hw9 HS8 hc7 hf7 hw1
    go_wp2_with (first | (refine wpList_load_of rfl 29 (.tmp 13) rfl ⟨gg, 0, none⟩ rfl (box_key HKY.out (HS9.out.x (gg, key) (by simp)).1) ?_) | (refine wpList_store_row rfl 29 (.tmp 8) (.tmp 89) rfl (gk + 1) _ rfl rfl 29 _ HBZ.out (infoK1.trans (by rw [encA34 HKY.out])) (by rw [encA34 HKY.out]; rfl) (encKA_one _) ?_))
    have h3 := setRow_heap w9 (gk + 1) _ (encK key).toArray 29 (0, 0) HBZ.out
    exact bodyPost_ret (results_cell_tmp2 rfl _ _ (gk + 1) rfl (box_key HKY.out h3) rfl rfl) rfl ⟨rfl, by rw [← HLL.out]; exact HS9.out.fin (HS9.out.x (gk + 1, kz) (by simp)).2.1 (HS9.out.x (gk + 1, kz) (by simp)).2.2.1 _⟩
  · have HP := Aside0.mk hp
    have HDR := Aside0.mk hdr
    have HOV := Aside0.mk hov
    obtain ⟨gc0, cc0, hvc0⟩ := HS.out.t.vcForm hdr.good.len0
    have hc2 := HS.out.t.cell 2
    simp [hvc0] at hc2
    have hts := HS.out.t
    rw [hvc0] at hts
    have hcc := hts.cl hdr.cell
    have HO := Aside0.mk (over_calls n0 now O b T vc vn vf w1 HS.out.t x0 hx0)
    have hcl := (List.getElem?_eq_some_iff.1 hdr.cell).1
    obtain ⟨L0, hL0⟩ : ∃ L0, L0 = T.cells.length := ⟨_, rfl⟩
    rw [← hL0] at hc2 hcl
    have e5 : ((0 : Int) ≤ (c0 : Int)) = True := eq_true (by omega)
    have e6 : ((c0 : Int) < (L0 : Int)) = True := eq_true (by omega)
    clear HR hp hdr hov hts hx0 hvc0 hcl hL0
    go_wp2_with fail
    (with_reducible refine HO.out.mono ?_)
    rintro en wa ⟨rfl, rfl⟩
    rw [HOV.out]
    clear HO hc2 hcc e5 e6
    go_wp2_with fail
    (with_reducible refine (dropR_calls HDR.out O b vc vn vf wa HS.out.t).mono ?_)
    rintro en wb ⟨rfl, O1, ⟨vf1, hT1⟩, hk1, ho1⟩
    have HSb := Aside0.mk (HS.out.step hT1 hk1 ho1)
    clear hT1 hk1 ho1 HS
    have HS := HSb
    clear HSb
    go_wp2_with fail
    obtain ⟨Ta, n, Tb, x, Tc, c, th, Td, Te, hmk, hky, hnd, hx, hTc, hfi, hcl, hTd, hlk, hTe, hc0, hc1, hT'⟩ := HP.out.tail
    have HND := Aside0.mk hnd
    have HX := Aside0.mk hx
    have HTC := Aside0.mk hTc
    have HFI := Aside0.mk hfi
    have HCL := Aside0.mk hcl
    have HTD := Aside0.mk hTd
    have HLKE := Aside0.mk hlk
    have HTE := Aside0.mk hTe
    have HCT := Aside0.mk (And.intro hc0 hc1)
    have HTL := Aside0.mk hT'
    have HKY := Aside0.mk hky
    clear hnd hx hTc hfi hcl hTd hlk hTe hc0 hc1 hT' HP
    (with_reducible refine (make_calls hmk O1 b vc vn vf1 wb HS.out.t).mono ?_)
    rintro en w2 ⟨rfl, O2, ⟨vf2, hT2⟩, hk2, ho2⟩
    have HS2 := Aside0.mk (HS.out.step hT2 hk2 ho2)
    clear hT2 hk2 ho2 HS hmk
    have hss := store_new (P := Try.prog) (W := w2) rfl (encK kz) (encK key) 29 (by rw [encK_length, encK_length, hky]; rfl) (encK_one _)
    have hlen : (encK key).length = 34 := by rw [encK_length, hky]
    clear hky
    go_wp2_with fail
    obtain ⟨w3, hw3⟩ : ∃ w3, w3 = w2.alloc (.cells (encK key).toArray 29) := ⟨_, rfl⟩
    obtain ⟨gg, hgg⟩ : ∃ gg, gg = w2.heap.size := ⟨_, rfl⟩
    have HB3 := Aside0.mk (show Below w2.heap.size w2 w3 by rw [hw3]; exact below_alloc (Below.refl _ _) _)
    have HS3 := Aside0.mk ((HS2.out.below HB3.out).box (g := gg) (key := key) (by rw [hw3, hgg]; exact blk_new w2 _) (fun h => by have := HS2.out.t.lt _ h; omega) (by rw [hgg]; exact HS2.out.k.below.size) HKY.out)
    rw [← hw3, ← hgg]
    clear hss hlen HB3 hw3 hgg HS2
    (with_reducible refine (node_calls HND.out O2 b _ _ vf2 w3 HS3.out.t).mono ?_)
    rintro en w4 ⟨rfl, O4, ⟨vn4, vf4, hT4⟩, hk4, ho4⟩
    have HS4 := Aside0.mk (HS3.out.step hT4 hk4 ho4)
    clear hT4 hk4 ho4 HS3 HND
    obtain ⟨gn, cn, hvn⟩ := HS4.out.t.vnForm (by have := (List.getElem?_eq_some_iff.1 HX.out).1; omega)
    subst hvn
    have HRD := Aside0.mk (fun (W : World) (hs : Below w4.heap.size w4 W) => (HS4.out.below hs))
    have hnl := (List.getElem?_eq_some_iff.1 HX.out).1
    obtain ⟨N, hN⟩ : ∃ N, N = Tb.nodes.length := ⟨_, rfl⟩
    rw [← hN] at HS4 hnl HRD
    have e5 : ((0 : Int) ≤ (n : Int)) = True := eq_true (by omega)
    have e6 : ((n : Int) < (N : Int)) = True := eq_true (by omega)
    have HNN := Aside0.mk hN
    have HSS := Aside0.mk (below_drew (Below.refl w4.heap.size w4))
    clear hnl hN
    go_wp2_with fail
    refine Held.wp_region_G (S := (fun W : World => Below w4.heap.size w4 W)) (by kernel_rfl) ?_
    change Held.wpAnyG _ _ _ _ _ 12 _ _ _
    refine Held.wpAnyG_take (i := 0) (v := (.pointer (some ⟨b, 0, none⟩))) rfl (by kernel_rfl) (by kernel_rfl) (by kernel_rfl) (fun _ _ _ h => h) HSS.out (by first | (with_reducible rfl) | (simp [Region.wanted, yielded, Act.put]; done) | rfl) (fun W h => by go_simp) (some 55) rfl #[true, false, false, false, false, false, false, false, false, false, false, false] (by kernel_rfl) ?_
    simp only [Act.put, List.setIfInBounds_toArray, List.set_cons_zero, List.set_cons_succ]
    refine Held.wpAnyG_take (i := 1) (v := (.pointer (some ⟨b, 0, none⟩))) rfl (by kernel_rfl) (by kernel_rfl) (by kernel_rfl) (fun _ _ _ h => h) HSS.out (by first | (with_reducible rfl) | (simp [Region.wanted, yielded, Act.put]; done) | rfl) (fun W hs => by go_simp) (some 56) rfl #[true, true, false, false, false, false, false, false, false, false, false, false] (by kernel_rfl) ?_
    simp only [Act.put, List.setIfInBounds_toArray, List.set_cons_zero, List.set_cons_succ]
    refine Held.wpAnyG_take (i := 2) (v := (.pointer (some ⟨b, 3, none⟩))) rfl (by kernel_rfl) (by kernel_rfl) (by kernel_rfl) (fun _ _ _ h => h) HSS.out (by first | (with_reducible rfl) | (simp [Region.wanted, yielded, Act.put]; done) | rfl) (fun W hs => by go_simp) (some 57) rfl #[true, true, true, false, false, false, false, false, false, false, false, false] (by kernel_rfl) ?_
    simp only [Act.put, List.setIfInBounds_toArray, List.set_cons_zero, List.set_cons_succ]
    refine Held.wpAnyG_take (i := 3) (v := (.slice (some ⟨gn, 0, none⟩) N cn)) rfl (by kernel_rfl) (by kernel_rfl) (by kernel_rfl) (fun _ _ _ h => h) HSS.out (by first | (with_reducible rfl) | (simp [Region.wanted, yielded, Act.put]; done) | rfl) (fun W hs => by have hc := (HRD.out W hs).t.cell 3; simp at hc; go_simp) (some 58) rfl #[true, true, true, true, false, false, false, false, false, false, false, false] (by kernel_rfl) ?_
    simp only [Act.put, List.setIfInBounds_toArray, List.set_cons_zero, List.set_cons_succ]
    refine Held.wpAnyG_take (i := 4) (v := (.int .i64 (n : Int))) rfl (by kernel_rfl) (by kernel_rfl) (by kernel_rfl) (fun _ _ _ h => h) HSS.out (by first | (with_reducible rfl) | (simp [Region.wanted, yielded, Act.put]; done) | rfl) (fun W h => by go_simp) (some 59) rfl #[true, true, true, true, true, false, false, false, false, false, false, false] (by kernel_rfl) ?_
    simp only [Act.put, List.setIfInBounds_toArray, List.set_cons_zero, List.set_cons_succ]
    refine Held.wpAnyG_take (i := 5) (v := (.int .i64 bk)) rfl (by kernel_rfl) (by kernel_rfl) (by kernel_rfl) (fun _ _ _ h => h) HSS.out (by first | (with_reducible rfl) | (simp [Region.wanted, yielded, Act.put]; done) | rfl) (fun W h => by go_simp) (some 60) rfl #[true, true, true, true, true, true, false, false, false, false, false, false] (by kernel_rfl) ?_
    simp only [Act.put, List.setIfInBounds_toArray, List.set_cons_zero, List.set_cons_succ]
    refine Held.wpAnyG_take (i := 6) (v := (.int .u64 now)) rfl (by kernel_rfl) (by kernel_rfl) (by kernel_rfl) (fun _ _ _ h => h) HSS.out (by first | (with_reducible rfl) | (simp [Region.wanted, yielded, Act.put]; done) | rfl) (fun W h => by go_simp) (some 61) rfl #[true, true, true, true, true, true, true, false, false, false, false, false] (by kernel_rfl) ?_
    simp only [Act.put, List.setIfInBounds_toArray, List.set_cons_zero, List.set_cons_succ]
    refine Held.wpAnyG_take (i := 7) (v := (.agg #[.int .i64 bk, .int .u64 now])) rfl (by kernel_rfl) (by kernel_rfl) (by kernel_rfl) (fun _ _ _ h => h) HSS.out (by first | (with_reducible rfl) | (simp [Region.wanted, yielded, Act.put]; done) | rfl) (fun W hs => run_build_of2 43 0 1 (.tmp 60) (.tmp 61) rfl rfl rfl (buildE bk now W)) (some 62) rfl #[true, true, true, true, true, true, true, true, false, false, false, false] (by kernel_rfl) ?_
    simp only [Act.put, List.setIfInBounds_toArray, List.set_cons_zero, List.set_cons_succ]
    refine Held.wpAnyG_take (i := 8) (v := (kv k)) rfl (by kernel_rfl) (by kernel_rfl) (by kernel_rfl) (fun _ _ _ h => h) HSS.out (by first | (with_reducible rfl) | (simp [Region.wanted, yielded, Act.put]; done) | rfl) (fun W hs => Held.run_load_of 29 (.tmp 5) rfl ⟨gk, 0, none⟩ rfl (box_key H34.out ((HRD.out W hs).x (gk, k) (by simp)).1)) (some 63) rfl #[true, true, true, true, true, true, true, true, true, false, false, false] (by kernel_rfl) ?_
    simp only [Act.put, List.setIfInBounds_toArray, List.set_cons_zero, List.set_cons_succ]
    refine Held.wpAnyG_take (i := 9) (v := (nv ⟨bk, now, k, 0, 0⟩)) rfl (by kernel_rfl) (by kernel_rfl) (by kernel_rfl) (fun _ _ _ h => h) HSS.out (by first | (with_reducible rfl) | (simp [Region.wanted, yielded, Act.put]; done) | rfl) (fun W hs => run_build_of2 91 0 1 (.tmp 62) (.tmp 63) rfl rfl rfl (buildQ bk now k H34.out W)) (some 64) rfl #[true, true, true, true, true, true, true, true, true, true, false, false] (by kernel_rfl) ?_
    simp only [Act.put, List.setIfInBounds_toArray, List.set_cons_zero, List.set_cons_succ]
    refine Held.wpAnyG_take (i := 10) (v := (.pointer (some ⟨gn, n * 38, none⟩))) rfl (by kernel_rfl) (by kernel_rfl) (by kernel_rfl) (fun _ _ _ h => h) HSS.out (by first | (with_reducible rfl) | (simp [Region.wanted, yielded, Act.put]; done) | rfl) (fun W hs => by go_simp) (some 65) rfl #[true, true, true, true, true, true, true, true, true, true, true, false] (by kernel_rfl) ?_
    simp only [Act.put, List.setIfInBounds_toArray, List.set_cons_zero, List.set_cons_succ]
    refine Held.wpAnyG_last 11 (by kernel_rfl) rfl (by kernel_rfl) (by kernel_rfl) ?_
    go_upto_region 11 with (refine wpList_store_mid rfl 91 (.tmp 65) (.tmp 64) rfl gn (n * 38) (encN ⟨bk, now, k, 0, 0⟩).toArray rfl rfl (by rw [encNA38 H34.out]; exact (HRD.out _ HSS.out).t.thereNd HX.out) (infoN1.trans (by rw [encNA38 H34.out])) (all_oneCell_toArray (encN_one _)) ?_)
    obtain ⟨w5, hw5⟩ : ∃ w5, w5 = w4.drew.setCells gn (n * 38) (encN ⟨bk, now, k, 0, 0⟩) := ⟨_, rfl⟩
    have HS5 := Aside0.mk (show St w O w5 O4 b Tc vc (.slice (some ⟨gn, 0, none⟩) N cn) vf4 [(gg, key), (gk, k), (gk + 1, kz)] by
      have h1 := HRD.out _ HSS.out
      have h2 := h1.t.putNd HX.out ⟨bk, now, k, 0, 0⟩ H34.out
      rw [hw5, HTC.out]
      exact h1.same h2.1 h2.2)
    have HN5 := Aside0.mk (show Tc.nodes[n]? = some ⟨bk, now, k, 0, 0⟩ by
      rw [HTC.out]
      exact List.getElem?_set_self (List.getElem?_eq_some_iff.1 HX.out).1)
    rw [← hw5]
    clear hw5 HRD HSS HS4 HX HNN
    go_wp2_with (refine wpList_load_of rfl 29 (.tmp 5) rfl ⟨gk, 0, none⟩ rfl (box_key H34.out (HS5.out.x (gk, k) (by simp)).1) ?_)
    (with_reducible refine (findR_calls HFI.out HK.out O4 b _ _ _ w5 HS5.out.t).mono ?_)
    rintro en w6 ⟨rfl, hb6⟩
    have HS6 := Aside0.mk (HS5.out.below hb6)
    clear hb6 HS5
    obtain ⟨gc, cc, hvc⟩ := HS6.out.t.vcForm HFI.out.len0
    subst hvc
    have hc2 := HS6.out.t.cell 2
    simp at hc2
    have hcc := HS6.out.t.cl (List.getElem?_eq_getElem HCL.out)
    have hfc := HS6.out.t.frC c
    obtain ⟨L, hL⟩ : ∃ L, L = Tc.cells.length := ⟨_, rfl⟩
    have hcl := HCL.out
    rw [← hL] at hc2 hcl HS6
    have e7 : ((0 : Int) ≤ (c : Int)) = True := eq_true (by omega)
    have e8 : ((c : Int) < (L : Int)) = True := eq_true (by omega)
    have HLL := Aside0.mk hL
    clear hL hcl
    go_wp2_with fail
    obtain ⟨w7, hw7⟩ : ∃ w7, w7 = w6.setCell ⟨gc, c, none⟩ (.int .i64 (n : Int)) := ⟨_, rfl⟩
    have HS7 := Aside0.mk (show St w O w7 O4 b Td (.slice (some ⟨gc, 0, none⟩) L cc) (.slice (some ⟨gn, 0, none⟩) N cn) vf4 [(gg, key), (gk, k), (gk + 1, kz)] by
      rw [hw7, HTD.out]
      exact HS6.out.same (HS6.out.t.setCl c n) (Keep.put (p := ⟨gc, c, none⟩) HS6.out.t.vcOwn.1 _))
    rw [← hw7]
    clear hw7 HS6 hc2 hcc hfc
    (with_reducible refine (link_calls n O4 b Td _ _ _ w7 HS7.out.t ⟨bk, now, k, 0, 0⟩ (by rw [HTD.out]; exact HN5.out) HLKE.out).mono ?_)
    rintro en w8 ⟨rfl, hT8, hk8⟩
    have HS8 := Aside0.mk (HS7.out.same (show TabAt w8 O4 b Te _ _ _ by rw [HTE.out]; exact hT8) hk8)
    clear hT8 hk8 HS7
    have hc7 := HS8.out.t.cell 7
    simp at hc7
    have hf7 := HS8.out.t.fr 7
    have hw1 : wrap64 (Te.count + 1) = Te.count + 1 := w64_in _ (by have h1 := HCT.out; omega) (by have h1 := HCT.out; omega)
    go_upto_region 15 with fail
    obtain ⟨w9, hw9⟩ : ∃ w9, w9 = w8.setCell ⟨b, 7, none⟩ (.int .i64 (Te.count + 1)) := ⟨_, rfl⟩
    have HS9 := Aside0.mk (show St w O w9 O4 b T' (.slice (some ⟨gc, 0, none⟩) L cc) (.slice (some ⟨gn, 0, none⟩) N cn) vf4 [(gg, key), (gk, k), (gk + 1, kz)] by
      rw [hw9, HTL.out]
      exact HS8.out.same (HS8.out.t.setCount _) (Keep.put (p := ⟨b, 7, none⟩) HS8.out.t.ob _))
    rw [← hw9]
    have HBZ := Aside0.mk (HS9.out.x (gk + 1, kz) (by simp)).1
    clear hw9 HS8 hc7 hf7 hw1
    go_wp2_with (first | (refine wpList_load_of rfl 29 (.tmp 13) rfl ⟨gg, 0, none⟩ rfl (box_key HKY.out (HS9.out.x (gg, key) (by simp)).1) ?_) | (refine wpList_store_row rfl 29 (.tmp 8) (.tmp 89) rfl (gk + 1) _ rfl rfl 29 _ HBZ.out (infoK1.trans (by rw [encA34 HKY.out])) (by rw [encA34 HKY.out]; rfl) (encKA_one _) ?_))
    have h3 := setRow_heap w9 (gk + 1) _ (encK key).toArray 29 (0, 0) HBZ.out
    exact bodyPost_ret (results_cell_tmp2 rfl _ _ (gk + 1) rfl (box_key HKY.out h3) rfl rfl) rfl ⟨rfl, by rw [← HLL.out]; exact HS9.out.fin (HS9.out.x (gk + 1, kz) (by simp)).2.1 (HS9.out.x (gk + 1, kz) (by simp)).2.2.1 _⟩
end Go.Proofs.Ytikpgmajiafhgaa.Fl
/- flow: Get. Written by wip/gen/flz.py. -/
namespace Go.Proofs.Ytikpgmajiafhgaa.Fl
open Go.RowKit Go.Proofs.YtikpgmajiafhgaaW.PrintWords Go.Proofs.YtikpgmajiafhgaaW.PrintLast Go.Proofs.YtikpgmajiafhgaaW.PrintMore Go.Proofs.Ytikpgmajiafhgaa.X Go.Proofs.Ytikpgmajiafhgaa.M Go.Proofs.Ytikpgmajiafhgaa.Bv Go.Proofs.Ytikpgmajiafhgaa.PuLib Go.Proofs.Ytikpgmajiafhgaa.PuMix Go.Proofs.Ytikpgmajiafhgaa.PuCat
set_option linter.unusedVariables false
set_option linter.unusedSimpArgs false
theorem results_tmp2 {fn : Func} {p q : Tmp} (h : fn.results = #[.tmp p, .tmp q]) (tmps : Array Value) (w : World) {v u : Value} (hp : tmps.getD p undef = v) (hq : tmps.getD q undef = u) : (results fn tmps).run Try.prog w = .ok (.tuple #[v, u]) w := by
  have hp' : tmps[p]?.getD undef = v := by simpa using hp
  have hq' : tmps[q]?.getD undef = u := by simpa using hq
  simp [results, h, hp', hq']
theorem maxS (a b : Int) : (if a < b then b else a) = max a b := by rw [Int.max_def]; split <;> split <;> omega
theorem LinkOk.pvOk {T : Tb} {x : Nd} (h : LinkOk T x) : x.pv = -1 ∨ ∃ m : Nat, x.pv = (m : Int) ∧ m < T.nodes.length := And.left h
theorem LinkOk.nxOk {T : Tb} {x : Nd} (h : LinkOk T x) : x.nx = -1 ∨ ∃ m : Nat, x.nx = (m : Int) ∧ m < T.nodes.length := And.right h
/-- What gets. -/
structure GetR (T : Tb) (k : List Int) (now : Int) (T' : Tb) (bk : Int) (ok : Bool) : Prop where
  r : ∃ c th, FindR T k c th ∧ ((th = false ∧ T' = T ∧ bk = 0 ∧ ok = false) ∨ (th = true ∧ ∃ n x, T.cells[c]? = some ((n : Nat) : Int) ∧ T.nodes[n]? = some x ∧
    ((overS x.la T.idle now = true ∧ DropR T c n T' ∧ bk = 0 ∧ ok = false) ∨
     (overS x.la T.idle now = false ∧ LinkOk T x ∧ ∃ Tu Tl y, Tu = T.unlink n ∧ (∃ x1, Tu.nodes[n]? = some x1) ∧ (Tu.last = -1 ∨ ∃ (m : Nat) (y : Nd), Tu.last = (m : Int) ∧ m ≠ n ∧ Tu.nodes[m]? = some y) ∧ Tl = Tu.link n ∧ Tl.nodes[n]? = some y ∧
       T' = { Tl with nodes := Tl.nodes.set n { y with la := max y.la now } } ∧ bk = y.bk ∧ ok = true))))
set_option maxRecDepth 100000 in
set_option maxHeartbeats 4000000 in
theorem get_calls {T T' : Tb} {k : List Int} {now bk : Int} {ok : Bool} (hk : KeyOk k) (hk34 : k.length = 34) (hr : GetR T k now T' bk ok) (O : Nat → Prop) (b : Nat) (vc vn vf : Value) (w : World) (hT : TabAt w O b T vc vn vf) :
    Calls Try.prog 26 #[.pointer (some ⟨b, 0, none⟩), kv k, .int .u64 now] w fun en w' => en = .returned (.tuple #[.int .i64 bk, .bool ok]) ∧ ∃ O', (∃ vn' vf', TabAt w' O' b T' vc vn' vf') ∧ Keep O w w' ∧ ∀ k, O' k → O k ∨ w.heap.size ≤ k := by
  obtain ⟨c, th, hf, hr2⟩ := hr.r
  have HR := Aside0.mk hr2
  obtain ⟨gk, hgk⟩ : ∃ gk, gk = w.heap.size := ⟨_, rfl⟩
  obtain ⟨w0, hw0⟩ : ∃ w0, w0 = w.alloc (.cells (encK k).toArray 29) := ⟨_, rfl⟩
  have HB0 := Aside0.mk (show Below w.heap.size w w0 by rw [hw0]; exact below_alloc (Below.refl _ _) _)
  have hz1 : w0.heap[gk]? = some (.cells (encK k).toArray 29 (0, 0)) := by rw [hw0, hgk]; exact blk_new w _
  have hno : ∀ j, gk ≤ j → ¬ O j := fun j hj h => by have := hT.lt j h; omega
  have HS0 := Aside0.mk ((((St.mk hT (Keep.refl O w) (fun k hk => .inl hk) (fun p hp => absurd hp List.not_mem_nil) : St w O w O b T vc vn vf [])).below HB0.out) |>.box hz1 (hno _ (Nat.le_refl _)) (by omega) hk34)
  have HK := Aside0.mk hk
  have HF := Aside0.mk hf
  have HW0 := Aside0.mk hw0
  have HLK := Aside0.mk (show (loadVar 29 ⟨gk, 0, none⟩).run Try.prog w0 = .ok (kv k) w0 from box_key hk34 hz1)
  rw [hw0, hgk] at HLK
  have HG := Aside0.mk hgk
  clear hr hr2 hT hw0 hz1 hno hk hf hgk
  go_enter Try.func26, Try.ntmps26
  go_wp2_with (refine wpList_load_of rfl 29 (.tmp 4) rfl ⟨w.heap.size, 0, none⟩ rfl HLK.out ?_)
  rw [← HW0.out]
  (with_reducible refine (findR_calls HF.out HK.out O b vc vn vf w0 HS0.out.t).mono ?_)
  rintro en w1 ⟨rfl, hb⟩
  have HS := Aside0.mk (HS0.out.below hb)
  clear hb HS0 HLK HW0 HB0 hk34 HK HG
  rcases HR.out with ⟨rfl, rfl, rfl, rfl⟩ | ⟨rfl, n, x, hcn, hx, hor⟩
  · go_wp2_with fail
    exact bodyPost_ret (results_tmp2 rfl _ _ rfl rfl) rfl ⟨rfl, O, ⟨vn, vf, HS.out.t⟩, HS.out.k, HS.out.o⟩
  · have HX := Aside0.mk hx
    have HOR := Aside0.mk hor
    obtain ⟨gc0, cc0, hvc0⟩ := HS.out.t.vcForm HF.out.len0
    have hc2 := HS.out.t.cell 2
    simp [hvc0] at hc2
    have hts := HS.out.t
    rw [hvc0] at hts
    have hcc := hts.cl hcn
    have HO := Aside0.mk (over_calls n now O b T vc vn vf w1 HS.out.t x hx)
    have hcl := (List.getElem?_eq_some_iff.1 hcn).1
    obtain ⟨L0, hL0⟩ : ∃ L0, L0 = T.cells.length := ⟨_, rfl⟩
    rw [← hL0] at hc2 hcl
    have e5 : ((0 : Int) ≤ (c : Int)) = True := eq_true (by omega)
    have e6 : ((c : Int) < (L0 : Int)) = True := eq_true (by omega)
    clear HR hts hcn hx hvc0 hcl hL0 hor HF
    go_wp2_with fail
    (with_reducible refine HO.out.mono ?_)
    rintro en wa ⟨rfl, rfl⟩
    clear HO hc2 hcc e5 e6
    rcases HOR.out with ⟨hov, hdr, rfl, rfl⟩ | ⟨hov, hlk, Tu, Tl, y, hTu, hux, hll, hTl, hy, hT', rfl, rfl⟩
    · rw [hov]
      have HDR := Aside0.mk hdr
      clear HOR hov hdr
      go_wp2_with fail
      (with_reducible refine (dropR_calls HDR.out O b vc vn vf wa HS.out.t).mono ?_)
      rintro en wb ⟨rfl, O1, ⟨vf1, hT1⟩, hk1, ho1⟩
      have HS1 := Aside0.mk (HS.out.step hT1 hk1 ho1)
      clear hT1 hk1 ho1 HS
      go_wp2_with fail
      exact bodyPost_ret (results_tmp2 rfl _ _ rfl rfl) rfl ⟨rfl, O1, ⟨vn, vf1, HS1.out.t⟩, HS1.out.k, HS1.out.o⟩
    · rw [hov]
      have HLK := Aside0.mk hlk
      have HTU := Aside0.mk hTu
      have HUX := Aside0.mk hux
      have HLL := Aside0.mk hll
      have HTL := Aside0.mk hTl
      have HY := Aside0.mk hy
      have HT' := Aside0.mk hT'
      clear HOR hov hlk hTu hux hll hTl hy hT'
      go_wp2_with fail
      (with_reducible refine (unlink_calls n O b T vc vn vf wa HS.out.t x HX.out HLK.out.pvOk HLK.out.nxOk).mono ?_)
      rintro en w2 ⟨rfl, hT2, hk2⟩
      have HS2 := Aside0.mk (HS.out.same (show TabAt w2 O b Tu vc vn vf by rw [HTU.out]; exact hT2) hk2)
      clear hT2 hk2 HS
      go_wp2_with fail
      obtain ⟨x1, hx1⟩ := HUX.out
      (with_reducible refine (link_calls n O b Tu vc vn vf w2 HS2.out.t x1 hx1 HLL.out).mono ?_)
      rintro en w3 ⟨rfl, hT3, hk3⟩
      have HS3 := Aside0.mk (HS2.out.same (show TabAt w3 O b Tl vc vn vf by rw [HTL.out]; exact hT3) hk3)
      clear hT3 hk3 HS2 hx1
      have hnl := (List.getElem?_eq_some_iff.1 HY.out).1
      have hnl' := hnl
      obtain ⟨gn, cn, hvn⟩ := HS3.out.t.vnForm (by omega)
      subst hvn
      obtain ⟨N, hN⟩ : ∃ N, N = Tl.nodes.length := ⟨_, rfl⟩
      rw [← hN] at HS3 hnl
      have e5 : ((0 : Int) ≤ (n : Int)) = True := eq_true (by omega)
      have e6 : ((n : Int) < (N : Int)) = True := eq_true (by omega)
      obtain ⟨wd, hwd⟩ : ∃ wd, wd = w3.drew := ⟨_, rfl⟩
      have HSD := Aside0.mk (show St w O wd O b Tl vc (.slice (some ⟨gn, 0, none⟩) N cn) vf [(gk, k)] by rw [hwd]; exact HS3.out.below (below_drew (Below.refl _ _)))
      have HSS := Aside0.mk (show wd.cell? ⟨b, 3, none⟩ = some (.slice (some ⟨gn, 0, none⟩) N cn) from HSD.out.t.cell 3)
      obtain ⟨T9, hT9⟩ : ∃ T9 : Tb, T9 = { Tl with nodes := Tl.nodes.set n { y with la := max y.la now } } := ⟨_, rfl⟩
      have HS4' := Aside0.mk (show St w O (wd.setCell ⟨gn, n * 38 + 1, none⟩ (.int .u64 (max y.la now))) O b T9 vc (.slice (some ⟨gn, 0, none⟩) N cn) vf [(gk, k)] by
        rw [hT9]
        exact HSD.out.same (HSD.out.t.setNd HY.out 1 (by omega) (.int .u64 (max y.la now)) { y with la := max y.la now } (HSD.out.t.nd HY.out).1 (encN_set1 y _)) (Keep.put (p := ⟨gn, n * 38 + 1, none⟩) HSD.out.t.vnOwn.1 _))
      have HS4 := Aside0.mk (show (wd.setCell ⟨gn, n * 38 + 1, none⟩ (.int .u64 (max y.la now))).cell? ⟨b, 3, none⟩ = some (.slice (some ⟨gn, 0, none⟩) N cn) from HS4'.out.t.cell 3)
      have hla := (HSD.out.t.nd HY.out).2 1 _ (encN_1 y)
      have hfla := HSD.out.t.frN (n * 38 + 1)
      have HTT := Aside0.mk (show T' = T9 by rw [hT9]; exact HT'.out)
      have HY9 := Aside0.mk (show T9.nodes[n]? = some { y with la := max y.la now } by rw [hT9]; exact List.getElem?_set_self hnl')
      have HNN := Aside0.mk hN
      clear hnl hnl' hN hT9 HT'
      go_wp2_with fail
      refine Held.wp_region_G (S := (fun W : World => W.cell? ⟨b, 3, none⟩ = some (.slice (some ⟨gn, 0, none⟩) N cn))) (by kernel_rfl) ?_
      change Held.wpAnyG _ _ _ _ _ 20 _ _ _
      rw [← hwd]
      clear hwd
      refine Held.wpAnyG_take (i := 0) (v := (.pointer (some ⟨b, 0, none⟩))) rfl (by kernel_rfl) (by kernel_rfl) (by kernel_rfl) (fun _ _ _ h => h) HSS.out (by first | (with_reducible rfl) | (simp [Region.wanted, yielded, Act.put]; done) | rfl) (fun W h => by go_simp) (some 39) rfl #[true, false, false, false, false, false, false, false, false, false, false, false, false, false, false, false, false, false, false, false] (by kernel_rfl) ?_
      simp only [Act.put, List.setIfInBounds_toArray, List.set_cons_zero, List.set_cons_succ]
      refine Held.wpAnyG_take (i := 1) (v := (.pointer (some ⟨b, 0, none⟩))) rfl (by kernel_rfl) (by kernel_rfl) (by kernel_rfl) (fun _ _ _ h => h) HSS.out (by first | (with_reducible rfl) | (simp [Region.wanted, yielded, Act.put]; done) | rfl) (fun W hs => by go_simp) (some 40) rfl #[true, true, false, false, false, false, false, false, false, false, false, false, false, false, false, false, false, false, false, false] (by kernel_rfl) ?_
      simp only [Act.put, List.setIfInBounds_toArray, List.set_cons_zero, List.set_cons_succ]
      refine Held.wpAnyG_take (i := 2) (v := (.pointer (some ⟨b, 3, none⟩))) rfl (by kernel_rfl) (by kernel_rfl) (by kernel_rfl) (fun _ _ _ h => h) HSS.out (by first | (with_reducible rfl) | (simp [Region.wanted, yielded, Act.put]; done) | rfl) (fun W hs => by go_simp) (some 41) rfl #[true, true, true, false, false, false, false, false, false, false, false, false, false, false, false, false, false, false, false, false] (by kernel_rfl) ?_
      simp only [Act.put, List.setIfInBounds_toArray, List.set_cons_zero, List.set_cons_succ]
      refine Held.wpAnyG_take (i := 3) (v := (.slice (some ⟨gn, 0, none⟩) N cn)) rfl (by kernel_rfl) (by kernel_rfl) (by kernel_rfl) (fun _ _ _ h => h) HSS.out (by first | (with_reducible rfl) | (simp [Region.wanted, yielded, Act.put]; done) | rfl) (fun W hs => by go_simp) (some 42) rfl #[true, true, true, true, false, false, false, false, false, false, false, false, false, false, false, false, false, false, false, false] (by kernel_rfl) ?_
      simp only [Act.put, List.setIfInBounds_toArray, List.set_cons_zero, List.set_cons_succ]
      refine Held.wpAnyG_take (i := 4) (v := (.int .i64 (n : Int))) rfl (by kernel_rfl) (by kernel_rfl) (by kernel_rfl) (fun _ _ _ h => h) HSS.out (by first | (with_reducible rfl) | (simp [Region.wanted, yielded, Act.put]; done) | rfl) (fun W h => by go_simp) (some 43) rfl #[true, true, true, true, true, false, false, false, false, false, false, false, false, false, false, false, false, false, false, false] (by kernel_rfl) ?_
      simp only [Act.put, List.setIfInBounds_toArray, List.set_cons_zero, List.set_cons_succ]
      refine Held.wpAnyG_take (i := 5) (v := (.pointer (some ⟨b, 0, none⟩))) rfl (by kernel_rfl) (by kernel_rfl) (by kernel_rfl) (fun _ _ _ h => h) HSS.out (by first | (with_reducible rfl) | (simp [Region.wanted, yielded, Act.put]; done) | rfl) (fun W h => by go_simp) (some 44) rfl #[true, true, true, true, true, true, false, false, false, false, false, false, false, false, false, false, false, false, false, false] (by kernel_rfl) ?_
      simp only [Act.put, List.setIfInBounds_toArray, List.set_cons_zero, List.set_cons_succ]
      refine Held.wpAnyG_take (i := 6) (v := (.pointer (some ⟨b, 0, none⟩))) rfl (by kernel_rfl) (by kernel_rfl) (by kernel_rfl) (fun _ _ _ h => h) HSS.out (by first | (with_reducible rfl) | (simp [Region.wanted, yielded, Act.put]; done) | rfl) (fun W hs => by go_simp) (some 45) rfl #[true, true, true, true, true, true, true, false, false, false, false, false, false, false, false, false, false, false, false, false] (by kernel_rfl) ?_
      simp only [Act.put, List.setIfInBounds_toArray, List.set_cons_zero, List.set_cons_succ]
      refine Held.wpAnyG_take (i := 7) (v := (.pointer (some ⟨b, 3, none⟩))) rfl (by kernel_rfl) (by kernel_rfl) (by kernel_rfl) (fun _ _ _ h => h) HSS.out (by first | (with_reducible rfl) | (simp [Region.wanted, yielded, Act.put]; done) | rfl) (fun W hs => by go_simp) (some 46) rfl #[true, true, true, true, true, true, true, true, false, false, false, false, false, false, false, false, false, false, false, false] (by kernel_rfl) ?_
      simp only [Act.put, List.setIfInBounds_toArray, List.set_cons_zero, List.set_cons_succ]
      refine Held.wpAnyG_take (i := 8) (v := (.slice (some ⟨gn, 0, none⟩) N cn)) rfl (by kernel_rfl) (by kernel_rfl) (by kernel_rfl) (fun _ _ _ h => h) HSS.out (by first | (with_reducible rfl) | (simp [Region.wanted, yielded, Act.put]; done) | rfl) (fun W hs => by go_simp) (some 47) rfl #[true, true, true, true, true, true, true, true, true, false, false, false, false, false, false, false, false, false, false, false] (by kernel_rfl) ?_
      simp only [Act.put, List.setIfInBounds_toArray, List.set_cons_zero, List.set_cons_succ]
      refine Held.wpAnyG_take (i := 9) (v := (.int .i64 (n : Int))) rfl (by kernel_rfl) (by kernel_rfl) (by kernel_rfl) (fun _ _ _ h => h) HSS.out (by first | (with_reducible rfl) | (simp [Region.wanted, yielded, Act.put]; done) | rfl) (fun W h => by go_simp) (some 48) rfl #[true, true, true, true, true, true, true, true, true, true, false, false, false, false, false, false, false, false, false, false] (by kernel_rfl) ?_
      simp only [Act.put, List.setIfInBounds_toArray, List.set_cons_zero, List.set_cons_succ]
      refine Held.wpAnyG_take (i := 10) (v := (.pointer (some ⟨gn, n * 38, none⟩))) rfl (by kernel_rfl) (by kernel_rfl) (by kernel_rfl) (fun _ _ _ h => h) HSS.out (by first | (with_reducible rfl) | (simp [Region.wanted, yielded, Act.put]; done) | rfl) (fun W hs => by go_simp) (some 49) rfl #[true, true, true, true, true, true, true, true, true, true, true, false, false, false, false, false, false, false, false, false] (by kernel_rfl) ?_
      simp only [Act.put, List.setIfInBounds_toArray, List.set_cons_zero, List.set_cons_succ]
      refine Held.wpAnyG_take (i := 11) (v := (.pointer (some ⟨gn, n * 38, none⟩))) rfl (by kernel_rfl) (by kernel_rfl) (by kernel_rfl) (fun _ _ _ h => h) HSS.out (by first | (with_reducible rfl) | (simp [Region.wanted, yielded, Act.put]; done) | rfl) (fun W hs => by go_simp) (some 50) rfl #[true, true, true, true, true, true, true, true, true, true, true, true, false, false, false, false, false, false, false, false] (by kernel_rfl) ?_
      simp only [Act.put, List.setIfInBounds_toArray, List.set_cons_zero, List.set_cons_succ]
      refine Held.wpAnyG_take (i := 12) (v := (.pointer (some ⟨gn, n * 38 + 1, none⟩))) rfl (by kernel_rfl) (by kernel_rfl) (by kernel_rfl) (fun _ _ _ h => h) HSS.out (by first | (with_reducible rfl) | (simp [Region.wanted, yielded, Act.put]; done) | rfl) (fun W hs => by go_simp) (some 51) rfl #[true, true, true, true, true, true, true, true, true, true, true, true, true, false, false, false, false, false, false, false] (by kernel_rfl) ?_
      simp only [Act.put, List.setIfInBounds_toArray, List.set_cons_zero, List.set_cons_succ]
      refine Held.wpAnyG_take (i := 14) (v := (.int .u64 now)) rfl (by kernel_rfl) (by kernel_rfl) (by kernel_rfl) (fun _ _ _ h => h) HSS.out (by first | (with_reducible rfl) | (simp [Region.wanted, yielded, Act.put]; done) | rfl) (fun W h => by go_simp) (some 53) rfl #[true, true, true, true, true, true, true, true, true, true, true, true, true, false, true, false, false, false, false, false] (by kernel_rfl) ?_
      simp only [Act.put, List.setIfInBounds_toArray, List.set_cons_zero, List.set_cons_succ]
      refine Held.wpAnyG_one 13 (by kernel_rfl) rfl #[true, true, true, true, true, true, true, true, true, true, true, true, true, true, true, false, false, false, false, false] (by kernel_rfl) (fun K hK => ?_)
      go_wp2_with fail
      refine hK _ _ HSS.out ?_
      clear hK K
      refine Held.wpAnyG_take (i := 15) (v := (.int .u64 (max y.la now))) rfl (by kernel_rfl) (by kernel_rfl) (by kernel_rfl) (fun _ _ _ h => h) HSS.out (by first | (with_reducible rfl) | (simp [Region.wanted, yielded, Act.put]; done) | rfl) (fun W hs => by go_simp; exact maxS _ _) (some 54) rfl #[true, true, true, true, true, true, true, true, true, true, true, true, true, true, true, true, false, false, false, false] (by kernel_rfl) ?_
      simp only [Act.put, List.setIfInBounds_toArray, List.set_cons_zero, List.set_cons_succ]
      refine Held.wpAnyG_take (i := 16) (v := (.pointer (some ⟨gn, n * 38, none⟩))) rfl (by kernel_rfl) (by kernel_rfl) (by kernel_rfl) (fun _ _ _ h => h) HSS.out (by first | (with_reducible rfl) | (simp [Region.wanted, yielded, Act.put]; done) | rfl) (fun W hs => by go_simp) (some 55) rfl #[true, true, true, true, true, true, true, true, true, true, true, true, true, true, true, true, true, false, false, false] (by kernel_rfl) ?_
      simp only [Act.put, List.setIfInBounds_toArray, List.set_cons_zero, List.set_cons_succ]
      refine Held.wpAnyG_take (i := 17) (v := (.pointer (some ⟨gn, n * 38, none⟩))) rfl (by kernel_rfl) (by kernel_rfl) (by kernel_rfl) (fun _ _ _ h => h) HSS.out (by first | (with_reducible rfl) | (simp [Region.wanted, yielded, Act.put]; done) | rfl) (fun W hs => by go_simp) (some 56) rfl #[true, true, true, true, true, true, true, true, true, true, true, true, true, true, true, true, true, true, false, false] (by kernel_rfl) ?_
      simp only [Act.put, List.setIfInBounds_toArray, List.set_cons_zero, List.set_cons_succ]
      refine Held.wpAnyG_take (i := 18) (v := (.pointer (some ⟨gn, n * 38 + 1, none⟩))) rfl (by kernel_rfl) (by kernel_rfl) (by kernel_rfl) (fun _ _ _ h => h) HSS.out (by first | (with_reducible rfl) | (simp [Region.wanted, yielded, Act.put]; done) | rfl) (fun W hs => by go_simp) (some 57) rfl #[true, true, true, true, true, true, true, true, true, true, true, true, true, true, true, true, true, true, true, false] (by kernel_rfl) ?_
      simp only [Act.put, List.setIfInBounds_toArray, List.set_cons_zero, List.set_cons_succ]
      refine Held.wpAnyG_one 19 (by kernel_rfl) rfl #[true, true, true, true, true, true, true, true, true, true, true, true, true, true, true, true, true, true, true, true] (by kernel_rfl) (fun K hK => ?_)
      go_wp2_with fail
      clear HSS
      have HSS := HS4
      refine hK _ _ HSS.out ?_
      clear hK K
      refine Held.wpAnyG_done (by kernel_rfl) ?_ _
      obtain ⟨w9, hw9⟩ : ∃ w9, w9 = wd.setCell ⟨gn, n * 38 + 1, none⟩ (.int .u64 (max y.la now)) := ⟨_, rfl⟩
      rw [← hw9]
      rw [← hw9] at HS4'
      clear HSS HS4 HSD hla hfla hw9
      have hc3 := HS4'.out.t.cell 3
      simp at hc3
      have hc0 := (HS4'.out.t.nd HY9.out).2 0 _ (encN_0 _)
      rw [Nat.add_zero] at hc0
      go_wp2_with fail
      exact bodyPost_ret (results_tmp2 rfl _ _ rfl rfl) rfl ⟨rfl, by rw [HTT.out]; exact ⟨O, ⟨_, _, HS4'.out.t⟩, HS4'.out.k, HS4'.out.o⟩⟩
end Go.Proofs.Ytikpgmajiafhgaa.Fl
/- flow: Of. Written by wip/gen/fly.py. -/
namespace Go.Proofs.Ytikpgmajiafhgaa.Fl
open Go.RowKit Go.Proofs.YtikpgmajiafhgaaW.PrintWords Go.Proofs.YtikpgmajiafhgaaW.PrintLast Go.Proofs.YtikpgmajiafhgaaW.PrintMore Go.Proofs.Ytikpgmajiafhgaa.X Go.Proofs.Ytikpgmajiafhgaa.M Go.Proofs.Ytikpgmajiafhgaa.Bv Go.Proofs.Ytikpgmajiafhgaa.PuLib Go.Proofs.Ytikpgmajiafhgaa.PuMix Go.Proofs.Ytikpgmajiafhgaa.PuCat
set_option linter.unusedVariables false
set_option linter.unusedSimpArgs false
theorem infoE1 : (Try.prog.info? 43).map (·.size) = some 2 := by kernel_rfl
abbrev ev (bk la : Int) : Value := .agg #[.int .i64 bk, .int .u64 la]
theorem load_entry {W : World} {g j : Nat} {x : Nd} (h : x.ky.length = 34 ∧ ∀ i v, (encN x)[i]? = some v → W.cell? ⟨g, j * 38 + i, none⟩ = some v) : (loadVar 43 ⟨g, j * 38, none⟩).run Try.prog W = .ok (ev x.bk x.la) W := by
  have hl := run_loadCells_list (P := Try.prog) W ⟨g, j * 38, none⟩ [.int .i64 x.bk, .int .u64 x.la] (fun i v hv => by
    rw [Addr.add_mid]
    refine h.2 i v ?_
    match i, hv with
    | 0, hv => exact hv
    | 1, hv => exact hv)
  obtain ⟨i, hi, hz⟩ := Option.map_eq_some_iff.1 infoE1
  simp only [List.length_cons, List.length_nil, Nat.zero_add] at hl
  simp [loadVar, sizeOf, typeInfo, run_underlying Try.underlying43, hi, hz, hl]
theorem box_entry {W : World} {g : Nat} {bk la : Int} (h : W.heap[g]? = some (.cells #[.int .i64 bk, .int .u64 la] 43 (0, 0))) : (loadVar 43 ⟨g, 0, none⟩).run Try.prog W = .ok (ev bk la) W :=
  run_loadVar_row (P := Try.prog) W g _ 43 _ _ _ h Try.underlying43 rfl infoE1
theorem put_entry {W : World} {g : Nat} {a c : Int} (h : W.heap[g]? = some (.cells #[.int .i64 a, .int .u64 c] 43 (0, 0))) (bk la : Int) : ((W.setCell ⟨g, 0, none⟩ (.int .i64 bk)).setCell ⟨g, 1, none⟩ (.int .u64 la)).heap[g]? = some (.cells #[.int .i64 bk, .int .u64 la] 43 (0, 0)) :=
  blk_put (blk_put h 0 _ rfl) 1 _ rfl
theorem TabAt.away {W : World} {O : Nat → Prop} {b : Nat} {T : Tb} {vc vn vf : Value} (h : TabAt W O b T vc vn vf) {g : Nat} (hg : ¬ O g) (j : Nat) (u : Value) : TabAt (W.setCell ⟨g, j, none⟩ u) O b T vc vn vf :=
  h.same (fun k hk => Below.heap_setCell W _ u k (fun e => hg (by have e2 : k = g := e; rw [← e2]; exact hk))) (by rw [size_put]; exact Nat.le_refl _)
/-- What an entry is. -/
structure OfR (T : Tb) (k : List Int) (bk la : Int) (ok : Bool) : Prop where
  r : ∃ c th, FindR T k c th ∧ ((th = false ∧ bk = 0 ∧ la = 0 ∧ ok = false) ∨ (th = true ∧ ∃ n x, T.cells[c]? = some ((n : Nat) : Int) ∧ T.nodes[n]? = some x ∧ bk = x.bk ∧ la = x.la ∧ ok = true))
set_option maxRecDepth 100000 in
set_option maxHeartbeats 4000000 in
theorem of_calls {T : Tb} {k : List Int} {bk la : Int} {ok : Bool} (hk : KeyOk k) (hk34 : k.length = 34) (hr : OfR T k bk la ok) (O : Nat → Prop) (b : Nat) (vc vn vf : Value) (w : World) (hT : TabAt w O b T vc vn vf) :
    Calls Try.prog 13 #[.pointer (some ⟨b, 0, none⟩), kv k] w fun en w' => en = .returned (.tuple #[ev bk la, .bool ok]) ∧ Below w.heap.size w w' := by
  obtain ⟨c, th, hf, hr2⟩ := hr.r
  have HR := Aside0.mk hr2
  obtain ⟨gk, hgk⟩ : ∃ gk, gk = w.heap.size := ⟨_, rfl⟩
  obtain ⟨w0, hw0⟩ : ∃ w0, w0 = (w.alloc (.cells (encK k).toArray 29)).alloc (.cells #[.int .i64 0, .int .u64 0] 43) := ⟨_, rfl⟩
  have HB0 := Aside0.mk (show Below w.heap.size w w0 by rw [hw0]; exact below_alloc (below_alloc (Below.refl _ _) _) _)
  have hz1 : w0.heap[gk]? = some (.cells (encK k).toArray 29 (0, 0)) := by rw [hw0, hgk]; exact blk_alloc (blk_new w _) _
  have hz2 : w0.heap[gk + 1]? = some (.cells #[.int .i64 0, .int .u64 0] 43 (0, 0)) := by
    rw [hw0, hgk]; have h := heap_alloc_new (w.alloc (.cells (encK k).toArray 29)) (.cells #[.int .i64 0, .int .u64 0] 43); rw [World.size_alloc] at h; exact h
  have HNO := Aside0.mk (show ¬ O (gk + 1) from fun h => by have := hT.lt _ h; omega)
  have HT0 := Aside0.mk (hT.below HB0.out)
  have HK := Aside0.mk hk
  have HF := Aside0.mk hf
  have HW0 := Aside0.mk hw0
  have HLK := Aside0.mk (show (loadVar 29 ⟨gk, 0, none⟩).run Try.prog w0 = .ok (kv k) w0 from box_key hk34 hz1)
  rw [hw0, hgk] at HLK
  have HZ2 := Aside0.mk hz2
  have HG := Aside0.mk hgk
  clear hr hr2 hT hw0 hz1 hz2 hk hf hgk
  go_enter Try.func13, Try.ntmps13
  go_wp2_with (refine wpList_load_of rfl 29 (.tmp 3) rfl ⟨w.heap.size, 0, none⟩ rfl HLK.out ?_)
  rw [← HW0.out, ← HG.out]
  (with_reducible refine (findR_calls HF.out HK.out O b vc vn vf w0 HT0.out).mono ?_)
  rintro en w1 ⟨rfl, hb⟩
  have HT1 := Aside0.mk (HT0.out.below hb)
  have HB1 := Aside0.mk (HB0.out.trans (hb.mono HB0.out.size))
  have HZ := Aside0.mk ((hb.block _ (blk_lt HZ2.out)).trans HZ2.out)
  clear hb HT0 HLK HW0 HB0 hk34 HK HZ2
  rcases HR.out with ⟨rfl, rfl, rfl, rfl⟩ | ⟨rfl, n, x, hcn, hx, rfl, rfl, rfl⟩
  · have hz0 := blk_cell HZ.out 0
    have hz1 := blk_cell HZ.out 1
    have hf0 := blk_frozen HZ.out 0
    have hf1 := blk_frozen HZ.out 1
    simp at hz0 hz1
    go_wp2_with fail
    exact bodyPost_ret (results_cell_tmp rfl _ _ (gk + 1) rfl (box_entry (put_entry HZ.out 0 0)) rfl) rfl ⟨rfl, (HB1.out.setCell (p := ⟨gk + 1, 0, none⟩) (by have := HG.out; show w.heap.size ≤ gk + 1; omega) _).setCell (p := ⟨gk + 1, 1, none⟩) (by have := HG.out; show w.heap.size ≤ gk + 1; omega) _⟩
  · have hnl := (List.getElem?_eq_some_iff.1 hx).1
    have hcl := (List.getElem?_eq_some_iff.1 hcn).1
    obtain ⟨gn, cn, hvn⟩ := HT1.out.vnForm (by omega)
    obtain ⟨gc, cc, hvc⟩ := HT1.out.vcForm (by omega)
    subst hvn hvc
    have HX := Aside0.mk hx
    have HCN := Aside0.mk hcn
    obtain ⟨N, hN⟩ : ∃ N, N = T.nodes.length := ⟨_, rfl⟩
    obtain ⟨L, hL⟩ : ∃ L, L = T.cells.length := ⟨_, rfl⟩
    rw [← hN, ← hL] at HT1
    rw [← hN] at hnl
    rw [← hL] at hcl
    have e1 : ((0 : Int) ≤ (n : Int)) = True := eq_true (by omega)
    have e2 : ((n : Int) < (N : Int)) = True := eq_true (by omega)
    have e3 : ((0 : Int) ≤ (c : Int)) = True := eq_true (by omega)
    have e4 : ((c : Int) < (L : Int)) = True := eq_true (by omega)
    obtain ⟨wd, hwd⟩ : ∃ wd, wd = w1.drew := ⟨_, rfl⟩
    have HSS := Aside0.mk (show TabAt wd O b T (.slice (some ⟨gc, 0, none⟩) L cc) (.slice (some ⟨gn, 0, none⟩) N cn) vf by rw [hwd]; exact HT1.out.below (below_drew (Below.refl _ _)))
    have HBD := Aside0.mk (show Below w.heap.size w wd by rw [hwd]; exact below_drew HB1.out)
    have HZD := Aside0.mk (show wd.heap[gk + 1]? = some (.cells #[.int .i64 0, .int .u64 0] 43 (0, 0)) by rw [hwd]; exact blk_drew HZ.out)
    have HS4 := Aside0.mk ((HSS.out.away HNO.out 0 (.int .i64 x.bk)).away HNO.out 1 (.int .u64 x.la))
    have hz0 := blk_cell HZD.out 0
    have hz1 := blk_cell HZD.out 1
    have hf0 := blk_frozen HZD.out 0
    have hf1 := blk_frozen HZD.out 1
    simp at hz0 hz1
    clear hnl hcl hN hL hx hcn HR HF
    go_wp2_with fail
    refine Held.wp_region_G (S := (fun W : World => TabAt W O b T (.slice (some ⟨gc, 0, none⟩) L cc) (.slice (some ⟨gn, 0, none⟩) N cn) vf)) (by kernel_rfl) ?_
    change Held.wpAnyG _ _ _ _ _ 16 _ _ _
    rw [← hwd]
    clear hwd
    refine Held.wpAnyG_take (i := 0) (v := (.pointer (some ⟨b, 0, none⟩))) rfl (by kernel_rfl) (by kernel_rfl) (by kernel_rfl) (fun _ _ _ h => h) HSS.out (by first | (with_reducible rfl) | (simp [Region.wanted, yielded, Act.put]; done) | rfl) (fun W h => by go_simp) (some 17) rfl #[true, false, false, false, false, false, false, false, false, false, false, false, false, false, false, false] (by kernel_rfl) ?_
    simp only [Act.put, List.setIfInBounds_toArray, List.set_cons_zero, List.set_cons_succ]
    refine Held.wpAnyG_take (i := 1) (v := (.pointer (some ⟨b, 0, none⟩))) rfl (by kernel_rfl) (by kernel_rfl) (by kernel_rfl) (fun _ _ _ h => h) HSS.out (by first | (with_reducible rfl) | (simp [Region.wanted, yielded, Act.put]; done) | rfl) (fun W hs => by go_simp) (some 18) rfl #[true, true, false, false, false, false, false, false, false, false, false, false, false, false, false, false] (by kernel_rfl) ?_
    simp only [Act.put, List.setIfInBounds_toArray, List.set_cons_zero, List.set_cons_succ]
    refine Held.wpAnyG_take (i := 2) (v := (.pointer (some ⟨b, 3, none⟩))) rfl (by kernel_rfl) (by kernel_rfl) (by kernel_rfl) (fun _ _ _ h => h) HSS.out (by first | (with_reducible rfl) | (simp [Region.wanted, yielded, Act.put]; done) | rfl) (fun W hs => by go_simp) (some 19) rfl #[true, true, true, false, false, false, false, false, false, false, false, false, false, false, false, false] (by kernel_rfl) ?_
    simp only [Act.put, List.setIfInBounds_toArray, List.set_cons_zero, List.set_cons_succ]
    refine Held.wpAnyG_take (i := 3) (v := (.slice (some ⟨gn, 0, none⟩) N cn)) rfl (by kernel_rfl) (by kernel_rfl) (by kernel_rfl) (fun _ _ _ h => h) HSS.out (by first | (with_reducible rfl) | (simp [Region.wanted, yielded, Act.put]; done) | rfl) (fun W hs => by have hc := hs.cell 3; simp at hc; go_simp) (some 20) rfl #[true, true, true, true, false, false, false, false, false, false, false, false, false, false, false, false] (by kernel_rfl) ?_
    simp only [Act.put, List.setIfInBounds_toArray, List.set_cons_zero, List.set_cons_succ]
    refine Held.wpAnyG_take (i := 4) (v := (.pointer (some ⟨b, 0, none⟩))) rfl (by kernel_rfl) (by kernel_rfl) (by kernel_rfl) (fun _ _ _ h => h) HSS.out (by first | (with_reducible rfl) | (simp [Region.wanted, yielded, Act.put]; done) | rfl) (fun W h => by go_simp) (some 21) rfl #[true, true, true, true, true, false, false, false, false, false, false, false, false, false, false, false] (by kernel_rfl) ?_
    simp only [Act.put, List.setIfInBounds_toArray, List.set_cons_zero, List.set_cons_succ]
    refine Held.wpAnyG_take (i := 5) (v := (.pointer (some ⟨b, 0, none⟩))) rfl (by kernel_rfl) (by kernel_rfl) (by kernel_rfl) (fun _ _ _ h => h) HSS.out (by first | (with_reducible rfl) | (simp [Region.wanted, yielded, Act.put]; done) | rfl) (fun W hs => by go_simp) (some 22) rfl #[true, true, true, true, true, true, false, false, false, false, false, false, false, false, false, false] (by kernel_rfl) ?_
    simp only [Act.put, List.setIfInBounds_toArray, List.set_cons_zero, List.set_cons_succ]
    refine Held.wpAnyG_take (i := 6) (v := (.pointer (some ⟨b, 2, none⟩))) rfl (by kernel_rfl) (by kernel_rfl) (by kernel_rfl) (fun _ _ _ h => h) HSS.out (by first | (with_reducible rfl) | (simp [Region.wanted, yielded, Act.put]; done) | rfl) (fun W hs => by go_simp) (some 23) rfl #[true, true, true, true, true, true, true, false, false, false, false, false, false, false, false, false] (by kernel_rfl) ?_
    simp only [Act.put, List.setIfInBounds_toArray, List.set_cons_zero, List.set_cons_succ]
    refine Held.wpAnyG_take (i := 7) (v := (.slice (some ⟨gc, 0, none⟩) L cc)) rfl (by kernel_rfl) (by kernel_rfl) (by kernel_rfl) (fun _ _ _ h => h) HSS.out (by first | (with_reducible rfl) | (simp [Region.wanted, yielded, Act.put]; done) | rfl) (fun W hs => by have hc := hs.cell 2; simp at hc; go_simp) (some 24) rfl #[true, true, true, true, true, true, true, true, false, false, false, false, false, false, false, false] (by kernel_rfl) ?_
    simp only [Act.put, List.setIfInBounds_toArray, List.set_cons_zero, List.set_cons_succ]
    refine Held.wpAnyG_take (i := 8) (v := (.int .i64 (c : Int))) rfl (by kernel_rfl) (by kernel_rfl) (by kernel_rfl) (fun _ _ _ h => h) HSS.out (by first | (with_reducible rfl) | (simp [Region.wanted, yielded, Act.put]; done) | rfl) (fun W h => by go_simp) (some 25) rfl #[true, true, true, true, true, true, true, true, true, false, false, false, false, false, false, false] (by kernel_rfl) ?_
    simp only [Act.put, List.setIfInBounds_toArray, List.set_cons_zero, List.set_cons_succ]
    refine Held.wpAnyG_take (i := 9) (v := (.pointer (some ⟨gc, c, none⟩))) rfl (by kernel_rfl) (by kernel_rfl) (by kernel_rfl) (fun _ _ _ h => h) HSS.out (by first | (with_reducible rfl) | (simp [Region.wanted, yielded, Act.put]; done) | rfl) (fun W hs => by go_simp) (some 26) rfl #[true, true, true, true, true, true, true, true, true, true, false, false, false, false, false, false] (by kernel_rfl) ?_
    simp only [Act.put, List.setIfInBounds_toArray, List.set_cons_zero, List.set_cons_succ]
    refine Held.wpAnyG_take (i := 10) (v := (.int .i64 (n : Int))) rfl (by kernel_rfl) (by kernel_rfl) (by kernel_rfl) (fun _ _ _ h => h) HSS.out (by first | (with_reducible rfl) | (simp [Region.wanted, yielded, Act.put]; done) | rfl) (fun W hs => by have hc := hs.cl HCN.out; go_simp) (some 27) rfl #[true, true, true, true, true, true, true, true, true, true, true, false, false, false, false, false] (by kernel_rfl) ?_
    simp only [Act.put, List.setIfInBounds_toArray, List.set_cons_zero, List.set_cons_succ]
    refine Held.wpAnyG_take (i := 11) (v := (.pointer (some ⟨gn, n * 38, none⟩))) rfl (by kernel_rfl) (by kernel_rfl) (by kernel_rfl) (fun _ _ _ h => h) HSS.out (by first | (with_reducible rfl) | (simp [Region.wanted, yielded, Act.put]; done) | rfl) (fun W hs => by go_simp) (some 28) rfl #[true, true, true, true, true, true, true, true, true, true, true, true, false, false, false, false] (by kernel_rfl) ?_
    simp only [Act.put, List.setIfInBounds_toArray, List.set_cons_zero, List.set_cons_succ]
    refine Held.wpAnyG_take (i := 12) (v := (.pointer (some ⟨gn, n * 38, none⟩))) rfl (by kernel_rfl) (by kernel_rfl) (by kernel_rfl) (fun _ _ _ h => h) HSS.out (by first | (with_reducible rfl) | (simp [Region.wanted, yielded, Act.put]; done) | rfl) (fun W hs => by go_simp) (some 29) rfl #[true, true, true, true, true, true, true, true, true, true, true, true, true, false, false, false] (by kernel_rfl) ?_
    simp only [Act.put, List.setIfInBounds_toArray, List.set_cons_zero, List.set_cons_succ]
    refine Held.wpAnyG_take (i := 13) (v := (ev x.bk x.la)) rfl (by kernel_rfl) (by kernel_rfl) (by kernel_rfl) (fun _ _ _ h => h) HSS.out (by first | (with_reducible rfl) | (simp [Region.wanted, yielded, Act.put]; done) | rfl) (fun W hs => Held.run_load_of 43 (.tmp 29) rfl ⟨gn, n * 38, none⟩ rfl (load_entry (hs.nd HX.out))) (some 30) rfl #[true, true, true, true, true, true, true, true, true, true, true, true, true, true, false, false] (by kernel_rfl) ?_
    simp only [Act.put, List.setIfInBounds_toArray, List.set_cons_zero, List.set_cons_succ]
    refine Held.wpAnyG_one 14 (by kernel_rfl) rfl #[true, true, true, true, true, true, true, true, true, true, true, true, true, true, true, false] (by kernel_rfl) (fun K hK => ?_)
    go_wp2_with fail
    clear HSS
    have HSS := HS4
    refine hK _ _ HSS.out ?_
    clear hK K
    refine Held.wpAnyG_one 15 (by kernel_rfl) rfl #[true, true, true, true, true, true, true, true, true, true, true, true, true, true, true, true] (by kernel_rfl) (fun K hK => ?_)
    go_wp2_with fail
    refine hK _ _ HSS.out ?_
    clear hK K
    refine Held.wpAnyG_done (by kernel_rfl) ?_ _
    go_wp2_with fail
    exact bodyPost_ret (results_cell_tmp rfl _ _ (gk + 1) rfl (box_entry (put_entry HZD.out x.bk x.la)) rfl) rfl ⟨rfl, (HBD.out.setCell (p := ⟨gk + 1, 0, none⟩) (by have := HG.out; show w.heap.size ≤ gk + 1; omega) _).setCell (p := ⟨gk + 1, 1, none⟩) (by have := HG.out; show w.heap.size ≤ gk + 1; omega) _⟩
end Go.Proofs.Ytikpgmajiafhgaa.Fl
/- flow: New. Written by wip/gen/fn1.py. -/
namespace Go.Proofs.Ytikpgmajiafhgaa.Fl
open Go.RowKit Go.Proofs.YtikpgmajiafhgaaW.PrintWords Go.Proofs.YtikpgmajiafhgaaW.PrintLast Go.Proofs.YtikpgmajiafhgaaW.PrintMore Go.Proofs.Ytikpgmajiafhgaa.X Go.Proofs.Ytikpgmajiafhgaa.M Go.Proofs.Ytikpgmajiafhgaa.Bv Go.Proofs.Ytikpgmajiafhgaa.PuLib Go.Proofs.Ytikpgmajiafhgaa.PuMix Go.Proofs.Ytikpgmajiafhgaa.PuCat
set_option linter.unusedVariables false
set_option linter.unusedSimpArgs false
/-- A table without entries, k of its cells set. -/
def Tb.fresh (most idle : Int) (L j : Nat) : Tb := ⟨most, idle, List.replicate j (-1) ++ List.replicate (L - j) 0, [], [], -1, -1, 0⟩
theorem fresh_len (most idle : Int) {L j : Nat} (h : j ≤ L) : (Tb.fresh most idle L j).cells.length = L := by
  simp [Tb.fresh]; omega
theorem fresh_step (most idle : Int) {L j : Nat} (h : j < L) : { Tb.fresh most idle L j with cells := (Tb.fresh most idle L j).cells.set j (-1) } = Tb.fresh most idle L (j + 1) := by
  have h1 : L - j = (L - (j + 1)) + 1 := by omega
  unfold Tb.fresh
  simp only [Tb.mk.injEq, true_and, and_true]
  rw [List.set_append_right _ _ (by simp), List.length_replicate, Nat.sub_self, h1, List.replicate_succ, List.set_cons_zero, List.replicate_succ', List.append_assoc]
  rfl
set_option maxRecDepth 100000 in
set_option maxHeartbeats 4000000 in
theorem new_calls (most idle : Int) (m : Nat) (hm : most = (m : Int)) (h1 : 1 ≤ m) (h2 : m ≤ 1024) (h3 : 1 ≤ idle) (h4 : idle ≤ 1099511627776) (w : World) :
    Calls Try.prog 9 #[.int .i64 most, .int .u64 idle] w fun en w' => ∃ b, en = .returned (.tuple #[.pointer (some ⟨b, 0, none⟩), .int .i64 0]) ∧ (∃ O vc vn vf, TabAt w' O b (Tb.fresh most idle (2 * m) (2 * m)) vc vn vf ∧ ∀ k, O k → w.heap.size ≤ k) ∧ Below w.heap.size w w' := by
  have e1 : (most < 1) = False := eq_false (by omega)
  have e2 : ((1024 : Int) < most) = False := eq_false (by omega)
  have e3 : (idle < 1) = False := eq_false (by omega)
  have e4 : ((1099511627776 : Int) < idle) = False := eq_false (by omega)
  have d1 : decide (most < 1) = false := decide_eq_false (by omega)
  have d2 : decide ((1024 : Int) < most) = false := decide_eq_false (by omega)
  have d3 : decide (idle < 1) = false := decide_eq_false (by omega)
  have d4 : decide ((1099511627776 : Int) < idle) = false := decide_eq_false (by omega)
  obtain ⟨L, hL⟩ : ∃ L, L = 2 * m := ⟨_, rfl⟩
  have hw2 : wrap64 (2 * most) = (L : Int) := by rw [w64_in _ (by omega) (by omega)]; omega
  have hLb := Aside0.mk (show 1 ≤ L ∧ L ≤ 2048 by omega)
  have HLE := Aside0.mk hL
  have HW2 := Aside0.mk hw2
  clear hm h1 h2 h3 h4 hL hw2
  go_enter Try.func9, Try.ntmps9
  go_wp2_with (refine Kd.R_make kI (w0 := w) (W := w) 0 3 rfl rfl 82 (.tmp 25) (.tmp 25) rfl (wrap64 (2 * most)) rfl rfl Try.underlying82 (.int .i64 0) 8 infoI rfl (by decide) (by decide) (0 : Int) (ok := fun k => w.heap.size ≤ k) (okp := fun _ => False) rfl (fun _ h => h.elim) (Nat.le_refl _) (by rw [HW2.out]; omega) (by have := hLb.out; rw [HW2.out, Int.toNat_natCast]; omega) (Below.refl _ _) (Nat.zero_le _) ?_)
  intro v1 w1 hR hb1 hg1 g1 hown hge
  rw [HW2.out, Int.toNat_natCast] at hR
  obtain ⟨A1, c1, rfl⟩ := Kd.R_slice hR
  obtain ⟨n1, hn1⟩ : ∃ n1, n1 = (List.replicate L (0 : Int)).length := ⟨_, rfl⟩
  have hn2 : n1 = L := by rw [hn1, List.length_replicate]
  rw [← hn1] at hR ⊢
  subst hn2
  have HR := Aside0.mk hR
  have HB := Aside0.mk hg1
  clear hR hb1 hg1 hn1 hown hge
  go_wp2_with fail
  obtain ⟨w2, hw2⟩ : ∃ w2, w2 = w1.alloc (.cells #[.int .i64 most, .int .u64 idle, .slice A1 n1 c1, .slice none 0 0, .slice none 0 0, .int .i64 (-1), .int .i64 (-1), .int .i64 0] 85) := ⟨_, rfl⟩
  obtain ⟨b, hb⟩ : ∃ b, b = w1.heap.size := ⟨_, rfl⟩
  rw [← hw2, ← hb]
  have hsz : w2.heap.size = w1.heap.size + 1 := by rw [hw2, World.size_alloc]
  have HT := Aside0.mk (show TabAt w2 (fun k => w.heap.size ≤ k ∧ k < w2.heap.size) b (Tb.fresh most idle n1 0) (.slice A1 n1 c1) (.slice none 0 0) (.slice none 0 0) by
    refine ⟨?_, ?_, ?_, Kd.R_nil _ _ _ _ _, Kd.R_nil _ _ _ _ _, fun k hk => hk.2⟩
    · rw [hw2, hb]
      exact blk_new w1 _
    · have := HB.out.size
      exact ⟨by omega, by omega⟩
    · have h1 := Kd.R_alloc (Kd.R_mono (Kd.R_bound HR.out) (ok' := fun k => (w.heap.size ≤ k ∧ k < w2.heap.size) ∧ k ≠ b) (fun k hk => ⟨⟨hk.1, by have := hk.2.2; omega⟩, by have := hk.2.2; omega⟩)) (.cells #[.int .i64 most, .int .u64 idle, .slice A1 n1 c1, .slice none 0 0, .slice none 0 0, .int .i64 (-1), .int .i64 (-1), .int .i64 0] 85)
      rw [← hw2] at h1
      exact h1)
  have HBW := Aside0.mk (show Below w.heap.size w w2 by
    have h1 : Below w.heap.size w w1 := ⟨HB.out.os, HB.out.tape, HB.out.output, HB.out.size, fun k hk => HB.out.block k hk (fun e => by cases e)⟩
    rw [hw2]
    exact below_alloc h1 _)
  have HOB := Aside0.mk (show ∀ k, (w.heap.size ≤ k ∧ k < w2.heap.size) → w.heap.size ≤ k from fun k hk => hk.1)
  obtain ⟨O, hO⟩ : ∃ O : Nat → Prop, O = fun k => w.heap.size ≤ k ∧ k < w2.heap.size := ⟨_, rfl⟩
  rw [← hO] at HT
  have HOO := Aside0.mk (show ∀ k, O k → w.heap.size ≤ k from fun k hk => by rw [hO] at hk; exact hk.1)
  clear HR HB hsz hw2 hb HOB hO
  obtain ⟨gc, cc, hvc⟩ := HT.out.vcForm (by rw [fresh_len _ _ (Nat.zero_le _)]; exact hLb.out.1)
  rw [fresh_len _ _ (Nat.zero_le _)] at hvc
  rw [hvc] at HT ⊢
  clear hvc
  go_loopg [34] n1 (fun kq v34 wr => ∃ j : Nat, v34 = .int .i64 (j : Int) ∧ Aside0 (kq + j = n1) ∧ Aside0 (TabAt wr O b (Tb.fresh most idle n1 j) (.slice (some ⟨gc, 0, none⟩) n1 cc) (.slice none 0 0) (.slice none 0 0)) ∧ Aside0 (Below w.heap.size w wr))
  case atStart => exact ⟨0, rfl, ⟨rfl⟩, HT, HBW⟩
  case round =>
    clear HT HBW
    obtain ⟨j, rfl, HG, HT, HBW⟩ := hrel
    by_cases hj : j < n1
    · have e5 : ((j : Int) < (n1 : Int)) = True := eq_true (by omega)
      have e6 : ((0 : Int) ≤ (j : Int)) = True := eq_true (by omega)
      have hc2 := HT.out.cell 2
      simp at hc2
      have hl := fresh_len most idle (Nat.le_of_lt hj)
      obtain ⟨z, hz⟩ : ∃ z, (Tb.fresh most idle n1 j).cells[j]? = some z := ⟨_, List.getElem?_eq_getElem (show j < (Tb.fresh most idle n1 j).cells.length by omega)⟩
      have hcc := HT.out.cl hz
      have hfc := HT.out.frC j
      have HT2 := Aside0.mk (HT.out.setCl j (-1))
      rw [fresh_step most idle hj] at HT2
      have HB2 := Aside0.mk (HBW.out.setCell (p := ⟨gc, j, none⟩) (HOO.out gc HT.out.vcOwn.1) (.int .i64 (-1)))
      have hw1 : wrap64 ((j : Int) + 1) = ((j + 1 : Nat) : Int) := by have h1 := hLb.out; rw [w64_in _ (by omega) (by omega)]; omega
      have HJ := Aside0.mk hj
      clear HT HBW hl hj hz
      go_wp2_with fail
      go_roundg (gk - 1)
      case measure => have h1 := HG.out; have h2 := HJ.out; omega
      case rel => exact ⟨j + 1, by rw [hw1], ⟨by have h1 := HG.out; have h2 := HJ.out; omega⟩, HT2, HB2⟩
    · have hje : j = n1 := by have := HG.out; omega
      subst hje
      have e5 : ((j : Int) < (j : Int)) = False := eq_false (by omega)
      go_wp2_with fail
      exact bodyPost_ret (results_tmp2 rfl _ _ rfl rfl) rfl ⟨b, rfl, ⟨O, _, _, _, by rw [← HLE.out]; exact HT.out, HOO.out⟩, HBW.out⟩
end Go.Proofs.Ytikpgmajiafhgaa.Fl
/- flow: New and Put that refuse. Written by wip/gen/fb1.py. -/
namespace Go.Proofs.Ytikpgmajiafhgaa.Fl
open Go.RowKit Go.Proofs.YtikpgmajiafhgaaW.PrintWords Go.Proofs.YtikpgmajiafhgaaW.PrintLast Go.Proofs.YtikpgmajiafhgaaW.PrintMore Go.Proofs.Ytikpgmajiafhgaa.X Go.Proofs.Ytikpgmajiafhgaa.M Go.Proofs.Ytikpgmajiafhgaa.Bv Go.Proofs.Ytikpgmajiafhgaa.PuLib Go.Proofs.Ytikpgmajiafhgaa.PuMix Go.Proofs.Ytikpgmajiafhgaa.PuCat
set_option linter.unusedVariables false
set_option linter.unusedSimpArgs false
theorem below_sr {B g : Nat} {w0 w : World} (hb : Below B w0 w) (hBg : B ≤ g) (cs : Array Value) : Below B w0 (w.setRow g cs) :=
  ⟨hb.os, hb.tape, hb.output, by have h1 := hb.size; simpa [World.setRow] using h1, fun k hk => (setRow_other w g k cs (by omega)).trans (hb.block k hk)⟩
set_option maxRecDepth 100000 in
set_option maxHeartbeats 4000000 in
theorem new_bad (most idle : Int) (h : ¬ (1 ≤ most ∧ most ≤ 1024 ∧ 1 ≤ idle ∧ idle ≤ 1099511627776)) (w : World) :
    Calls Try.prog 9 #[.int .i64 most, .int .u64 idle] w fun en w' => en = .returned (.tuple #[.pointer none, .int .i64 11]) ∧ w' = w := by
  by_cases h1 : most < 1
  · have e1 := eq_true h1
    have d1 := decide_eq_true h1
    clear h h1
    go_enter Try.func9, Try.ntmps9
    go_wp2_with fail
    exact bodyPost_ret (results_tmp2 rfl _ _ rfl rfl) rfl ⟨rfl, rfl⟩
  · by_cases h2 : (1024 : Int) < most
    · have e1 := eq_false h1
      have d1 := decide_eq_false h1
      have e2 := eq_true h2
      have d2 := decide_eq_true h2
      clear h h1 h2
      go_enter Try.func9, Try.ntmps9
      go_wp2_with fail
      exact bodyPost_ret (results_tmp2 rfl _ _ rfl rfl) rfl ⟨rfl, rfl⟩
    · by_cases h3 : idle < 1
      · have e1 := eq_false h1
        have d1 := decide_eq_false h1
        have e2 := eq_false h2
        have d2 := decide_eq_false h2
        have e3 := eq_true h3
        have d3 := decide_eq_true h3
        clear h h1 h2 h3
        go_enter Try.func9, Try.ntmps9
        go_wp2_with fail
        exact bodyPost_ret (results_tmp2 rfl _ _ rfl rfl) rfl ⟨rfl, rfl⟩
      · have h4 : (1099511627776 : Int) < idle := by omega
        have e1 := eq_false h1
        have d1 := decide_eq_false h1
        have e2 := eq_false h2
        have d2 := decide_eq_false h2
        have e3 := eq_false h3
        have d3 := decide_eq_false h3
        have e4 := eq_true h4
        have d4 := decide_eq_true h4
        clear h h1 h2 h3 h4
        go_enter Try.func9, Try.ntmps9
        go_wp2_with fail
        exact bodyPost_ret (results_tmp2 rfl _ _ rfl rfl) rfl ⟨rfl, rfl⟩
set_option maxRecDepth 100000 in
set_option maxHeartbeats 4000000 in
theorem put_there {T : Tb} {k : List Int} {bk now : Int} (hk : KeyOk k) (hk34 : k.length = 34) (hb0 : 0 ≤ bk) (hb1 : bk < 64) {c0 n0 : Nat} {x0 : Nd} (hf : FindR T k c0 true) (hcn : T.cells[c0]? = some (n0 : Int)) (hx0 : T.nodes[n0]? = some x0) (hov : overS x0.la T.idle now = false) (O : Nat → Prop) (b : Nat) (vc vn vf : Value) (w : World) (hT : TabAt w O b T vc vn vf) :
    Calls Try.prog 23 #[.pointer (some ⟨b, 0, none⟩), kv k, .int .i64 bk, .int .u64 now] w fun en w' => en = .returned (.tuple #[kv kz, .bool false, .int .i64 16]) ∧ Below w.heap.size w w' := by
  obtain ⟨gk, hgk⟩ : ∃ gk, gk = w.heap.size := ⟨_, rfl⟩
  obtain ⟨w0, hw0⟩ : ∃ w0, w0 = (w.alloc (.cells (encK k).toArray 29)).alloc (.cells (encK kz).toArray 29) := ⟨_, rfl⟩
  have HB0 := Aside0.mk (show Below w.heap.size w w0 by rw [hw0]; exact below_alloc (below_alloc (Below.refl _ _) _) _)
  have hz1 : w0.heap[gk]? = some (.cells (encK k).toArray 29 (0, 0)) := by rw [hw0, hgk]; exact blk_alloc (blk_new w _) _
  have hz2 : w0.heap[gk + 1]? = some (.cells (encK kz).toArray 29 (0, 0)) := by
    rw [hw0, hgk]; have h := heap_alloc_new (w.alloc (.cells (encK k).toArray 29)) (.cells (encK kz).toArray 29); rw [World.size_alloc] at h; exact h
  have HZ2 := Aside0.mk hz2
  have HW0 := Aside0.mk hw0
  have HLK := Aside0.mk (show (loadVar 29 ⟨gk, 0, none⟩).run Try.prog w0 = .ok (kv k) w0 from box_key hk34 hz1)
  rw [hw0, hgk] at HLK
  have HG := Aside0.mk hgk
  have hz := zeroK
  have HT0 := Aside0.mk (hT.below HB0.out)
  have HK := Aside0.mk hk
  have HF := Aside0.mk hf
  have e1 : (bk < 0) = False := eq_false (by omega)
  have e2 : ((64 : Int) ≤ bk) = False := eq_false (by omega)
  have e3 : decide (bk < 0) = false := decide_eq_false (by omega)
  have e4 : decide ((64 : Int) ≤ bk) = false := decide_eq_false (by omega)
  have HX0 := Aside0.mk hx0
  have HCN := Aside0.mk hcn
  have HOV := Aside0.mk hov
  clear hT hw0 hz1 hz2 hk hf hgk hx0 hcn hov
  go_enter Try.func23, Try.ntmps23
  go_wp2_with (refine wpList_load_of rfl 29 (.tmp 5) rfl ⟨w.heap.size, 0, none⟩ rfl HLK.out ?_)
  rw [← HW0.out, ← HG.out]
  (with_reducible refine (findR_calls HF.out HK.out O b vc vn vf w0 HT0.out).mono ?_)
  rintro en w1 ⟨rfl, hb⟩
  have HT := Aside0.mk (HT0.out.below hb)
  have HB := Aside0.mk (HB0.out.trans (hb.mono HB0.out.size))
  have HZ := Aside0.mk ((hb.block _ (blk_lt HZ2.out)).trans HZ2.out)
  clear hb HT0 HZ2 HLK HW0 HB0 hk34
  obtain ⟨gc0, cc0, hvc0⟩ := HT.out.vcForm HF.out.len0
  have hc2 := HT.out.cell 2
  simp [hvc0] at hc2
  have hts := HT.out
  rw [hvc0] at hts
  have hcc := hts.cl HCN.out
  have HO := Aside0.mk (over_calls n0 now O b T vc vn vf w1 HT.out x0 HX0.out)
  have hcl := (List.getElem?_eq_some_iff.1 HCN.out).1
  obtain ⟨L0, hL0⟩ : ∃ L0, L0 = T.cells.length := ⟨_, rfl⟩
  rw [← hL0] at hc2 hcl
  have e5 : ((0 : Int) ≤ (c0 : Int)) = True := eq_true (by omega)
  have e6 : ((c0 : Int) < (L0 : Int)) = True := eq_true (by omega)
  clear hts hvc0 hcl hL0 HF
  go_wp2_with fail
  (with_reducible refine HO.out.mono ?_)
  rintro en wa ⟨rfl, rfl⟩
  rw [HOV.out]
  clear HO hc2 hcc e5 e6
  go_wp2_with (first | (refine Fl.wpList_build_of rfl 29 rfl (buildK _) ?_) | (refine wpList_store_row rfl 29 (.tmp 8) (.tmp 43) rfl (gk + 1) _ rfl rfl 29 _ HZ.out (by kernel_rfl) rfl (by kernel_rfl) ?_))
  have h3 := setRow_heap wa (gk + 1) _ (encK kz).toArray 29 (0, 0) HZ.out
  exact bodyPost_ret (results_cell_tmp2 rfl _ _ (gk + 1) rfl (box_key rfl h3) rfl rfl) rfl ⟨rfl, below_sr HB.out (by have := HG.out; omega) _⟩
set_option maxRecDepth 100000 in
set_option maxHeartbeats 4000000 in
theorem put_range {T : Tb} {k : List Int} {bk now : Int} (hk34 : k.length = 34) (hbk : bk < 0 ∨ 64 ≤ bk) (O : Nat → Prop) (b : Nat) (vc vn vf : Value) (w : World) (hT : TabAt w O b T vc vn vf) :
    Calls Try.prog 23 #[.pointer (some ⟨b, 0, none⟩), kv k, .int .i64 bk, .int .u64 now] w fun en w' => en = .returned (.tuple #[kv kz, .bool false, .int .i64 11]) ∧ Below w.heap.size w w' := by
  obtain ⟨gk, hgk⟩ : ∃ gk, gk = w.heap.size := ⟨_, rfl⟩
  obtain ⟨w0, hw0⟩ : ∃ w0, w0 = (w.alloc (.cells (encK k).toArray 29)).alloc (.cells (encK kz).toArray 29) := ⟨_, rfl⟩
  have HB0 := Aside0.mk (show Below w.heap.size w w0 by rw [hw0]; exact below_alloc (below_alloc (Below.refl _ _) _) _)
  have hz1 : w0.heap[gk]? = some (.cells (encK k).toArray 29 (0, 0)) := by rw [hw0, hgk]; exact blk_alloc (blk_new w _) _
  have hz2 : w0.heap[gk + 1]? = some (.cells (encK kz).toArray 29 (0, 0)) := by
    rw [hw0, hgk]; have h := heap_alloc_new (w.alloc (.cells (encK k).toArray 29)) (.cells (encK kz).toArray 29); rw [World.size_alloc] at h; exact h
  have HZ2 := Aside0.mk hz2
  have HW0 := Aside0.mk hw0
  have HLK := Aside0.mk (show (loadVar 29 ⟨gk, 0, none⟩).run Try.prog w0 = .ok (kv k) w0 from box_key hk34 hz1)
  rw [hw0, hgk] at HLK
  have HG := Aside0.mk hgk
  have hz := zeroK
  have hss := store_new (P := Try.prog) (W := w.alloc (.cells (encK k).toArray 29)) (N := w.heap.size + 1) (by rw [World.size_alloc]) (encK kz) (encK kz) 29 rfl (encK_one _)
  have hlen : (encK kz).length = 34 := rfl
  clear hT hz1 hz2 hgk HLK
  rcases hbk with h1 | h1
  · have e1 := eq_true h1
    have d1 := decide_eq_true h1
    clear h1
    go_enter Try.func23, Try.ntmps23
    go_wp2_with (refine Fl.wpList_build_of rfl 29 rfl (buildK _) ?_)
    rw [← HW0.out]
    exact bodyPost_ret (results_cell_tmp2 rfl _ _ (w.heap.size + 1) rfl (box_key rfl (by rw [← HG.out]; exact HZ2.out)) rfl rfl) rfl ⟨rfl, HB0.out⟩
  · have h2 : ¬ bk < 0 := by omega
    have e1 := eq_false h2
    have d1 := decide_eq_false h2
    have e2 := eq_true h1
    have d2 := decide_eq_true h1
    clear h1 h2
    go_enter Try.func23, Try.ntmps23
    go_wp2_with (refine Fl.wpList_build_of rfl 29 rfl (buildK _) ?_)
    rw [← HW0.out]
    exact bodyPost_ret (results_cell_tmp2 rfl _ _ (w.heap.size + 1) rfl (box_key rfl (by rw [← HG.out]; exact HZ2.out)) rfl rfl) rfl ⟨rfl, HB0.out⟩
end Go.Proofs.Ytikpgmajiafhgaa.Fl
/- flow: Clone. Written by wip/gen/fcl.py. -/
namespace Go.Proofs.Ytikpgmajiafhgaa.Fl
open Go.RowKit Go.Proofs.YtikpgmajiafhgaaW.PrintWords Go.Proofs.YtikpgmajiafhgaaW.PrintLast Go.Proofs.YtikpgmajiafhgaaW.PrintMore Go.Proofs.Ytikpgmajiafhgaa.X Go.Proofs.Ytikpgmajiafhgaa.M Go.Proofs.Ytikpgmajiafhgaa.Bv Go.Proofs.Ytikpgmajiafhgaa.PuLib Go.Proofs.Ytikpgmajiafhgaa.PuMix Go.Proofs.Ytikpgmajiafhgaa.PuCat
set_option linter.unusedVariables false
set_option linter.unusedSimpArgs false
abbrev tcells (T : Tb) (vc vn vf : Value) : List Value := [.int .i64 T.most, .int .u64 T.idle, vc, vn, vf, .int .i64 T.first, .int .i64 T.last, .int .i64 T.count]
abbrev tz : List Value := [.int .i64 0, .int .u64 0, .slice none 0 0, .slice none 0 0, .slice none 0 0, .int .i64 0, .int .i64 0, .int .i64 0]
theorem zeroT : ∀ w : World, (zeroValue 85).run Try.prog w = .ok (.agg tz.toArray) w := fun w => by kernel_rfl
theorem infoT1 : (Try.prog.info? 85).map (·.size) = some 8 := by kernel_rfl
theorem load_tb {W : World} {O : Nat → Prop} {b : Nat} {T : Tb} {vc vn vf : Value} (h : TabAt W O b T vc vn vf) : (loadVar 85 ⟨b, 0, none⟩).run Try.prog W = .ok (.agg (tcells T vc vn vf).toArray) W :=
  run_loadVar_row (P := Try.prog) W b _ 85 _ _ _ h.blk Try.underlying85 rfl infoT1
theorem R_emptyI {W : World} {lo : Nat} (hb : lo ≤ W.heap.size) : Kd.R kI 3 (W.alloc (.cells #[] 3)) 0 (fun k => lo ≤ k) (.slice (some ⟨W.heap.size, 0, none⟩) 0 0) [] :=
  ⟨fun k hk => by simp [Value.ownBlock] at hk; omega, [], ⟨rfl, .inr ⟨W.heap.size, 0, #[], rfl, Nat.zero_le _, blk_new W _, Nat.le_refl 0, by decide, rfl, rfl⟩⟩, Reps.none _ _⟩
theorem R_emptyN {W : World} {lo : Nat} (hb : lo ≤ W.heap.size) : Kd.R kN 91 (W.alloc (.cells #[] 91)) 0 (fun k => lo ≤ k) (.slice (some ⟨W.heap.size, 0, none⟩) 0 0) [] :=
  ⟨fun k hk => by simp [Value.ownBlock] at hk; omega, [], ⟨rfl, .inr ⟨W.heap.size, 0, #[], rfl, Nat.zero_le _, blk_new W _, Nat.le_refl 0, by decide, rfl, rfl⟩⟩, Reps.none _ _⟩
theorem R_kept {α : Type} {d : Kd α} {e lo bo j : Nat} {W W1 : World} {v u : Value} {xs : List α} (h : d.R e W 0 (fun k => lo ≤ k) v xs) (hl : bo < lo) (hb : Below W.heap.size W W1) : d.R e (W1.setCell ⟨bo, j, none⟩ u) 0 (fun k => lo ≤ k) v xs :=
  Kd.R_far (Kd.R_below h hb) (fun k hk e2 => by have e3 : k = bo := e2; omega) _
theorem below_app {W W1 : World} {t : TypeId} (hg : (W.alloc (.cells #[] t)).grownBy W1 (some W.heap.size)) : Below W.heap.size W W1 :=
  ⟨hg.os, hg.tape, hg.output, by have h1 := hg.size; rw [World.size_alloc] at h1; omega, fun k hk => (hg.block k (by rw [World.size_alloc]; omega) (fun e => by injection e with e; omega)).trans ((below_alloc (Below.refl W.heap.size W) _).block k hk)⟩
set_option maxRecDepth 100000 in
set_option maxHeartbeats 4000000 in
theorem clone_calls (O : Nat → Prop) (b : Nat) (T : Tb) (vc vn vf : Value) (w : World) (hT : TabAt w O b T vc vn vf) (hb1 : T.cells.length ≤ 1000000) (hb2 : T.nodes.length ≤ 1000000) (hb3 : T.free.length ≤ 1000000) :
    Calls Try.prog 16 #[.pointer (some ⟨b, 0, none⟩)] w fun en w' => ∃ b2, en = .returned (.pointer (some ⟨b2, 0, none⟩)) ∧ (∃ O2 vc2 vn2 vf2, TabAt w' O2 b2 T vc2 vn2 vf2 ∧ ∀ k, O2 k → w.heap.size ≤ k) ∧ Below w.heap.size w w' := by
  have HLT := Aside0.mk (load_tb hT)
  have hz := zeroT
  obtain ⟨Ac, cc, rfl⟩ := Kd.R_slice hT.rc
  obtain ⟨An, cn, rfl⟩ := Kd.R_slice hT.rn
  obtain ⟨Af, cf, rfl⟩ := Kd.R_slice hT.rf
  have hss := store_new (P := Try.prog) (W := w) rfl tz (tcells T (.slice Ac T.cells.length cc) (.slice An T.nodes.length cn) (.slice Af T.free.length cf)) 85 rfl (by intro v hv; simp at hv; rcases hv with rfl | rfl | rfl | rfl | rfl | rfl | rfl | rfl <;> rfl)
  have HT := Aside0.mk hT
  have HBS := Aside0.mk (And.intro hb1 (And.intro hb2 hb3))
  clear hT hb1 hb2 hb3
  go_enter Try.func16, Try.ntmps16
  go_upto_region 2 with (refine wpList_load_of rfl 85 (.tmp 5) rfl ⟨b, 0, none⟩ rfl HLT.out ?_)
  obtain ⟨w1, hw1⟩ : ∃ w1, w1 = w.alloc (.cells (tcells T (.slice Ac T.cells.length cc) (.slice An T.nodes.length cn) (.slice Af T.free.length cf)).toArray 85) := ⟨_, rfl⟩
  obtain ⟨bo, hbo⟩ : ∃ bo, bo = w.heap.size := ⟨_, rfl⟩
  have HB1 := Aside0.mk (show Below w.heap.size w w1 by rw [hw1]; exact below_alloc (Below.refl _ _) _)
  have HO1 := Aside0.mk (show w1.heap[bo]? = some (.cells #[.int .i64 T.most, .int .u64 T.idle, .slice Ac T.cells.length cc, .slice An T.nodes.length cn, .slice Af T.free.length cf, .int .i64 T.first, .int .i64 T.last, .int .i64 T.count] 85 (0, 0)) by rw [hw1, hbo]; exact blk_new w _)
  have HS1 := Aside0.mk (show bo < w1.heap.size from blk_lt HO1.out)
  have HBO := Aside0.mk hbo
  rw [← hw1, ← hbo]
  clear hw1 hbo hss hz
  have hc1 := (HT.out.below (below_alloc HB1.out (.cells #[] 3))).cell 2
  simp at hc1
  have HR0 := Aside0.mk (R_emptyI (W := w1) (lo := w1.heap.size) (Nat.le_refl _))
  have HC0 := Aside0.mk (Kd.C_below (Kd.R_reads' (HT.out.below HB1.out).rc).2.2 (below_alloc (Below.refl _ _) (.cells #[] 3)))
  go_upto_region 3 with ((with_reducible refine gate_builtin (b := .append) (xs := #[.tmp 7, .tmp 11]) rfl ?_); at_builtin; refine Kd.R_append_rows kI (w0 := w1.alloc (.cells #[] 3)) 0 rfl (.tmp 7) (.tmp 11) 82 3 (.int .i64 0) 8 rfl Try.underlying82 infoI rfl (by decide) (by omega) (.slice (some ⟨w1.heap.size, 0, none⟩) 0 0) [] T.cells Ac T.cells.length cc (fun k => w1.heap.size ≤ k) (fun _ => False) rfl rfl HR0.out HC0.out (fun _ _ h => h) (fun _ h => h.elim) (fun k hk => by rw [World.size_alloc] at hk; omega) (Below.refl _ _) (Nat.zero_le _) (by have h1 := HBS.out; rw [List.length_nil]; omega) ?_; intro v1 u1 hr1 hz1 hg1 hor1; rw [List.nil_append] at hr1; obtain ⟨A1, d1, rfl⟩ := Kd.R_slice hr1; (have HU1 := Aside0.mk (below_app hg1)); (have hu1 := blk_cell ((HU1.out.block bo HS1.out).trans HO1.out) 2); (have hf1 := blk_frozen ((HU1.out.block bo HS1.out).trans HO1.out) 2); simp at hu1)
  obtain ⟨w2, hw2⟩ : ∃ w, w = u1.setCell ⟨bo, 2, none⟩ (.slice A1 T.cells.length d1) := ⟨_, rfl⟩
  have HO2 := Aside0.mk (show w2.heap[bo]? = some (.cells #[.int .i64 T.most, .int .u64 T.idle, .slice A1 T.cells.length d1, .slice An T.nodes.length cn, .slice Af T.free.length cf, .int .i64 T.first, .int .i64 T.last, .int .i64 T.count] 85 (0, 0)) by rw [hw2]; exact blk_put ((HU1.out.block bo HS1.out).trans HO1.out) 2 _ rfl)
  have HB2 := Aside0.mk (show Below w.heap.size w w2 by rw [hw2]; exact (HB1.out.trans (HU1.out.mono HB1.out.size)).setCell (p := ⟨bo, 2, none⟩) (by have h1 := HBO.out; show w.heap.size ≤ bo; omega) _)
  have HS2 := Aside0.mk (blk_lt HO2.out)
  have HZ2 := Aside0.mk (show w1.heap.size ≤ w2.heap.size by have h1 := HU1.out.size; rw [hw2, size_put]; exact h1)
  have HRc2 := Aside0.mk (show Kd.R kI 3 w2 0 (fun k => w1.heap.size ≤ k) (.slice A1 T.cells.length d1) T.cells by rw [hw2]; exact R_kept hr1 HS1.out (Below.refl _ _))
  rw [← hw2]
  clear hw2 hc1 HR0 HC0 hr1 hz1 hg1 hor1 hu1 hf1 HU1
  have hc2 := (HT.out.below (below_alloc HB2.out (.cells #[] 91))).cell 3
  simp at hc2
  have HR0 := Aside0.mk (R_emptyN (W := w2) (lo := w2.heap.size) (Nat.le_refl _))
  have HC0 := Aside0.mk (Kd.C_below (Kd.R_reads' (HT.out.below HB2.out).rn).2.2 (below_alloc (Below.refl _ _) (.cells #[] 91)))
  go_upto_region 4 with ((with_reducible refine gate_builtin (b := .append) (xs := #[.tmp 14, .tmp 18]) rfl ?_); at_builtin; refine Kd.R_append_rows kN (w0 := w2.alloc (.cells #[] 91)) 0 rfl (.tmp 14) (.tmp 18) 83 91 (nv Nd.zero) 72 rfl Try.underlying83 infoN rfl (by decide) (by omega) (.slice (some ⟨w2.heap.size, 0, none⟩) 0 0) [] T.nodes An T.nodes.length cn (fun k => w2.heap.size ≤ k) (fun _ => False) rfl rfl HR0.out HC0.out (fun _ _ h => h) (fun _ h => h.elim) (fun k hk => by rw [World.size_alloc] at hk; omega) (Below.refl _ _) (Nat.zero_le _) (by have h1 := HBS.out; rw [List.length_nil]; omega) ?_; intro v2 u2 hr2 hz2 hg2 hor2; rw [List.nil_append] at hr2; obtain ⟨A2, d2, rfl⟩ := Kd.R_slice hr2; (have HU2 := Aside0.mk (below_app hg2)); (have hu2 := blk_cell ((HU2.out.block bo HS2.out).trans HO2.out) 3); (have hf2 := blk_frozen ((HU2.out.block bo HS2.out).trans HO2.out) 3); simp at hu2)
  obtain ⟨w3, hw3⟩ : ∃ w, w = u2.setCell ⟨bo, 3, none⟩ (.slice A2 T.nodes.length d2) := ⟨_, rfl⟩
  have HO3 := Aside0.mk (show w3.heap[bo]? = some (.cells #[.int .i64 T.most, .int .u64 T.idle, .slice A1 T.cells.length d1, .slice A2 T.nodes.length d2, .slice Af T.free.length cf, .int .i64 T.first, .int .i64 T.last, .int .i64 T.count] 85 (0, 0)) by rw [hw3]; exact blk_put ((HU2.out.block bo HS2.out).trans HO2.out) 3 _ rfl)
  have HB3 := Aside0.mk (show Below w.heap.size w w3 by rw [hw3]; exact (HB2.out.trans (HU2.out.mono HB2.out.size)).setCell (p := ⟨bo, 3, none⟩) (by have h1 := HBO.out; show w.heap.size ≤ bo; omega) _)
  have HS3 := Aside0.mk (blk_lt HO3.out)
  have HZ3 := Aside0.mk (show w2.heap.size ≤ w3.heap.size by have h1 := HU2.out.size; rw [hw3, size_put]; exact h1)
  have HRc3 := Aside0.mk (show Kd.R kI 3 w3 0 (fun k => w1.heap.size ≤ k) (.slice A1 T.cells.length d1) T.cells by rw [hw3]; exact R_kept HRc2.out HS1.out HU2.out)
  have HRn3 := Aside0.mk (show Kd.R kN 91 w3 0 (fun k => w2.heap.size ≤ k) (.slice A2 T.nodes.length d2) T.nodes by rw [hw3]; exact R_kept hr2 HS2.out (Below.refl _ _))
  rw [← hw3]
  clear hw3 hc2 HR0 HC0 hr2 hz2 hg2 hor2 hu2 hf2 HU2
  have hc3 := (HT.out.below (below_alloc HB3.out (.cells #[] 3))).cell 4
  simp at hc3
  have HR0 := Aside0.mk (R_emptyI (W := w3) (lo := w3.heap.size) (Nat.le_refl _))
  have HC0 := Aside0.mk (Kd.C_below (Kd.R_reads' (HT.out.below HB3.out).rf).2.2 (below_alloc (Below.refl _ _) (.cells #[] 3)))
  go_upto_region 5 with ((with_reducible refine gate_builtin (b := .append) (xs := #[.tmp 21, .tmp 25]) rfl ?_); at_builtin; refine Kd.R_append_rows kI (w0 := w3.alloc (.cells #[] 3)) 0 rfl (.tmp 21) (.tmp 25) 82 3 (.int .i64 0) 8 rfl Try.underlying82 infoI rfl (by decide) (by omega) (.slice (some ⟨w3.heap.size, 0, none⟩) 0 0) [] T.free Af T.free.length cf (fun k => w3.heap.size ≤ k) (fun _ => False) rfl rfl HR0.out HC0.out (fun _ _ h => h) (fun _ h => h.elim) (fun k hk => by rw [World.size_alloc] at hk; omega) (Below.refl _ _) (Nat.zero_le _) (by have h1 := HBS.out; rw [List.length_nil]; omega) ?_; intro v3 u3 hr3 hz3 hg3 hor3; rw [List.nil_append] at hr3; obtain ⟨A3, d3, rfl⟩ := Kd.R_slice hr3; (have HU3 := Aside0.mk (below_app hg3)); (have hu3 := blk_cell ((HU3.out.block bo HS3.out).trans HO3.out) 4); (have hf3 := blk_frozen ((HU3.out.block bo HS3.out).trans HO3.out) 4); simp at hu3)
  obtain ⟨w4, hw4⟩ : ∃ w, w = u3.setCell ⟨bo, 4, none⟩ (.slice A3 T.free.length d3) := ⟨_, rfl⟩
  have HO4 := Aside0.mk (show w4.heap[bo]? = some (.cells #[.int .i64 T.most, .int .u64 T.idle, .slice A1 T.cells.length d1, .slice A2 T.nodes.length d2, .slice A3 T.free.length d3, .int .i64 T.first, .int .i64 T.last, .int .i64 T.count] 85 (0, 0)) by rw [hw4]; exact blk_put ((HU3.out.block bo HS3.out).trans HO3.out) 4 _ rfl)
  have HB4 := Aside0.mk (show Below w.heap.size w w4 by rw [hw4]; exact (HB3.out.trans (HU3.out.mono HB3.out.size)).setCell (p := ⟨bo, 4, none⟩) (by have h1 := HBO.out; show w.heap.size ≤ bo; omega) _)
  have HS4 := Aside0.mk (blk_lt HO4.out)
  have HZ4 := Aside0.mk (show w3.heap.size ≤ w4.heap.size by have h1 := HU3.out.size; rw [hw4, size_put]; exact h1)
  have HRc4 := Aside0.mk (show Kd.R kI 3 w4 0 (fun k => w1.heap.size ≤ k) (.slice A1 T.cells.length d1) T.cells by rw [hw4]; exact R_kept HRc3.out HS1.out HU3.out)
  have HRn4 := Aside0.mk (show Kd.R kN 91 w4 0 (fun k => w2.heap.size ≤ k) (.slice A2 T.nodes.length d2) T.nodes by rw [hw4]; exact R_kept HRn3.out HS2.out HU3.out)
  have HRf4 := Aside0.mk (show Kd.R kI 3 w4 0 (fun k => w3.heap.size ≤ k) (.slice A3 T.free.length d3) T.free by rw [hw4]; exact R_kept hr3 HS3.out (Below.refl _ _))
  rw [← hw4]
  clear hw4 hc3 HR0 HC0 hr3 hz3 hg3 hor3 hu3 hf3 HU3
  have HOW := Aside0.mk (fun (k : Nat) (hk : (Value.slice A1 T.cells.length d1).ownBlock = some k) => ((Kd.R_bound HRc2.out).1 k hk).2.2.1)
  go_wp2_with fail
  go_ret
  refine ⟨bo, rfl, ⟨fun k => w.heap.size ≤ k ∧ k < w4.heap.size, _, _, _, ⟨HO4.out, ?_, ?_, ?_, ?_, fun k hk => hk.2⟩, fun k hk => hk.1⟩, HB4.out⟩
  · exact ⟨by rw [HBO.out]; exact Nat.le_refl _, HS4.out⟩
  · exact Kd.R_mono (Kd.R_bound HRc4.out) (fun k hk => ⟨⟨Nat.le_trans HB1.out.size hk.1, hk.2.2.1⟩, fun e => by have h1 := HS1.out; have h2 := hk.1; omega⟩)
  · exact Kd.R_mono (Kd.R_bound HRn4.out) (fun k hk => ⟨⟨Nat.le_trans HB2.out.size hk.1, hk.2.2.1⟩, fun e => by have h1 := HS2.out; have h2 := hk.1; omega⟩)
  · exact Kd.R_mono (Kd.R_bound HRf4.out) (fun k hk => ⟨⟨Nat.le_trans HB3.out.size hk.1, hk.2.2.1⟩, fun e => by have h1 := HS3.out; have h2 := hk.1; omega, fun e => by have h1 := HOW.out k e; have h2 := hk.1; have h3 := HZ3.out; omega⟩)
end Go.Proofs.Ytikpgmajiafhgaa.Fl
/- flow: All. Written by wip/gen/fal.py. -/
namespace Go.Proofs.Ytikpgmajiafhgaa.Fl
open Go.RowKit Go.Proofs.YtikpgmajiafhgaaW.PrintWords Go.Proofs.YtikpgmajiafhgaaW.PrintLast Go.Proofs.YtikpgmajiafhgaaW.PrintMore Go.Proofs.Ytikpgmajiafhgaa.X Go.Proofs.Ytikpgmajiafhgaa.M Go.Proofs.Ytikpgmajiafhgaa.Bv Go.Proofs.Ytikpgmajiafhgaa.PuLib Go.Proofs.Ytikpgmajiafhgaa.PuMix Go.Proofs.Ytikpgmajiafhgaa.PuCat
set_option linter.unusedVariables false
set_option linter.unusedSimpArgs false
/-- All: a function value over a box that holds the table's pointer. -/
theorem all_calls (b : Nat) (w : World) :
    Calls Try.prog 31 #[.pointer (some ⟨b, 0, none⟩)] w fun en w' => en = .returned (.func (.func 50) #[] #[.pointer (some ⟨w.heap.size, 0, none⟩)]) ∧ w' = w.alloc (.cells #[.pointer (some ⟨b, 0, none⟩)] 33) := by
  go_enter Try.func31, Try.ntmps31
  go_wp2_with fail
  go_ret
  exact ⟨rfl, rfl⟩
end Go.Proofs.Ytikpgmajiafhgaa.Fl
/- flow, plain: what cells hold; the search ends; a cell that is cleared. -/
namespace Go.Proofs.Ytikpgmajiafhgaa.Fl
open Go.RowKit Go.Proofs.YtikpgmajiafhgaaW.PrintWords Go.Proofs.YtikpgmajiafhgaaW.PrintLast Go.Proofs.YtikpgmajiafhgaaW.PrintMore Go.Proofs.Ytikpgmajiafhgaa.X
set_option linter.unusedVariables false
set_option linter.unusedSimpArgs false
/-- Cells as a function. -/
def cf (cells : List Int) (c : Nat) : Int := cells.getD c (-1)
theorem cf_get {cells : List Int} {c : Nat} (h : c < cells.length) : cells[c]? = some (cf cells c) := by
  unfold cf
  rw [List.getD_eq_getElem?_getD, List.getElem?_eq_getElem h]
  rfl
theorem cf_of {cells : List Int} {c : Nat} {x : Int} (h : cells[c]? = some x) : cf cells c = x := by
  unfold cf
  rw [List.getD_eq_getElem?_getD, h]
  rfl
theorem cf_set {cells : List Int} {i : Nat} (v : Int) (h : i < cells.length) : cf (cells.set i v) = upd (cf cells) i v := by
  funext j
  unfold upd cf
  rw [List.getD_eq_getElem?_getD, List.getElem?_set]
  by_cases hj : i = j
  · subst hj
    simp [h]
  · rw [if_neg hj, if_neg (fun e => hj e.symm), List.getD_eq_getElem?_getD]
/-- The cells hold just the nodes of S, each once. -/
structure Cl (L : Nat) (f : Nat → Int) (S : Nat → Prop) : Prop where
  ok : ∀ c, c < L → f c = -1 ∨ ∃ n : Nat, f c = (n : Int) ∧ S n
  has : ∀ n, S n → ∃ c, c < L ∧ f c = (n : Int)
  inj : ∀ c d, c < L → d < L → f c = f d → f c ≠ -1 → c = d
theorem Cl.congr {L : Nat} {f : Nat → Int} {S S' : Nat → Prop} (h : Cl L f S) (hs : ∀ n, S n ↔ S' n) : Cl L f S' :=
  ⟨fun c hc => (h.ok c hc).imp id (fun ⟨n, h1, h2⟩ => ⟨n, h1, (hs n).1 h2⟩), fun n hn => h.has n ((hs n).2 hn), h.inj⟩
theorem Cl.rem {L : Nat} {f : Nat → Int} {S : Nat → Prop} (h : Cl L f S) {c n : Nat} (hc : c < L) (hn : f c = (n : Int)) : Cl L (upd f c (-1)) (fun m => S m ∧ m ≠ n) := by
  refine ⟨fun d hd => ?_, fun m hm => ?_, fun d d' hd hd' he hne => ?_⟩
  · by_cases hdc : d = c
    · left; rw [hdc, upd_same]
    · rw [upd_other _ _ hdc]
      rcases h.ok d hd with h1 | ⟨m, h1, h2⟩
      · exact .inl h1
      · refine .inr ⟨m, h1, h2, fun hmn => hdc ?_⟩
        exact h.inj d c hd hc (by rw [h1, hn, hmn]) (by rw [h1]; omega)
  · obtain ⟨d, hd, h1⟩ := h.has m hm.1
    refine ⟨d, hd, ?_⟩
    rw [upd_other _ _ (fun hdc => hm.2 (by rw [hdc, hn] at h1; omega))]
    exact h1
  · by_cases hdc : d = c
    · rw [hdc, upd_same] at hne; exact absurd rfl hne
    · by_cases hdc' : d' = c
      · rw [hdc', upd_same] at he; exact absurd he hne
      · rw [upd_other _ _ hdc, upd_other _ _ hdc'] at he
        rw [upd_other _ _ hdc] at hne
        exact h.inj d d' hd hd' he hne
theorem Cl.add {L : Nat} {f : Nat → Int} {S : Nat → Prop} (h : Cl L f S) {c n : Nat} (hc : c < L) (hn : f c = -1) (hS : ¬ S n) : Cl L (upd f c (n : Int)) (fun m => S m ∨ m = n) := by
  refine ⟨fun d hd => ?_, fun m hm => ?_, fun d d' hd hd' he hne => ?_⟩
  · by_cases hdc : d = c
    · right; exact ⟨n, by rw [hdc, upd_same], .inr rfl⟩
    · rw [upd_other _ _ hdc]
      exact (h.ok d hd).imp id (fun ⟨m, h1, h2⟩ => ⟨m, h1, .inl h2⟩)
  · rcases hm with hm | rfl
    · obtain ⟨d, hd, h1⟩ := h.has m hm
      refine ⟨d, hd, ?_⟩
      rw [upd_other _ _ (fun hdc => by rw [hdc, hn] at h1; omega)]
      exact h1
    · exact ⟨c, hc, upd_same ..⟩
  · have key : ∀ e, e < L → e ≠ c → f e ≠ (n : Int) := fun e he hec hh => by
      rcases h.ok e he with h1 | ⟨m, h1, h2⟩
      · omega
      · exact hS (by have : m = n := by omega
                     rw [← this]; exact h2)
    by_cases hdc : d = c
    · by_cases hdc' : d' = c
      · rw [hdc, hdc']
      · rw [hdc, upd_same, upd_other _ _ hdc'] at he
        exact absurd he.symm (key d' hd' hdc')
    · by_cases hdc' : d' = c
      · rw [hdc', upd_same, upd_other _ _ hdc] at he
        exact absurd he (key d hd hdc)
      · rw [upd_other _ _ hdc, upd_other _ _ hdc'] at he
        rw [upd_other _ _ hdc] at hne
        exact h.inj d d' hd hd' he hne
theorem Cl.move {L : Nat} {f : Nat → Int} {S : Nat → Prop} (h : Cl L f S) {e c : Nat} (he : e < L) (hc : c < L) (hne : e ≠ c) (h1 : f e = -1) (h2 : f c ≠ -1) : Cl L (upd (upd f e (f c)) c (-1)) S := by
  rcases h.ok c hc with h3 | ⟨n, h3, h4⟩
  · exact absurd h3 h2
  · have hr := h.rem hc h3
    have h5 : upd f c (-1) e = -1 := by rw [upd_other _ _ hne]; exact h1
    have ha := (hr.add he h5 (n := n) (fun hh => hh.2 rfl)).congr (S' := S) (fun m => ⟨fun hm => by rcases hm with hm | rfl; exact hm.1; exact h4, fun hm => by by_cases hmn : m = n; exact .inr hmn; exact .inl ⟨hm, hmn⟩⟩)
    have hf : upd (upd f c (-1)) e (n : Int) = upd (upd f e (f c)) c (-1) := by
      funext j
      unfold upd
      by_cases hj : j = e
      · rw [if_pos hj, if_neg (fun hjc => hne (hj ▸ hjc)), if_pos hj, h3]
      · rw [if_neg hj]
        by_cases hjc : j = c
        · rw [if_pos hjc, if_pos hjc]
        · rw [if_neg hjc, if_neg hjc, if_neg hj]
    rw [← hf]
    exact ha
/-- There is an empty cell. -/
theorem Cl.empty {L : Nat} {f : Nat → Int} {S : Nat → Prop} (h : Cl L f S) (ns : List Nat) (hs : ∀ n, S n → n ∈ ns) (hl : ns.length < L) : ∃ z, z < L ∧ f z = -1 := by
  apply Classical.byContradiction
  intro hn
  have hall : ∀ c, c < L → ∃ n : Nat, f c = (n : Int) ∧ S n := fun c hc => by
    rcases h.ok c hc with h1 | h1
    · exact absurd ⟨c, hc, h1⟩ hn
    · exact h1
  have hnd : ((List.range L).map (fun c => (f c).toNat)).Nodup := by
    rw [List.nodup_iff_pairwise_ne, List.pairwise_map]
    refine (List.nodup_range (n := L)).imp_of_mem (fun {a b} ha hb hab hh => hab ?_)
    have ha' := List.mem_range.1 ha
    have hb' := List.mem_range.1 hb
    obtain ⟨n, h1, _⟩ := hall a ha'
    obtain ⟨m, h2, _⟩ := hall b hb'
    exact h.inj a b ha' hb' (by rw [h1, h2] at hh ⊢; omega) (by omega)
  have hsub : (List.range L).map (fun c => (f c).toNat) ⊆ ns := fun x hx => by
    obtain ⟨c, hc, rfl⟩ := List.mem_map.1 hx
    obtain ⟨n, h1, h2⟩ := hall c (List.mem_range.1 hc)
    rw [h1]
    exact hs n h2
  have := hnd.length_le_of_subset hsub
  rw [List.length_map, List.length_range] at this
  omega
theorem Pr.congr {L : Nat} {f : Nat → Int} {hm hm' : Int → Nat} (h : Pr L f hm) (he : ∀ c, c < L → f c ≠ -1 → hm' (f c) = hm (f c)) : Pr L f hm' := by
  intro c hc hne d hd hlt
  rw [he c hc hne] at hlt
  exact h c hc hne d hd hlt
/-- The clearing ends; the ways are whole again. -/
theorem clear_ex (hm : Nat → Nat) (S : Nat → Prop) (L z : Nat) (hz : z < L) (hh : ∀ n, hm n < L) : ∀ (m : Nat) (cells : List Int) (e c : Nat), cells.length = L → D L c z < m → z ≠ e → cf cells z = -1 → Mv L (cf cells) (fun i => hm i.toNat) e c → Cl L (cf cells) S →
    ∃ cells', clearF hm m cells e c = some cells' ∧ cells'.length = L ∧ Pr L (cf cells') (fun i => hm i.toNat) ∧ Cl L (cf cells') S
  | 0, _, _, _, _, h, _, _, _, _ => by omega
  | m + 1, cells, e, c, hL, hD, hze, hzc, hmv, hcl => by
    have hget := cf_get (cells := cells) (c := c) (by rw [hL]; exact hmv.hc)
    unfold clearF
    rw [hget]
    dsimp only
    by_cases h1 : cf cells c = -1
    · rw [if_pos h1]
      exact ⟨cells, rfl, hL, hmv.done (fun _ => hh _) h1, hcl⟩
    · rw [if_neg h1]
      have hcz : c ≠ z := fun hcz => h1 (by rw [hcz]; exact hzc)
      have hlt := to_nxt hmv.hc hz hcz
      by_cases hs : staysN e c (hm (cf cells c).toNat) = true
      · rw [if_pos hs, hL]
        exact clear_ex hm S L z hz hh m cells e _ hL (by omega) hze hzc (hmv.stay (fun _ => hh _) h1 hs) hcl
      · rw [if_neg hs, hL]
        have hcf : cf ((cells.set e (cf cells c)).set c (-1)) = upd (upd (cf cells) e (cf cells c)) c (-1) := by
          rw [cf_set _ (by rw [List.length_set, hL]; exact hmv.hc), cf_set _ (by rw [hL]; exact hmv.he)]
        refine clear_ex hm S L z hz hh m _ c _ (by rw [List.length_set, List.length_set]; exact hL) (by omega) (fun e2 => hcz e2.symm) ?_ ?_ ?_
        · rw [hcf, upd_other _ _ (fun e2 => hcz e2.symm), upd_other _ _ hze]; exact hzc
        · rw [hcf]; exact hmv.move (fun _ => hh _) h1 hs
        · rw [hcf]; exact hcl.move hmv.he hmv.hc hmv.ne hmv.emp h1
/-- The search ends. -/
theorem find_ex {cells : List Int} {nodes : List Nd} {k : List Int} {L h z : Nat} (hL : cells.length = L) (hco : CellsOk cells nodes.length) (hh : h < L) (hz : z < L) (hze : cf cells z = -1) : ∀ (m c : Nat), c < L → D L c z < m →
    (∀ d, d < L → D L h d < D L h c → cf cells d ≠ -1 ∧ (ndD nodes (cf cells d).toNat).ky ≠ k) →
    ∃ c' r, findF cells nodes k m c = some (c', r) ∧ c' < L ∧ (∀ d, d < L → D L h d < D L h c' → cf cells d ≠ -1 ∧ (ndD nodes (cf cells d).toNat).ky ≠ k) ∧ (r = true → ∃ n : Nat, cf cells c' = (n : Int) ∧ n < nodes.length ∧ (ndD nodes n).ky = k) ∧ (r = false → cf cells c' = -1)
  | 0, _, _, hD, _ => by omega
  | m + 1, c, hc, hD, hw => by
    have hget := cf_get (cells := cells) (c := c) (by rw [hL]; exact hc)
    unfold findF
    rw [hget]
    dsimp only
    rcases hco.at (List.mem_of_getElem? hget) with h1 | ⟨j, h1, hj⟩
    · rw [if_pos h1]
      exact ⟨c, false, rfl, hc, hw, fun h => (Bool.false_ne_true h).elim, fun _ => h1⟩
    · rw [if_neg (by omega), if_neg (by omega), show (cf cells c).toNat = j by omega, ndD_some hj]
      dsimp only
      by_cases h3 : (ndD nodes j).ky = k
      · rw [if_pos h3]
        exact ⟨c, true, rfl, hc, hw, fun _ => ⟨j, h1, hj, h3⟩, fun h => (Bool.false_ne_true h.symm).elim⟩
      · rw [if_neg h3, hL]
        have hcz : c ≠ z := fun hcz => by rw [hcz, hze] at h1; omega
        have hlt := to_nxt hc hz hcz
        have hnh : nxt L c ≠ h := fun he => by
          have h4 := (nxt_end hh hc).1 he
          have h5 := D_lt hh hz
          by_cases h6 : D L h z < D L h c
          · exact (hw z hz h6).1 hze
          · exact hcz (D_inj hh hc hz (by omega))
        refine find_ex hL hco hh hz hze m _ (nxt_lt hc) (by omega) (fun d hd hdl => ?_)
        rw [D_nxt hh hc hnh] at hdl
        by_cases hdc : D L h d < D L h c
        · exact hw d hd hdc
        · have hdd : d = c := D_inj hh hd hc (by omega)
          subst hdd
          exact ⟨by omega, by rw [h1]; exact h3⟩
end Go.Proofs.Ytikpgmajiafhgaa.Fl
/- flow, plain: the row of use. -/
namespace Go.Proofs.Ytikpgmajiafhgaa.Fl
open Go.RowKit Go.Proofs.YtikpgmajiafhgaaW.PrintWords Go.Proofs.YtikpgmajiafhgaaW.PrintLast Go.Proofs.YtikpgmajiafhgaaW.PrintMore Go.Proofs.Ytikpgmajiafhgaa.X
set_option linter.unusedVariables false
set_option linter.unusedSimpArgs false
def hdI : List Nat → Int → Int
  | [], q => q
  | n :: _, _ => (n : Int)
def ltI : Int → List Nat → Int
  | p, [] => p
  | _, n :: l => ltI (n : Int) l
/-- Nodes that hang together: p is ahead of them, q behind. -/
def Seg (nodes : List Nd) : Int → List Nat → Int → Prop
  | _, [], _ => True
  | p, n :: l, q => (∃ x, nodes[n]? = some x ∧ x.pv = p ∧ x.nx = hdI l q) ∧ Seg nodes (n : Int) l q
theorem hdI_append (a b : List Nat) (q : Int) : hdI (a ++ b) q = hdI a (hdI b q) := by cases a <;> rfl
theorem ltI_append (p : Int) : ∀ (a b : List Nat), ltI p (a ++ b) = ltI (ltI p a) b
  | [], _ => rfl
  | n :: a, b => ltI_append (n : Int) a b
theorem ltI_last (p : Int) (a : List Nat) (m : Nat) : ltI p (a ++ [m]) = (m : Int) := by rw [ltI_append]; rfl
theorem Seg_append {nodes : List Nd} : ∀ {p : Int} {a b : List Nat} {q : Int}, Seg nodes p (a ++ b) q ↔ Seg nodes p a (hdI b q) ∧ Seg nodes (ltI p a) b q
  | _, [], _, _ => ⟨fun h => ⟨trivial, h⟩, fun h => h.2⟩
  | p, n :: a, b, q => by
    show ((∃ x, nodes[n]? = some x ∧ x.pv = p ∧ x.nx = hdI (a ++ b) q) ∧ Seg nodes (n : Int) (a ++ b) q) ↔ ((∃ x, nodes[n]? = some x ∧ x.pv = p ∧ x.nx = hdI a (hdI b q)) ∧ Seg nodes (n : Int) a (hdI b q)) ∧ Seg nodes (ltI (n : Int) a) b q
    rw [hdI_append, Seg_append, and_assoc]
theorem Seg_frame {nodes nodes' : List Nd} : ∀ {p : Int} {l : List Nat} {q : Int}, (∀ n ∈ l, nodes'[n]? = nodes[n]?) → Seg nodes p l q → Seg nodes' p l q
  | _, [], _, _, _ => trivial
  | _, n :: l, _, h, ⟨⟨x, h1, h2⟩, h3⟩ => ⟨⟨x, (h n List.mem_cons_self).trans h1, h2⟩, Seg_frame (fun m hm => h m (List.mem_cons_of_mem _ hm)) h3⟩
theorem Seg_set {nodes : List Nd} {p : Int} {l : List Nat} {q : Int} (h : Seg nodes p l q) {m : Nat} (hm : m ∉ l) (y : Nd) : Seg (nodes.set m y) p l q :=
  Seg_frame (fun n hn => by rw [List.getElem?_set, if_neg (fun e => by subst e; exact hm hn)]) h
/-- What is behind the last one changes. -/
theorem Seg_setNx {nodes : List Nd} {p : Int} {a : List Nat} {m : Nat} {q : Int} (h : Seg nodes p (a ++ [m]) q) (hm : m ∉ a) (q' : Int) : Seg (nodes.set m { ndD nodes m with nx := q' }) p (a ++ [m]) q' := by
  obtain ⟨h1, ⟨x, h2, h3, h4⟩, _⟩ := Seg_append.1 h
  have hlt := (List.getElem?_eq_some_iff.1 h2).1
  refine Seg_append.2 ⟨Seg_set h1 hm _, ⟨{ ndD nodes m with nx := q' }, ?_, ?_, rfl⟩, trivial⟩
  · rw [List.getElem?_set, if_pos rfl, if_pos hlt]
  · rw [ndD_of h2]; exact h3
/-- What is ahead of the first one changes. -/
theorem Seg_setPv {nodes : List Nd} {p : Int} {b : List Nat} {m : Nat} {q : Int} (h : Seg nodes p (m :: b) q) (hm : m ∉ b) (p' : Int) : Seg (nodes.set m { ndD nodes m with pv := p' }) p' (m :: b) q := by
  obtain ⟨⟨x, h2, h3, h4⟩, h5⟩ := h
  have hlt := (List.getElem?_eq_some_iff.1 h2).1
  refine ⟨⟨{ ndD nodes m with pv := p' }, ?_, rfl, ?_⟩, Seg_set h5 hm _⟩
  · rw [List.getElem?_set, if_pos rfl, if_pos hlt]
  · rw [ndD_of h2]; exact h4
/-- A table's row of use. -/
structure Chain (T : Tb) (ns : List Nat) : Prop where
  seg : Seg T.nodes (-1) ns (-1)
  first : T.first = hdI ns (-1)
  last : T.last = ltI (-1) ns
theorem Chain.node {T : Tb} {a b : List Nat} {n : Nat} (h : Chain T (a ++ n :: b)) : ∃ x, T.nodes[n]? = some x ∧ x.pv = ltI (-1) a ∧ x.nx = hdI b (-1) :=
  (Seg_append.1 h.seg).2.1
theorem nil_or_last : ∀ l : List Nat, l = [] ∨ ∃ a m, l = a ++ [m] := fun l => by
  rcases List.eq_nil_or_concat l with h | ⟨a, m, h⟩
  · exact .inl h
  · exact .inr ⟨a, m, by rw [h, List.concat_eq_append]⟩
theorem ltI_ne (a : List Nat) (m : Nat) : ltI (-1) (a ++ [m]) ≠ -1 := by rw [ltI_last]; omega
theorem Chain.unlink {T : Tb} {a b : List Nat} {n : Nat} (h : Chain T (a ++ n :: b)) (hd : (a ++ n :: b).Nodup) : Chain (T.unlink n) (a ++ b) := by
  obtain ⟨x, hx, hp, hn⟩ := h.node
  have hs1 := (Seg_append.1 h.seg).1
  have hs2 := (Seg_append.1 h.seg).2.2
  have hf := h.first
  have hl := h.last
  rw [ltI_append] at hl
  rw [hdI_append] at hf
  change Seg T.nodes (-1) a (n : Int) at hs1
  unfold Tb.unlink
  rw [ndD_of hx]
  have hA : Seg (T.unlinkA x).nodes (-1) a (hdI b (-1)) ∧ Seg (T.unlinkA x).nodes (n : Int) b (-1) ∧ (T.unlinkA x).first = hdI a (hdI b (-1)) ∧ (T.unlinkA x).last = T.last ∧ (T.unlinkA x).nodes.length = T.nodes.length := by
    unfold Tb.unlinkA
    rcases nil_or_last a with rfl | ⟨a', m, rfl⟩
    · rw [if_pos (by rw [hp]; rfl)]
      exact ⟨trivial, hs2, hn, rfl, rfl⟩
    · rw [if_neg (by rw [hp]; exact ltI_ne _ _), hp, ltI_last, hn]
      have hma : m ∉ a' := fun hm => by
        have h1 := (List.nodup_append.1 hd).1
        exact (List.nodup_append.1 h1).2.2 m hm m (by simp) rfl
      have hmb : m ∉ b := fun hm => (List.nodup_append.1 hd).2.2 m (by simp) m (List.mem_cons_of_mem _ hm) rfl
      refine ⟨Seg_setNx hs1 hma _, Seg_set hs2 hmb _, ?_, rfl, List.length_set⟩
      show T.first = _
      rw [hf, hdI_append, hdI_append]
      cases a' <;> rfl
  obtain ⟨h1, h2, h3, h4, h5⟩ := hA
  obtain ⟨U, hU⟩ : ∃ U, U = T.unlinkA x := ⟨_, rfl⟩
  rw [← hU] at h1 h2 h3 h4 h5 ⊢
  unfold Tb.unlinkB
  rcases b with _ | ⟨r, b'⟩
  · rw [if_pos (by rw [hn]; rfl)]
    exact ⟨by rw [List.append_nil]; exact h1, by rw [List.append_nil]; exact h3, by rw [List.append_nil]; exact hp⟩
  · rw [if_neg (by rw [hn]; show (r : Int) ≠ -1; omega), hn, hp, show (hdI (r :: b') (-1)).toNat = r from Int.toNat_natCast r]
    have hra : r ∉ a := fun hm => (List.nodup_append.1 hd).2.2 r hm r (by simp) rfl
    have hrb : r ∉ b' := fun hm => by
      have h6 := (List.nodup_append.1 hd).2.1
      rw [List.nodup_cons, List.nodup_cons] at h6
      exact h6.2.1 hm
    refine ⟨Seg_append.2 ⟨Seg_set h1 hra _, Seg_setPv h2 hrb _⟩, ?_, ?_⟩
    · show U.first = _
      rw [h3, hdI_append]
    · show U.last = _
      rw [h4, hl, ltI_append]
      rfl
theorem Chain.link {T : Tb} {ns : List Nat} {n : Nat} (h : Chain T ns) (hn : n ∉ ns) (hl : n < T.nodes.length) (hd : ns.Nodup) : Chain (T.link n) (ns ++ [n]) := by
  unfold Tb.link
  rcases nil_or_last ns with rfl | ⟨a, m, rfl⟩
  · rw [if_pos (show T.last = -1 from h.last)]
    refine ⟨⟨⟨{ ndD T.nodes n with pv := T.last, nx := -1 }, ?_, h.last, rfl⟩, trivial⟩, rfl, rfl⟩
    show (T.nodes.set n _)[n]? = _
    rw [List.getElem?_set, if_pos rfl, if_pos hl]
  · have hlast : T.last = (m : Int) := by rw [h.last, ltI_last]
    rw [if_neg (by omega), hlast, show ((m : Int)).toNat = m from Int.toNat_natCast m]
    have hmn : m ≠ n := fun e => hn (by rw [e]; simp)
    have hma : m ∉ a := fun hm => (List.nodup_append.1 hd).2.2 m hm m (by simp) rfl
    have h1 : Seg (T.nodes.set n { ndD T.nodes n with pv := (m : Int), nx := -1 }) (-1) (a ++ [m]) (-1) := Seg_set h.seg hn _
    have hm2 : ndD (T.nodes.set n { ndD T.nodes n with pv := (m : Int), nx := -1 }) m = ndD T.nodes m := by
      unfold ndD
      rw [List.getD_eq_getElem?_getD, List.getElem?_set, if_neg (fun e => hmn e.symm), List.getD_eq_getElem?_getD]
    have h2 := Seg_setNx h1 hma (n : Int)
    rw [hm2] at h2
    refine ⟨Seg_append.2 ⟨h2, ⟨{ ndD T.nodes n with pv := (m : Int), nx := -1 }, ?_, ?_, rfl⟩, trivial⟩, ?_, ?_⟩
    · show ((T.nodes.set n _).set m _)[n]? = _
      rw [List.getElem?_set, if_neg hmn, List.getElem?_set, if_pos rfl, if_pos hl]
    · rw [ltI_last]
    · show T.first = _
      rw [h.first, hdI_append, hdI_append, hdI_append]
      cases a <;> rfl
    · rw [ltI_last]
theorem Chain.linkOk {T : Tb} {ns : List Nat} (h : Chain T ns) (hb : ∀ n ∈ ns, n < T.nodes.length) {n : Nat} (hn : n ∈ ns) : ∃ x, T.nodes[n]? = some x ∧ LinkOk T x := by
  obtain ⟨a, b, rfl⟩ := List.append_of_mem hn
  obtain ⟨x, hx, hp, hq⟩ := h.node
  refine ⟨x, hx, ?_, ?_⟩
  · rcases nil_or_last a with rfl | ⟨a', m, rfl⟩
    · exact .inl hp
    · right; exact ⟨m, by rw [hp, ltI_last], hb m (by simp)⟩
  · rcases b with _ | ⟨r, b'⟩
    · exact .inl hq
    · right; exact ⟨r, hq, hb r (by simp)⟩
/-- What a node tells: its key, its backend, its last use. -/
structure Rw where
  ky : List Int
  bk : Int
  la : Int
deriving DecidableEq
def Nd.row (x : Nd) : Rw := ⟨x.ky, x.bk, x.la⟩
/-- Links differ, at most. -/
def SameRow (l l' : List Nd) : Prop := l'.length = l.length ∧ ∀ j, (ndD l' j).row = (ndD l j).row
theorem SameRow.refl (l : List Nd) : SameRow l l := ⟨rfl, fun _ => rfl⟩
theorem SameRow.trans {a b c : List Nd} (h : SameRow a b) (h2 : SameRow b c) : SameRow a c := ⟨h2.1.trans h.1, fun j => (h2.2 j).trans (h.2 j)⟩
theorem ndD_set (l : List Nd) (m : Nat) (y : Nd) (j : Nat) : ndD (l.set m y) j = if m = j ∧ m < l.length then y else ndD l j := by
  unfold ndD
  rw [List.getD_eq_getElem?_getD, List.getElem?_set, List.getD_eq_getElem?_getD]
  by_cases h : m = j
  · subst h
    by_cases h2 : m < l.length
    · simp [h2]
    · simp [h2]
  · simp [h]
theorem SameRow.set (l : List Nd) (m : Nat) (y : Nd) (h : y.row = (ndD l m).row) : SameRow l (l.set m y) :=
  ⟨List.length_set, fun j => by
    rw [ndD_set]
    split
    · rename_i h2; rw [h, h2.1]
    · rfl⟩
theorem sameRow_unlink (T : Tb) (n : Nat) : SameRow T.nodes (T.unlink n).nodes := by
  have hA : ∀ (T : Tb) (x : Nd), SameRow T.nodes (T.unlinkA x).nodes := fun T x => by
    unfold Tb.unlinkA
    split
    · exact SameRow.refl _
    · exact SameRow.set _ _ _ rfl
  have hB : ∀ (T : Tb) (x : Nd), SameRow T.nodes (T.unlinkB x).nodes := fun T x => by
    unfold Tb.unlinkB
    split
    · exact SameRow.refl _
    · exact SameRow.set _ _ _ rfl
  exact (hA T _).trans (hB _ _)
theorem sameRow_link (T : Tb) (n : Nat) : SameRow T.nodes (T.link n).nodes := by
  unfold Tb.link
  split
  · exact SameRow.set _ _ _ rfl
  · refine (SameRow.set T.nodes n { ndD T.nodes n with pv := T.last, nx := -1 } rfl).trans (SameRow.set _ _ _ ?_)
    rw [ndD_set]
    split
    · rename_i h; rw [← h.1]; rfl
    · rfl
theorem link_alike (T : Tb) (n : Nat) : (T.link n).cells = T.cells ∧ (T.link n).free = T.free ∧ (T.link n).count = T.count ∧ (T.link n).most = T.most ∧ (T.link n).idle = T.idle := by
  unfold Tb.link
  split <;> exact ⟨rfl, rfl, rfl, rfl, rfl⟩
end Go.Proofs.Ytikpgmajiafhgaa.Fl
/- flow, plain: what always holds of a table; what finds, drops, removes, sweeps. -/
namespace Go.Proofs.Ytikpgmajiafhgaa.Fl
open Go.RowKit Go.Proofs.YtikpgmajiafhgaaW.PrintWords Go.Proofs.YtikpgmajiafhgaaW.PrintLast Go.Proofs.YtikpgmajiafhgaaW.PrintMore Go.Proofs.Ytikpgmajiafhgaa.X
set_option linter.unusedVariables false
set_option linter.unusedSimpArgs false
/-- What always holds: ns hang in the row of use, us are other nodes. -/
structure Inv2 (T : Tb) (ns us : List Nat) : Prop where
  most : 1 ≤ T.most ∧ T.most ≤ 1024
  len : (T.cells.length : Int) = 2 * T.most
  cl : Cl T.cells.length (cf T.cells) (fun n => n ∈ ns)
  pr : Pr T.cells.length (cf T.cells) (fun i => hmT T T.cells.length i.toNat)
  ch : Chain T ns
  nd : (ns ++ us).Nodup
  lt : ∀ n ∈ ns ++ us, n < T.nodes.length
  nl : T.nodes.length = ns.length + us.length
  small : (T.nodes.length : Int) ≤ T.most
  count : T.count = (ns.length : Int)
  ok : NodesOk T
  keys : ∀ n ∈ ns, ∀ m ∈ ns, (ndD T.nodes n).ky = (ndD T.nodes m).ky → n = m
def toI (l : List Nat) : List Int := l.map (fun n : Nat => (n : Int))
def Inv (T : Tb) (ns : List Nat) : Prop := ∃ fs, Inv2 T ns fs ∧ T.free = toI fs
section
variable {T : Tb} {ns us : List Nat}
theorem Inv2.nodup (h : Inv2 T ns us) : ns.Nodup := (List.nodup_append.1 h.nd).1
theorem Inv2.ltn (h : Inv2 T ns us) {n : Nat} (hn : n ∈ ns) : n < T.nodes.length := h.lt n (List.mem_append_left _ hn)
theorem Inv2.len0 (h : Inv2 T ns us) : 0 < T.cells.length := by have := h.most; have := h.len; omega
theorem Inv2.len1 (h : Inv2 T ns us) : T.cells.length ≤ 2048 := by have := h.most; have := h.len; omega
theorem Inv2.room (h : Inv2 T ns us) : ns.length < T.cells.length := by have := h.most; have := h.len; have := h.small; have := h.nl; omega
theorem Inv2.cellsOk (h : Inv2 T ns us) : CellsOk T.cells T.nodes.length := fun x hx => by
  obtain ⟨c, hc⟩ := List.getElem?_of_mem hx
  rcases h.cl.ok c (List.getElem?_eq_some_iff.1 hc).1 with h1 | ⟨n, h1, h2⟩
  · left; rw [← cf_of hc]; exact h1
  · right; exact ⟨n, by rw [← cf_of hc]; exact h1, h.ltn h2⟩
theorem Inv2.find (h : Inv2 T ns us) (k : List Int) : ∃ c th, FindR T k c th ∧ c < T.cells.length ∧
    (∀ d, d < T.cells.length → D T.cells.length (homeN k T.cells.length) d < D T.cells.length (homeN k T.cells.length) c → cf T.cells d ≠ -1) ∧
    ((th = true ∧ ∃ n, n ∈ ns ∧ T.cells[c]? = some (n : Int) ∧ (ndD T.nodes n).ky = k) ∨ (th = false ∧ cf T.cells c = -1 ∧ ∀ n ∈ ns, (ndD T.nodes n).ky ≠ k)) := by
  obtain ⟨z, hz, hze⟩ := h.cl.empty ns (fun n hn => hn) h.room
  have hh := homeN_lt k h.len0
  obtain ⟨c, r, hf, hc, hw, ht, hff⟩ := find_ex (k := k) rfl h.cellsOk hh hz hze _ _ hh (Nat.lt_succ_self _) (fun d _ hd => by rw [D_self] at hd; omega)
  refine ⟨c, r, ⟨h.len0, by have := h.len1; omega, _, hf⟩, hc, fun d hd hdl => (hw d hd hdl).1, ?_⟩
  cases r with
  | true =>
    obtain ⟨n, h1, h2, h3⟩ := ht rfl
    refine .inl ⟨rfl, n, ?_, by rw [cf_get hc, h1], h3⟩
    rcases h.cl.ok c hc with h4 | ⟨m, h4, h5⟩
    · omega
    · have : m = n := by omega
      rw [← this]; exact h5
  | false =>
    have h1 := hff rfl
    refine .inr ⟨rfl, h1, fun n hn hk => ?_⟩
    obtain ⟨x, hx, hxe⟩ := h.cl.has n hn
    have hne : cf T.cells x ≠ -1 := by omega
    have hhx : hmT T T.cells.length (cf T.cells x).toNat = homeN k T.cells.length := by
      unfold hmT; rw [hxe, show ((n : Int)).toNat = n from Int.toNat_natCast n, hk]
    have hpr := h.pr x hx hne c hc
    dsimp only at hpr
    rw [hhx] at hpr
    by_cases hlt : D T.cells.length (homeN k T.cells.length) x < D T.cells.length (homeN k T.cells.length) c
    · refine (hw x hx hlt).2 ?_
      rw [hxe, show ((n : Int)).toNat = n from Int.toNat_natCast n]; exact hk
    · by_cases heq : D T.cells.length (homeN k T.cells.length) x = D T.cells.length (homeN k T.cells.length) c
      · exact hne (by rw [D_inj hh hx hc heq]; exact h1)
      · exact hpr (by omega) h1
/-- What stays of a table: its bounds, its entries. -/
structure Alk (T T' : Tb) : Prop where
  most : T'.most = T.most
  idle : T'.idle = T.idle
  row : SameRow T.nodes T'.nodes
theorem Alk.refl (T : Tb) : Alk T T := ⟨rfl, rfl, SameRow.refl _⟩
theorem Alk.trans {A B C : Tb} (h : Alk A B) (h2 : Alk B C) : Alk A C := ⟨h2.most.trans h.most, h2.idle.trans h.idle, h.row.trans h2.row⟩
theorem row_ky {l l' : List Nd} (h : SameRow l l') (j : Nat) : (ndD l' j).ky = (ndD l j).ky := congrArg Rw.ky (h.2 j)
theorem keyOk_kz : KeyOk kz := by
  refine ⟨⟨by decide, by decide, by decide⟩, by decide, by decide, by decide⟩
theorem zero_ky : Nd.zero.ky = kz := rfl
theorem nodesOk_same {T T' : Tb} (h : NodesOk T) (hs : SameRow T.nodes T'.nodes) : NodesOk T' := fun nd hnd => by
  obtain ⟨j, hj⟩ := List.getElem?_of_mem hnd
  have hlt := (List.getElem?_eq_some_iff.1 hj).1
  rw [← ndD_of hj, row_ky hs j]
  have hj2 := ndD_some (l := T.nodes) (m := j) (by rw [← hs.1]; exact hlt)
  exact h _ (List.mem_of_getElem? hj2)
theorem hmT_same {T T' : Tb} (hs : SameRow T.nodes T'.nodes) (L j : Nat) : hmT T' L j = hmT T L j := by unfold hmT; rw [row_ky hs]
theorem Inv.drop (hi : Inv T ns) {n c : Nat} (hn : n ∈ ns) (hc : T.cells[c]? = some (n : Int)) : ∃ T', DropR T c n T' ∧ Inv T' (ns.erase n) ∧ Alk T T' := by
  obtain ⟨fs, h, hfr⟩ := hi
  have hcl := (List.getElem?_eq_some_iff.1 hc).1
  have hcf := cf_of hc
  obtain ⟨z, hz, hze⟩ := h.cl.empty ns (fun n hn => hn) h.room
  have hzc : z ≠ c := fun e => by rw [e, hcf] at hze; omega
  have hh : ∀ j, hmT T T.cells.length j < T.cells.length := fun j => homeN_lt _ h.len0
  have hmv := Mv.start h.pr (fun i => hh _) hcl (by have := h.most; have := h.len; omega) ⟨z, hz, hzc, hze⟩
  have hrem := h.cl.rem hcl hcf
  have hset := cf_set (-1) hcl
  rw [← hset] at hmv hrem
  obtain ⟨cells', hcle, hL', hpr', hcl'⟩ := clear_ex (hmT T T.cells.length) _ T.cells.length z hz hh _ (T.cells.set c (-1)) c _ List.length_set (Nat.lt_succ_self _) hzc (by rw [hset, upd_other _ _ hzc]; exact hze) hmv hrem
  have hal := alikeU T n
  have hsr := sameRow_unlink T n
  have hfl : T.free.length = fs.length := by rw [hfr]; unfold toI; exact List.length_map _
  have hsm : T.nodes.length ≤ 1024 := by have := h.small; have := h.most; omega
  refine ⟨T.drop n cells', ⟨⟨h.ok, h.cellsOk, h.len0, by have := h.len1; omega, by rw [h.count]; have := h.nl; omega, by have := h.nl; omega⟩, hc, h.ch.linkOk (fun m hm => h.ltn hm) hn, _, cells', hcle, rfl⟩, ?_, ⟨hal.most, hal.idle, hsr⟩⟩
  obtain ⟨a, b, hab⟩ := List.append_of_mem hn
  have hnd := h.nodup
  have hna : n ∉ a := fun hm => by rw [hab] at hnd; exact (List.nodup_append.1 hnd).2.2 n hm n (by simp) rfl
  have her : ns.erase n = a ++ b := by rw [hab, List.erase_append_right _ hna, List.erase_cons_head]
  have hperm : (ns.erase n ++ (fs ++ [n])).Perm (ns ++ fs) := by
    rw [her, hab]
    exact List.perm_iff_count.2 (fun x => by simp [List.count_append, List.count_cons]; omega)
  have hlen : (ns.erase n).length + 1 = ns.length := by rw [her, hab]; simp; omega
  refine ⟨fs ++ [n], ⟨?_, ?_, ?_, ?_, ?_, ?_, ?_, ?_, ?_, ?_, ?_, ?_⟩, ?_⟩
  · show 1 ≤ (T.unlink n).most ∧ (T.unlink n).most ≤ 1024
    rw [hal.most]; exact h.most
  · show (cells'.length : Int) = 2 * (T.unlink n).most
    rw [hal.most, hL']; exact h.len
  · show Cl cells'.length (cf cells') _
    rw [hL']
    exact hcl'.congr (fun m => by rw [hnd.mem_erase_iff]; exact and_comm)
  · show Pr cells'.length (cf cells') (fun i => hmT (T.drop n cells') cells'.length i.toNat)
    rw [hL']
    exact hpr'.congr (fun _ _ _ => hmT_same hsr _ _)
  · have h1 : Chain (T.unlink n) (a ++ b) := Chain.unlink (by rw [← hab]; exact h.ch) (by rw [← hab]; exact hnd)
    rw [her]
    exact ⟨h1.seg, h1.first, h1.last⟩
  · exact hperm.nodup_iff.2 h.nd
  · intro m hm
    show m < (T.unlink n).nodes.length
    rw [hsr.1]
    exact h.lt m (hperm.mem_iff.1 hm)
  · show (T.unlink n).nodes.length = _
    rw [hsr.1, h.nl, List.length_append]
    simp only [List.length_cons, List.length_nil]
    omega
  · show ((T.unlink n).nodes.length : Int) ≤ (T.unlink n).most
    rw [hsr.1, hal.most]; exact h.small
  · show T.count - 1 = _
    rw [h.count]; omega
  · exact hal.ok h.ok
  · intro m hm m' hm' he
    have h1 := row_ky hsr
    have he' : (ndD (T.unlink n).nodes m).ky = (ndD (T.unlink n).nodes m').ky := he
    rw [h1, h1] at he'
    exact h.keys m (List.mem_of_mem_erase hm) m' (List.mem_of_mem_erase hm') he'
  · show T.free ++ [(n : Int)] = _
    rw [hfr]; unfold toI; rw [List.map_append]; rfl
theorem Inv.rem (hi : Inv T ns) {n : Nat} (hn : n ∈ ns) : ∃ T', RemR T n T' ∧ Inv T' (ns.erase n) ∧ Alk T T' := by
  have hi' := hi
  obtain ⟨fs, h, hfr⟩ := hi
  obtain ⟨c, th, hf, hc, hw, ht⟩ := h.find (ndD T.nodes n).ky
  rcases ht with ⟨rfl, m, hm, hcm, hk⟩ | ⟨_, _, hk⟩
  · have hmn := h.keys m hm n hn hk
    subst hmn
    obtain ⟨T', hd, hi2, ha⟩ := hi'.drop hn hcm
    obtain ⟨fu, hfu⟩ := hf.f
    exact ⟨T', ⟨_, fu, c, ndD_some (h.ltn hn), hfu, hd⟩, hi2, ha⟩
  · exact absurd rfl (hk n hn)
end
/-- What a row's entries are. -/
def rws (T : Tb) (ns : List Nat) : List Rw := ns.map (fun n => (ndD T.nodes n).row)
theorem rws_same {T T' : Tb} (h : Alk T T') (ns : List Nat) : rws T' ns = rws T ns := List.map_congr_left (fun n _ => h.row.2 n)
theorem Inv.where_ (p : Rw → Bool) : ∀ (rest done : List Nat) (T : Tb) (cnt : Int), Inv T (done ++ rest) → 0 ≤ cnt → cnt + rest.length ≤ 1000000 →
    ∃ T' cnt', whereR (fun x => p x.row) (rest.length + 1) T (hdI rest (-1)) cnt (T', cnt') ∧ Inv T' (done ++ rest.filter (fun n => !p (ndD T.nodes n).row)) ∧ Alk T T' ∧ cnt' = cnt + rest.length - (rest.filter (fun n => !p (ndD T.nodes n).row)).length
  | [], done, T, cnt, hi, _, _ => ⟨T, cnt, .inl ⟨rfl, rfl⟩, hi, Alk.refl T, by simp⟩
  | n :: rest, done, T, cnt, hi, h0, h1 => by
    have hi' := hi
    obtain ⟨fs, h, hfr⟩ := hi
    obtain ⟨x, hx, _, hnx⟩ := h.ch.node
    have hxn := ndD_of hx
    have hmem : n ∈ done ++ n :: rest := by simp
    simp only [List.length_cons] at h1
    by_cases hp : p (ndD T.nodes n).row = true
    · obtain ⟨T1, hr, hi1, ha⟩ := hi'.rem hmem
      have hnd : n ∉ done := fun hm => (List.nodup_append.1 h.nodup).2.2 n hm n (by simp) rfl
      rw [List.erase_append_right _ hnd, List.erase_cons_head] at hi1
      obtain ⟨T', cnt', hw, hi2, ha2, hc⟩ := Inv.where_ p rest done T1 (cnt + 1) hi1 (by omega) (by omega)
      have hfe : rest.filter (fun n => !p (ndD T1.nodes n).row) = rest.filter (fun n => !p (ndD T.nodes n).row) := by
        congr 1; funext m; rw [ha.row.2 m]
      rw [hfe] at hi2 hc
      refine ⟨T', cnt', .inr ⟨n, x, rfl, hx, h0, by omega, .inl ⟨by rw [← hxn]; exact hp, T1, hr, by rw [hnx]; exact hw⟩⟩, ?_, ha.trans ha2, ?_⟩
      · rw [List.filter_cons_of_neg (by simp [hp])]; exact hi2
      · rw [List.filter_cons_of_neg (by simp [hp]), hc, List.length_cons]; omega
    · have hp' : p (ndD T.nodes n).row = false := by simpa using hp
      have hi1 : Inv T ((done ++ [n]) ++ rest) := by rw [List.append_assoc]; exact hi'
      obtain ⟨T', cnt', hw, hi2, ha2, hc⟩ := Inv.where_ p rest (done ++ [n]) T cnt hi1 h0 (by omega)
      refine ⟨T', cnt', .inr ⟨n, x, rfl, hx, h0, by omega, .inr ⟨by rw [← hxn]; exact hp', by rw [hnx]; exact hw⟩⟩, ?_, ha2, ?_⟩
      · rw [List.filter_cons_of_pos (by simp [hp'])]
        rw [List.append_assoc] at hi2; exact hi2
      · rw [List.filter_cons_of_pos (by simp [hp']), hc, List.length_cons, List.length_cons]; omega
end Go.Proofs.Ytikpgmajiafhgaa.Fl
/- flow, plain: a table against a list of entries in the order of use. -/
namespace Go.Proofs.Ytikpgmajiafhgaa.Fl
open Go.RowKit Go.Proofs.YtikpgmajiafhgaaW.PrintWords Go.Proofs.YtikpgmajiafhgaaW.PrintLast Go.Proofs.YtikpgmajiafhgaaW.PrintMore Go.Proofs.Ytikpgmajiafhgaa.X
set_option linter.unusedVariables false
set_option linter.unusedSimpArgs false
/-- A table is these entries, in the order of use. -/
def Is (T : Tb) (R : List Rw) : Prop := ∃ ns, Inv T ns ∧ R = rws T ns
def fnd (R : List Rw) (k : List Int) : Option Rw := R.find? (fun r => decide (r.ky = k))
def cutS (R : List Rw) (k : List Int) : List Rw := R.eraseP (fun r => decide (r.ky = k))
def sweepS (R : List Rw) (idle now : Int) : List Rw := R.filter (fun r => !overS r.la idle now)
def forgetS (R : List Rw) (bk : Int) : List Rw := R.filter (fun r => !(r.bk == bk))
def roomS (most idle now : Int) (R : List Rw) : List Rw := if (R.length : Int) < most then R else sweepS R idle now
def makeS (most idle now : Int) (R : List Rw) : List Rw × List Int × Bool :=
  if ((roomS most idle now R).length : Int) < most then (roomS most idle now R, kz, false) else ((roomS most idle now R).tail, ((roomS most idle now R).headD ⟨kz, 0, 0⟩).ky, true)
def putS (most idle : Int) (R : List Rw) (k : List Int) (bk now : Int) : List Rw × List Int × Bool × Int :=
  if bk < 0 ∨ 63 < bk then (R, kz, false, 11) else
  match fnd R k with
  | some r => if overS r.la idle now = true then ((makeS most idle now (cutS R k)).1 ++ [⟨k, bk, now⟩], (makeS most idle now (cutS R k)).2.1, (makeS most idle now (cutS R k)).2.2, 0) else (R, kz, false, 16)
  | none => ((makeS most idle now R).1 ++ [⟨k, bk, now⟩], (makeS most idle now R).2.1, (makeS most idle now R).2.2, 0)
def getS (idle : Int) (R : List Rw) (k : List Int) (now : Int) : List Rw × Int × Bool :=
  match fnd R k with
  | none => (R, 0, false)
  | some r => if overS r.la idle now = true then (cutS R k, 0, false) else (cutS R k ++ [{ r with la := max r.la now }], r.bk, true)
def ofS (R : List Rw) (k : List Int) : Int × Int × Bool :=
  match fnd R k with
  | none => (0, 0, false)
  | some r => (r.bk, r.la, true)
theorem fnd_of {a b : List Rw} {r : Rw} {k : List Int} (hr : r.ky = k) (h : ∀ x ∈ a, x.ky ≠ k) : fnd (a ++ r :: b) k = some r ∧ cutS (a ++ r :: b) k = a ++ b := by
  constructor
  · unfold fnd
    rw [List.find?_append, List.find?_eq_none.2 (fun x hx => by simpa using h x hx), Option.none_or, List.find?_cons_of_pos (by simpa using hr)]
  · unfold cutS
    rw [List.eraseP_append_right _ (fun x hx => by simpa using h x hx), List.eraseP_cons_of_pos (by simpa using hr)]
theorem fnd_none {R : List Rw} {k : List Int} (h : ∀ x ∈ R, x.ky ≠ k) : fnd R k = none ∧ cutS R k = R := by
  constructor
  · unfold fnd
    exact List.find?_eq_none.2 (fun x hx => by simpa using h x hx)
  · unfold cutS
    exact List.eraseP_of_forall_not (fun x hx => by simpa using h x hx)
section
variable {T : Tb} {R : List Rw} {ns us : List Nat}
theorem rws_mem {r : Rw} (h : r ∈ rws T ns) : ∃ n ∈ ns, (ndD T.nodes n).row = r := List.mem_map.1 h
theorem rws_split (h : Inv2 T ns us) {n : Nat} (hn : n ∈ ns) {k : List Int} (hk : (ndD T.nodes n).ky = k) : fnd (rws T ns) k = some (ndD T.nodes n).row ∧ cutS (rws T ns) k = rws T (ns.erase n) := by
  obtain ⟨a, b, hab⟩ := List.append_of_mem hn
  have hnd := h.nodup
  have hna : n ∉ a := fun hm => by rw [hab] at hnd; exact (List.nodup_append.1 hnd).2.2 n hm n (by simp) rfl
  have her : ns.erase n = a ++ b := by rw [hab, List.erase_append_right _ hna, List.erase_cons_head]
  have hs : rws T ns = rws T a ++ (ndD T.nodes n).row :: rws T b := by rw [hab]; unfold rws; rw [List.map_append, List.map_cons]
  have hx : ∀ x ∈ rws T a, x.ky ≠ k := fun x hx he => by
    obtain ⟨m, hm, rfl⟩ := rws_mem hx
    have hmn := h.keys m (by rw [hab]; exact List.mem_append_left _ hm) n hn (he.trans hk.symm)
    exact hna (hmn ▸ hm)
  have h1 := fnd_of (b := rws T b) (r := (ndD T.nodes n).row) hk hx
  rw [hs, her]
  refine ⟨h1.1, h1.2.trans ?_⟩
  unfold rws
  rw [List.map_append]
theorem rws_none {k : List Int} (h : ∀ n ∈ ns, (ndD T.nodes n).ky ≠ k) : ∀ x ∈ rws T ns, x.ky ≠ k := fun x hx he => by
  obtain ⟨n, hn, rfl⟩ := rws_mem hx
  exact h n hn he
theorem Is.where_ (h : Is T R) (p : Rw → Bool) : ∃ fu T', whereR (fun x => p x.row) fu T T.first 0 (T', (R.length : Int) - ((R.filter (fun r => !p r)).length : Int)) ∧ Is T' (R.filter (fun r => !p r)) ∧ T'.most = T.most ∧ T'.idle = T.idle := by
  obtain ⟨ns, hi, rfl⟩ := h
  obtain ⟨fs, h2, _⟩ := id hi
  obtain ⟨T', cnt', hw, hi2, ha, hc⟩ := Inv.where_ p ns [] T 0 hi (by omega) (by have := h2.nl; have := h2.small; have := h2.most; omega)
  have hf : (rws T ns).filter (fun r => !p r) = rws T (ns.filter (fun n => !p (ndD T.nodes n).row)) := by unfold rws; rw [List.filter_map]; rfl
  have hcnt : cnt' = ((rws T ns).length : Int) - (((rws T ns).filter (fun r => !p r)).length : Int) := by
    rw [hc, hf]; unfold rws; rw [List.length_map, List.length_map]; omega
  rw [← hcnt, hf]
  rw [h2.ch.first]
  exact ⟨_, T', hw, ⟨_, hi2, (rws_same ha _).symm⟩, ha.most, ha.idle⟩
theorem Is.of (h : Is T R) (k : List Int) : OfR T k (ofS R k).1 (ofS R k).2.1 (ofS R k).2.2 := by
  obtain ⟨ns, ⟨fs, h2, hfr⟩, rfl⟩ := h
  obtain ⟨c, th, hf, hc, hw, ht⟩ := h2.find k
  unfold ofS
  rcases ht with ⟨rfl, n, hn, hcn, hk⟩ | ⟨rfl, h1, hk⟩
  · rw [(rws_split h2 hn hk).1]
    exact ⟨c, true, hf, .inr ⟨rfl, n, _, hcn, ndD_some (h2.ltn hn), rfl, rfl, rfl⟩⟩
  · rw [(fnd_none (rws_none hk)).1]
    exact ⟨c, false, hf, .inl ⟨rfl, rfl, rfl, rfl⟩⟩
theorem Seg_la {nodes : List Nd} {m : Nat} {v : Int} : ∀ {p : Int} {l : List Nat} {q : Int}, Seg nodes p l q → Seg (nodes.set m { ndD nodes m with la := v }) p l q
  | _, [], _, _ => trivial
  | _, n :: l, _, ⟨⟨x, h1, h2, h3⟩, h4⟩ => by
    refine ⟨?_, Seg_la h4⟩
    rw [List.getElem?_set]
    by_cases hmn : m = n
    · subst hmn
      rw [if_pos rfl, if_pos (List.getElem?_eq_some_iff.1 h1).1]
      exact ⟨_, rfl, by rw [ndD_of h1]; exact h2, by rw [ndD_of h1]; exact h3⟩
    · rw [if_neg hmn]
      exact ⟨x, h1, h2, h3⟩
theorem Inv.get (hi : Inv T ns) {n : Nat} (hn : n ∈ ns) (now : Int) : ∃ Tu Tl y T', Tu = T.unlink n ∧ (∃ x1, Tu.nodes[n]? = some x1) ∧ (Tu.last = -1 ∨ ∃ (m : Nat) (y : Nd), Tu.last = (m : Int) ∧ m ≠ n ∧ Tu.nodes[m]? = some y) ∧ Tl = Tu.link n ∧ Tl.nodes[n]? = some y ∧
    T' = { Tl with nodes := Tl.nodes.set n { y with la := max y.la now } } ∧ y.row = (ndD T.nodes n).row ∧ Inv T' (ns.erase n ++ [n]) ∧ T'.most = T.most ∧ T'.idle = T.idle ∧ rws T' (ns.erase n ++ [n]) = rws T (ns.erase n) ++ [{ (ndD T.nodes n).row with la := max (ndD T.nodes n).la now }] := by
  obtain ⟨fs, h, hfr⟩ := hi
  obtain ⟨a, b, hab⟩ := List.append_of_mem hn
  have hnd := h.nodup
  have hna : n ∉ a := fun hm => by rw [hab] at hnd; exact (List.nodup_append.1 hnd).2.2 n hm n (by simp) rfl
  have her : ns.erase n = a ++ b := by rw [hab, List.erase_append_right _ hna, List.erase_cons_head]
  have hne : n ∉ ns.erase n := fun hm => (hnd.mem_erase_iff.1 hm).1 rfl
  have hsr := sameRow_unlink T n
  obtain ⟨Tu, hTu⟩ : ∃ Tu, Tu = T.unlink n := ⟨_, rfl⟩
  have hcu : Chain Tu (ns.erase n) := by rw [hTu, her]; exact Chain.unlink (by rw [← hab]; exact h.ch) (by rw [← hab]; exact hnd)
  have hau := alikeU T n
  rw [← hTu] at hsr hau
  have hlu : n < Tu.nodes.length := by rw [hsr.1]; exact h.ltn hn
  have hde : (ns.erase n).Nodup := hnd.erase n
  have hcl := hcu.link hne hlu hde
  have hsl := sameRow_link Tu n
  have hal := link_alike Tu n
  obtain ⟨Tl, hTl⟩ : ∃ Tl, Tl = Tu.link n := ⟨_, rfl⟩
  rw [← hTl] at hcl hsl hal
  have hs2 : SameRow T.nodes Tl.nodes := hsr.trans hsl
  have hll : n < Tl.nodes.length := by rw [hs2.1]; exact h.ltn hn
  have hy := ndD_some hll
  refine ⟨Tu, Tl, ndD Tl.nodes n, _, hTu, ⟨_, ndD_some hlu⟩, ?_, hTl, hy, rfl, hs2.2 n, ?_, ?_, ?_, ?_⟩
  · rcases nil_or_last (ns.erase n) with h0 | ⟨a', m, h0⟩
    · left; rw [hcu.last, h0]; rfl
    · right
      refine ⟨m, ndD Tu.nodes m, by rw [hcu.last, h0, ltI_last], fun e => hne (by rw [h0, ← e]; simp), ndD_some ?_⟩
      rw [hsr.1]
      exact h.ltn (List.mem_of_mem_erase (by rw [h0]; simp))
  · obtain ⟨y, hyd⟩ : ∃ y, y = { ndD Tl.nodes n with la := max (ndD Tl.nodes n).la now } := ⟨_, rfl⟩
    have hky : ∀ j, (ndD (Tl.nodes.set n y) j).ky = (ndD T.nodes j).ky := fun j => by
      rw [ndD_set]
      split
      · rename_i h3; rw [hyd, ← h3.1]; exact congrArg Rw.ky (hs2.2 n)
      · exact congrArg Rw.ky (hs2.2 j)
    have hperm : (ns.erase n ++ [n]).Perm ns := by
      rw [her, hab]
      exact List.perm_iff_count.2 (fun x => by simp [List.count_append, List.count_cons, Nat.add_assoc])
    have hp2 : (ns.erase n ++ [n] ++ fs).Perm (ns ++ fs) := hperm.append_right fs
    have hcells : Tl.cells = T.cells := hal.1.trans hau.cells
    rw [← hyd]
    refine ⟨fs, ⟨?_, ?_, ?_, ?_, ?_, ?_, ?_, ?_, ?_, ?_, ?_, ?_⟩, ?_⟩
    · show 1 ≤ Tl.most ∧ Tl.most ≤ 1024
      rw [hal.2.2.2.1, hau.most]; exact h.most
    · show (Tl.cells.length : Int) = 2 * Tl.most
      rw [hcells, hal.2.2.2.1, hau.most]; exact h.len
    · show Cl Tl.cells.length (cf Tl.cells) _
      rw [hcells]
      exact h.cl.congr (fun m => hperm.mem_iff.symm)
    · show Pr Tl.cells.length (cf Tl.cells) (fun i => homeN (ndD (Tl.nodes.set n y) i.toNat).ky Tl.cells.length)
      rw [hcells]
      exact h.pr.congr (fun c _ _ => by show homeN (ndD (Tl.nodes.set n y) _).ky _ = _; rw [hky]; rfl)
    · exact ⟨by rw [hyd]; exact Seg_la hcl.seg, hcl.first, hcl.last⟩
    · exact hp2.nodup_iff.2 h.nd
    · intro m hm
      show m < (Tl.nodes.set n y).length
      rw [List.length_set, hs2.1]
      exact h.lt m (hp2.mem_iff.1 hm)
    · show (Tl.nodes.set n y).length = _
      rw [List.length_set, hs2.1, h.nl, hperm.length_eq]
    · show ((Tl.nodes.set n y).length : Int) ≤ Tl.most
      rw [List.length_set, hs2.1, hal.2.2.2.1, hau.most]; exact h.small
    · show Tl.count = _
      rw [hal.2.2.1, hau.count, h.count, hperm.length_eq]
    · exact mem_set_ky (by rw [hyd]) (nodesOk_same h.ok hs2)
    · intro m hm m' hm' he
      have he' : (ndD (Tl.nodes.set n y) m).ky = (ndD (Tl.nodes.set n y) m').ky := he
      rw [hky, hky] at he'
      exact h.keys m (hperm.mem_iff.1 hm) m' (hperm.mem_iff.1 hm') he'
    · show Tl.free = _
      rw [hal.2.1, hau.free, hfr]
  · show Tl.most = _
    rw [hal.2.2.2.1, hau.most]
  · show Tl.idle = _
    rw [hal.2.2.2.2, hau.idle]
  · unfold rws
    rw [List.map_append, List.map_cons, List.map_nil]
    congr 1
    · refine List.map_congr_left (fun m hm => ?_)
      show (ndD (Tl.nodes.set n _) m).row = _
      rw [ndD_set, if_neg (fun (h3 : n = m ∧ _) => hne (by have h4 := h3.1; subst h4; exact hm))]
      exact hs2.2 m
    · congr 1
      show (ndD (Tl.nodes.set n _) n).row = _
      rw [ndD_set, if_pos ⟨rfl, hll⟩]
      have h3 := hs2.2 n
      have h4 : (ndD Tl.nodes n).la = (ndD T.nodes n).la := congrArg Rw.la h3
      have h5 : (ndD Tl.nodes n).ky = (ndD T.nodes n).ky := congrArg Rw.ky h3
      have h6 : (ndD Tl.nodes n).bk = (ndD T.nodes n).bk := congrArg Rw.bk h3
      unfold Nd.row
      dsimp only
      rw [h4, h5, h6]
theorem Is.get (h : Is T R) (k : List Int) (now : Int) : ∃ T', GetR T k now T' (getS T.idle R k now).2.1 (getS T.idle R k now).2.2 ∧ Is T' (getS T.idle R k now).1 ∧ T'.most = T.most ∧ T'.idle = T.idle := by
  obtain ⟨ns, hi, rfl⟩ := h
  obtain ⟨fs, h2, hfr⟩ := id hi
  obtain ⟨c, th, hf, hc, hw, ht⟩ := h2.find k
  unfold getS
  rcases ht with ⟨rfl, n, hn, hcn, hk⟩ | ⟨rfl, h1, hk⟩
  · rw [(rws_split h2 hn hk).1, (rws_split h2 hn hk).2]
    dsimp only
    have hx := ndD_some (h2.ltn hn)
    by_cases ho : overS (ndD T.nodes n).row.la T.idle now = true
    · rw [if_pos ho]
      obtain ⟨T', hd, hi2, ha⟩ := hi.drop hn hcn
      exact ⟨T', ⟨c, true, hf, .inr ⟨rfl, n, _, hcn, hx, .inl ⟨ho, hd, rfl, rfl⟩⟩⟩, ⟨_, hi2, (rws_same ha _).symm⟩, ha.most, ha.idle⟩
    · rw [if_neg ho]
      obtain ⟨Tu, Tl, y, T', e1, e2, e3, e4, e5, e6, e7, e8, e9, e10, e11⟩ := hi.get hn now
      have hl := h2.ch.linkOk (fun m hm => h2.ltn hm) hn
      obtain ⟨x', hx', hl⟩ := hl
      rw [hx] at hx'
      obtain rfl := Option.some.inj hx'
      exact ⟨T', ⟨c, true, hf, .inr ⟨rfl, n, _, hcn, hx, .inr ⟨Bool.eq_false_iff.2 ho, hl, Tu, Tl, y, e1, e2, e3, e4, e5, e6, (congrArg Rw.bk e7).symm, rfl⟩⟩⟩, ⟨_, e8, e11.symm⟩, e9, e10⟩
  · rw [(fnd_none (rws_none hk)).1]
    exact ⟨T, ⟨c, false, hf, .inl ⟨rfl, rfl, rfl, rfl⟩⟩, ⟨ns, hi, rfl⟩, rfl, rfl⟩
end
end Go.Proofs.Ytikpgmajiafhgaa.Fl
/- flow, plain: a table against a list of entries: what puts. -/
namespace Go.Proofs.Ytikpgmajiafhgaa.Fl
open Go.RowKit Go.Proofs.YtikpgmajiafhgaaW.PrintWords Go.Proofs.YtikpgmajiafhgaaW.PrintLast Go.Proofs.YtikpgmajiafhgaaW.PrintMore Go.Proofs.Ytikpgmajiafhgaa.X
set_option linter.unusedVariables false
set_option linter.unusedSimpArgs false
theorem ndD_zero (l : List Nd) (j : Nat) : ndD (l ++ [Nd.zero]) j = ndD l j := by
  unfold ndD
  rw [List.getD_eq_getElem?_getD, List.getD_eq_getElem?_getD]
  by_cases h : j < l.length
  · rw [List.getElem?_append_left h]
  · rw [List.getElem?_append_right (by omega), List.getElem?_eq_none (l := l) (by omega)]
    by_cases h2 : j - l.length = 0
    · rw [h2]; rfl
    · rw [List.getElem?_eq_none (by simp; omega)]
section
variable {T : Tb} {R : List Rw} {ns us fs : List Nat} {n : Nat}
theorem Inv2.apart (h : Inv2 T ns us) (hn : n ∈ us) : n ∉ ns := fun hm => (List.nodup_append.1 h.nd).2.2 n hm n hn rfl
/-- A node that isn't used is written. -/
theorem Inv2.write (h : Inv2 T ns us) (hn : n ∈ us) (y : Nd) (hy : KeyOk y.ky) : Inv2 { T with nodes := T.nodes.set n y } ns us ∧ rws { T with nodes := T.nodes.set n y } ns = rws T ns := by
  have hna := h.apart hn
  have he : ∀ m ∈ ns, ndD (T.nodes.set n y) m = ndD T.nodes m := fun m hm => by rw [ndD_set, if_neg (fun (h3 : n = m ∧ _) => hna (by have h4 := h3.1; subst h4; exact hm))]
  refine ⟨⟨h.most, h.len, h.cl, ?_, ⟨Seg_set h.ch.seg hna _, h.ch.first, h.ch.last⟩, h.nd, ?_, ?_, ?_, h.count, ?_, ?_⟩, List.map_congr_left (fun m hm => by show (ndD (T.nodes.set n y) m).row = _; rw [he m hm])⟩
  · refine h.pr.congr (fun c hc hne => ?_)
    rcases h.cl.ok c hc with h1 | ⟨m, h1, h2⟩
    · exact absurd h1 hne
    · show homeN (ndD (T.nodes.set n y) (cf T.cells c).toNat).ky _ = homeN (ndD T.nodes (cf T.cells c).toNat).ky _
      rw [h1, show ((m : Int)).toNat = m from Int.toNat_natCast m, he m h2]
  · intro m hm
    show m < (T.nodes.set n y).length
    rw [List.length_set]; exact h.lt m hm
  · show (T.nodes.set n y).length = _
    rw [List.length_set]; exact h.nl
  · show ((T.nodes.set n y).length : Int) ≤ T.most
    rw [List.length_set]; exact h.small
  · intro nd hnd
    rcases List.mem_or_eq_of_mem_set hnd with h1 | h1
    · exact h.ok nd h1
    · rw [h1]; exact hy
  · intro m hm m' hm' hk
    have hk' : (ndD (T.nodes.set n y) m).ky = (ndD (T.nodes.set n y) m').ky := hk
    rw [he m hm, he m' hm'] at hk'
    exact h.keys m hm m' hm' hk'
/-- A node more. -/
theorem Inv2.grow (h : Inv2 T ns []) (hr : (ns.length : Int) < T.most) : Inv2 { T with nodes := T.nodes ++ [Nd.zero] } ns [T.nodes.length] ∧ rws { T with nodes := T.nodes ++ [Nd.zero] } ns = rws T ns := by
  have hl : ∀ m ∈ ns, m < T.nodes.length := fun m hm => h.ltn hm
  have hnn := h.nl
  simp only [List.length_nil, Nat.add_zero] at hnn
  refine ⟨⟨h.most, h.len, h.cl, ?_, ⟨Seg_frame (fun m hm => List.getElem?_append_left (hl m hm)) h.ch.seg, h.ch.first, h.ch.last⟩, ?_, ?_, ?_, ?_, h.count, ?_, ?_⟩, List.map_congr_left (fun m hm => by show (ndD (T.nodes ++ [Nd.zero]) m).row = _; rw [ndD_zero])⟩
  · refine h.pr.congr (fun c hc hne => ?_)
    show homeN (ndD (T.nodes ++ [Nd.zero]) _).ky _ = homeN (ndD T.nodes _).ky _
    rw [ndD_zero]
  · refine List.nodup_append.2 ⟨h.nodup, by simp, fun a ha b hb he => ?_⟩
    have h1 := hl a ha
    simp only [List.mem_singleton] at hb
    omega
  · intro m hm
    show m < (T.nodes ++ [Nd.zero]).length
    rw [List.length_append]
    simp only [List.length_cons, List.length_nil]
    rcases List.mem_append.1 hm with h1 | h1
    · have := hl m h1; omega
    · simp only [List.mem_singleton] at h1; omega
  · show (T.nodes ++ [Nd.zero]).length = _
    rw [List.length_append]; simp only [List.length_cons, List.length_nil]; omega
  · show ((T.nodes ++ [Nd.zero]).length : Int) ≤ T.most
    rw [List.length_append]; simp only [List.length_cons, List.length_nil]; omega
  · intro nd hnd
    rcases List.mem_append.1 hnd with h1 | h1
    · exact h.ok nd h1
    · simp only [List.mem_singleton] at h1
      rw [h1]; exact keyOk_kz
  · intro m hm m' hm' hk
    have hk' : (ndD (T.nodes ++ [Nd.zero]) m).ky = (ndD (T.nodes ++ [Nd.zero]) m').ky := hk
    rw [ndD_zero, ndD_zero] at hk'
    exact h.keys m hm m' hm' hk'
/-- A node goes into a cell and becomes the last one. -/
theorem Inv2.add (h : Inv2 T ns (fs ++ [n])) {c : Nat} (hc : c < T.cells.length) (hce : cf T.cells c = -1)
    (hw : ∀ d, d < T.cells.length → D T.cells.length (hmT T T.cells.length n) d < D T.cells.length (hmT T T.cells.length n) c → cf T.cells d ≠ -1) (hk : ∀ m ∈ ns, (ndD T.nodes m).ky ≠ (ndD T.nodes n).ky)
    {Td Te T' : Tb} (hTd : Td = { T with cells := T.cells.set c (n : Int) }) (hTe : Te = Td.link n) (hT' : T' = { Te with count := Te.count + 1 }) :
    Inv2 T' (ns ++ [n]) fs ∧ T'.most = T.most ∧ T'.idle = T.idle ∧ T'.free = T.free ∧ rws T' (ns ++ [n]) = rws T ns ++ [(ndD T.nodes n).row] ∧ Te.count = T.count ∧ (Td.last = -1 ∨ ∃ (m : Nat) (y : Nd), Td.last = (m : Int) ∧ m ≠ n ∧ Td.nodes[m]? = some y) := by
  have hna := h.apart (n := n) (by simp)
  have hnl : n < T.nodes.length := h.lt n (by simp)
  have hchd : Chain Td ns := by rw [hTd]; exact ⟨h.ch.seg, h.ch.first, h.ch.last⟩
  have hnd : Td.nodes = T.nodes := by rw [hTd]
  have hche : Chain Te (ns ++ [n]) := by rw [hTe]; exact hchd.link hna (by rw [hnd]; exact hnl) h.nodup
  have hal := link_alike Td n
  have hsr := sameRow_link Td n
  rw [← hTe] at hal hsr
  rw [hnd] at hsr
  obtain ⟨a1, a2, a3, a4, a5⟩ := hal
  have a1' : Te.cells = T.cells.set c (n : Int) := by rw [a1, hTd]
  have a2' : Te.free = T.free := by rw [a2, hTd]
  have a3' : Te.count = T.count := by rw [a3, hTd]
  have a4' : Te.most = T.most := by rw [a4, hTd]
  have a5' : Te.idle = T.idle := by rw [a5, hTd]
  have hset : cf (T.cells.set c (n : Int)) = upd (cf T.cells) c (n : Int) := cf_set _ hc
  have hperm : (ns ++ [n] ++ fs).Perm (ns ++ (fs ++ [n])) := List.perm_iff_count.2 (fun x => by simp [List.count_append, List.count_cons, Nat.add_assoc, Nat.add_comm])
  have hmem : ∀ m, m ∈ ns ++ [n] ↔ m ∈ ns ∨ m = n := fun m => by simp
  subst hT'
  refine ⟨⟨?_, ?_, ?_, ?_, ⟨hche.seg, hche.first, hche.last⟩, hperm.nodup_iff.2 h.nd, ?_, ?_, ?_, ?_, ?_, ?_⟩, a4', a5', a2', ?_, a3', ?_⟩
  · show 1 ≤ Te.most ∧ Te.most ≤ 1024
    rw [a4']; exact h.most
  · show (Te.cells.length : Int) = 2 * Te.most
    rw [a1', List.length_set, a4']; exact h.len
  · show Cl Te.cells.length (cf Te.cells) _
    rw [a1', List.length_set, hset]
    exact (h.cl.add hc hce hna).congr (fun m => (hmem m).symm)
  · show Pr Te.cells.length (cf Te.cells) (fun i => homeN (ndD Te.nodes i.toNat).ky Te.cells.length)
    rw [a1', List.length_set, hset]
    intro x hx hxe d hd hlt
    dsimp only at hlt
    rw [row_ky hsr] at hlt
    by_cases hdc : d = c
    · rw [hdc, upd_same]; omega
    · rw [upd_other _ _ hdc]
      by_cases hxc : x = c
      · rw [hxc, upd_same, show ((n : Int)).toNat = n from Int.toNat_natCast n] at hlt
        exact hw d hd hlt
      · rw [upd_other _ _ hxc] at hxe hlt
        exact h.pr x hx hxe d hd hlt
  · intro m hm
    show m < Te.nodes.length
    rw [hsr.1]
    exact h.lt m (hperm.mem_iff.1 hm)
  · show Te.nodes.length = _
    rw [hsr.1, h.nl, List.length_append, List.length_append]
    simp only [List.length_cons, List.length_nil]; omega
  · show (Te.nodes.length : Int) ≤ Te.most
    rw [hsr.1, a4']; exact h.small
  · show Te.count + 1 = _
    rw [a3', h.count, List.length_append]
    simp only [List.length_cons, List.length_nil]; omega
  · exact nodesOk_same h.ok hsr
  · intro m hm m' hm' he
    have he' : (ndD Te.nodes m).ky = (ndD Te.nodes m').ky := he
    rw [row_ky hsr, row_ky hsr] at he'
    rcases (hmem m).1 hm with h1 | h1 <;> rcases (hmem m').1 hm' with h2 | h2
    · exact h.keys m h1 m' h2 he'
    · rw [h2] at he'; exact absurd he' (hk m h1)
    · rw [h1] at he'; exact absurd he'.symm (hk m' h2)
    · rw [h1, h2]
  · unfold rws
    rw [List.map_append, List.map_cons, List.map_nil]
    congr 1
    · exact List.map_congr_left (fun m _ => hsr.2 m)
    · exact congrArg (· :: []) (hsr.2 n)
  · rcases nil_or_last ns with h0 | ⟨a', m, h0⟩
    · left; rw [hchd.last, h0]; rfl
    · right
      refine ⟨m, ndD Td.nodes m, by rw [hchd.last, h0, ltI_last], fun e => hna (by rw [h0, ← e]; simp), ndD_some ?_⟩
      rw [hnd]
      exact h.ltn (by rw [h0]; simp)
theorem Is.count (h : Is T R) : T.count = (R.length : Int) ∧ (R.length : Int) ≤ T.most ∧ 1 ≤ T.most ∧ T.most ≤ 1024 := by
  obtain ⟨ns, ⟨fs, h2, _⟩, rfl⟩ := h
  have := h2.nl
  have := h2.small
  unfold rws
  rw [List.length_map]
  exact ⟨h2.count, by omega, h2.most⟩
theorem Is.room (h : Is T R) (now : Int) : ∃ T1, ((T.count < T.most ∧ T1 = T) ∨ (¬ T.count < T.most ∧ ∃ fu cnt, whereR (fun x => overS x.la T.idle now) fu T T.first 0 (T1, cnt))) ∧ Is T1 (roomS T.most T.idle now R) ∧ T1.most = T.most ∧ T1.idle = T.idle := by
  unfold roomS
  rw [← h.count.1]
  by_cases hc : T.count < T.most
  · rw [if_pos hc]
    exact ⟨T, .inl ⟨hc, rfl⟩, h, rfl, rfl⟩
  · rw [if_neg hc]
    obtain ⟨fu, T', hw, hi, h1, h2⟩ := h.where_ (fun r => overS r.la T.idle now)
    exact ⟨T', .inr ⟨hc, fu, _, hw⟩, hi, h1, h2⟩
theorem roomS_mem {most idle now : Int} {r : Rw} (h : r ∈ roomS most idle now R) : r ∈ R := by
  unfold roomS at h
  split at h
  · exact h
  · exact (List.mem_filter.1 h).1
theorem Is.len34 (h : Is T R) {r : Rw} (hr : r ∈ R) : KeyOk r.ky := by
  obtain ⟨ns, ⟨fs, h2, _⟩, rfl⟩ := h
  obtain ⟨n, hn, rfl⟩ := rws_mem hr
  exact h2.ok _ (List.mem_of_getElem? (ndD_some (h2.ltn hn)))
theorem Is.make (h : Is T R) (now : Int) : ∃ T', MakeR T now T' (makeS T.most T.idle now R).2.1 (makeS T.most T.idle now R).2.2 ∧ Is T' (makeS T.most T.idle now R).1 ∧ T'.most = T.most ∧ T'.idle = T.idle ∧ ((makeS T.most T.idle now R).1.length : Int) < T.most ∧ (makeS T.most T.idle now R).2.1.length = 34 ∧ ∀ r ∈ (makeS T.most T.idle now R).1, r ∈ R := by
  obtain ⟨T1, hs, hi, h1, h2⟩ := h.room now
  have hc := hi.count
  unfold makeS
  obtain ⟨R1, hR1⟩ : ∃ R1, R1 = roomS T.most T.idle now R := ⟨_, rfl⟩
  have hsub : ∀ r ∈ R1, r ∈ R := fun r hr => roomS_mem (by rw [← hR1]; exact hr)
  rw [← hR1] at hi hc ⊢
  by_cases hm : (R1.length : Int) < T.most
  · rw [if_pos hm]
    exact ⟨T1, ⟨T1, hs, .inl ⟨by rw [hc.1, h1]; exact hm, rfl, rfl, rfl⟩⟩, hi, h1, h2, hm, rfl, hsub⟩
  · rw [if_neg hm]
    have hi' := hi
    obtain ⟨ns, hv, hr⟩ := hi
    cases ns with
    | nil => rw [hr] at hm; simp [rws] at hm; omega
    | cons n ns =>
      obtain ⟨T', hrem, hv2, ha⟩ := hv.rem (n := n) List.mem_cons_self
      rw [List.erase_cons_head] at hv2
      obtain ⟨fs, hv3, _⟩ := hv
      have hr1 : R1 = (ndD T1.nodes n).row :: rws T1 ns := by rw [hr]; rfl
      have hk : (ndD T1.nodes n).ky.length = 34 := KeyOk.len (hi'.len34 (r := (ndD T1.nodes n).row) (by rw [hr1]; exact List.mem_cons_self))
      have hle := hc.2.1
      rw [hr1] at hm hle ⊢
      simp only [List.tail_cons, List.headD_cons, List.length_cons] at hm hle ⊢
      refine ⟨T', ⟨T1, hs, .inr ⟨by rw [hc.1, h1, hr1]; exact hm, n, _, hv3.ch.first, ndD_some (hv3.ltn List.mem_cons_self), hk, hrem, rfl, rfl⟩⟩, ⟨ns, hv2, (rws_same ha ns).symm⟩, ha.most.trans h1, ha.idle.trans h2, by omega, hk, fun r hr => hsub r (by rw [hr1]; exact List.mem_cons_of_mem _ hr)⟩
theorem Is.putT (h : Is T R) {k : List Int} (hk : KeyOk k) (bk now : Int) (hf : ∀ r ∈ R, r.ky ≠ k) : ∃ T', PutT T k bk now T' (makeS T.most T.idle now R).2.1 (makeS T.most T.idle now R).2.2 ∧ Is T' ((makeS T.most T.idle now R).1 ++ [⟨k, bk, now⟩]) ∧ T'.most = T.most ∧ T'.idle = T.idle := by
  obtain ⟨Ta, hmk, hia, hm, hd, hlt, h34, hsub⟩ := h.make now
  obtain ⟨Ra, hRa⟩ : ∃ Ra, Ra = (makeS T.most T.idle now R).1 := ⟨_, rfl⟩
  rw [← hRa] at hia hlt hsub ⊢
  obtain ⟨ns, ⟨fs, h2, hfr⟩, hr⟩ := hia
  have hlr : Ra.length = ns.length := by rw [hr]; unfold rws; rw [List.length_map]
  have hno : ∃ n Tb fs', NodeR Ta n Tb ∧ Inv2 Tb ns (fs' ++ [n]) ∧ Tb.free = toI fs' ∧ rws Tb ns = Ra ∧ Tb.most = Ta.most ∧ Tb.idle = Ta.idle := by
    have hb := h2.nl
    have hb2 := h2.small
    have hb3 := h2.most
    have hfl : Ta.free.length = fs.length := by rw [hfr]; unfold toI; rw [List.length_map]
    rcases nil_or_last fs with rfl | ⟨fs', n, rfl⟩
    · have hg := h2.grow (by rw [← hlr]; omega)
      exact ⟨_, _, [], ⟨by omega, by omega, .inr ⟨hfr, rfl, rfl⟩⟩, hg.1, hfr, hg.2.trans hr.symm, rfl, rfl⟩
    · refine ⟨n, { Ta with free := toI fs' }, fs', ⟨by omega, by omega, .inl ⟨toI fs', ?_, rfl⟩⟩, ?_, rfl, hr.symm, rfl, rfl⟩
      · rw [hfr]; unfold toI; rw [List.map_append]; rfl
      · exact ⟨h2.most, h2.len, h2.cl, h2.pr, ⟨h2.ch.seg, h2.ch.first, h2.ch.last⟩, h2.nd, h2.lt, h2.nl, h2.small, h2.count, h2.ok, h2.keys⟩
  obtain ⟨n, Tb, fs', hnr, hb, hbf, hbr, hbm, hbi⟩ := hno
  have hnb : n < Tb.nodes.length := hb.lt n (by simp)
  obtain ⟨hc2, hcr⟩ := hb.write (n := n) (by simp) ⟨bk, now, k, 0, 0⟩ hk
  obtain ⟨Tc, hTc⟩ : ∃ Tc, Tc = { Tb with nodes := Tb.nodes.set n ⟨bk, now, k, 0, 0⟩ } := ⟨_, rfl⟩
  rw [← hTc] at hc2 hcr
  have hcn : ndD Tc.nodes n = ⟨bk, now, k, 0, 0⟩ := by rw [hTc]; show ndD (Tb.nodes.set n _) n = _; rw [ndD_set, if_pos ⟨rfl, hnb⟩]
  obtain ⟨c, th, hfd, hcl, hw, ht⟩ := hc2.find k
  have hnk : ∀ m ∈ ns, (ndD Tc.nodes m).ky ≠ k := fun m hm he => by
    have h1 : (ndD Tc.nodes m).row ∈ Ra := by rw [← hbr, ← hcr]; exact List.mem_map.2 ⟨m, hm, rfl⟩
    exact hf _ (hsub _ h1) he
  rcases ht with ⟨_, m, hm, _, hmk⟩ | ⟨hth, hce, _⟩
  · exact absurd hmk (hnk m hm)
  · have hh : hmT Tc Tc.cells.length n = homeN k Tc.cells.length := by unfold hmT; rw [hcn]
    obtain ⟨g1, g2, g3, g4, g5, g6, g7⟩ := hc2.add (c := c) hcl hce (by rw [hh]; exact hw) (fun m hm => by rw [hcn]; exact hnk m hm) rfl rfl rfl
    have hcm : Tc.most = T.most := by rw [hTc]; exact hbm.trans hm
    have hci : Tc.idle = T.idle := by rw [hTc]; exact hbi.trans hd
    have hcc := hc2.count
    refine ⟨_, ⟨Ta, n, Tb, _, Tc, c, th, _, _, hmk, h34, hnr, ndD_some hnb, hTc, hfd, hcl, rfl, g7, rfl, by rw [g6, hcc]; omega, by rw [g6, hcc, ← hlr]; have := h.count; omega, rfl⟩, ⟨ns ++ [n], ⟨fs', g1, ?_⟩, ?_⟩, g2.trans hcm, g3.trans hci⟩
    · rw [g4, hTc]; exact hbf
    · rw [g5, hcr, hbr, hcn]; rfl
theorem Is.put (h : Is T R) {k : List Int} (hk : KeyOk k) {bk : Int} (h0 : 0 ≤ bk) (h1 : bk < 64) (now : Int) : ∃ c0 th0, FindR T k c0 th0 ∧
    ((∃ n0 x0, th0 = true ∧ T.cells[c0]? = some ((n0 : Nat) : Int) ∧ T.nodes[n0]? = some x0 ∧ overS x0.la T.idle now = false ∧ putS T.most T.idle R k bk now = (R, kz, false, 16)) ∨
     ∃ T' R' key ev, ((th0 = false ∧ PutT T k bk now T' key ev) ∨ (th0 = true ∧ ∃ n x Td, DropR T c0 n Td ∧ T.nodes[n]? = some x ∧ overS x.la T.idle now = true ∧ PutT Td k bk now T' key ev)) ∧ Is T' R' ∧ T'.most = T.most ∧ T'.idle = T.idle ∧ putS T.most T.idle R k bk now = (R', key, ev, 0)) := by
  have hs := h
  obtain ⟨ns, hi, rfl⟩ := h
  obtain ⟨fs, h2, hfr⟩ := id hi
  obtain ⟨c, th, hf, hc, hw, ht⟩ := h2.find k
  refine ⟨c, th, hf, ?_⟩
  unfold putS
  rw [if_neg (by omega)]
  rcases ht with ⟨rfl, n, hn, hcn, hky⟩ | ⟨rfl, h3, hky⟩
  · obtain ⟨e1, e2⟩ := rws_split h2 hn hky
    rw [e1, e2]
    dsimp only
    have hx := ndD_some (h2.ltn hn)
    by_cases ho : overS (ndD T.nodes n).row.la T.idle now = true
    · right
      rw [if_pos ho]
      obtain ⟨Td, hd, hi2, ha⟩ := hi.drop hn hcn
      have hid : Is Td (rws T (ns.erase n)) := ⟨_, hi2, (rws_same ha _).symm⟩
      have hnk : ∀ r ∈ rws T (ns.erase n), r.ky ≠ k := rws_none (fun m hm he => by
        have hmn := h2.keys m (List.mem_of_mem_erase hm) n hn (he.trans hky.symm)
        exact (h2.nodup.mem_erase_iff.1 hm).1 hmn)
      obtain ⟨T', hp, hi3, e3, e4⟩ := hid.putT hk bk now hnk
      rw [ha.most, ha.idle] at hp hi3
      exact ⟨T', _, _, _, .inr ⟨rfl, n, _, Td, hd, hx, ho, hp⟩, hi3, e3.trans ha.most, e4.trans ha.idle, rfl⟩
    · left
      rw [if_neg ho]
      exact ⟨n, _, rfl, hcn, hx, Bool.eq_false_iff.2 ho, rfl⟩
  · right
    rw [(fnd_none (rws_none hky)).1]
    dsimp only
    obtain ⟨T', hp, hi3, e3, e4⟩ := hs.putT hk bk now (rws_none hky)
    exact ⟨T', _, _, _, .inl ⟨rfl, hp⟩, hi3, e3, e4, rfl⟩
end
/-- A new table. -/
theorem Is.fresh (most idle : Int) {m : Nat} (hm : most = (m : Int)) (h1 : 1 ≤ m) (h2 : m ≤ 1024) : Is (Tb.fresh most idle (2 * m) (2 * m)) [] := by
  have hc : (Tb.fresh most idle (2 * m) (2 * m)).cells = List.replicate (2 * m) (-1) := by
    show List.replicate (2 * m) (-1) ++ List.replicate (2 * m - 2 * m) 0 = _
    rw [Nat.sub_self]; simp
  have hcf : ∀ c, cf (List.replicate (2 * m) (-1 : Int)) c = -1 := fun c => by
    unfold cf
    rw [List.getD_eq_getElem?_getD, List.getElem?_replicate]
    split <;> rfl
  refine ⟨[], ⟨[], ⟨⟨by show 1 ≤ most; omega, by show most ≤ 1024; omega⟩, ?_, ?_, ?_, ⟨trivial, rfl, rfl⟩, by simp, by simp, rfl, ?_, rfl, fun nd h => absurd h List.not_mem_nil, by simp⟩, rfl⟩, rfl⟩
  · rw [hc, List.length_replicate]; show _ = 2 * most; omega
  · rw [hc]
    exact ⟨fun c _ => .inl (hcf c), fun n hn => absurd hn List.not_mem_nil, fun c d _ _ _ hne => absurd (hcf c) hne⟩
  · rw [hc]
    intro c _ hne
    exact absurd (hcf c) hne
  · show ((0 : Nat) : Int) ≤ most
    omega
end Go.Proofs.Ytikpgmajiafhgaa.Fl
/- flow: a table in memory that is these entries: what each method does to it. -/
namespace Go.Proofs.Ytikpgmajiafhgaa.Fl
open Go.RowKit Go.Proofs.YtikpgmajiafhgaaW.PrintWords Go.Proofs.YtikpgmajiafhgaaW.PrintLast Go.Proofs.YtikpgmajiafhgaaW.PrintMore Go.Proofs.Ytikpgmajiafhgaa.X
set_option linter.unusedVariables false
set_option linter.unusedSimpArgs false
/-- A table at block b whose blocks are among O: its bounds, its entries. -/
def Tw (w : World) (O : Nat → Prop) (b : Nat) (m i : Int) (R : List Rw) : Prop := ∃ T vc vn vf, TabAt w O b T vc vn vf ∧ Is T R ∧ T.most = m ∧ T.idle = i
/-- What a method leaves. -/
def Out (w : World) (O : Nat → Prop) (b : Nat) (m i : Int) (R : List Rw) (w' : World) : Prop := ∃ O', Tw w' O' b m i R ∧ Keep O w w' ∧ ∀ k, O' k → O k ∨ w.heap.size ≤ k
section
variable {w w' : World} {O : Nat → Prop} {b : Nat} {m i : Int} {R : List Rw}
theorem Tw.below (h : Tw w O b m i R) (hb : Below w.heap.size w w') : Tw w' O b m i R := by
  obtain ⟨T, vc, vn, vf, h1, h2⟩ := h
  exact ⟨T, vc, vn, vf, h1.below hb, h2⟩
theorem Tw.keep {O2 : Nat → Prop} (h : Tw w O b m i R) (hk : Keep O2 w w') (ha : ∀ k, O k → ¬ O2 k) : Tw w' O b m i R := by
  obtain ⟨T, vc, vn, vf, h1, h2⟩ := h
  exact ⟨T, vc, vn, vf, h1.keep hk ha, h2⟩
theorem Tw.same (h : Tw w O b m i R) (hs : ∀ k, O k → w'.heap[k]? = w.heap[k]?) (hz : w.heap.size ≤ w'.heap.size) : Tw w' O b m i R := by
  obtain ⟨T, vc, vn, vf, h1, h2⟩ := h
  exact ⟨T, vc, vn, vf, h1.same hs hz, h2⟩
theorem Tw.lt (h : Tw w O b m i R) {k : Nat} (hk : O k) : k < w.heap.size := by
  obtain ⟨T, vc, vn, vf, h1, h2⟩ := h
  exact h1.lt k hk
theorem Tw.ob (h : Tw w O b m i R) : O b := by
  obtain ⟨T, vc, vn, vf, h1, h2⟩ := h
  exact h1.ob
theorem Tw.bound (h : Tw w O b m i R) : (R.length : Int) ≤ m ∧ 1 ≤ m ∧ m ≤ 1024 := by
  obtain ⟨T, vc, vn, vf, h1, h2, rfl, rfl⟩ := h
  exact h2.count.2
theorem Tw.keyOk (h : Tw w O b m i R) {r : Rw} (hr : r ∈ R) : KeyOk r.ky := by
  obtain ⟨T, vc, vn, vf, h1, h2, rfl, rfl⟩ := h
  exact h2.len34 hr
theorem Tw.keys (h : Tw w O b m i R) : (R.map Rw.ky).Nodup := by
  obtain ⟨T, vc, vn, vf, h1, ⟨ns, ⟨fs, h2, _⟩, rfl⟩, _⟩ := h
  unfold rws
  rw [List.map_map, List.nodup_iff_pairwise_ne, List.pairwise_map]
  exact h2.nodup.imp_of_mem (fun {x y} hx hy hne he => hne (h2.keys x hx y hy he))
theorem Out.refl (h : Tw w O b m i R) : Out w O b m i R w := ⟨O, h, Keep.refl O w, fun k hk => .inl hk⟩
theorem Out.of_below (h : Tw w O b m i R) (hb : Below w.heap.size w w') : Out w O b m i R w' := ⟨O, h.below hb, Keep.of_below hb, fun k hk => .inl hk⟩
theorem putS_bad {bk : Int} (m i : Int) (R : List Rw) (k : List Int) (now : Int) (h : bk < 0 ∨ 63 < bk) : putS m i R k bk now = (R, kz, false, 11) := by unfold putS; rw [if_pos h]
theorem put_tw (h : Tw w O b m i R) {k : List Int} (hk : KeyOk k) (bk now : Int) :
    Calls Try.prog 23 #[.pointer (some ⟨b, 0, none⟩), kv k, .int .i64 bk, .int .u64 now] w fun en w' => en = .returned (.tuple #[kv (putS m i R k bk now).2.1, .bool (putS m i R k bk now).2.2.1, .int .i64 (putS m i R k bk now).2.2.2]) ∧ Out w O b m i (putS m i R k bk now).1 w' := by
  have h0 := h
  obtain ⟨T, vc, vn, vf, hT, hi, rfl, rfl⟩ := h
  by_cases hb : bk < 0 ∨ 63 < bk
  · rw [putS_bad _ _ _ _ _ hb]
    refine (put_range hk.len (by omega) O b vc vn vf w hT).mono ?_
    rintro e w1 ⟨rfl, h1⟩
    exact ⟨rfl, Out.of_below h0 h1⟩
  · obtain ⟨c0, th0, hf, hc⟩ := hi.put hk (bk := bk) (by omega) (by omega) now
    rcases hc with ⟨n0, x0, rfl, hcn, hx0, hov, hp⟩ | ⟨T', R', key, ev, hr, hi', e1, e2, hp⟩
    · rw [hp]
      refine (put_there hk hk.len (by omega) (by omega) hf hcn hx0 hov O b vc vn vf w hT).mono ?_
      rintro e w1 ⟨rfl, h1⟩
      exact ⟨rfl, Out.of_below h0 h1⟩
    · rw [hp]
      refine (put_calls hk hk.len (by omega) (by omega) hf hr O b vc vn vf w hT).mono ?_
      rintro e w1 ⟨rfl, O', ⟨vn', vf', hT'⟩, hkp, ho⟩
      exact ⟨rfl, O', ⟨T', vc, vn', vf', hT', hi', e1, e2⟩, hkp, ho⟩
theorem get_tw (h : Tw w O b m i R) {k : List Int} (hk : KeyOk k) (now : Int) :
    Calls Try.prog 26 #[.pointer (some ⟨b, 0, none⟩), kv k, .int .u64 now] w fun en w' => en = .returned (.tuple #[.int .i64 (getS i R k now).2.1, .bool (getS i R k now).2.2]) ∧ Out w O b m i (getS i R k now).1 w' := by
  obtain ⟨T, vc, vn, vf, hT, hi, rfl, rfl⟩ := h
  obtain ⟨T', hr, hi', e1, e2⟩ := hi.get k now
  refine (get_calls hk hk.len hr O b vc vn vf w hT).mono ?_
  rintro e w1 ⟨rfl, O', ⟨vn', vf', hT'⟩, hkp, ho⟩
  exact ⟨rfl, O', ⟨T', vc, vn', vf', hT', hi', e1, e2⟩, hkp, ho⟩
theorem of_tw (h : Tw w O b m i R) {k : List Int} (hk : KeyOk k) :
    Calls Try.prog 13 #[.pointer (some ⟨b, 0, none⟩), kv k] w fun en w' => en = .returned (.tuple #[ev (ofS R k).1 (ofS R k).2.1, .bool (ofS R k).2.2]) ∧ Below w.heap.size w w' := by
  obtain ⟨T, vc, vn, vf, hT, hi, rfl, rfl⟩ := h
  exact of_calls hk hk.len (hi.of k) O b vc vn vf w hT
theorem sweep_tw (h : Tw w O b m i R) (now : Int) :
    Calls Try.prog 27 #[.pointer (some ⟨b, 0, none⟩), .int .u64 now] w fun en w' => en = .returned (.int .i64 ((R.length : Int) - ((sweepS R i now).length : Int))) ∧ Out w O b m i (sweepS R i now) w' := by
  obtain ⟨T, vc, vn, vf, hT, hi, rfl, rfl⟩ := h
  obtain ⟨fu, T', hr, hi', e1, e2⟩ := hi.where_ (fun r => overS r.la T.idle now)
  refine (sweep_calls now O b T vc vn vf w hT fu T' _ hr).mono ?_
  rintro e w1 ⟨rfl, O', ⟨vf', hT'⟩, hkp, ho⟩
  exact ⟨rfl, O', ⟨T', vc, vn, vf', hT', hi', e1, e2⟩, hkp, ho⟩
theorem forget_tw (h : Tw w O b m i R) (bk : Int) :
    Calls Try.prog 28 #[.pointer (some ⟨b, 0, none⟩), .int .i64 bk] w fun en w' => en = .returned (.int .i64 ((R.length : Int) - ((forgetS R bk).length : Int))) ∧ Out w O b m i (forgetS R bk) w' := by
  obtain ⟨T, vc, vn, vf, hT, hi, rfl, rfl⟩ := h
  obtain ⟨fu, T', hr, hi', e1, e2⟩ := hi.where_ (fun r => r.bk == bk)
  refine (forget_calls bk O b T vc vn vf w hT fu T' _ hr).mono ?_
  rintro e w1 ⟨rfl, O', ⟨vf', hT'⟩, hkp, ho⟩
  exact ⟨rfl, O', ⟨T', vc, vn, vf', hT', hi', e1, e2⟩, hkp, ho⟩
theorem len_tw (h : Tw w O b m i R) :
    Calls Try.prog 22 #[.pointer (some ⟨b, 0, none⟩)] w fun en w' => en = .returned (.int .i64 (R.length : Int)) ∧ w' = w := by
  obtain ⟨T, vc, vn, vf, hT, hi, rfl, rfl⟩ := h
  rw [← hi.count.1]
  exact len_calls O b T vc vn vf w hT
theorem most_tw (h : Tw w O b m i R) :
    Calls Try.prog 33 #[.pointer (some ⟨b, 0, none⟩)] w fun en w' => en = .returned (.int .i64 m) ∧ w' = w := by
  obtain ⟨T, vc, vn, vf, hT, hi, rfl, rfl⟩ := h
  exact most_calls O b T vc vn vf w hT
theorem clone_tw (h : Tw w O b m i R) :
    Calls Try.prog 16 #[.pointer (some ⟨b, 0, none⟩)] w fun en w' => ∃ b2, en = .returned (.pointer (some ⟨b2, 0, none⟩)) ∧ (∃ O2, Tw w' O2 b2 m i R ∧ ∀ k, O2 k → w.heap.size ≤ k) ∧ Below w.heap.size w w' := by
  obtain ⟨T, vc, vn, vf, hT, hi, rfl, rfl⟩ := h
  have hb : T.cells.length ≤ 1000000 ∧ T.nodes.length ≤ 1000000 ∧ T.free.length ≤ 1000000 := by
    obtain ⟨ns, ⟨fs, h2, hf⟩, _⟩ := hi
    have h3 := h2.len1
    have h4 := h2.small
    have h5 := h2.most
    have h6 := h2.nl
    have h7 : T.free.length = fs.length := by rw [hf]; unfold toI; exact List.length_map _
    omega
  refine (clone_calls O b T vc vn vf w hT hb.1 hb.2.1 hb.2.2).mono ?_
  rintro e w1 ⟨b2, rfl, ⟨O2, vc2, vn2, vf2, hT2, ho⟩, hbl⟩
  exact ⟨b2, rfl, ⟨O2, ⟨T, vc2, vn2, vf2, hT2, hi, rfl, rfl⟩, ho⟩, hbl⟩
end
/-- The bounds that make a table. -/
def NewOk (m i : Int) : Prop := 1 ≤ m ∧ m ≤ 1024 ∧ 1 ≤ i ∧ i ≤ 1099511627776
theorem new_tw (m i : Int) (h : NewOk m i) (w : World) :
    Calls Try.prog 9 #[.int .i64 m, .int .u64 i] w fun en w' => ∃ b, en = .returned (.tuple #[.pointer (some ⟨b, 0, none⟩), .int .i64 0]) ∧ (∃ O, Tw w' O b m i [] ∧ ∀ k, O k → w.heap.size ≤ k) ∧ Below w.heap.size w w' := by
  obtain ⟨h1, h2, h3, h4⟩ := h
  refine (new_calls m i m.toNat (by omega) (by omega) (by omega) h3 h4 w).mono ?_
  rintro e w1 ⟨b, rfl, ⟨O, vc, vn, vf, hT, ho⟩, hb⟩
  exact ⟨b, rfl, ⟨O, ⟨_, vc, vn, vf, hT, Is.fresh m i (by omega) (by omega) (by omega), rfl, rfl⟩, ho⟩, hb⟩
end Go.Proofs.Ytikpgmajiafhgaa.Fl
