/- Contracts of the Go functions that the laws reach, each as a plain Lean function: written by xprint.py, a program of this repo. -/
import Derived.Test.YtnmhnihhlakinacM0
import Derived.Test.YtnmhnihhlakinacM1
import Derived.Test.YtnmhnihhlakinacM5
import Derived.Test.YtnmhnihhlakinacM10
namespace Go.Proofs.Ytnmhnihhlakinac.M
open Go.RowKit Go.Proofs.YtnmhnihhlakinacW.PrintWords Go.Proofs.YtnmhnihhlakinacW.PrintLast Go.Proofs.YtnmhnihhlakinacW.PrintMore Go.Proofs.Ytnmhnihhlakinac.X
attribute [local go_sem] max2_int min2_int max_two min_two max_three min_three max_four min_four   -- for this text's walks alone
set_option linter.unusedVariables false
set_option linter.unusedSimpArgs false

/-! ### crosswayref10_Parse: function 29, typed by hand -/
/-- The version's bytes, so many of them. -/
def verTo (l : List Int) : Nat → Int
  | 0 => 0
  | n + 1 => verTo l n * 256 + rd l (n + 1)
def bytes4 (l : List Int) : Prop := ∀ n : Nat, n < 4 → 0 ≤ rd l (n + 1) ∧ rd l (n + 1) ≤ 255
instance instBytes4 (l : List Int) : Decidable (bytes4 l) := Nat.decidableBallLT 4 (fun n _ => 0 ≤ rd l (n + 1) ∧ rd l (n + 1) ≤ 255)
theorem verTo_le {l : List Int} (h : bytes4 l) : ∀ n : Nat, n ≤ 4 → 0 ≤ verTo l n ∧ verTo l n < 256 ^ n := by
  intro n
  induction n with
  | zero => intro _; exact ⟨Int.le_refl _, by simp [verTo]⟩
  | succ n ih =>
    intro hn
    have h1 := ih (by omega)
    have h2 := h n (by omega)
    simp only [verTo, Int.pow_succ]
    omega
theorem verTo_24 {l : List Int} (h : bytes4 l) {m : Nat} (hm : m < 4) : verTo l m < 16777216 := by
  have h1 := verTo_le h m (by omega)
  have h2 : m = 0 ∨ m = 1 ∨ m = 2 ∨ m = 3 := by omega
  rcases h2 with rfl | rfl | rfl | rfl <;> simp at h1 ⊢ <;> omega
theorem four_at' {W : World} {b t : Nat} {x0 x1 x2 x3 : Value} (h : W.heap[b]? = some (.cells #[x0, x1, x2, x3] t (0, 0))) : W.cell? ⟨b, 0, none⟩ = some x0 ∧ W.cell? ⟨b, 1, none⟩ = some x1 ∧ W.cell? ⟨b, 2, none⟩ = some x2 ∧ W.cell? ⟨b, 3, none⟩ = some x3 := ⟨blk_cell h 0, blk_cell h 1, blk_cell h 2, blk_cell h 3⟩
/-- The end with an error: the result's cells are noughts. -/
theorem refend_blk {W : World} {g : Nat} (hT : W.heap[g]? = some (.cells #[.int .u8 0, .int .u32 0, .slice none 0 0, .slice none 0 0] 40 (0, 0))) :
    ((((W.setCell ⟨g, 0, none⟩ (.int .u8 0)).setCell ⟨g, 1, none⟩ (.int .u32 0)).setCell ⟨g, 2, none⟩ (.slice none 0 0)).setCell ⟨g, 3, none⟩ (.slice none 0 0)).heap[g]? = some (.cells #[.int .u8 0, .int .u32 0, .slice none 0 0, .slice none 0 0] 40 (0, 0)) :=
  blk_put (cs := #[.int .u8 0, .int .u32 0, .slice none 0 0, .slice none 0 0]) (blk_put (cs := #[.int .u8 0, .int .u32 0, .slice none 0 0, .slice none 0 0]) (blk_put (cs := #[.int .u8 0, .int .u32 0, .slice none 0 0, .slice none 0 0]) (blk_put (cs := #[.int .u8 0, .int .u32 0, .slice none 0 0, .slice none 0 0]) hT 0 _ rfl) 1 _ rfl) 2 _ rfl) 3 _ rfl
theorem refend_below {w W : World} {g : Nat} (hB : Below w.heap.size w W) (hg : w.heap.size ≤ g) (x0 x1 x2 x3 : Value) : Below w.heap.size w ((((W.setCell ⟨g, 0, none⟩ x0).setCell ⟨g, 1, none⟩ x1).setCell ⟨g, 2, none⟩ x2).setCell ⟨g, 3, none⟩ x3) :=
  (((hB.setCell (p := ⟨g, 0, none⟩) hg _).setCell (p := ⟨g, 1, none⟩) hg _).setCell (p := ⟨g, 2, none⟩) hg _).setCell (p := ⟨g, 3, none⟩) hg _
theorem refRow_below {W W' : World} {B B' : Nat} {v : Value} {l : List Int} (h : RowIn W B B' v l) (hb : Below W.heap.size W W') : RowIn W' B B' v l := Kd.R_grown h (grown_of_below hb none) (fun k hk e => by cases e)
set_option maxRecDepth 100000 in
set_option maxHeartbeats 4000000 in
theorem refparse_straight (A0 : Option Addr) (c0 : Nat) (l0 l5 r1 s1 r2 s2 : List Int) (ok1 ok2 : Bool) (w : World) (hr0 : Kd.C (Kd.int .u8) w A0 l0.length l0) (hc0 : l0.length ≤ c0) (hl : l0.length < 140737488355328) (h5 : 5 ≤ l0.length) (hb : ¬ rd l0 0 < 128) (h4 : bytes4 l0) (hl5 : l5 = l0.drop 5)
    (q1 : refId l5 = some (r1, s1, ok1)) (q2 : ok1 = true → refId s1 = some (r2, s2, ok2)) (R1 R2 R6 : Int) (R3 R4 R5 : List Int) (hres : (if ok1 = true ∧ ok2 = true then (rd l0 0, verTo l0 4, r1, r2, s2, (0 : Int)) else (0, 0, [], [], [], 12)) = (R1, R2, R3, R4, R5, R6)) :
    Calls Try.prog 29 #[.slice A0 l0.length c0] w fun e w' => ∃ v2_ v3_ v4_ : Value, e = .returned (.tuple #[.agg #[.int .u8 R1, .int .u32 R2, v2_, v3_], v4_, .int .i64 R6]) ∧ Kd.R (Kd.int .u8) 5 w' w.heap.size (fun k_ => some k_ ≠ (v3_ : Value).ownBlock ∧ some k_ ≠ (v4_ : Value).ownBlock) v2_ R3 ∧ Kd.R (Kd.int .u8) 5 w' w.heap.size (fun k_ => some k_ ≠ (v2_ : Value).ownBlock ∧ some k_ ≠ (v4_ : Value).ownBlock) v3_ R4 ∧ Kd.R (Kd.int .u8) 5 w' w.heap.size (fun k_ => some k_ ≠ (v2_ : Value).ownBlock ∧ some k_ ≠ (v3_ : Value).ownBlock) v4_ R5 ∧ Below w.heap.size w w' := by
  have hcut := cut_from (P := Try.prog) 22 5 .i64 Try.underlying22 (info_parts info5).choose_spec.1 1 (info_parts info5).choose_spec.2.2.1 A0 l0.length c0 (5 : Int) (by omega) (by omega)
  rw [show ((5 : Int)).toNat = 5 from rfl] at hcut
  have hdr := Kd.C_drop (m := 5) (c := c0) hr0 h5 hc0
  have n5 : l5.length = l0.length - 5 := by rw [hl5, List.length_drop]
  obtain ⟨A5, hA5⟩ : ∃ A5 : Option Addr, A5 = (if c0 = 5 then A0 else A0.map (·.add (5 * 1))) := ⟨_, rfl⟩
  obtain ⟨c5, hc5⟩ : ∃ c5 : Nat, c5 = c0 - 5 := ⟨_, rfl⟩
  have hC5 : Kd.C (Kd.int .u8) w A5 l5.length l5 := by rw [hA5, hl5]; exact hdr
  rw [← n5, ← hA5, ← hc5] at hcut
  have HC5 := Aside0.mk hC5
  have HK5 := Aside0.mk (show l5.length ≤ c5 by omega)
  have HL5 := Aside0.mk (show l5.length < 140737488355328 by omega)
  have Q1 := Aside0.mk q1
  have Q2 := Aside0.mk q2
  have HRES := Aside0.mk hres
  clear hdr n5 hA5 hc5 hC5 hl5 q1 q2 hres
  obtain ⟨ad, e0, hx⟩ := Kd.at_int hr0 0 (by omega) (by omega)
  subst e0
  rw [show ((0 : Int)).toNat = 0 from rfl, Addr.add_zero'] at hx
  have g0 : ((l0.length : Int) == 0) = false := beq_eq_false_iff_ne.mpr (by omega)
  have g1 : decide (rd l0 0 < 128) = false := decide_eq_false hb
  have g2 : decide ((l0.length : Int) < 5) = false := decide_eq_false (by omega)
  obtain ⟨b0, hb0⟩ : ∃ b0 : Int, b0 = rd l0 0 := ⟨_, rfl⟩
  have HR0 := Aside0.mk hr0
  have H4 := Aside0.mk h4
  have HC0 := Aside0.mk hc0
  have HL := Aside0.mk hl
  have HLE := Aside0.mk h5
  rw [← hb0] at hx g1
  obtain ⟨n, hn⟩ : ∃ n : Nat, n = l0.length := ⟨_, rfl⟩
  rw [← hn] at g0 g2 hcut ⊢
  have HN := Aside0.mk hn
  have HB0 := Aside0.mk hb0
  have q0 : (0 : Nat) < n := by omega
  have hx1 : (w.alloc (.cells #[.int .u8 0, .int .u32 0, .slice none 0 0, .slice none 0 0] 40)).cell? ad = some (.int .u8 b0) := by rw [World.cell?_alloc_some w ad _ (by rw [hx]; rfl)]; exact hx
  clear hr0 h4 hc0 hl h5 hb hn hb0
  go_enter Try.func29, Try.ntmps29
  go_wp2_with fail
  clear hx1 hx
  go_loopg [6] 4 (fun kq v6 wr => ∃ (m : Nat) (i : Int), v6 = .int .i64 i ∧ Aside0 (m + kq = 4 ∧ i = 1 + (m : Int)) ∧ Aside0 (wr.heap[w.heap.size]? = some (.cells #[.int .u8 0, .int .u32 0, .slice none 0 0, .slice none 0 0] 40 (0, 0))) ∧ Aside0 (wr.heap[w.heap.size + 1]? = some (.cells #[.int .u8 b0, .int .u32 (verTo l0 m), .slice none 0 0, .slice none 0 0] 40 (0, 0))) ∧ Aside0 (Below w.heap.size w wr) ∧ Aside0 (wr.heap.size = w.heap.size + 2))
  case atStart =>
    refine ⟨0, 1, rfl, ⟨rfl, rfl⟩, ⟨blk_alloc (heap_alloc_new w _) _⟩, ⟨?_⟩, ⟨below_alloc (below_alloc (Below.refl _ w) _) _⟩, ⟨by simp⟩⟩
    have := heap_alloc_new (w.alloc (.cells #[.int .u8 0, .int .u32 0, .slice none 0 0, .slice none 0 0] 40)) (.cells #[.int .u8 b0, .int .u32 0, .slice none 0 0, .slice none 0 0] 40)
    rw [World.size_alloc] at this
    exact this
  case round =>
    obtain ⟨m, i, rfl, HI, HT, HH, HB, HS⟩ := hrel
    have hk1 := blk_cell HH.out 1
    have hf1 := blk_frozen HH.out 1
    simp at hk1
    by_cases hm : i < 5
    · have hc : decide (i < 5) = true := decide_eq_true hm
      have hm4 : m < 4 := by have := HI.out.2; omega
      have hiN : i < (n : Int) := by have := HLE.out; have := HN.out; omega
      have hi0' : 0 ≤ i := by have := HI.out.2; omega
      obtain ⟨ad2, e2, hx⟩ := Kd.at_int (Kd.C_below HR0.out HB.out) i hi0' (by rw [← HN.out]; exact hiN)
      cases e2
      have hrd : rd l0 i = rd l0 (m + 1) := by rw [HI.out.2, Int.add_comm]
      have hv := verTo_le H4.out m (by omega)
      have hb4 := H4.out m hm4
      have hv4 := verTo_24 H4.out hm4
      obtain ⟨V, hV⟩ : ∃ V : Int, V = verTo l0 m := ⟨_, rfl⟩
      obtain ⟨b, hbv⟩ : ∃ b : Int, b = rd l0 (m + 1) := ⟨_, rfl⟩
      rw [← hV] at hv4 hv hk1
      rw [hrd] at hx
      rw [← hbv] at hb4 hx
      have w1 : IntKind.u32.wrap (V * 256) = V * 256 := IntWalk.u32_in _ (by omega)
      have w2 : IntKind.u32.wrap b = b := IntWalk.u32_in _ (by omega)
      have w3 : IntKind.u32.wrap (V * 256 + b) = V * 256 + b := IntWalk.u32_in _ (by omega)
      have HV := Aside0.mk hV
      have HBV := Aside0.mk hbv
      have HM4 := Aside0.mk hm4
      have HIN := Aside0.mk hiN
      have p1 := eq_true hi0'
      have p2 := eq_true hiN
      have w4 : IntKind.i64.wrap (i + 1) = i + 1 := IntWalk.i64_in _ (by have := HI.out; omega)
      clear hV hbv hrd hv hb4 hv4 hm4 hm hiN hi0'
      go_wp2
      go_still_tail 10, (by kernel_rfl)
      change wpList _ _ _ _ _ wr.drew
      go_wp2
      go_roundg (gk - 1)
      case measure => have := HI.out; have := HM4.out; omega
      case rel =>
        refine ⟨m + 1, i + 1, rfl, ⟨by have := HI.out; have := HM4.out; omega, by have := HI.out.2; rw [this]; push_cast; omega⟩, ⟨?_⟩, ⟨?_⟩, ⟨?_⟩, ⟨?_⟩⟩
        · exact blk_far (p := ⟨w.heap.size + 1, 1, none⟩) (blk_drew HT.out) (by dsimp only; omega) _
        · have := blk_put (cs := #[.int .u8 b0, .int .u32 (verTo l0 m), .slice none 0 0, .slice none 0 0]) (blk_drew HH.out) 1 (.int .u32 (V * 256 + b)) rfl
          rw [HV.out, HBV.out] at this ⊢
          exact this
        · exact (below_drew HB.out).setCell (p := ⟨w.heap.size + 1, 1, none⟩) (Nat.le_succ _) _
        · have := HS.out; simpa using this
    · have hc : decide (i < 5) = false := decide_eq_false hm
      have hm4 : m = 4 := by have := HI.out; omega
      subst hm4
      clear hm HI hk1 hf1
      go_wp2_with fail
      (with_reducible refine (refid_calls _ _ _ _ _ _ _ (Kd.C_below HC5.out HB.out) HK5.out HL5.out Q1.out).mono ?_)
      rintro en w1 ⟨v1, A1, c1, rfl, hv1, hC1, hc1, hb1⟩
      obtain ⟨B1, d1, rfl, _, _⟩ := row_at hv1
      have HL1 := Aside0.mk (show s1.length < 140737488355328 by have := (refId_len Q1.out).2; have := HL5.out; omega)
      have HV1 := Aside0.mk (RowIn.of hv1)
      have HC1 := Aside0.mk (hC1 _ HC5.out)
      have HK1 := Aside0.mk hc1
      have HT1 := Aside0.mk (blk_below HT.out hb1)
      have HH1 := Aside0.mk (blk_below HH.out hb1)
      have HB1 := Aside0.mk (HB.out.trans (hb1.mono HB.out.size))
      have HS1 := Aside0.mk hb1.size
      clear hv1 hC1 hc1 hb1 HT HH HB
      rcases ok1 with _ | _
      · have ht0 := blk_cell HT1.out 0
        have ht1 := blk_cell HT1.out 1
        have ht2 := blk_cell HT1.out 2
        have ht3 := blk_cell HT1.out 3
        have hu0 := blk_frozen HT1.out 0
        have hu1 := blk_frozen HT1.out 1
        have hu2 := blk_frozen HT1.out 2
        have hu3 := blk_frozen HT1.out 3
        simp at ht0 ht1 ht2 ht3
        go_wp2_with fail
        have hres := HRES.out
        rw [if_neg (by simp)] at hres
        simp only [Prod.mk.injEq] at hres
        obtain ⟨rfl, rfl, rfl, rfl, rfl, rfl⟩ := hres
        exact bodyPost_ret (results_ctt rfl _ _ w.heap.size 40 #[.int .u8 0, .int .u32 0, .slice none 0 0, .slice none 0 0] (0, 0) _ rfl (refend_blk HT1.out) Try.underlying40 rfl (by kernel_rfl)) rfl ⟨.slice none 0 0, .slice none 0 0, .slice none 0 0, rfl, Kd.R_nil _ _ _ _ _, Kd.R_nil _ _ _ _ _, Kd.R_nil _ _ _ _ _, refend_below HB1.out (Nat.le_refl _) _ _ _ _⟩
      · go_wp2_with fail
        (with_reducible refine (refid_calls _ _ _ _ _ _ _ (Kd.C_below HC1.out HB1.out) HK1.out HL1.out (Q2.out trivial)).mono ?_)
        rintro en w2 ⟨v2, A2, c2, rfl, hv2, hC2, hc2, hb2⟩
        obtain ⟨B2, d2, rfl, _, _⟩ := row_at hv2
        have HV2 := Aside0.mk (RowIn.of hv2)
        have HV12 := Aside0.mk (refRow_below HV1.out hb2)
        have HC2 := Aside0.mk (hC2 _ HC1.out)
        have HK2 := Aside0.mk hc2
        have HL2 := Aside0.mk (show s2.length < 140737488355328 by have := (refId_len (Q2.out trivial)).2; have := HL1.out; omega)
        have HT2 := Aside0.mk (blk_below HT1.out hb2)
        have HH2 := Aside0.mk (blk_below HH1.out hb2)
        have HB2 := Aside0.mk (HB1.out.trans (hb2.mono HB1.out.size))
        have HS2 := Aside0.mk hb2.size
        clear hv2 hC2 hc2 hb2 HT1 HH1 HB1 HV1 HC1 HK1 HL1
        rcases ok2 with _ | _
        · have ht0 := blk_cell HT2.out 0
          have ht1 := blk_cell HT2.out 1
          have ht2 := blk_cell HT2.out 2
          have ht3 := blk_cell HT2.out 3
          have hu0 := blk_frozen HT2.out 0
          have hu1 := blk_frozen HT2.out 1
          have hu2 := blk_frozen HT2.out 2
          have hu3 := blk_frozen HT2.out 3
          simp at ht0 ht1 ht2 ht3
          go_wp2_with fail
          have hres := HRES.out
          rw [if_neg (by simp)] at hres
          simp only [Prod.mk.injEq] at hres
          obtain ⟨rfl, rfl, rfl, rfl, rfl, rfl⟩ := hres
          exact bodyPost_ret (results_ctt rfl _ _ w.heap.size 40 #[.int .u8 0, .int .u32 0, .slice none 0 0, .slice none 0 0] (0, 0) _ rfl (refend_blk HT2.out) Try.underlying40 rfl (by kernel_rfl)) rfl ⟨.slice none 0 0, .slice none 0 0, .slice none 0 0, rfl, Kd.R_nil _ _ _ _ _, Kd.R_nil _ _ _ _ _, Kd.R_nil _ _ _ _ _, refend_below HB2.out (Nat.le_refl _) _ _ _ _⟩
        · have hh2 := blk_cell HH2.out 2
          have hh3 := blk_cell HH2.out 3
          have hf2 := blk_frozen HH2.out 2
          have hf3 := blk_frozen HH2.out 3
          simp at hh2 hh3
          go_wp2_with fail
          have hs1 := HS1.out
          have hs2 := HS2.out
          have hsr := HS.out
          have hT8 := blk_far (blk_far HT2.out (p := ⟨w.heap.size + 1, 2, none⟩) (by dsimp only; omega) (.slice B1 r1.length d1)) (p := ⟨w.heap.size + 1, 3, none⟩) (by dsimp only; omega) (.slice B2 r2.length d2)
          have hH8 := blk_put (cs := #[.int .u8 b0, .int .u32 (verTo l0 4), .slice B1 r1.length d1, .slice none 0 0]) (blk_put (cs := #[.int .u8 b0, .int .u32 (verTo l0 4), .slice none 0 0, .slice none 0 0]) HH2.out 2 (.slice B1 r1.length d1) rfl) 3 (.slice B2 r2.length d2) rfl
          have hV1 := (HV12.out.far (p := ⟨w.heap.size + 1, 2, none⟩) (by dsimp only; omega) (.slice B1 r1.length d1)).far (p := ⟨w.heap.size + 1, 3, none⟩) (by dsimp only; omega) (.slice B2 r2.length d2)
          have hV2 := (HV2.out.far (p := ⟨w.heap.size + 1, 2, none⟩) (by dsimp only; omega) (.slice B1 r1.length d1)).far (p := ⟨w.heap.size + 1, 3, none⟩) (by dsimp only; omega) (.slice B2 r2.length d2)
          have hB8 := (HB2.out.setCell (p := ⟨w.heap.size + 1, 2, none⟩) (Nat.le_succ _) (.slice B1 r1.length d1)).setCell (p := ⟨w.heap.size + 1, 3, none⟩) (Nat.le_succ _) (.slice B2 r2.length d2)
          have hS8 : ((w2.setCell ⟨w.heap.size + 1, 2, none⟩ (.slice B1 r1.length d1)).setCell ⟨w.heap.size + 1, 3, none⟩ (.slice B2 r2.length d2)).heap.size = w2.heap.size := by simp
          generalize (w2.setCell ⟨w.heap.size + 1, 2, none⟩ (.slice B1 r1.length d1)).setCell ⟨w.heap.size + 1, 3, none⟩ (.slice B2 r2.length d2) = w8 at hT8 hH8 hV1 hV2 hB8 hS8 ⊢
          have HT8 := Aside0.mk hT8
          have HH8 := Aside0.mk hH8
          have HV18 := Aside0.mk hV1
          have HV28 := Aside0.mk hV2
          have HB8 := Aside0.mk hB8
          have HS8 := Aside0.mk hS8
          have hk0 := blk_cell hH8 0
          have hk1 := blk_cell hH8 1
          have hk2 := blk_cell hH8 2
          have hk3 := blk_cell hH8 3
          simp at hk0 hk1 hk2 hk3
          clear hT8 hH8 hV1 hV2 hB8 hS8 hs1 hs2 hsr hh2 hh3 hf2 hf3 HT2 HH2 HB2 HV12 HV2
          go_region_held3 (fun w' => w'.cell? ⟨w.heap.size + 1, 0, none⟩ = some (.int .u8 b0) ∧ w'.cell? ⟨w.heap.size + 1, 1, none⟩ = some (.int .u32 (verTo l0 4)) ∧ w'.cell? ⟨w.heap.size + 1, 2, none⟩ = some (.slice B1 r1.length d1) ∧ w'.cell? ⟨w.heap.size + 1, 3, none⟩ = some (.slice B2 r2.length d2))
            (first
              | go_keep
              | exact HSk.out)
            (first
              | (refine Kd.R_append_rows_step (Kd.int .u8) (w0 := w8) w8.heap.size (by rfl) (.tmp 66) (.tmp 67) 22 5 (.int .u8 0) 1 rfl Try.underlying22 info5 rfl (by decide) (by omega) _ [] s2 _ _ _ (fun _ => True) (fun _ => False) rfl rfl ?aO ?aR (fun _ _ h => h) (fun _ h => h.elim) ?aF ?aB ?aS ?aL ?_; (case aF => exact (fun _ _ => trivial)); (case aR => exact Kd.C_below HC2.out (HB8.out.trans ((below_alloc (below_drew (Below.refl _ w8)) _).mono HB8.out.size))); (case aB => exact below_alloc (below_drew (Below.refl _ w8)) _); (case aO => exact Kd.R_drew (R_empty w8 5)); (case aS => simp; done); (case aL => have := HL2.out; simp; omega); intro v3 w10 ho hb hg hat; have HV3 := Aside0.mk (RowIn.of ho); have hz := blk_below HT8.out hb; have ht0 := blk_cell hz 0; have ht1 := blk_cell hz 1; have ht2 := blk_cell hz 2; have ht3 := blk_cell hz 3; have hu0 := blk_frozen hz 0; have hu1 := blk_frozen hz 1; have hu2 := blk_frozen hz 2; have hu3 := blk_frozen hz 3; simp at ht0 ht1 ht2 ht3; have HT10 := Aside0.mk hz; have HSk := Aside0.mk (four_at' (blk_below HH8.out hb)); have HB10 := Aside0.mk (HB8.out.trans (hb.mono HB8.out.size)); have HV110 := Aside0.mk (refRow_below HV18.out hb); have HV210 := Aside0.mk (refRow_below HV28.out hb); clear ho hb hg hat hz))
          go_wp2_with fail
          have hres := HRES.out
          rw [if_pos ⟨trivial, trivial⟩, ← HB0.out] at hres
          simp only [Prod.mk.injEq] at hres
          obtain ⟨rfl, rfl, rfl, rfl, rfl, rfl⟩ := hres
          have hs0 := HS.out
          have hs1 := HS1.out
          have hs2 := HS2.out
          have hs8 := HS8.out
          refine bodyPost_ret (results_ctt rfl _ _ w.heap.size 40 #[.int .u8 b0, .int .u32 (verTo l0 4), .slice B1 r1.length d1, .slice B2 r2.length d2] (0, 0) _ rfl (blk_put (cs := #[.int .u8 b0, .int .u32 (verTo l0 4), .slice B1 r1.length d1, .slice none 0 0]) (blk_put (cs := #[.int .u8 b0, .int .u32 (verTo l0 4), .slice none 0 0, .slice none 0 0]) (blk_put (cs := #[.int .u8 b0, .int .u32 0, .slice none 0 0, .slice none 0 0]) (blk_put (cs := #[.int .u8 0, .int .u32 0, .slice none 0 0, .slice none 0 0]) HT10.out 0 _ rfl) 1 _ rfl) 2 _ rfl) 3 _ rfl) Try.underlying40 rfl (by kernel_rfl)) rfl ?_
          have q1 := (((HV110.out.far (p := ⟨w.heap.size, 0, none⟩) (by dsimp only; omega) (.int .u8 b0)).far (p := ⟨w.heap.size, 1, none⟩) (by dsimp only; omega) (.int .u32 (verTo l0 4))).far (p := ⟨w.heap.size, 2, none⟩) (by dsimp only; omega) (.slice B1 r1.length d1)).far (p := ⟨w.heap.size, 3, none⟩) (by dsimp only; omega) (.slice B2 r2.length d2)
          have q2 := (((HV210.out.far (p := ⟨w.heap.size, 0, none⟩) (by dsimp only; omega) (.int .u8 b0)).far (p := ⟨w.heap.size, 1, none⟩) (by dsimp only; omega) (.int .u32 (verTo l0 4))).far (p := ⟨w.heap.size, 2, none⟩) (by dsimp only; omega) (.slice B1 r1.length d1)).far (p := ⟨w.heap.size, 3, none⟩) (by dsimp only; omega) (.slice B2 r2.length d2)
          have q3 := (((HV3.out.far (p := ⟨w.heap.size, 0, none⟩) (by dsimp only; omega) (.int .u8 b0)).far (p := ⟨w.heap.size, 1, none⟩) (by dsimp only; omega) (.int .u32 (verTo l0 4))).far (p := ⟨w.heap.size, 2, none⟩) (by dsimp only; omega) (.slice B1 r1.length d1)).far (p := ⟨w.heap.size, 3, none⟩) (by dsimp only; omega) (.slice B2 r2.length d2)
          refine ⟨.slice B1 r1.length d1, .slice B2 r2.length d2, v3, rfl, Kd.R_lower (Kd.R_mono q1 (fun k hk => ⟨fun e => ?_, fun e => ?_⟩)) (by omega), Kd.R_lower (Kd.R_mono q2 (fun k hk => ⟨fun e => ?_, fun e => ?_⟩)) (by omega), Kd.R_lower (Kd.R_mono q3 (fun k hk => ⟨fun e => ?_, fun e => ?_⟩)) (by omega), refend_below HB10.out (Nat.le_refl _) _ _ _ _⟩
          · have := q2.base k e.symm; omega
          · have := q3.base k e.symm; omega
          · have := q1.base k e.symm; omega
          · have := q3.base k e.symm; omega
          · have := q1.base k e.symm; omega
          · have := q2.base k e.symm; omega
def crosswayref10_Parse.f (l0 : List Int) : Option (Int × Int × List Int × List Int × List Int × Int) :=
  if l0.length < 140737488355328 then
    if l0.length = 0 then some (0, 0, [], [], [], 12) else if rd l0 0 < 128 then some (0, 0, [], [], [], 14) else if l0.length < 5 then some (0, 0, [], [], [], 12) else
    if bytes4 l0 then (refId (l0.drop 5)).bind fun x => (if x.2.2 = true then refId x.2.1 else some ([], [], false)).bind fun y =>
      some (if x.2.2 = true ∧ y.2.2 = true then (rd l0 0, verTo l0 4, x.1, y.1, y.2.1, (0 : Int)) else (0, 0, [], [], [], 12)) else none
  else none
set_option maxRecDepth 100000 in
set_option maxHeartbeats 1000000 in
theorem refparse_kind (A0 : Option Addr) (c0 : Nat) (l0 : List Int) (w : World) (hr0 : Kd.C (Kd.int .u8) w A0 l0.length l0) (e : Int) (he : (l0.length = 0 ∧ e = 12) ∨ (0 < l0.length ∧ rd l0 0 < 128 ∧ e = 14) ∨ (0 < l0.length ∧ ¬ rd l0 0 < 128 ∧ l0.length < 5 ∧ e = 12)) :
    Calls Try.prog 29 #[.slice A0 l0.length c0] w fun en w' => en = .returned (.tuple #[.agg #[.int .u8 0, .int .u32 0, .slice none 0 0, .slice none 0 0], .slice none 0 0, .int .i64 e]) ∧ Below w.heap.size w w' := by
  have hB := below_alloc (Below.refl w.heap.size w) (.cells #[.int .u8 0, .int .u32 0, .slice none 0 0, .slice none 0 0] 40)
  have hT := heap_alloc_new w (.cells #[.int .u8 0, .int .u32 0, .slice none 0 0, .slice none 0 0] 40)
  have HB := Aside0.mk hB
  have HT := Aside0.mk hT
  clear hB hT
  rcases he with ⟨h0, rfl⟩ | ⟨h0, h1, rfl⟩ | ⟨h0, h1, h2, rfl⟩
  · have g0 : ((l0.length : Int) == 0) = true := beq_iff_eq.mpr (by omega)
    obtain ⟨n, hn⟩ : ∃ n : Nat, n = l0.length := ⟨_, rfl⟩
    rw [← hn] at g0 ⊢
    clear hr0 h0 hn
    go_enter Try.func29, Try.ntmps29
    go_wp2_with fail
    have hT := HT.out
    have hB := HB.out
    (try clear hx1)
    clear HT HB
    generalize w.alloc (.cells #[.int .u8 0, .int .u32 0, .slice none 0 0, .slice none 0 0] 40) = w5 at hT hB ⊢
    refine bodyPost_ret (results_ctt rfl _ _ w.heap.size 40 #[.int .u8 0, .int .u32 0, .slice none 0 0, .slice none 0 0] (0, 0) _ rfl hT Try.underlying40 rfl (by kernel_rfl)) rfl ?_
    exact ⟨rfl, hB⟩
  · obtain ⟨ad, e0, hx⟩ := Kd.at_int hr0 0 (by omega) (by omega)
    subst e0
    rw [show ((0 : Int)).toNat = 0 from rfl, Addr.add_zero'] at hx
    obtain ⟨b0, hb0⟩ : ∃ b0 : Int, b0 = rd l0 0 := ⟨_, rfl⟩
    rw [← hb0] at hx h1
    have g0 : ((l0.length : Int) == 0) = false := beq_eq_false_iff_ne.mpr (by omega)
    have g1 : decide (b0 < 128) = true := decide_eq_true h1
    have hx1 : (w.alloc (.cells #[.int .u8 0, .int .u32 0, .slice none 0 0, .slice none 0 0] 40)).cell? ad = some (.int .u8 b0) := by rw [World.cell?_alloc_some w ad _ (by rw [hx]; rfl)]; exact hx
    obtain ⟨n, hn⟩ : ∃ n : Nat, n = l0.length := ⟨_, rfl⟩
    rw [← hn] at g0 ⊢
    have q0 : (0 : Nat) < n := by omega
    clear hr0 h0 hn h1 hb0
    go_enter Try.func29, Try.ntmps29
    go_wp2_with fail
    have hT := HT.out
    have hB := HB.out
    (try clear hx1)
    clear HT HB
    generalize w.alloc (.cells #[.int .u8 0, .int .u32 0, .slice none 0 0, .slice none 0 0] 40) = w5 at hT hB ⊢
    refine bodyPost_ret (results_ctt rfl _ _ w.heap.size 40 #[.int .u8 0, .int .u32 0, .slice none 0 0, .slice none 0 0] (0, 0) _ rfl hT Try.underlying40 rfl (by kernel_rfl)) rfl ?_
    exact ⟨rfl, hB⟩
  · obtain ⟨ad, e0, hx⟩ := Kd.at_int hr0 0 (by omega) (by omega)
    subst e0
    rw [show ((0 : Int)).toNat = 0 from rfl, Addr.add_zero'] at hx
    obtain ⟨b0, hb0⟩ : ∃ b0 : Int, b0 = rd l0 0 := ⟨_, rfl⟩
    rw [← hb0] at hx h1
    have g0 : ((l0.length : Int) == 0) = false := beq_eq_false_iff_ne.mpr (by omega)
    have g1 : decide (b0 < 128) = false := decide_eq_false h1
    have g2 : decide ((l0.length : Int) < 5) = true := decide_eq_true (by omega)
    have hx1 : (w.alloc (.cells #[.int .u8 0, .int .u32 0, .slice none 0 0, .slice none 0 0] 40)).cell? ad = some (.int .u8 b0) := by rw [World.cell?_alloc_some w ad _ (by rw [hx]; rfl)]; exact hx
    obtain ⟨n, hn⟩ : ∃ n : Nat, n = l0.length := ⟨_, rfl⟩
    rw [← hn] at g0 g2 ⊢
    have q0 : (0 : Nat) < n := by omega
    clear hr0 h0 hn h1 hb0 h2
    go_enter Try.func29, Try.ntmps29
    go_wp2_with fail
    have hT := HT.out
    have hB := HB.out
    (try clear hx1)
    clear HT HB
    generalize w.alloc (.cells #[.int .u8 0, .int .u32 0, .slice none 0 0, .slice none 0 0] 40) = w5 at hT hB ⊢
    refine bodyPost_ret (results_ctt rfl _ _ w.heap.size 40 #[.int .u8 0, .int .u32 0, .slice none 0 0, .slice none 0 0] (0, 0) _ rfl hT Try.underlying40 rfl (by kernel_rfl)) rfl ?_
    exact ⟨rfl, hB⟩
theorem crosswayref10_Parse.calls (A0 : Option Addr) (c0 : Nat) (l0 : List Int) (r1 : Int) (r2 : Int) (r3 : List Int) (r4 : List Int) (r5 : List Int) (r6 : Int) (w : World) (hr0 : Kd.C (Kd.int .u8) w A0 l0.length l0) (hc0 : l0.length ≤ c0) (h : crosswayref10_Parse.f l0 = some (r1, r2, r3, r4, r5, r6)) :
    Calls Try.prog 29 #[.slice A0 l0.length c0] w fun e w' => ∃ v2_ v3_ v4_ : Value, e = .returned (.tuple #[.agg #[.int .u8 r1, .int .u32 r2, v2_, v3_], v4_, .int .i64 r6]) ∧ Kd.R (Kd.int .u8) 5 w' w.heap.size (fun k_ => some k_ ≠ (v3_ : Value).ownBlock ∧ some k_ ≠ (v4_ : Value).ownBlock) v2_ r3 ∧ Kd.R (Kd.int .u8) 5 w' w.heap.size (fun k_ => some k_ ≠ (v2_ : Value).ownBlock ∧ some k_ ≠ (v4_ : Value).ownBlock) v3_ r4 ∧ Kd.R (Kd.int .u8) 5 w' w.heap.size (fun k_ => some k_ ≠ (v2_ : Value).ownBlock ∧ some k_ ≠ (v3_ : Value).ownBlock) v4_ r5 ∧ Below w.heap.size w w' := by
  have fin : ∀ e : Int, (0, 0, [], [], [], e) = (r1, r2, r3, r4, r5, r6) → ((l0.length = 0 ∧ e = 12) ∨ (0 < l0.length ∧ rd l0 0 < 128 ∧ e = 14) ∨ (0 < l0.length ∧ ¬ rd l0 0 < 128 ∧ l0.length < 5 ∧ e = 12)) →
      Calls Try.prog 29 #[.slice A0 l0.length c0] w fun e w' => ∃ v2_ v3_ v4_ : Value, e = .returned (.tuple #[.agg #[.int .u8 r1, .int .u32 r2, v2_, v3_], v4_, .int .i64 r6]) ∧ Kd.R (Kd.int .u8) 5 w' w.heap.size (fun k_ => some k_ ≠ (v3_ : Value).ownBlock ∧ some k_ ≠ (v4_ : Value).ownBlock) v2_ r3 ∧ Kd.R (Kd.int .u8) 5 w' w.heap.size (fun k_ => some k_ ≠ (v2_ : Value).ownBlock ∧ some k_ ≠ (v4_ : Value).ownBlock) v3_ r4 ∧ Kd.R (Kd.int .u8) 5 w' w.heap.size (fun k_ => some k_ ≠ (v2_ : Value).ownBlock ∧ some k_ ≠ (v3_ : Value).ownBlock) v4_ r5 ∧ Below w.heap.size w w' := by
    intro e he hk
    simp only [Prod.mk.injEq] at he
    obtain ⟨rfl, rfl, rfl, rfl, rfl, rfl⟩ := he
    exact (refparse_kind A0 c0 l0 w hr0 e hk).mono fun en w' ⟨he, hB⟩ => ⟨_, _, _, he, Kd.R_nil _ _ _ _ _, Kd.R_nil _ _ _ _ _, Kd.R_nil _ _ _ _ _, hB⟩
  unfold crosswayref10_Parse.f at h
  by_cases hl : l0.length < 140737488355328
  · rw [if_pos hl] at h
    by_cases h0 : l0.length = 0
    · rw [if_pos h0] at h
      exact fin 12 (Option.some.inj h) (.inl ⟨h0, rfl⟩)
    · rw [if_neg h0] at h
      by_cases h1 : rd l0 0 < 128
      · rw [if_pos h1] at h
        exact fin 14 (Option.some.inj h) (.inr (.inl ⟨by omega, h1, rfl⟩))
      · rw [if_neg h1] at h
        by_cases h2 : l0.length < 5
        · rw [if_pos h2] at h
          exact fin 12 (Option.some.inj h) (.inr (.inr ⟨by omega, h1, h2, rfl⟩))
        · rw [if_neg h2] at h
          by_cases h4 : bytes4 l0
          · rw [if_pos h4] at h
            obtain ⟨⟨x1, y1, ok1⟩, q1, h⟩ := Option.bind_eq_some_iff.1 h
            obtain ⟨⟨x2, y2, ok2⟩, q2, h⟩ := Option.bind_eq_some_iff.1 h
            exact refparse_straight A0 c0 l0 (l0.drop 5) x1 y1 x2 y2 ok1 ok2 w hr0 hc0 hl (by omega) h1 h4 rfl q1 (fun e => by rw [if_pos e] at q2; exact q2) r1 r2 r6 r3 r4 r5 (Option.some.inj h)
          · rw [if_neg h4] at h
            cases h
  · rw [if_neg hl] at h
    cases h


/-! ### crosswayref13_Answer: function 11 -/
def crosswayref13_Answer.f (k : Nat) (l0 : List Int) (a1 : Int) (l2 : List Int) : Option (List Int × Int) := (crosswayref10_Parse.f l0).bind fun bt252 => (if bt252.2.2.2.2.2 = 0 then ((crosswayref13_Make.f k a1 bt252.2.2.2.1 bt252.2.2.1 l2).bind fun bt265 => (some (bt265.1, bt265.2))) else (some (([] : List Int), bt252.2.2.2.2.2)))
theorem crosswayref13_Answer.mono : ∀ a0 a1 a2 k, LeO (crosswayref13_Answer.f k a0 a1 a2) (crosswayref13_Answer.f (k + 1) a0 a1 a2) := by
  intro a0 a1 a2 k
  unfold crosswayref13_Answer.f
  repeat' first
      | (with_reducible exact crosswayref13_Make.mono _ _ _ _ _)
      | (with_reducible exact LeO.refl _)
      | (with_reducible exact LeO.none _)
      | (with_reducible refine LeO.ite ?_ ?_)
      | (with_reducible refine LeO.bind ?_ (fun _ => ?_))
      | exact crosswayref13_Make.mono _ _ _ _ _
      | exact LeO.none _
      | refine LeO.ite ?_ ?_
      | refine LeO.bind ?_ (fun _ => ?_)
set_option maxHeartbeats 8000000 in
set_option maxRecDepth 100000 in
theorem crosswayref13_Answer.calls (k : Nat) (A0 : Option Addr) (c0 : Nat) (l0 : List Int) (a1 : Int) (A2 : Option Addr) (c2 : Nat) (l2 : List Int) (r1 : List Int) (r2 : Int) (w : World) (hr0 : Kd.C (Kd.int .u8) w A0 l0.length l0) (hc0 : l0.length ≤ c0) (hr2 : Kd.C (Kd.int .u32) w A2 l2.length l2) (hc2 : l2.length ≤ c2) (h : crosswayref13_Answer.f k l0 a1 l2 = some (r1, r2)) :
    Calls Try.prog 11 #[.slice A0 l0.length c0, .int .u8 a1, .slice A2 l2.length c2] w fun e w' => ∃ v0_ : Value, e = .returned (.tuple #[v0_, .int .i64 r2]) ∧ Kd.R (Kd.int .u8) 5 w' w.heap.size (fun _ => True) v0_ r1 ∧ Below w.heap.size w w' := by
  have hu40 := Try.underlying40
  have HR0 := Aside0.mk hr0
  have HC0 := Aside0.mk hc0
  clear hr0 hc0
  have HR2 := Aside0.mk hr2
  have HC2 := Aside0.mk hc2
  clear hr2 hc2
  have HB := Aside0.mk (Below.refl w.heap.size w)
  have H : ((crosswayref10_Parse.f l0).bind fun bt252 => (if bt252.2.2.2.2.2 = 0 then ((crosswayref13_Make.f k a1 bt252.2.2.2.1 bt252.2.2.1 l2).bind fun bt265 => (some (bt265.1, bt265.2))) else (some (([] : List Int), bt252.2.2.2.2.2)))) = some (r1, r2) := h
  clear h
  replace H := Option.bind_eq_some_iff.mp H
  obtain ⟨⟨t252, t253, t254, t257, t260, t263⟩, A40, H⟩ := H
  replace H : (if t263 = 0 then ((crosswayref13_Make.f k a1 t257 t254 l2).bind fun bt265 => (some (bt265.1, bt265.2))) else (some (([] : List Int), t263))) = some (r1, r2) := H
  have A4 := Aside0.mk A40
  clear A40
  by_cases c5 : t263 = 0
  · rw [if_pos c5] at H
    have c5b0 : (t263 == 0) = true := beq_iff_eq.mpr c5
    have c5b1 : (t263 != 0) = false := bne_eq_false_iff_eq.mpr c5
    clear c5
    replace H := Option.bind_eq_some_iff.mp H
    obtain ⟨⟨t265, t266⟩, A60, H⟩ := H
    replace H : (some (t265, t266)) = some (r1, r2) := H
    have A6 := Aside0.mk A60
    clear A60
    simp only [Option.some.injEq, Prod.mk.injEq] at H
    obtain ⟨rfl, rfl⟩ := H
    go_enter Try.func11, Try.ntmps11
    go_wp2_with (first | ((with_reducible refine gate_callee (f := 29) rfl ?_); refine goesL_ (some 13) rfl rfl Try.func29 (by kernel_rfl) rfl #[.slice A0 l0.length c0] rfl (by (try simp only [List.map_toArray, List.map_cons, List.map_nil]); first | done | rfl | (simp only [List.length_drop, List.length_take]; rfl)) ?_; (with_reducible refine (crosswayref10_Parse.calls _ _ l0 t252 t253 t254 t257 t260 t263 _ ?side1 ?side2 A4.out).mono ?_); (case side1 => repeat (first | exact HR0.out | (with_reducible refine Kd.C_alloc ?_ _) | (with_reducible refine Kd.C_drewN ?_ _) | (with_reducible refine Kd.C_drew ?_))); (case side2 => exact HC0.out); rintro e w7 ⟨v255, v258, v261, rfl, ho0, ho1, ho2, hb⟩; refine ⟨_, rfl, ?_⟩; have n0_ := Aside0.mk (Kd.R_lower ho0 (below_size (by repeat (first | (with_reducible first | exact HB.out | apply below_alloc | apply pw_below_drewN | apply below_drew1) | exact HB.out)))); have n1_ := Aside0.mk (Kd.R_lower ho1 (below_size (by repeat (first | (with_reducible first | exact HB.out | apply below_alloc | apply pw_below_drewN | apply below_drew1) | exact HB.out)))); have n2_ := Aside0.mk (Kd.R_lower ho2 (below_size (by repeat (first | (with_reducible first | exact HB.out | apply below_alloc | apply pw_below_drewN | apply below_drew1) | exact HB.out)))); have n3_ := Aside0.mk (below_step (by repeat (first | (with_reducible first | exact HB.out | apply below_alloc | apply pw_below_drewN | apply below_drew1) | exact HB.out)) hb); clear HB; have HO256 := n0_; have HO259 := n1_; have HO262 := n2_; have HB := n3_; clear n0_ n1_ n2_ n3_; (try clear hb); (try clear hb2); (try clear hk); (try clear hi); (try clear ho0); (try clear ho1); (try clear ho2)) | ((with_reducible refine gate_dst (N := 8) rfl ?_); refine box_event ?hg (N := 8) ?hd (cs := #[.int .u8 0, .int .u32 0, .slice none 0 0, .slice none 0 0]) (t := 40) ?hr ?_; (case hd => rfl); (case hg => rfl); (case hr => first | (go_simp; done) | (go_simp; rfl)); intro gb264 hg w8 hbox hb; have n0_ := Aside0.mk (Kd.R_below (by (with_reducible repeat (first | apply Kd.R_alloc | apply Kd.R_drewN | apply Kd.R_drew)); exact HO256.out) hb); have n1_ := Aside0.mk (Kd.R_below (by (with_reducible repeat (first | apply Kd.R_alloc | apply Kd.R_drewN | apply Kd.R_drew)); exact HO259.out) hb); have n2_ := Aside0.mk (Kd.R_below (by (with_reducible repeat (first | apply Kd.R_alloc | apply Kd.R_drewN | apply Kd.R_drew)); exact HO262.out) hb); have n3_ := Aside0.mk (below_step (by repeat (first | (with_reducible first | exact HB.out | apply below_alloc | apply pw_below_drewN | apply below_drew1) | exact HB.out)) hb); have n4_ := Aside0.mk (hbox); have n5_ := Aside0.mk ((by rw [hg]; exact (below_size (by repeat (first | (with_reducible first | exact HB.out | apply below_alloc | apply pw_below_drewN | apply below_drew1) | exact HB.out))) : w.heap.size ≤ gb264)); have n6_ := Aside0.mk ((by rw [hg]; exact (below_size (by repeat (first | (with_reducible first | exact HB.out | apply below_alloc | apply pw_below_drewN | apply below_drew1) | exact HB.out))) : w.heap.size ≤ gb264)); clear HO256; clear HO259; clear HO262; clear HB; have HO256 := n0_; have HO259 := n1_; have HO262 := n2_; have HB := n3_; have BK264 := n4_; have GW264 := n5_; have GE264 := n6_; clear n0_ n1_ n2_ n3_ n4_ n5_ n6_; clear hb hbox hg; have hcz9_0 : w8.cell? ⟨gb264, 0, none⟩ = some (.int .u8 0) := (blk_cell BK264.out 0).trans rfl; have hcz9_1 : w8.cell? ⟨gb264, 1, none⟩ = some (.int .u32 0) := (blk_cell BK264.out 1).trans rfl; have hcz9_2 : w8.cell? ⟨gb264, 2, none⟩ = some (.slice none 0 0) := (blk_cell BK264.out 2).trans rfl; have hcz9_3 : w8.cell? ⟨gb264, 3, none⟩ = some (.slice none 0 0) := (blk_cell BK264.out 3).trans rfl; have hfz9_0 := blk_frozen BK264.out 0; have hfz9_1 := blk_frozen BK264.out 1; have hfz9_2 := blk_frozen BK264.out 2; have hfz9_3 := blk_frozen BK264.out 3; obtain ⟨Ao10, co10, eo10⟩ := Kd.R_slice HO256.out; subst eo10; obtain ⟨Ao11, co11, eo11⟩ := Kd.R_slice HO259.out; subst eo11) | ((with_reducible refine gate_callee (f := 9) rfl ?_); refine goesL_ (some 26) rfl rfl Try.func9 (by kernel_rfl) rfl #[.int .u8 a1, .slice Ao11 t257.length co11, .slice Ao10 t254.length co10, .slice A2 l2.length c2] rfl (by (try simp only [List.map_toArray, List.map_cons, List.map_nil]); first | done | rfl | (simp only [List.length_drop, List.length_take]; rfl)) ?_; (with_reducible refine (crosswayref13_Make.calls k a1 _ _ t257 _ _ t254 _ _ l2 t265 t266 _ ?side1 ?side2 ?side3 ?side4 ?side5 ?side6 A6.out).mono ?_); (case side1 => refine (Kd.R_reads' (e := 5) (base := w.heap.size) (ok := fun k_ => (some k_ ≠ (.slice Ao10 t254.length co10 : Value).ownBlock ∧ some k_ ≠ (v261 : Value).ownBlock)) (n := t257.length) (c := co11) ?_).2.2; exact (by (with_reducible repeat (first | apply Kd.R_alloc | apply Kd.R_drewN | apply Kd.R_drew)); exact (Kd.R_mono (Kd.R_far (p := ⟨gb264, 3, none⟩) (Kd.R_far (p := ⟨gb264, 2, none⟩) (Kd.R_far (p := ⟨gb264, 1, none⟩) (Kd.R_far (p := ⟨gb264, 0, none⟩) (Kd.R_types HO259.out BK264.out (by decide)) (fun _ hk => hk.2) (.int .u8 t252)) (fun _ hk => hk.2) (.int .u32 t253)) (fun _ hk => hk.2) (.slice Ao10 t254.length co10)) (fun _ hk => hk.2) (.slice Ao11 t257.length co11)) (fun _ h_ => h_.1)))); (case side2 => exact (Kd.R_reads' HO259.out).2.1); (case side3 => refine (Kd.R_reads' (e := 5) (base := w.heap.size) (ok := fun k_ => (some k_ ≠ (.slice Ao11 t257.length co11 : Value).ownBlock ∧ some k_ ≠ (v261 : Value).ownBlock)) (n := t254.length) (c := co10) ?_).2.2; exact (by (with_reducible repeat (first | apply Kd.R_alloc | apply Kd.R_drewN | apply Kd.R_drew)); exact (Kd.R_mono (Kd.R_far (p := ⟨gb264, 3, none⟩) (Kd.R_far (p := ⟨gb264, 2, none⟩) (Kd.R_far (p := ⟨gb264, 1, none⟩) (Kd.R_far (p := ⟨gb264, 0, none⟩) (Kd.R_types HO256.out BK264.out (by decide)) (fun _ hk => hk.2) (.int .u8 t252)) (fun _ hk => hk.2) (.int .u32 t253)) (fun _ hk => hk.2) (.slice Ao10 t254.length co10)) (fun _ hk => hk.2) (.slice Ao11 t257.length co11)) (fun _ h_ => h_.1)))); (case side4 => exact (Kd.R_reads' HO256.out).2.1); (case side5 => exact Kd.C_below HR2.out (by repeat (first | (with_reducible first | exact HB.out | apply below_alloc | apply pw_below_drewN | apply below_drew1 | refine below_set ?_ GE264.out) | exact HB.out))); (case side6 => exact HC2.out); rintro e w12 ⟨v267, rfl, ho0, hb⟩; refine ⟨_, rfl, ?_⟩; have n0_ := Aside0.mk (Kd.R_elder' (by (with_reducible repeat (first | apply Kd.R_alloc | apply Kd.R_drewN | apply Kd.R_drew)); exact (Kd.R_mono (Kd.R_far (p := ⟨gb264, 3, none⟩) (Kd.R_far (p := ⟨gb264, 2, none⟩) (Kd.R_far (p := ⟨gb264, 1, none⟩) (Kd.R_far (p := ⟨gb264, 0, none⟩) (Kd.R_types HO256.out BK264.out (by decide)) (fun _ hk => hk.2) (.int .u8 t252)) (fun _ hk => hk.2) (.int .u32 t253)) (fun _ hk => hk.2) (.slice Ao10 t254.length co10)) (fun _ hk => hk.2) (.slice Ao11 t257.length co11)) (fun _ h_ => h_.1))) (Kd.R_base ho0) hb); have n1_ := Aside0.mk (Kd.R_elder' (by (with_reducible repeat (first | apply Kd.R_alloc | apply Kd.R_drewN | apply Kd.R_drew)); exact (Kd.R_mono (Kd.R_far (p := ⟨gb264, 3, none⟩) (Kd.R_far (p := ⟨gb264, 2, none⟩) (Kd.R_far (p := ⟨gb264, 1, none⟩) (Kd.R_far (p := ⟨gb264, 0, none⟩) (Kd.R_types HO259.out BK264.out (by decide)) (fun _ hk => hk.2) (.int .u8 t252)) (fun _ hk => hk.2) (.int .u32 t253)) (fun _ hk => hk.2) (.slice Ao10 t254.length co10)) (fun _ hk => hk.2) (.slice Ao11 t257.length co11)) (fun _ h_ => h_.1))) (Kd.R_base ho0) hb); have n2_ := Aside0.mk (Kd.R_elder' (by (with_reducible repeat (first | apply Kd.R_alloc | apply Kd.R_drewN | apply Kd.R_drew)); exact (Kd.R_mono (Kd.R_far (p := ⟨gb264, 3, none⟩) (Kd.R_far (p := ⟨gb264, 2, none⟩) (Kd.R_far (p := ⟨gb264, 1, none⟩) (Kd.R_far (p := ⟨gb264, 0, none⟩) (Kd.R_types HO262.out BK264.out (by decide)) (fun _ hk => hk.2) (.int .u8 t252)) (fun _ hk => hk.2) (.int .u32 t253)) (fun _ hk => hk.2) (.slice Ao10 t254.length co10)) (fun _ hk => hk.2) (.slice Ao11 t257.length co11)) (fun _ h_ => h_.1))) (Kd.R_base ho0) hb); have n3_ := Aside0.mk (Kd.R_lower (Kd.R_new' (Kd.R_new' (Kd.R_new' ho0 (Kd.R_lt (by (with_reducible repeat (first | apply Kd.R_alloc | apply Kd.R_drewN | apply Kd.R_drew)); exact (Kd.R_mono (Kd.R_far (p := ⟨gb264, 3, none⟩) (Kd.R_far (p := ⟨gb264, 2, none⟩) (Kd.R_far (p := ⟨gb264, 1, none⟩) (Kd.R_far (p := ⟨gb264, 0, none⟩) (Kd.R_types HO256.out BK264.out (by decide)) (fun _ hk => hk.2) (.int .u8 t252)) (fun _ hk => hk.2) (.int .u32 t253)) (fun _ hk => hk.2) (.slice Ao10 t254.length co10)) (fun _ hk => hk.2) (.slice Ao11 t257.length co11)) (fun _ h_ => h_.1))))) (Kd.R_lt (by (with_reducible repeat (first | apply Kd.R_alloc | apply Kd.R_drewN | apply Kd.R_drew)); exact (Kd.R_mono (Kd.R_far (p := ⟨gb264, 3, none⟩) (Kd.R_far (p := ⟨gb264, 2, none⟩) (Kd.R_far (p := ⟨gb264, 1, none⟩) (Kd.R_far (p := ⟨gb264, 0, none⟩) (Kd.R_types HO259.out BK264.out (by decide)) (fun _ hk => hk.2) (.int .u8 t252)) (fun _ hk => hk.2) (.int .u32 t253)) (fun _ hk => hk.2) (.slice Ao10 t254.length co10)) (fun _ hk => hk.2) (.slice Ao11 t257.length co11)) (fun _ h_ => h_.1))))) (Kd.R_lt (by (with_reducible repeat (first | apply Kd.R_alloc | apply Kd.R_drewN | apply Kd.R_drew)); exact (Kd.R_mono (Kd.R_far (p := ⟨gb264, 3, none⟩) (Kd.R_far (p := ⟨gb264, 2, none⟩) (Kd.R_far (p := ⟨gb264, 1, none⟩) (Kd.R_far (p := ⟨gb264, 0, none⟩) (Kd.R_types HO262.out BK264.out (by decide)) (fun _ hk => hk.2) (.int .u8 t252)) (fun _ hk => hk.2) (.int .u32 t253)) (fun _ hk => hk.2) (.slice Ao10 t254.length co10)) (fun _ hk => hk.2) (.slice Ao11 t257.length co11)) (fun _ h_ => h_.1))))) (below_size (by repeat (first | (with_reducible first | exact HB.out | apply below_alloc | apply pw_below_drewN | apply below_drew1 | refine below_set ?_ GE264.out) | exact HB.out)))); have n4_ := Aside0.mk (blk_below (g := gb264) (o := .cells #[.int .u8 t252, .int .u32 t253, .slice Ao10 t254.length co10, .slice Ao11 t257.length co11] 40 (0, 0)) (by (with_reducible repeat (first | refine blk_drewN ?_ _ | refine blk_drew ?_ | refine blk_alloc ?_ _)); refine blk_put (cs := #[.int .u8 t252, .int .u32 t253, .slice Ao10 t254.length co10, .slice none 0 0]) ?_ 3 _ rfl; (with_reducible repeat (first | refine blk_drewN ?_ _ | refine blk_drew ?_ | refine blk_alloc ?_ _)); refine blk_put (cs := #[.int .u8 t252, .int .u32 t253, .slice none 0 0, .slice none 0 0]) ?_ 2 _ rfl; (with_reducible repeat (first | refine blk_drewN ?_ _ | refine blk_drew ?_ | refine blk_alloc ?_ _)); refine blk_put (cs := #[.int .u8 t252, .int .u32 0, .slice none 0 0, .slice none 0 0]) ?_ 1 _ rfl; (with_reducible repeat (first | refine blk_drewN ?_ _ | refine blk_drew ?_ | refine blk_alloc ?_ _)); refine blk_put (cs := #[.int .u8 0, .int .u32 0, .slice none 0 0, .slice none 0 0]) ?_ 0 _ rfl; (with_reducible repeat (first | refine blk_drewN ?_ _ | refine blk_drew ?_ | refine blk_alloc ?_ _)); exact BK264.out) hb); have n5_ := Aside0.mk (below_step (by repeat (first | (with_reducible first | exact HB.out | apply below_alloc | apply pw_below_drewN | apply below_drew1 | refine below_set ?_ GE264.out) | exact HB.out)) hb); clear HO256; clear HO259; clear HO262; clear BK264; clear HB; have HO256 := n0_; have HO259 := n1_; have HO262 := n2_; have HO268 := n3_; have BK264 := n4_; have HB := n5_; clear n0_ n1_ n2_ n3_ n4_ n5_; (try clear hb); (try clear hb2); (try clear hk); (try clear hi); (try clear ho0)))
    go_ret2
    exact ⟨_, by first | rfl | (simp [errW_none, errW_some] <;> rfl) | (simp [*, errW_none, errW_some] <;> rfl), by (with_reducible repeat (first | apply Kd.R_alloc | apply Kd.R_drewN | apply Kd.R_drew)); exact Kd.R_mono HO268.out (fun _ hk => trivial), by repeat (first | (with_reducible first | exact HB.out | apply below_alloc | apply pw_below_drewN | apply below_drew1 | refine below_set ?_ GE264.out) | exact HB.out)⟩
  · rw [if_neg c5] at H
    have c5b0 : (t263 == 0) = false := beq_eq_false_iff_ne.mpr c5
    have c5b1 : (t263 != 0) = true := bne_iff_ne.mpr c5
    simp only [Option.some.injEq, Prod.mk.injEq] at H
    obtain ⟨rfl, rfl⟩ := H
    go_enter Try.func11, Try.ntmps11
    go_wp2_with (first | ((with_reducible refine gate_callee (f := 29) rfl ?_); refine goesL_ (some 13) rfl rfl Try.func29 (by kernel_rfl) rfl #[.slice A0 l0.length c0] rfl (by (try simp only [List.map_toArray, List.map_cons, List.map_nil]); first | done | rfl | (simp only [List.length_drop, List.length_take]; rfl)) ?_; (with_reducible refine (crosswayref10_Parse.calls _ _ l0 t252 t253 t254 t257 t260 t263 _ ?side1 ?side2 A4.out).mono ?_); (case side1 => repeat (first | exact HR0.out | (with_reducible refine Kd.C_alloc ?_ _) | (with_reducible refine Kd.C_drewN ?_ _) | (with_reducible refine Kd.C_drew ?_))); (case side2 => exact HC0.out); rintro e w13 ⟨v255, v258, v261, rfl, ho0, ho1, ho2, hb⟩; refine ⟨_, rfl, ?_⟩; have n0_ := Aside0.mk (Kd.R_lower ho0 (below_size (by repeat (first | (with_reducible first | exact HB.out | apply below_alloc | apply pw_below_drewN | apply below_drew1) | exact HB.out)))); have n1_ := Aside0.mk (Kd.R_lower ho1 (below_size (by repeat (first | (with_reducible first | exact HB.out | apply below_alloc | apply pw_below_drewN | apply below_drew1) | exact HB.out)))); have n2_ := Aside0.mk (Kd.R_lower ho2 (below_size (by repeat (first | (with_reducible first | exact HB.out | apply below_alloc | apply pw_below_drewN | apply below_drew1) | exact HB.out)))); have n3_ := Aside0.mk (below_step (by repeat (first | (with_reducible first | exact HB.out | apply below_alloc | apply pw_below_drewN | apply below_drew1) | exact HB.out)) hb); clear HB; have HO256 := n0_; have HO259 := n1_; have HO262 := n2_; have HB := n3_; clear n0_ n1_ n2_ n3_; (try clear hb); (try clear hb2); (try clear hk); (try clear hi); (try clear ho0); (try clear ho1); (try clear ho2)) | ((with_reducible refine gate_dst (N := 8) rfl ?_); refine box_event ?hg (N := 8) ?hd (cs := #[.int .u8 0, .int .u32 0, .slice none 0 0, .slice none 0 0]) (t := 40) ?hr ?_; (case hd => rfl); (case hg => rfl); (case hr => first | (go_simp; done) | (go_simp; rfl)); intro gb264 hg w14 hbox hb; have n0_ := Aside0.mk (Kd.R_below (by (with_reducible repeat (first | apply Kd.R_alloc | apply Kd.R_drewN | apply Kd.R_drew)); exact HO256.out) hb); have n1_ := Aside0.mk (Kd.R_below (by (with_reducible repeat (first | apply Kd.R_alloc | apply Kd.R_drewN | apply Kd.R_drew)); exact HO259.out) hb); have n2_ := Aside0.mk (Kd.R_below (by (with_reducible repeat (first | apply Kd.R_alloc | apply Kd.R_drewN | apply Kd.R_drew)); exact HO262.out) hb); have n3_ := Aside0.mk (below_step (by repeat (first | (with_reducible first | exact HB.out | apply below_alloc | apply pw_below_drewN | apply below_drew1) | exact HB.out)) hb); have n4_ := Aside0.mk (hbox); have n5_ := Aside0.mk ((by rw [hg]; exact (below_size (by repeat (first | (with_reducible first | exact HB.out | apply below_alloc | apply pw_below_drewN | apply below_drew1) | exact HB.out))) : w.heap.size ≤ gb264)); have n6_ := Aside0.mk ((by rw [hg]; exact (below_size (by repeat (first | (with_reducible first | exact HB.out | apply below_alloc | apply pw_below_drewN | apply below_drew1) | exact HB.out))) : w.heap.size ≤ gb264)); clear HO256; clear HO259; clear HO262; clear HB; have HO256 := n0_; have HO259 := n1_; have HO262 := n2_; have HB := n3_; have BK264 := n4_; have GW264 := n5_; have GE264 := n6_; clear n0_ n1_ n2_ n3_ n4_ n5_ n6_; clear hb hbox hg; have hcz15_0 : w14.cell? ⟨gb264, 0, none⟩ = some (.int .u8 0) := (blk_cell BK264.out 0).trans rfl; have hcz15_1 : w14.cell? ⟨gb264, 1, none⟩ = some (.int .u32 0) := (blk_cell BK264.out 1).trans rfl; have hcz15_2 : w14.cell? ⟨gb264, 2, none⟩ = some (.slice none 0 0) := (blk_cell BK264.out 2).trans rfl; have hcz15_3 : w14.cell? ⟨gb264, 3, none⟩ = some (.slice none 0 0) := (blk_cell BK264.out 3).trans rfl; have hfz15_0 := blk_frozen BK264.out 0; have hfz15_1 := blk_frozen BK264.out 1; have hfz15_2 := blk_frozen BK264.out 2; have hfz15_3 := blk_frozen BK264.out 3; obtain ⟨Ao16, co16, eo16⟩ := Kd.R_slice HO256.out; subst eo16; obtain ⟨Ao17, co17, eo17⟩ := Kd.R_slice HO259.out; subst eo17))
    go_ret2
    exact ⟨_, by first | rfl | (simp [errW_none, errW_some] <;> rfl) | (simp [*, errW_none, errW_some] <;> rfl), by first | exact Kd.R_nil _ _ _ _ _ | exact Kd.N_nil _ _ _ _ _ | exact Kd.V_nil _ _ _ _ _ | exact Kd.Q_nil _ _ _ _ _ | exact Kd.S_nil _ _ _ _ _, by repeat (first | (with_reducible first | exact HB.out | apply below_alloc | apply pw_below_drewN | apply below_drew1 | refine below_set ?_ GE264.out) | exact HB.out)⟩

/-! ### crosswaylaw13_same: function 13 -/
def crosswaylaw13_same.l0 : Nat → List Int → List Int → Int → Option (Bool)
  | 0, _, _, _ => none
  | k + 1, x0, x1, x5 => if x5 < (x0.length : Int) then (if 0 ≤ x5 then (if x5 < (x1.length : Int) then (if (rd x0 x5) = (rd x1 x5) then (crosswaylaw13_same.l0 k x0 x1 (wrap64 (x5 + 1))) else (some false)) else (none)) else (none)) else (some true)
def crosswaylaw13_same.f (k : Nat) (l0 : List Int) (l1 : List Int) : Option (Bool) := if (l0.length : Int) = (l1.length : Int) then (crosswaylaw13_same.l0 k l0 l1 0) else (some false)
theorem crosswaylaw13_same.mono_l : ∀ k, (∀ y0 y1 y2, LeO (crosswaylaw13_same.l0 k y0 y1 y2) (crosswaylaw13_same.l0 (k + 1) y0 y1 y2))
  | 0 => fun _ _ _ r h => by simp [crosswaylaw13_same.l0] at h
  | k + 1 => by
    have ih0 := crosswaylaw13_same.mono_l k
    · intro y0 y1 y2
      unfold crosswaylaw13_same.l0
      repeat' first
      | (with_reducible exact ih0 _ _ _)
      | (with_reducible exact LeO.refl _)
      | (with_reducible exact LeO.none _)
      | (with_reducible refine LeO.ite ?_ ?_)
      | (with_reducible refine LeO.bind ?_ (fun _ => ?_))
      | exact ih0 _ _ _
      | exact LeO.none _
      | refine LeO.ite ?_ ?_
      | refine LeO.bind ?_ (fun _ => ?_)
theorem crosswaylaw13_same.mono : ∀ a0 a1 k, LeO (crosswaylaw13_same.f k a0 a1) (crosswaylaw13_same.f (k + 1) a0 a1) := by
  intro a0 a1 k
  have ih0 := crosswaylaw13_same.mono_l k
  unfold crosswaylaw13_same.f
  repeat' first
      | (with_reducible exact ih0 _ _ _)
      | (with_reducible exact LeO.refl _)
      | (with_reducible exact LeO.none _)
      | (with_reducible refine LeO.ite ?_ ?_)
      | (with_reducible refine LeO.bind ?_ (fun _ => ?_))
      | exact ih0 _ _ _
      | exact LeO.none _
      | refine LeO.ite ?_ ?_
      | refine LeO.bind ?_ (fun _ => ?_)
set_option maxHeartbeats 8000000 in
set_option maxRecDepth 100000 in
theorem crosswaylaw13_same.calls (k : Nat) (A0 : Option Addr) (c0 : Nat) (l0 : List Int) (A1 : Option Addr) (c1 : Nat) (l1 : List Int) (r : Bool) (w : World) (hr0 : Kd.C (Kd.int .u32) w A0 l0.length l0) (hc0 : l0.length ≤ c0) (hr1 : Kd.C (Kd.int .u32) w A1 l1.length l1) (hc1 : l1.length ≤ c1) (h : crosswaylaw13_same.f k l0 l1 = some r) :
    Calls Try.prog 13 #[.slice A0 l0.length c0, .slice A1 l1.length c1] w fun e w' => e = .returned (.bool r) ∧ Drawn0 w w' := by
  have HR0 := Aside0.mk hr0
  have HC0 := Aside0.mk hc0
  clear hr0 hc0
  have HR1 := Aside0.mk hr1
  have HC1 := Aside0.mk hc1
  clear hr1 hc1
  have H : (if (l0.length : Int) = (l1.length : Int) then (crosswaylaw13_same.l0 k l0 l1 0) else (some false)) = some r := h
  clear h
  by_cases c3 : (l0.length : Int) = (l1.length : Int)
  · rw [if_pos c3] at H
    have c3b0 : ((l0.length : Int) == (l1.length : Int)) = true := beq_iff_eq.mpr c3
    have c3b1 : ((l0.length : Int) != (l1.length : Int)) = false := bne_eq_false_iff_eq.mpr c3
    have c3b2 : (l0.length == l1.length) = true := by first | simpa using c3 | (simp at c3 ⊢; omega)
    clear c3
    have H' := Aside0.mk H
    clear H
    go_enter Try.func13, Try.ntmps13
    go_wp2
    repeat (go_quiet (fail); try go_wp2)
    go_loopg [5] k (fun kq v5 w' => ∃ (x5_1 : Int), v5 = .int .i64 x5_1 ∧ Aside0 (crosswaylaw13_same.l0 kq l0 l1 x5_1 = some r) ∧ Aside0 (kq ≤ k) ∧ Drawn0 w w')
    case atStart => exact ⟨(0), (by first | rfl | (simp; done) | (simp [*]; done) | (simp only [i64_w]; done) | (simp [i64_w]; done)), H', ⟨Nat.le_refl _⟩, by repeat (first | exact Drawn0.refl _ | apply Drawn0.step)⟩
    case round =>
      clear H'
      try clear c1
      try clear p2
      try clear c3
      try clear c3b0
      try clear c3b1
      try clear c3b2
      obtain ⟨x5_1, rfl, HA, HK1, ⟨m1, rfl⟩⟩ := hrel
      cases gk with
      | zero => exact absurd HA.out (by simp [crosswaylaw13_same.l0])
      | succ k1 =>
        have H := HA.out
        clear HA
        simp only [crosswaylaw13_same.l0] at H
        by_cases c4 : x5_1 < (l0.length : Int)
        · rw [if_pos c4] at H
          have c4b0 : decide (x5_1 < (l0.length : Int)) = true := decide_eq_true c4
          clear c4
          by_cases c5 : 0 ≤ x5_1
          · rw [if_pos c5] at H
            have c5b0 : decide (0 ≤ x5_1) = true := decide_eq_true c5
            clear c5
            by_cases c6 : x5_1 < (l1.length : Int)
            · rw [if_pos c6] at H
              have c6b0 : decide (x5_1 < (l1.length : Int)) = true := decide_eq_true c6
              clear c6
              by_cases c7 : (rd l0 x5_1) = (rd l1 x5_1)
              · rw [if_pos c7] at H
                have c7b0 : ((rd l0 x5_1) == (rd l1 x5_1)) = true := beq_iff_eq.mpr c7
                have c7b1 : ((rd l0 x5_1) != (rd l1 x5_1)) = false := bne_eq_false_iff_eq.mpr c7
                clear c7
                have H' := Aside0.mk H
                clear H
                have p269 : 0 ≤ (x5_1 : Int) := of_decide_eq_true (by first | (with_reducible assumption) | assumption)
                have q269 : x5_1 < (l0.length : Int) := of_decide_eq_true (by first | (with_reducible assumption) | assumption)
                obtain ⟨ad269, e269, hx269_0⟩ := Kd.at_int HR0.out x5_1 p269 q269
                cases e269
                replace p269 := eq_true p269
                replace q269 := eq_true q269
                have p270 : 0 ≤ (x5_1 : Int) := of_decide_eq_true (by first | (with_reducible assumption) | assumption)
                have q270 : x5_1 < (l1.length : Int) := of_decide_eq_true (by first | (with_reducible assumption) | assumption)
                obtain ⟨ad270, e270, hx270_0⟩ := Kd.at_int HR1.out x5_1 p270 q270
                cases e270
                replace p270 := eq_true p270
                replace q270 := eq_true q270
                go_wp2
                repeat (go_quiet (fail); try go_wp2)
                go_roundg k1
                case measure => have := HK1.out; omega
                case rel => exact ⟨(wrap64 (x5_1 + 1)), (by first | rfl | (simp; done) | (simp [*]; done) | (simp only [i64_w]; done) | (simp [i64_w]; done)), H', ⟨by have := HK1.out; omega⟩, by repeat (first | exact Drawn0.refl _ | apply Drawn0.step)⟩
              · rw [if_neg c7] at H
                have c7b0 : ((rd l0 x5_1) == (rd l1 x5_1)) = false := beq_eq_false_iff_ne.mpr c7
                have c7b1 : ((rd l0 x5_1) != (rd l1 x5_1)) = true := bne_iff_ne.mpr c7
                obtain rfl := Option.some.inj H
                have p269 : 0 ≤ (x5_1 : Int) := of_decide_eq_true (by first | (with_reducible assumption) | assumption)
                have q269 : x5_1 < (l0.length : Int) := of_decide_eq_true (by first | (with_reducible assumption) | assumption)
                obtain ⟨ad269, e269, hx269_0⟩ := Kd.at_int HR0.out x5_1 p269 q269
                cases e269
                replace p269 := eq_true p269
                replace q269 := eq_true q269
                have p270 : 0 ≤ (x5_1 : Int) := of_decide_eq_true (by first | (with_reducible assumption) | assumption)
                have q270 : x5_1 < (l1.length : Int) := of_decide_eq_true (by first | (with_reducible assumption) | assumption)
                obtain ⟨ad270, e270, hx270_0⟩ := Kd.at_int HR1.out x5_1 p270 q270
                cases e270
                replace p270 := eq_true p270
                replace q270 := eq_true q270
                go_wp2
                repeat (go_quiet (fail); try go_wp2)
                go_ret
                exact ⟨by first | rfl | (simp; done) | (simp [*]; done), by repeat (first | exact Drawn0.refl _ | apply Drawn0.step)⟩
            · rw [if_neg c6] at H
              exact absurd H (by simp)
          · rw [if_neg c5] at H
            exact absurd H (by simp)
        · rw [if_neg c4] at H
          have c4b0 : decide (x5_1 < (l0.length : Int)) = false := decide_eq_false c4
          clear c4
          obtain rfl := Option.some.inj H
          go_wp2
          repeat (go_quiet (fail); try go_wp2)
          go_ret
          exact ⟨by first | rfl | (simp; done) | (simp [*]; done), by repeat (first | exact Drawn0.refl _ | apply Drawn0.step)⟩
  · rw [if_neg c3] at H
    have c3b0 : ((l0.length : Int) == (l1.length : Int)) = false := beq_eq_false_iff_ne.mpr c3
    have c3b1 : ((l0.length : Int) != (l1.length : Int)) = true := bne_iff_ne.mpr c3
    have c3b2 : (l0.length == l1.length) = false := by first | simpa using c3 | (simp at c3 ⊢; omega)
    obtain rfl := Option.some.inj H
    go_enter Try.func13, Try.ntmps13
    go_wp2
    repeat (go_quiet (fail); try go_wp2)
    go_ret
    exact ⟨by first | rfl | (simp; done) | (simp [*]; done), by repeat (first | exact Drawn0.refl _ | apply Drawn0.step)⟩

end Go.Proofs.Ytnmhnihhlakinac.M
