/- The plain law of offers: versions written and read, four bytes each. -/
import Derived.Test.YtnmhnihhlakinacPuHead2
namespace Go.Proofs.Ytnmhnihhlakinac.PuOffer
open Go.RowKit Go.Proofs.YtnmhnihhlakinacW.PrintWords Go.Proofs.YtnmhnihhlakinacW.PrintMore Go.Proofs.Ytnmhnihhlakinac.M Go.Proofs.Ytnmhnihhlakinac.Bv Go.Proofs.Ytnmhnihhlakinac.PuLib Go.Proofs.Ytnmhnihhlakinac.PuHead
def Wd (l : List Int) : Prop := ∀ x ∈ l, 0 ≤ x ∧ x < 4294967296
/-- Versions' bytes. -/
def encs : List Int → List Int
  | [] => []
  | v :: t => putL v 4 ++ encs t
/-- The versions of bytes. -/
def decs : List Int → List Int
  | a :: b :: c :: d :: t => numS [a, b, c, d] :: decs t
  | _ => []
theorem encs_length : ∀ vs : List Int, (encs vs).length = 4 * vs.length
  | [] => rfl
  | v :: t => by rw [encs, List.length_append, putL_length, encs_length t, List.length_cons]; omega
theorem encs_By : ∀ vs : List Int, By (encs vs)
  | [] => fun z hz => by cases hz
  | v :: t => fun z hz => by
    rw [encs, List.mem_append] at hz
    rcases hz with h | h
    · exact putL_bytes v 4 z h
    · exact encs_By t z h
theorem putL4 (v : Int) : putL v 4 = [(v / 16777216) % 256, (v / 65536) % 256, (v / 256) % 256, v % 256] := by simp [putL]
theorem decs_encs : ∀ vs : List Int, Wd vs → decs (encs vs) = vs
  | [], _ => rfl
  | v :: t, h => by
    have hv := h v (List.mem_cons_self)
    have hn := numS_putL v 4
    rw [putL4] at hn
    have e : (256 : Int) ^ 4 = 4294967296 := by decide
    rw [e, Int.emod_eq_of_lt hv.1 hv.2] at hn
    rw [encs, putL4]
    show numS _ :: decs (encs t) = v :: t
    rw [hn, decs_encs t (fun x hx => h x (List.mem_cons_of_mem _ hx))]
theorem decs_Wd : ∀ l : List Int, By l → Wd (decs l)
  | a :: b :: c :: d :: t, h => fun z hz => by
    rw [decs, List.mem_cons] at hz
    rcases hz with rfl | hz
    · have := numS_range [a, b, c, d] (by intro z hz; simp at hz; rcases hz with rfl | rfl | rfl | rfl <;> exact h _ (by simp))
      have e : (256 : Int) ^ ([a, b, c, d] : List Int).length = 4294967296 := by show (256 : Int) ^ 4 = _; decide
      rw [e] at this
      exact this
    · exact decs_Wd t (fun x hx => h x (by simp [hx])) z hz
  | [], _ => fun z hz => by cases hz
  | [_], _ => fun z hz => by cases hz
  | [_, _], _ => fun z hz => by cases hz
  | [_, _, _], _ => fun z hz => by cases hz
theorem decs_len : ∀ l : List Int, (decs l).length ≤ l.length
  | a :: b :: c :: d :: t => by rw [decs]; have := decs_len t; simp only [List.length_cons]; omega
  | [] => Nat.le_refl _
  | [_] => Nat.zero_le _
  | [_, _] => Nat.zero_le _
  | [_, _, _] => Nat.zero_le _
/-! ### the first byte -/
def hi (a : Int) : Int := Go.bits .or .u8 a 128
theorem hi_range {a : Int} (h0 : 0 ≤ a) (h1 : a < 256) : 128 ≤ hi a ∧ hi a < 256 := by
  have h := b_check (p := fun n => decide (128 ≤ Go.bits .or .u8 (n : Int) 128) && decide (Go.bits .or .u8 (n : Int) 128 < 256)) (by decide +kernel) h0 h1
  rw [Int.toNat_of_nonneg h0, Bool.and_eq_true, decide_eq_true_iff, decide_eq_true_iff] at h
  exact h
theorem hi_ref {a : Int} (h0 : 0 ≤ a) (h1 : a < 256) : (Int.tmod a 128 + 128) % 256 = hi a := by
  have h := b_check (p := fun n => (Int.tmod (n : Int) 128 + 128) % 256 == Go.bits .or .u8 (n : Int) 128) (by decide +kernel) h0 h1
  rw [Int.toNat_of_nonneg h0, beq_iff_eq] at h
  exact h
theorem hi_low {a : Int} (h0 : 0 ≤ a) (h1 : a < 256) : Go.bits .and .u8 (hi a) 127 = Go.bits .and .u8 a 127 := by
  have h := b_check (p := fun n => Go.bits .and .u8 (Go.bits .or .u8 (n : Int) 128) 127 == Go.bits .and .u8 (n : Int) 127) (by decide +kernel) h0 h1
  rw [Int.toNat_of_nonneg h0, beq_iff_eq] at h
  exact h
/-! ### an offer that is made -/
def makeS (a : Int) (x y vs : List Int) : List Int × Int := if vs.length < 1 ∨ vs.length > 64 then ([], 11) else if (hbS (hi a) 0 x y).2 = 0 then ((hbS (hi a) 0 x y).1 ++ encs vs, 0) else ([], (hbS (hi a) 0 x y).2)
theorem hbS_len (a b : Int) (x y : List Int) : (hbS a b x y).1.length ≤ 517 := by
  unfold hbS
  split
  · simp
  · split
    · simp
    · have := enc_length a b x y
      dsimp only
      omega
theorem wrNums_ev : ∀ (vs l : List Int), Wd vs → l.length + 4 * vs.length ≤ 1000000 → Ev (fun k => wrNums k 0 l vs) (0, l ++ encs vs)
  | [], l, _, _ => by rw [encs, List.append_nil]; exact Ev.now _
  | v :: t, l, h, hl => by
    have hv := h v (List.mem_cons_self)
    rw [List.length_cons] at hl
    have hw : IntKind.u64.wrap v = v := wrap_id hv.1 (by omega)
    have q : Ev (fun k => wrNum k 0 l v 4) (putS2 0 0 l (putL v 4)) := wnum_ev 0 l v 4 (by omega) hv.1 hv.2 (by omega)
    rw [putS2_ok] at q
    refine Ev.congr (fun k => by rw [wrNums, hw]) (Ev.bind (f := fun k q => wrNums k q.1 q.2 t) q (ev_eq (wrNums_ev t (l ++ putL v 4) (fun x hx => h x (List.mem_cons_of_mem _ hx)) (by rw [List.length_append, putL_length]; omega)) ?_))
    rw [encs, List.append_assoc]
theorem make_ev {a : Int} {x y vs : List Int} (a0 : 0 ≤ a) (a1 : a < 256) (hx : x.length ≤ 1000) (hy : y.length ≤ 1000) (hv : Wd vs) (hl : vs.length ≤ 1000) : Ev (fun k => offer_Make.f k a x y vs) (makeS a x y vs) := by
  unfold offer_Make.f makeS
  by_cases h : vs.length < 1 ∨ vs.length > 64
  · rw [if_pos h]
    exact Ev.congr (f := fun _ => some ([], 11)) (fun k => by rw [if_pos h, if_pos (by omega)]) (Ev.now _)
  rw [if_neg h]
  have hh := hi_range a0 a1
  have hb : Ev (fun k => head_Head_Bytes.f k (Go.bits .or .u8 a 128) 0 x y) (hbS (hi a) 0 x y) := bytes_ev (a := hi a) (b := 0) (x := x) (y := y) (by omega) hh.2 (by omega) (by omega) hx hy
  generalize hi a = h_ at hh hb ⊢
  refine Ev.congr (fun k => if_neg h) (Ev.bind hb ?_)
  by_cases he : (hbS h_ 0 x y).2 = 0
  · rw [if_pos he]
    have hlen := hbS_len h_ 0 x y
    have q := wone_ev 0 [] (hbS h_ 0 x y).1 (by simp) (by omega)
    rw [putS2_ok, List.nil_append] at q
    refine Ev.congr (fun k => if_pos he) (Ev.bind q (Ev.bind (wrNums_ev vs (hbS h_ 0 x y).1 hv (by omega)) ?_))
    exact Ev.congr (fun k => if_pos (by dsimp only; rw [List.length_append, encs_length]; omega)) (Ev.now _)
  · rw [if_neg he]
    exact Ev.congr (fun k => if_neg he) (Ev.now _)
theorem rmake_l0 (vs : List Int) (hl : vs.length ≤ 64) : ∀ (d i : Nat) (acc : List Int), i + d = vs.length → acc.length + 4 * d ≤ 1000000 → Ev (fun k => crosswayref13_Make.l0 k vs acc (i : Int)) (acc ++ encs (vs.drop i), 0) := by
  intro d
  induction d with
  | zero =>
    intro i acc hi _
    rw [List.drop_of_length_le (by omega), encs, List.append_nil]
    exact Ev.step (f := fun _ => some (acc, 0)) (fun k => by simp only [crosswayref13_Make.l0]; rw [if_neg (by omega)]) (Ev.now _)
  | succ d ih =>
    intro i acc hi hacc
    rw [drop_rd vs i (by omega), encs, putL4, ← List.append_assoc]
    refine Ev.step (fun k => by simp only [crosswayref13_Make.l0]; rw [if_pos (by omega), if_pos (by omega), Option.bind_some, if_pos (by simp; omega), w64_up i (by omega)]) (ih (i + 1) _ (by omega) (by rw [List.length_append]; simp; omega))
theorem rmake_ev {a : Int} {x y vs : List Int} (a0 : 0 ≤ a) (a1 : a < 256) (hx : x.length ≤ 1000) (hy : y.length ≤ 1000) : Ev (fun k => crosswayref13_Make.f k a x y vs) (makeS a x y vs) := by
  unfold crosswayref13_Make.f makeS
  have stop : Ev (fun k => crosswayref13_Make.j0 k a x y vs true) ([], 11) := Ev.step (f := fun _ => some ([], 11)) (fun k => by simp only [crosswayref13_Make.j0]; rfl) (Ev.now _)
  by_cases h1 : vs.length < 1
  · rw [if_pos (.inl h1)]
    exact Ev.congr (fun k => if_pos (by omega)) stop
  by_cases h2 : vs.length > 64
  · rw [if_pos (.inr h2)]
    exact Ev.congr (fun k => by rw [if_neg (by omega), decide_eq_true (by omega)]) stop
  rw [if_neg (by omega)]
  have hh := hi_range a0 a1
  have hb := rbytes_eq (a := hi a) (b := 0) (x := x) (y := y) hx hy
  refine Ev.congr (fun k => by rw [if_neg (by omega), decide_eq_false (by omega)]) ?_
  by_cases he : (hbS (hi a) 0 x y).2 = 0
  · rw [if_pos he]
    have hlen := hbS_len (hi a) 0 x y
    refine Ev.step (fun k => by simp only [crosswayref13_Make.j0]; rw [if_neg (by decide), hi_ref a0 a1, hb, Option.bind_some, if_pos he]; rfl) (rmake_l0 vs (by omega) vs.length 0 _ (by omega) (by omega))
  · rw [if_neg he]
    exact Ev.step (f := fun _ => some ([], (hbS (hi a) 0 x y).2)) (fun k => by simp only [crosswayref13_Make.j0]; rw [if_neg (by decide), hi_ref a0 a1, hb, Option.bind_some, if_neg he]) (Ev.now _)
/-! ### an answer -/
def answerS (l : List Int) (a : Int) (vs : List Int) : List Int × Int := if (parseR l).2.2.2.2.2 = 0 then makeS a (parseR l).2.2.2.1 (parseR l).2.2.1 vs else ([], (parseR l).2.2.2.2.2)
theorem parse_lens {l : List Int} (hb : By l) : (parseR l).2.2.1.length ≤ 255 ∧ (parseR l).2.2.2.1.length ≤ 255 ∧ (parseR l).2.2.2.2.1.length ≤ l.length ∧ By (parseR l).2.2.2.2.1 := by
  rcases parse_dec hb with ⟨e, he, hp⟩ | ⟨a, b, x, y, rest, hp, hl2, a0, a1, b0, b1, lx, ly, bx, by_, br⟩
  · rw [hp]
    exact ⟨by simp, by simp, by simp, fun z hz => by cases hz⟩
  · rw [hp]
    have hll : l.length = (enc a b x y).length + rest.length := by rw [hl2, List.length_append]
    exact ⟨lx, ly, by dsimp only; omega, br⟩
theorem answer_ev {l vs : List Int} {a : Int} (hb : By l) (hl : l.length ≤ 3000) (a0 : 0 ≤ a) (a1 : a < 256) (hv : Wd vs) (hvl : vs.length ≤ 1000) : Ev (fun k => offer_Answer.f k l a vs) (answerS l a vs) := by
  have hp := parse_lens hb
  unfold offer_Answer.f answerS
  refine Ev.bind (parse_ev l hb (by omega)) ?_
  by_cases h : (parseR l).2.2.2.2.2 = 0
  · rw [if_pos h]
    exact Ev.congr (fun k => if_pos h) (Ev.bind (make_ev a0 a1 (by omega) (by omega) hv hvl) (Ev.now _))
  · rw [if_neg h]
    exact Ev.congr (fun k => if_neg h) (Ev.now _)
theorem ranswer_ev {l vs : List Int} {a : Int} (hb : By l) (hl : l.length ≤ 3000) (a0 : 0 ≤ a) (a1 : a < 256) : Ev (fun k => crosswayref13_Answer.f k l a vs) (answerS l a vs) := by
  have hp := parse_lens hb
  unfold crosswayref13_Answer.f answerS
  refine Ev.congr (fun k => by rw [rparse_eq l hb (by omega), Option.bind_some]) ?_
  by_cases h : (parseR l).2.2.2.2.2 = 0
  · rw [if_pos h]
    exact Ev.congr (fun k => if_pos h) (Ev.bind (rmake_ev a0 a1 (by omega) (by omega)) (Ev.now _))
  · rw [if_neg h]
    exact Ev.congr (fun k => if_neg h) (Ev.now _)
theorem make_len (a : Int) (x y vs : List Int) : (makeS a x y vs).1.length ≤ 1000 := by
  unfold makeS
  split
  · simp
  · split
    · have := hbS_len (hi a) 0 x y
      dsimp only
      rw [List.length_append, encs_length]
      omega
    · simp
theorem answer_len (l : List Int) (a : Int) (vs : List Int) : (answerS l a vs).1.length ≤ 1000 := by
  unfold answerS
  split
  · exact make_len _ _ _ _
  · simp
/-! ### an offer that is parsed -/
def offS (l : List Int) : Int × Int × List Int × List Int × List Int × Int :=
  if (parseR l).2.2.2.2.2 = 0 then (if (parseR l).2.1 = 0 then (if (parseR l).2.2.2.2.1.length = 0 ∨ (parseR l).2.2.2.2.1.length % 4 ≠ 0 then (0, 0, [], [], [], 10) else ((parseR l).1, 0, (parseR l).2.2.1, (parseR l).2.2.2.1, decs (parseR l).2.2.2.2.1, 0)) else (0, 0, [], [], [], 14)) else (0, 0, [], [], [], (parseR l).2.2.2.2.2)
theorem four_of {l : List Int} {n : Nat} (h : l.length = n + 4) : ∃ a b c d t, l = a :: b :: c :: d :: t ∧ t.length = n := by
  rcases l with _ | ⟨a, _ | ⟨b, _ | ⟨c, _ | ⟨d, t⟩⟩⟩⟩
  · simp at h
  · simp at h
  · simp at h
  · simp at h
  · exact ⟨a, b, c, d, t, rfl, by simp at h; omega⟩
theorem num4 {a b c d : Int} {t : List Int} (hb : By (a :: b :: c :: d :: t)) : numR 0 (a :: b :: c :: d :: t) 4 = (numS [a, b, c, d], 0, t) ∧ 0 ≤ numS [a, b, c, d] ∧ numS [a, b, c, d] < 4294967296 := by
  have n2 := numR_ok (a :: b :: c :: d :: t) 4 (by omega) (by simp)
  have i4 : ((4 : Nat) : Int) = 4 := rfl
  rw [i4] at n2
  have := numS_range [a, b, c, d] (by intro z hz; simp at hz; rcases hz with rfl | rfl | rfl | rfl <;> exact hb _ (by simp))
  have e : (256 : Int) ^ ([a, b, c, d] : List Int).length = 4294967296 := by show (256 : Int) ^ 4 = _; decide
  rw [e] at this
  exact ⟨n2, this⟩
theorem rdVers_ev : ∀ (n : Nat) (l acc : List Int), By l → l.length % 4 = 0 → l.length ≤ n → acc.length + l.length ≤ 1000000 → Ev (fun k => rdVers k n 0 l acc) (acc ++ decs l) := by
  intro n
  induction n with
  | zero =>
    intro l acc hb h4 hn hl
    have : l = [] := List.length_eq_zero_iff.1 (by omega)
    subst this
    rw [decs, List.append_nil]
    exact Ev.congr (f := fun _ => some acc) (fun k => by rw [rdVers]; rfl) (Ev.now _)
    all_goals simp
  | succ n ih =>
    intro l acc hb h4 hn hl
    by_cases h0 : l.length = 0
    · have : l = [] := List.length_eq_zero_iff.1 h0
      subst this
      have hd : decs [] = [] := rfl
      rw [hd, List.append_nil]
      exact Ev.congr (f := fun _ => some acc) (fun k => by rw [rdVers]; rfl) (Ev.now _)
    · obtain ⟨a, b, c, d, t, rfl, ht⟩ := four_of (l := l) (n := l.length - 4) (by omega)
      obtain ⟨h1, h2, h3⟩ := num4 hb
      have q := numR_ev 0 (a :: b :: c :: d :: t) 4 hb
      rw [h1] at q
      have hd : decs (a :: b :: c :: d :: t) = numS [a, b, c, d] :: decs t := rfl
      rw [hd]
      simp only [List.length_cons] at h4 hn hl h0
      refine Ev.congr (fun k => by rw [rdVers, if_neg (by simp), if_pos (by omega)]) (Ev.bind q (ev_eq (ih t _ (fun x hx => hb x (by simp [hx])) (by omega) (by omega) ?_) ?_))
      · rw [List.length_append, List.length_singleton]; omega
      · dsimp only
        rw [Int.emod_eq_of_lt h2 h3, List.append_assoc]
        rfl
theorem offparse_ev (l : List Int) (hb : By l) (hl : l.length ≤ 3000) : Ev (fun k => offer_Parse.f k l) (offS l) := by
  have hp := parse_lens hb
  unfold offer_Parse.f offS
  refine Ev.bind (parse_ev l hb (by omega)) ?_
  by_cases h : (parseR l).2.2.2.2.2 = 0
  · rw [if_pos h]
    refine Ev.congr (fun k => if_pos h) ?_
    by_cases h1 : (parseR l).2.1 = 0
    · rw [if_pos h1]
      refine Ev.congr (fun k => if_pos h1) ?_
      by_cases h2 : (parseR l).2.2.2.2.1.length = 0 ∨ (parseR l).2.2.2.2.1.length % 4 ≠ 0
      · rw [if_pos h2]
        exact Ev.congr (fun k => if_pos h2) (Ev.now _)
      · rw [if_neg h2]
        refine Ev.congr (fun k => by rw [if_neg h2, if_pos (by omega)]) (Ev.bind (rdVers_ev _ _ [] hp.2.2.2 (by omega) (Nat.le_refl _) (by simp; omega)) (ev_eq (Ev.now _) ?_))
        rw [List.nil_append]
    · rw [if_neg h1]
      exact Ev.congr (fun k => if_neg h1) (Ev.now _)
  · rw [if_neg h]
    exact Ev.congr (fun k => if_neg h) (Ev.now _)
theorem rd_drop {l : List Int} {i j : Nat} {x : Int} (h : (l.drop i)[j]? = some x) : rd l ((i : Int) + (j : Int)) = x := by
  have e : (i : Int) + (j : Int) = ((i + j : Nat) : Int) := by omega
  rw [List.getElem?_drop] at h
  rw [e, rd_nat, List.getD_eq_getElem?_getD, h]
  rfl
set_option maxHeartbeats 2000000 in
theorem rparse_l1 (r : List Int) (hr : By r) (hl : r.length ≤ 3000) (acc : List Int) (i : Nat) (a b c d : Int) (t : List Int) (hd : r.drop i = a :: b :: c :: d :: t) (ha : acc.length ≤ 3000) (f0 f1 : Int) (f2 f3 : List Int) (res : Int × Int × List Int × List Int × List Int × Int)
    (h : Ev (fun k => crosswayref13_Parse.l0 k r (acc ++ [numS [a, b, c, d]]) ((i + 4 : Nat) : Int) f0 f1 f2 f3) res) : Ev (fun k => crosswayref13_Parse.l1 k r acc (i : Int) 0 0 f0 f1 f2 f3) res := by
  have hlen : i + 4 + t.length = r.length := by
    have := congrArg List.length hd
    rw [List.length_drop] at this
    simp only [List.length_cons] at this
    omega
  have hB : By (a :: b :: c :: d :: t) := by rw [← hd]; exact hr.drop i
  have b0 := hB a (by simp)
  have b1 := hB b (by simp)
  have b2 := hB c (by simp)
  have b3 := hB d (by simp)
  have r0 : Aside0 (rd r ((i : Int) + 0) = a) := ⟨by have := rd_drop (l := r) (i := i) (j := 0) (x := a) (by rw [hd]; rfl); simpa using this⟩
  have r1 : Aside0 (rd r ((i : Int) + 1) = b) := ⟨rd_drop (l := r) (i := i) (j := 1) (x := b) (by rw [hd]; rfl)⟩
  have r2 : Aside0 (rd r ((i : Int) + 2) = c) := ⟨rd_drop (l := r) (i := i) (j := 2) (x := c) (by rw [hd]; rfl)⟩
  have r3 : Aside0 (rd r ((i : Int) + 3) = d) := ⟨rd_drop (l := r) (i := i) (j := 3) (x := d) (by rw [hd]; rfl)⟩
  have e0 : Aside0 (wrap64 ((i : Int) + 0) = (i : Int) + 0) := ⟨w64_in ((i : Int) + 0) (by omega) (by omega)⟩
  have e1 : Aside0 (wrap64 ((i : Int) + 1) = (i : Int) + 1) := ⟨w64_in ((i : Int) + 1) (by omega) (by omega)⟩
  have e2 : Aside0 (wrap64 ((i : Int) + 2) = (i : Int) + 2) := ⟨w64_in ((i : Int) + 2) (by omega) (by omega)⟩
  have e3 : Aside0 (wrap64 ((i : Int) + 3) = (i : Int) + 3) := ⟨w64_in ((i : Int) + 3) (by omega) (by omega)⟩
  have e4 : Aside0 (wrap64 ((i : Int) + 4) = ((i + 4 : Nat) : Int)) := ⟨(w64_in ((i : Int) + 4) (by omega) (by omega)).trans (by omega)⟩
  have u0 : Aside0 (wrap64 (0 + 1) = 1) := ⟨w64_in (0 + 1) (by omega) (by omega)⟩
  have u1 : Aside0 (wrap64 (1 + 1) = 2) := ⟨w64_in (1 + 1) (by omega) (by omega)⟩
  have u2 : Aside0 (wrap64 (2 + 1) = 3) := ⟨w64_in (2 + 1) (by omega) (by omega)⟩
  have u3 : Aside0 (wrap64 (3 + 1) = 4) := ⟨w64_in (3 + 1) (by omega) (by omega)⟩
  have m0 : ((0 * 256) % 4294967296 + a % 4294967296) % 4294967296 = a := by omega
  have m1 : ((a * 256) % 4294967296 + b % 4294967296) % 4294967296 = a * 256 + b := by omega
  have m2 : (((a * 256 + b) * 256) % 4294967296 + c % 4294967296) % 4294967296 = (a * 256 + b) * 256 + c := by omega
  have m3 : ((((a * 256 + b) * 256 + c) * 256) % 4294967296 + d % 4294967296) % 4294967296 = ((a * 256 + b) * 256 + c) * 256 + d := by omega
  have hv : numS [a, b, c, d] = ((a * 256 + b) * 256 + c) * 256 + d := by simp [numS]
  refine Ev.step (fun k => by simp only [crosswayref13_Parse.l1]; rw [if_pos (by decide), e0.out, if_pos (by omega), if_pos (by omega), r0.out, u0.out, m0]) ?_
  refine Ev.step (fun k => by simp only [crosswayref13_Parse.l1]; rw [if_pos (by decide), e1.out, if_pos (by omega), if_pos (by omega), r1.out, u1.out, m1]) ?_
  refine Ev.step (fun k => by simp only [crosswayref13_Parse.l1]; rw [if_pos (by decide), e2.out, if_pos (by omega), if_pos (by omega), r2.out, u2.out, m2]) ?_
  refine Ev.step (fun k => by simp only [crosswayref13_Parse.l1]; rw [if_pos (by decide), e3.out, if_pos (by omega), if_pos (by omega), r3.out, u3.out, m3]) ?_
  rw [hv] at h
  exact Ev.step (fun k => by simp only [crosswayref13_Parse.l1]; rw [if_neg (by decide), if_pos (by omega), e4.out]) h
theorem rparse_l0 (r : List Int) (hr : By r) (hl : r.length ≤ 3000) (f0 f1 : Int) (f2 f3 : List Int) : ∀ (n i : Nat) (acc : List Int), i + 4 * n = r.length → acc.length + n ≤ 3000 → Ev (fun k => crosswayref13_Parse.l0 k r acc (i : Int) f0 f1 f2 f3) (f0, f1, f2, f3, acc ++ decs (r.drop i), 0) := by
  intro n
  induction n with
  | zero =>
    intro i acc hi _
    rw [List.drop_of_length_le (by omega), show decs [] = [] from rfl, List.append_nil]
    exact Ev.step (f := fun _ => some (f0, f1, f2, f3, acc, 0)) (fun k => by simp only [crosswayref13_Parse.l0]; rw [if_neg (by omega)]) (Ev.now _)
  | succ n ih =>
    intro i acc hi hacc
    obtain ⟨a, b, c, d, t, hd, ht⟩ := four_of (l := r.drop i) (n := 4 * n) (by rw [List.length_drop]; omega)
    have hd4 : r.drop (i + 4) = t := by
      rw [← List.drop_drop, hd]
      rfl
    have := ih (i + 4) (acc ++ [numS [a, b, c, d]]) (by omega) (by rw [List.length_append, List.length_singleton]; omega)
    rw [hd4, List.append_assoc] at this
    have hdd : decs (r.drop i) = numS [a, b, c, d] :: decs t := by rw [hd]; rfl
    rw [hdd]
    exact Ev.step (fun k => by simp only [crosswayref13_Parse.l0]; rw [if_pos (by omega)]) (rparse_l1 r hr hl acc i a b c d t hd (by omega) f0 f1 f2 f3 _ this)
theorem roffparse_ev (l : List Int) (hb : By l) (hl : l.length ≤ 3000) : Ev (fun k => crosswayref13_Parse.f k l) (offS l) := by
  have hp := parse_lens hb
  unfold crosswayref13_Parse.f offS
  refine Ev.congr (fun k => by rw [rparse_eq l hb (by omega), Option.bind_some]) ?_
  by_cases h : (parseR l).2.2.2.2.2 = 0
  · rw [if_pos h]
    refine Ev.congr (fun k => if_pos h) ?_
    by_cases h1 : (parseR l).2.1 = 0
    · rw [if_pos h1]
      refine Ev.congr (fun k => if_pos h1) ?_
      have stop : Ev (fun k => crosswayref13_Parse.j0 k (parseR l).2.2.2.2.1 true (parseR l).1 (parseR l).2.1 (parseR l).2.2.1 (parseR l).2.2.2.1) (0, 0, [], [], [], 10) := Ev.step (f := fun _ => some (0, 0, [], [], [], 10)) (fun k => by simp only [crosswayref13_Parse.j0]; rfl) (Ev.now _)
      by_cases h2 : (parseR l).2.2.2.2.1.length = 0
      · rw [if_pos (.inl h2)]
        exact Ev.congr (fun k => if_pos (by omega)) stop
      by_cases h3 : (parseR l).2.2.2.2.1.length % 4 ≠ 0
      · rw [if_pos (.inr h3)]
        exact Ev.congr (fun k => by rw [if_neg (by omega), decide_eq_true (by omega)]) stop
      rw [if_neg (by omega)]
      refine Ev.congr (fun k => by rw [if_neg (by omega), decide_eq_false (by omega)]) ?_
      have := rparse_l0 (parseR l).2.2.2.2.1 hp.2.2.2 (by omega) (parseR l).1 (parseR l).2.1 (parseR l).2.2.1 (parseR l).2.2.2.1 ((parseR l).2.2.2.2.1.length / 4) 0 [] (by omega) (by simp; omega)
      refine Ev.step (fun k => by simp only [crosswayref13_Parse.j0]; rw [if_neg (by decide)]; rfl) (ev_eq this ?_)
      rw [List.nil_append, List.drop_zero, h1]
    · rw [if_neg h1]
      exact Ev.congr (fun k => if_neg h1) (Ev.now _)
  · rw [if_neg h]
    exact Ev.congr (fun k => if_neg h) (Ev.now _)
theorem off_lens {l : List Int} (hb : By l) (hl : l.length ≤ 3000) : (offS l).2.2.1.length ≤ 255 ∧ (offS l).2.2.2.1.length ≤ 255 ∧ (offS l).2.2.2.2.1.length ≤ 3000 := by
  have hp := parse_lens hb
  unfold offS
  split
  · split
    · split
      · simp
      · have := decs_len (parseR l).2.2.2.2.1
        exact ⟨hp.1, hp.2.1, by dsimp only; omega⟩
    · simp
  · simp
/-! ### what an offer has -/
theorem index_l0 (l : List Int) (v : Int) (hl : l.length ≤ 3000) : ∀ d i : Nat, i + d = l.length → ∃ r, Ev (fun k => slices_Index_uint32_uint32.l0 k l v (l.length : Int) (i : Int)) r ∧ decide (r ≥ 0) = decide (v ∈ l.drop i) := by
  intro d
  induction d with
  | zero =>
    intro i hi
    refine ⟨-1, Ev.step (f := fun _ => some (-1)) (fun k => by simp only [slices_Index_uint32_uint32.l0]; rw [if_neg (by omega)]) (Ev.now _), ?_⟩
    rw [List.drop_of_length_le (by omega)]
    simp
  | succ d ih =>
    intro i hi
    by_cases h : v = rd l (i : Int)
    · refine ⟨(i : Int), Ev.step (f := fun _ => some (i : Int)) (fun k => by simp only [slices_Index_uint32_uint32.l0]; rw [if_pos (by omega), if_pos (by omega), if_pos (by omega), if_pos h]) (Ev.now _), ?_⟩
      rw [drop_rd l i (by omega), decide_eq_true (by omega), decide_eq_true (by rw [h]; exact List.mem_cons_self)]
    · obtain ⟨r, h1, h2⟩ := ih (i + 1) (by omega)
      refine ⟨r, Ev.step (fun k => by simp only [slices_Index_uint32_uint32.l0]; rw [if_pos (by omega), if_pos (by omega), if_pos (by omega), if_neg h, w64_up i (by omega)]) h1, ?_⟩
      rw [h2, drop_rd l i (by omega), decide_eq_decide, List.mem_cons]
      exact ⟨.inr, fun e => e.resolve_left h⟩
theorem contains_ev (l : List Int) (v : Int) (hl : l.length ≤ 3000) : Ev (fun k => slices_Contains_uint32_uint32.f k l v) (decide (v ∈ l)) := by
  obtain ⟨r, h1, h2⟩ := index_l0 l v hl l.length 0 (by omega)
  rw [List.drop_zero] at h2
  rw [← h2]
  unfold slices_Contains_uint32_uint32.f
  exact Ev.bind (Ev.congr (fun k => rfl) h1) (Ev.now _)
theorem rhas_l0 (l : List Int) (v : Int) (hl : l.length ≤ 3000) : ∀ d i : Nat, i + d = l.length → Ev (fun k => crosswayref13_Has.l0 k v l (i : Int)) (decide (v ∈ l.drop i)) := by
  intro d
  induction d with
  | zero =>
    intro i hi
    rw [List.drop_of_length_le (by omega), decide_eq_false (by simp)]
    exact Ev.step (f := fun _ => some false) (fun k => by simp only [crosswayref13_Has.l0]; rw [if_neg (by omega)]) (Ev.now _)
  | succ d ih =>
    intro i hi
    rw [drop_rd l i (by omega)]
    by_cases h : rd l (i : Int) = v
    · rw [decide_eq_true (by rw [h]; exact List.mem_cons_self)]
      exact Ev.step (f := fun _ => some true) (fun k => by simp only [crosswayref13_Has.l0]; rw [if_pos (by omega), if_pos (by omega), if_pos h]) (Ev.now _)
    · refine Ev.step (fun k => by simp only [crosswayref13_Has.l0]; rw [if_pos (by omega), if_pos (by omega), if_neg h, w64_up i (by omega)]) (ev_eq (ih (i + 1) (by omega)) ?_)
      rw [decide_eq_decide, List.mem_cons]
      exact ⟨.inr, fun e => e.resolve_left (fun e => h e.symm)⟩
def hasS (l : List Int) (v : Int) : Bool := decide (v ∈ (offS l).2.2.2.2.1)
theorem has_ev {l : List Int} (v : Int) (hb : By l) (hl : l.length ≤ 3000) : Ev (fun k => offer_Has.f k l v) (hasS l v) := by
  have h := off_lens hb hl
  unfold offer_Has.f hasS
  exact Ev.bind (offparse_ev l hb hl) (Ev.bind (contains_ev _ v h.2.2) (Ev.now _))
theorem rhas_ev {l : List Int} (v : Int) (hb : By l) (hl : l.length ≤ 3000) : Ev (fun k => crosswayref13_Has.f k l v) (hasS l v) := by
  have h := off_lens hb hl
  unfold crosswayref13_Has.f hasS
  have := rhas_l0 (offS l).2.2.2.2.1 v h.2.2 (offS l).2.2.2.2.1.length 0 (by omega)
  rw [List.drop_zero] at this
  exact Ev.bind (roffparse_ev l hb hl) this
/-! ### versions that are the same -/
theorem vsame_l0 (a b : List Int) (hl : a.length = b.length) (hm : a.length ≤ 9223372036854775807) : ∀ d i : Nat, i + d = a.length → Ev (fun k => crosswaylaw13_same.l0 k a b (i : Int)) (decide (a.drop i = b.drop i)) := by
  intro d
  induction d with
  | zero =>
    intro i hi
    refine Ev.step (f := fun _ => some true) (fun k => by simp only [crosswaylaw13_same.l0]; rw [if_neg (by omega)]) (ev_eq (Ev.now _) ?_)
    rw [List.drop_of_length_le (by omega), List.drop_of_length_le (by omega)]
    simp
  | succ d ih =>
    intro i hi
    by_cases he : rd a (i : Int) = rd b (i : Int)
    · refine Ev.step (f := fun k => crosswaylaw13_same.l0 k a b ((i + 1 : Nat) : Int)) (fun k => by simp only [crosswaylaw13_same.l0]; rw [if_pos (by omega), if_pos (by omega), if_pos (by omega), if_pos he, w64_up i (by omega)]) (ev_eq (ih (i + 1) (by omega)) ?_)
      rw [drop_rd a i (by omega), drop_rd b i (by omega), he]
      simp
    · refine Ev.step (f := fun _ => some false) (fun k => by simp only [crosswaylaw13_same.l0]; rw [if_pos (by omega), if_pos (by omega), if_pos (by omega), if_neg he]) (ev_eq (Ev.now _) ?_)
      rw [drop_rd a i (by omega), drop_rd b i (by omega)]
      simp [he]
theorem vsame_ev (a b : List Int) (hm : a.length ≤ 9223372036854775807) : Ev (fun k => crosswaylaw13_same.f k a b) (decide (a = b)) := by
  by_cases hl : a.length = b.length
  · exact Ev.congr (fun k => by simp only [crosswaylaw13_same.f]; rw [if_pos (by omega)]; rfl) (vsame_l0 a b hl hm a.length 0 (by omega))
  · refine Ev.congr (f := fun _ => some false) (fun k => by simp only [crosswaylaw13_same.f]; rw [if_neg (by omega)]) (ev_eq (Ev.now _) ?_)
    have : a ≠ b := fun e => hl (by rw [e])
    simp [this]
end Go.Proofs.Ytnmhnihhlakinac.PuOffer
