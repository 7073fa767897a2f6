/- The plain statement of HalvesBack: what is cut is joined as it was; halves are trimmed already; unlike halves, lengths or passes have unlike blocks. -/
import Derived.Test.YtbiiccgheblhpacM10
import Derived.Test.YtbiiccgheblhpacPuHalves
namespace Go.Proofs.Ytbiiccgheblhpac.Pure
open Go.RowKit Go.Proofs.YtbiiccgheblhpacW.PrintWords Go.Proofs.YtbiiccgheblhpacW.PrintMore Go.Proofs.Ytbiiccgheblhpac.M Go.Proofs.Ytbiiccgheblhpac.Bv Go.Proofs.Ytbiiccgheblhpac.PuLib Go.Proofs.Ytbiiccgheblhpac.PuHalves
theorem by_app {a b : List Int} (h : By a) (k : By b) : By (a ++ b) := fun x hx => (List.mem_append.1 hx).elim (h x) (k x)
theorem by_cons {x : Int} {l : List Int} (h0 : 0 ≤ x) (h1 : x < 256) (k : By l) : By (x :: l) := fun y hy => (List.mem_cons.1 hy).elim (fun e => e ▸ ⟨h0, h1⟩) (k y)
theorem by_one {x : Int} (h0 : 0 ≤ x) (h1 : x < 256) : By [x] := by_cons h0 h1 (fun y hy => by cases hy)
theorem cut_by (l : List Int) (n : Int) (left : Bool) (hb : By l) (hp : 0 < l.length) : By (halves_Trim.cut l n left) := by
  by_cases hz : n % 2 = 0
  · rw [cut_even l left hz]; exact hb
  cases left with
  | true =>
    obtain ⟨a, x, rfl⟩ := snoc_of hp
    have hx := hb x (by simp)
    rw [cut_left a x hz hx.1 hx.2]
    exact by_app hb.left (by_one (by omega) (by omega))
  | false =>
    obtain ⟨x, b, rfl⟩ := cons_of hp
    have hx := hb.head
    rw [cut_right b x hz hx.1 hx.2]
    exact by_cons (by omega) (by omega) hb.tail
theorem cut_idem (l : List Int) (n : Int) (left : Bool) (hb : By l) (hp : 0 < l.length) : halves_Trim.cut (halves_Trim.cut l n left) n left = halves_Trim.cut l n left := by
  by_cases hz : n % 2 = 0
  · rw [cut_even _ left hz]
  cases left with
  | true =>
    obtain ⟨a, x, rfl⟩ := snoc_of hp
    have hx := hb x (by simp)
    rw [cut_left a x hz hx.1 hx.2, cut_left a _ hz (by omega) (by omega)]
    have : x / 16 * 16 / 16 * 16 = x / 16 * 16 := by omega
    rw [this]
  | false =>
    obtain ⟨x, b, rfl⟩ := cons_of hp
    have hx := hb.head
    rw [cut_right b x hz hx.1 hx.2, cut_right b _ hz (by omega) (by omega)]
    have : x % 16 % 16 = x % 16 := by omega
    rw [this]
theorem join_odd (a b : List Int) (x y n : Int) (hz : ¬ n % 2 = 0) (hf : fitP n (a ++ [x])) (hg : fitP n (y :: b)) (x0 : 0 ≤ x) (x1 : x < 256) (x2 : x % 16 = 0) (y0 : 0 ≤ y) (y1 : y < 16) : joinS (a ++ [x]) (y :: b) n = (a ++ (x + y) :: b, 0) := by
  have e9 : (a ++ [x]) ++ (y :: b).drop 1 = a ++ x :: b := by simp
  have e10 : (a ++ [x]).length - 1 = a.length := by simp
  have e11 : rd (y :: b) 0 = y := rfl
  rw [joinS, if_pos ⟨hf, hg⟩, if_neg hz, lb_snoc a x x0 x1, rb_cons b y y0 (by omega), if_neg (by omega), e9, e10, e11, rd_mid, orB x0 x1 y0 y1 x2, set_mid]
theorem cut_odd (a b : List Int) (z : Int) (h : a.length = b.length) (h2 : 1 ≤ a.length) (h28 : a.length ≤ 13) (z0 : 0 ≤ z) (z1 : z < 256) : cutS (a ++ z :: b) = (a ++ [z / 16 * 16], z % 16 :: b, 0) := by
  have hL : (a ++ z :: b).length = a.length + (b.length + 1) := by rw [List.length_append, List.length_cons]
  have t1 : (a ++ z :: b).take ((a ++ z :: b).length - (a ++ z :: b).length / 2) = a ++ [z] := by
    rw [show (a ++ z :: b).length - (a ++ z :: b).length / 2 = (a ++ [z]).length by simp only [List.length_append, List.length_cons, List.length_nil] at hL ⊢; omega, show a ++ z :: b = (a ++ [z]) ++ b by simp, List.take_left]
  have t2 : (a ++ z :: b).drop ((a ++ z :: b).length / 2) = z :: b := by rw [show (a ++ z :: b).length / 2 = a.length by omega, List.drop_left]
  rw [cutS, if_pos (by omega), t1, t2, cut_left a z (by omega) z0 z1, cut_right b z (by omega) z0 z1]
theorem cut_evenS (a b : List Int) (h : a.length = b.length) (h2 : 1 ≤ a.length) (h28 : a.length ≤ 14) : cutS (a ++ b) = (a, b, 0) := by
  have hL : (a ++ b).length = a.length + b.length := List.length_append
  rw [cutS, if_pos (by omega), cut_even _ _ (by omega), cut_even _ _ (by omega), show (a ++ b).length - (a ++ b).length / 2 = a.length by omega, show (a ++ b).length / 2 = a.length by omega, List.take_left, List.drop_left]
/-- Trimmed halves, joined, are cut as they were. -/
theorem join_cut (L R : List Int) (n : Int) (hf : fitP n L) (hg : fitP n R) (hb : By L) (hc : By R) (hL : halves_Trim.cut L n true = L) (hR : halves_Trim.cut R n false = R) : ∃ D, joinS L R n = (D, 0) ∧ (D.length : Int) = n ∧ cutS D = (L, R, 0) := by
  obtain ⟨h2, h28, h3⟩ := id hf
  obtain ⟨_, _, h4⟩ := id hg
  by_cases hz : n % 2 = 0
  · refine ⟨L ++ R, by rw [joinS, if_pos ⟨hf, hg⟩, if_pos hz], by rw [List.length_append]; omega, cut_evenS L R (by omega) (by omega) (by omega)⟩
  · obtain ⟨a, x, rfl⟩ := snoc_of (l := L) (by omega)
    obtain ⟨y, b, rfl⟩ := cons_of (l := R) (by omega)
    have hx := hb x (by simp)
    have hy := hc.head
    rw [cut_left a x hz hx.1 hx.2] at hL
    rw [cut_right b y hz hy.1 hy.2] at hR
    have ex : x / 16 * 16 = x := by
      have := List.append_cancel_left hL
      injection this
    have ey : y % 16 = y := by injection hR
    simp only [List.length_append, List.length_cons, List.length_nil] at h3 h4
    refine ⟨a ++ (x + y) :: b, join_odd a b x y n hz hf hg hx.1 hx.2 (by omega) hy.1 (by omega), by rw [List.length_append, List.length_cons]; omega, ?_⟩
    rw [cut_odd a b (x + y) (by omega) (by omega) (by omega) (by omega) (by omega)]
    have e1 : (x + y) / 16 * 16 = x := by omega
    have e2 : (x + y) % 16 = y := by omega
    rw [e1, e2]
/-- What is cut is joined as it was. -/
theorem cut_join (l : List Int) (hb : By l) (h2 : 2 ≤ l.length) (h28 : l.length ≤ 28) : ∃ L R, cutS l = (L, R, 0) ∧ joinS L R (l.length : Int) = (l, 0) ∧ fitP (l.length : Int) L ∧ fitP (l.length : Int) R ∧ By L ∧ By R ∧ halves_Trim.cut L (l.length : Int) true = L ∧ halves_Trim.cut R (l.length : Int) false = R := by
  by_cases hz : l.length % 2 = 0
  · obtain ⟨a, b, rfl, ha⟩ := two_of (l := l) (m := l.length / 2) (by omega)
    have hL : (a ++ b).length = a.length + b.length := List.length_append
    have f1 : fitP ((a ++ b).length : Int) a := ⟨by omega, by omega, by omega⟩
    have f2 : fitP ((a ++ b).length : Int) b := ⟨by omega, by omega, by omega⟩
    exact ⟨a, b, cut_evenS a b (by omega) (by omega) (by omega), by rw [joinS, if_pos ⟨f1, f2⟩, if_pos (by omega)], f1, f2, hb.left, hb.right, cut_even _ _ (by omega), cut_even _ _ (by omega)⟩
  · obtain ⟨a, x, b, rfl, ha⟩ := mid_of (l := l) (m := l.length / 2) (by omega)
    have hL : (a ++ x :: b).length = a.length + (b.length + 1) := by rw [List.length_append, List.length_cons]
    have hx := hb x (by simp)
    have q1 : (a ++ [x / 16 * 16]).length = a.length + 1 := by simp
    have q2 : (x % 16 :: b).length = b.length + 1 := by simp
    have f1 : fitP ((a ++ x :: b).length : Int) (a ++ [x / 16 * 16]) := ⟨by omega, by omega, by omega⟩
    have f2 : fitP ((a ++ x :: b).length : Int) (x % 16 :: b) := ⟨by omega, by omega, by omega⟩
    have hz2 : ¬ ((a ++ x :: b).length : Int) % 2 = 0 := by omega
    refine ⟨a ++ [x / 16 * 16], x % 16 :: b, cut_odd a b x (by omega) (by omega) (by omega) hx.1 hx.2, ?_, f1, f2, by_app hb.left (by_one (by omega) (by omega)), by_cons (by omega) (by omega) hb.right.tail, ?_, ?_⟩
    · rw [join_odd a b _ _ _ hz2 f1 f2 (by omega) (by omega) (by omega) (by omega) (by omega)]
      have : x / 16 * 16 + x % 16 = x := by omega
      rw [this]
    · rw [cut_left a _ hz2 (by omega) (by omega)]
      have : x / 16 * 16 / 16 * 16 = x / 16 * 16 := by omega
      rw [this]
    · rw [cut_right b _ hz2 (by omega) (by omega)]
      have : x % 16 % 16 = x % 16 := by omega
      rw [this]
theorem block_inj (L x : List Int) (n p q : Int) (h : L.length = x.length) : (L ++ (List.replicate (14 - L.length) 0 ++ [n, p]) = x ++ (List.replicate (14 - x.length) 0 ++ [n, q])) ↔ (L = x ∧ p = q) := by
  constructor
  · intro e
    obtain ⟨e1, e2⟩ := List.append_inj e h
    subst e1
    have e3 := List.append_cancel_left e2
    injection e3 with _ e4
    injection e4 with e5
    exact ⟨rfl, e5⟩
  · rintro ⟨rfl, rfl⟩
    rfl
theorem blockS_ok {l : List Int} {n p : Int} (h : fitP n l) (h0 : 0 ≤ p) (h1 : p < 256) : blockS l n p = (l ++ (List.replicate (14 - l.length) 0 ++ [n, p]), 0) := if_pos ⟨h, h0, by omega⟩
theorem block_len (l : List Int) (n p : Int) (h : l.length ≤ 14) : (l ++ (List.replicate (14 - l.length) 0 ++ [n, p])).length = 16 := by
  simp only [List.length_append, List.length_replicate, List.length_cons, List.length_nil]; omega
theorem HalvesBack : crosswaylaw14_HalvesBack.Pure := by
  intro l o p q hl hw ho hwo hp hq
  have hb : By l := fun x h => wf_u8 (hw x h)
  have hbo : By o := fun x h => wf_u8 (hwo x h)
  have hp2 := wf_u8 hp
  have hq2 := wf_u8 hq
  refine Ev.rounds (Ev.congr (fun k => rfl) (Ev.bind alive_ev (Ev.congr (fun k => if_pos rfl) ?_)))
  have stop : Ev (fun k => crosswaylaw14_HalvesBack.j0 k l o p q true) true := Ev.step (f := fun _ => some true) (fun k => rfl) (Ev.now _)
  by_cases h1 : (l.length : Int) < 2
  · exact Ev.congr (fun k => if_pos h1) stop
  refine Ev.congr (fun k => if_neg h1) ?_
  by_cases h2 : (l.length : Int) > 28
  · rw [decide_eq_true h2]; exact stop
  rw [decide_eq_false h2]
  obtain ⟨L, R, hcut, hjoin, fL, fR, bL, bR, tL, tR⟩ := cut_join l hb (by omega) (by omega)
  have hLl := fL.2.2
  have hRl := fR.2.2
  have hRL : (R.length : Int) = (L.length : Int) := by omega
  have j1 := join_ev L R (l.length : Int) (by omega) (by omega)
  rw [hjoin] at j1
  have hwp : wrap64 p = p := w64_in _ (by omega) (by omega)
  have hwq : wrap64 q = q := w64_in _ (by omega) (by omega)
  have hS : sizeS (l.length : Int) = (l.length : Int) - (l.length : Int) / 2 := if_neg (by omega)
  refine Ev.step (fun k => by simp only [crosswaylaw14_HalvesBack.j0]; rw [if_neg (by decide), cut_eq l (by omega), Option.bind_some, hcut]) (Ev.bind j1 (Ev.congr (fun k => by rw [trim_eq, Option.bind_some, trimS, if_pos fL, tL, trim_eq, Option.bind_some, trimS, if_pos fR, tR]) (Ev.congr (fun k => by rw [if_pos rfl, if_pos rfl, if_pos rfl, if_pos rfl]) ?_)))
  refine Ev.bind (same_self l (by omega)) (Ev.congr (fun k => if_pos rfl) (Ev.bind (same_self L (by omega)) (Ev.congr (fun k => if_pos rfl) (Ev.bind (same_self R (by omega)) (Ev.congr (fun k => by rw [if_pos rfl, size_eq _ (by omega), Option.bind_some, hS, if_pos hLl, if_pos hRL]) ?_)))))
  by_cases h3 : (o.length : Int) = (L.length : Int)
  · have fO : fitP (l.length : Int) o := ⟨fL.1, fL.2.1, by omega⟩
    have hc := cut_length o (l.length : Int) true
    have fX : fitP (l.length : Int) (halves_Trim.cut o (l.length : Int) true) := ⟨fL.1, fL.2.1, by omega⟩
    have bX := cut_by o (l.length : Int) true hbo (by omega)
    have tX := cut_idem o (l.length : Int) true hbo (by omega)
    refine Ev.congr (fun k => by rw [if_pos h3, trim_eq, Option.bind_some, trimS, if_pos fO]) ?_
    generalize halves_Trim.cut o (l.length : Int) true = x at fX bX tX hc ⊢
    obtain ⟨D, hD, hDl, hDc⟩ := join_cut x R (l.length : Int) fX fR bX bR tX tR
    have j2 := join_ev x R (l.length : Int) (by omega) (by omega)
    rw [hD] at j2
    refine Ev.congr (fun k => by rw [trim_eq, Option.bind_some, trimS, if_pos fX, tX]) (Ev.bind j2 (Ev.congr (fun k => by rw [cut_eq D (by omega), Option.bind_some, hDc]) (Ev.congr (fun k => by rw [if_pos rfl, if_pos rfl, if_pos rfl, if_pos rfl]) ?_)))
    refine Ev.bind (same_self x (by omega)) (Ev.congr (fun k => if_pos rfl) (Ev.bind (same_self x (by omega)) (Ev.congr (fun k => if_pos rfl) (Ev.bind (same_self R (by omega)) (Ev.congr (fun k => by rw [if_pos rfl, hwp, hwq]) ?_)))))
    have b1 := block_ev L (l.length : Int) p
    have b2 := block_ev x (l.length : Int) q
    rw [blockS_ok fL hp2.1 hp2.2] at b1
    rw [blockS_ok fX hq2.1 hq2.2] at b2
    have n1 := block_len L (l.length : Int) p (by omega)
    have n2 := block_len x (l.length : Int) q (by omega)
    have m1 : ((L ++ (List.replicate (14 - L.length) 0 ++ [(l.length : Int), p])).length : Int) = 16 := by omega
    have m2 : ((x ++ (List.replicate (14 - x.length) 0 ++ [(l.length : Int), q])).length : Int) = 16 := by omega
    refine Ev.bind b1 (Ev.bind b2 (Ev.congr (fun k => by rw [if_pos m1, if_pos m2]) (Ev.bind (same_ev (L ++ (List.replicate (14 - L.length) 0 ++ [(l.length : Int), p])) (x ++ (List.replicate (14 - x.length) 0 ++ [(l.length : Int), q])) (by omega)) (Ev.bind (same_ev L x (by omega)) ?_))))
    have hi := block_inj L x (l.length : Int) p q (by omega)
    by_cases hx : L = x
    · refine Ev.congr (f := fun _ => some true) (fun k => ?_) (Ev.now _)
      rw [if_pos (decide_eq_true hx)]
      congr 1
      rw [beq_iff_eq, Bool.eq_iff_iff, decide_eq_true_iff, hi, beq_iff_eq]
      exact ⟨fun h => h.2, fun h => ⟨hx, h⟩⟩
    · refine Ev.congr (f := fun _ => some true) (fun k => ?_) (Ev.now _)
      rw [if_neg (by rw [decide_eq_false hx]; decide), decide_eq_false (fun h => hx (hi.1 h).1)]
      rfl
  · exact Ev.congr (fun k => by rw [if_neg h3]) (Ev.now _)
end Go.Proofs.Ytbiiccgheblhpac.Pure
