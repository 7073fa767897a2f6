/- The plain statement of OctetParts: bytes that are joined have all parts, wherever they are cut. -/
import Derived.Test.YtnagjckjibfimaaM11
import Derived.Test.YtnagjckjibfimaaPuOctet
namespace Go.Proofs.Ytnagjckjibfimaa.Pure
open Go.RowKit Go.Proofs.YtnagjckjibfimaaW.PrintWords Go.Proofs.YtnagjckjibfimaaW.PrintMore Go.Proofs.Ytnagjckjibfimaa.M Go.Proofs.Ytnagjckjibfimaa.Bv Go.Proofs.Ytnagjckjibfimaa.PuLib Go.Proofs.Ytnagjckjibfimaa.PuCat Go.Proofs.Ytnagjckjibfimaa.PuOctet
theorem xor255 {x : Int} (h0 : 0 ≤ x) (h1 : x < 256) : xorB x 255 ≠ x := by
  have h := b_check (p := fun n => decide (xorB (n : Int) 255 ≠ (n : Int))) (by decide +kernel) h0 h1
  rw [decide_eq_true_iff, Int.toNat_of_nonneg h0] at h
  exact h
theorem rd_set0 (l : List Int) (i : Nat) (v : Int) : rd (l.set (i + 1) v) 0 = rd l 0 := by
  show (l.set (i + 1) v).getD 0 0 = l.getD 0 0
  cases l <;> rfl
theorem set_By {l : List Int} (h : By l) (i : Nat) {v : Int} (h0 : 0 ≤ v) (h1 : v < 256) : By (l.set i v) := by
  intro x hx
  rcases List.mem_or_eq_of_mem_set hx with h2 | rfl
  · exact h x h2
  · exact ⟨h0, h1⟩
theorem parts_l0 (b : List Int) (hl : b.length ≤ 100000) (yb : By b) : ∀ (d i : Nat) (x : List Int), x.length = b.length → By x → i + d = b.length → (i = 0 → x = b) → (0 < i → rd x 0 = xorB (rd b 0) 255) → Ev (fun k => crosswaylaw01_OctetParts.l0 k b x (i : Int)) true := by
  intro d
  induction d with
  | zero =>
    intro i x hx yx hi _ h1
    by_cases h0 : b.length = 0
    · exact Ev.step (f := fun _ => some true) (fun k => by simp only [crosswaylaw01_OctetParts.l0]; rw [if_neg (by omega), if_pos (by omega)]) (Ev.now _)
    have hm := yb _ (rd_mem b 0 (by omega))
    have hne : x ≠ b := fun e => by
      have h2 := h1 (by omega)
      rw [e] at h2
      exact xor255 hm.1 hm.2 h2.symm
    exact Ev.step (fun k => by simp only [crosswaylaw01_OctetParts.l0]; rw [if_neg (by omega), if_neg (by omega)]) (Ev.bind (ev_eq (equal_ev x b (by omega) yx yb) (decide_eq_false hne)) (Ev.now _))
  | succ d ih =>
    intro i x hx yx hi h0 h1
    have hm := yx _ (rd_mem x i (by omega))
    have hr := xorB_range hm.1 hm.2 (by omega : (0 : Int) ≤ 255) (by omega)
    refine Ev.step (fun k => by simp only [crosswaylaw01_OctetParts.l0]; rw [if_pos (by omega), if_pos (by omega), w64_up i (by omega), Int.toNat_natCast]; rfl) (ih (i + 1) (x.set i (xorB (rd x (i : Int)) 255)) (by rw [List.length_set]; exact hx) (set_By yx i hr.1 hr.2) (by omega) (by omega) (fun _ => ?_))
    cases i with
    | zero =>
      obtain rfl := h0 rfl
      cases x with
      | nil => simp at hi
      | cons y x => rfl
    | succ i => rw [rd_set0]; exact h1 (by omega)
theorem str_append (l m : List Int) : strOfNums l ++ strOfNums m = strOfNums (l ++ m) := by
  apply ByteArray.ext
  rw [ByteArray.data_append]
  show (l.map (fun n => UInt8.ofNat n.toNat)).toArray ++ (m.map (fun n => UInt8.ofNat n.toNat)).toArray = ((l ++ m).map (fun n => UInt8.ofNat n.toNat)).toArray
  rw [List.map_append]
  simp
theorem OctetParts : crosswaylaw01_OctetParts.Pure := by
  intro b cut other hb hwb hc ho
  have yb : By b := fun x h => wf_u8 (hwb x h)
  refine Ev.rounds (Ev.congr (fun k => rfl) (Ev.bind alive_ev (Ev.congr (fun k => if_pos rfl) ?_)))
  have stop : Ev (fun k => crosswaylaw01_OctetParts.j0 k b cut other true) true := Ev.step (f := fun _ => some true) (fun k => rfl) (Ev.now _)
  by_cases h1 : (b.length : Int) > 3000
  · exact Ev.congr (fun k => if_pos h1) stop
  refine Ev.congr (fun k => if_neg h1) ?_
  by_cases h2 : cut < 0
  · exact Ev.congr (fun k => if_pos h2) stop
  refine Ev.congr (fun k => if_neg h2) ?_
  by_cases h3 : other < cut
  · exact Ev.congr (fun k => if_pos h3) stop
  refine Ev.congr (fun k => if_neg h3) ?_
  by_cases h4 : other > (b.length : Int)
  · rw [decide_eq_true h4]; exact stop
  rw [decide_eq_false h4]
  obtain ⟨c, rfl⟩ := Int.eq_ofNat_of_zero_le (by omega : 0 ≤ cut)
  obtain ⟨o, rfl⟩ := Int.eq_ofNat_of_zero_le (by omega : 0 ≤ other)
  have hj : Ev (fun k => octet_Join.f k [b.take c, (b.take o).drop c, [], b.drop o]) b := by
    refine ev_eq (cat_ev _ (by simp) ?_) ?_
    · intro r hr
      simp only [List.mem_cons, List.not_mem_nil, or_false] at hr
      rcases hr with rfl | rfl | rfl | rfl
      · rw [List.length_take]; omega
      · rw [List.length_drop, List.length_take]; omega
      · simp
      · rw [List.length_drop]; omega
    · simp only [List.flatten_cons, List.flatten_nil, List.append_nil, List.nil_append]
      have e : b.take c = (b.take o).take c := by rw [List.take_take, Nat.min_eq_left (by omega)]
      rw [e, ← List.append_assoc, List.take_append_drop, List.take_append_drop]
  have yt : By (b.take c) := fun x h => yb x (List.mem_of_mem_take h)
  have yd : By (b.drop c) := fun x h => yb x (List.mem_of_mem_drop h)
  have e1 : strOfNums (hexI (b.take c)) ++ strOfNums (hexI (b.drop c)) = strOfNums (hexI b) := by
    rw [str_append]
    congr 1
    rw [hexI, hexI, ← List.flatMap_append, List.take_append_drop]
    rfl
  have hs : ∀ l : List Int, l.length ≤ 3000 → By l → (strOfNums (hexI l)).size ≤ 10000 := by
    intro l hl hy
    rw [← bytesOf_length, bytesOf_strOfNums _ (hexI_By l), hexI_length]
    omega
  have s1 := hs (b.take c) (by rw [List.length_take]; omega) yt
  have s2 := hs (b.drop c) (by rw [List.length_drop]; omega) yd
  refine Ev.step (fun k => by simp only [crosswaylaw01_OctetParts.j0, Int.toNat_natCast]; rw [if_neg (by decide), if_pos (by omega), if_pos (by omega), if_pos (by omega), if_pos (by omega), if_pos (by omega)]) (Ev.bind hj (Ev.bind (ev_eq (equal_ev b b (by omega) yb yb) (decide_eq_true rfl)) (Ev.congr (f := fun k => crosswaylaw01_OctetParts.j1 k b b false) (fun k => ?_) ?_)))
  · rw [if_pos rfl, hex_eq b (by omega) yb, Option.bind_some, hex_eq _ (by rw [List.length_take]; omega) yt, Option.bind_some, hex_eq _ (by rw [List.length_drop]; omega) yd, Option.bind_some, if_pos (by omega), e1, bne_self_eq_false]
  · exact Ev.step (fun k => by simp only [crosswaylaw01_OctetParts.j1]; rw [if_neg (by decide)]; rfl) (parts_l0 b (by omega) yb b.length 0 b rfl yb (by omega) (fun _ => rfl) (fun h => by omega))
end Go.Proofs.Ytnagjckjibfimaa.Pure
