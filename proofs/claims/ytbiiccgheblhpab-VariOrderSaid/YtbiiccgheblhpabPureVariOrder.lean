/- The plain statement of VariOrder: a lesser number's least form is no longer, and, of one length, ahead, byte by byte; a form cut short is told. -/
import Derived.Test.YtbiiccgheblhpabM10
import Derived.Test.YtbiiccgheblhpabPuVari
namespace Go.Proofs.Ytbiiccgheblhpab.Pure
open Go.RowKit Go.Proofs.YtbiiccgheblhpabW.PrintWords Go.Proofs.YtbiiccgheblhpabW.PrintMore Go.Proofs.Ytbiiccgheblhpab.M Go.Proofs.Ytbiiccgheblhpab.Bv Go.Proofs.Ytbiiccgheblhpab.PuLib Go.Proofs.Ytbiiccgheblhpab.PuVari
theorem take_short {f : Nat} (h : f < 4) {v : Int} (v0 : 0 ≤ v) (hv : v < lim f) (k : Nat) (hk : k < siz f) : takeV ((putF f v).1.take k) = (0, 0, 12) := by
  have hlen : (putF f v).1.length = siz f := by rw [putF, if_pos hv, putL_length]
  have hl : ((putF f v).1.take k).length = k := by rw [List.length_take]; omega
  unfold takeV
  by_cases c : ((putF f v).1.take k).length = 0
  · rw [if_pos c]
  have hfull := take_putF h v0 hv []
  rw [List.append_nil] at hfull
  have hc : cls ((putF f v).1.take k) = cls (putF f v).1 := by
    unfold cls
    congr 2
    obtain ⟨m, rfl⟩ : ∃ m, k = m + 1 := ⟨k - 1, by omega⟩
    cases hq : (putF f v).1 with
    | nil => rw [hq] at hlen; have := siz_le h; simp at hlen; omega
    | cons x q => rfl
  have hcf : siz (cls (putF f v).1) = siz f := by
    unfold takeV at hfull
    rw [if_neg (by have := siz_le h; omega)] at hfull
    by_cases c2 : (putF f v).1.length < siz (cls (putF f v).1)
    · rw [if_pos c2] at hfull
      simp at hfull
    · rw [if_neg c2] at hfull
      simp only [Prod.mk.injEq] at hfull
      omega
  rw [if_neg c, hc, hcf, hl, if_pos hk]
theorem order_l0 {v w : Int} (v0 : 0 ≤ v) (w0 : 0 ≤ w) (cv : form v < 4) (cw : form w < 4) : ∀ d i : Nat, i + d = siz (form v) → Ev (fun k => crosswaylaw08_VariOrder.l0 k v w (putV v).1 (putV w).1 (i : Int)) true := by
  have hv := form_lt cv
  have hw := form_lt cw
  have ev : putV v = putF (form v) v := by rw [putV, if_pos cv]
  have ew : putV w = putF (form w) w := by rw [putV, if_pos cw]
  have fv : putF (form v) v = (putL ((form v : Int) * lim (form v) + v) (siz (form v)), 0) := by rw [putF, if_pos hv]
  have fw : putF (form w) w = (putL ((form w : Int) * lim (form w) + w) (siz (form w)), 0) := by rw [putF, if_pos hw]
  have lv : (putV v).1.length = siz (form v) := by rw [ev, fv, putL_length]
  have lw : (putV w).1.length = siz (form w) := by rw [ew, fw, putL_length]
  have s8 := siz_le cv
  intro d
  induction d with
  | zero =>
    intro i hi
    refine Ev.step (f := fun _ => some true) (fun k => ?_) (Ev.now _)
    simp only [crosswaylaw08_VariOrder.l0]
    rw [if_neg (by omega)]
    by_cases h : v ≥ w
    · rw [if_pos h]
    have hm := form_mono (Int.le_of_lt (by omega : v < w))
    rw [if_neg h]
    by_cases h2 : form v = form w
    · rw [if_neg (by rw [lv, lw, h2]; omega), if_pos (by rw [lv, lw, h2])]
      have hmv := mark_lt cv v0 hv
      have hmw := mark_lt cw w0 hw
      have key := (less_num (putV v).1 (putV w).1 (by rw [lv, lw, h2]) (putV_bytes v) (putV_bytes w)).2 (by
        rw [ev, ew, fv, fw, numS_putL, numS_putL, Int.emod_eq_of_lt hmv.1 hmv.2, Int.emod_eq_of_lt hmw.1 hmw.2, h2]
        omega)
      rw [ByteArray.toList_eq, ByteArray.toList_eq]
      exact congrArg some key
    · have hlt : siz (form v) < siz (form w) := Nat.pow_lt_pow_right (by omega) (by omega)
      rw [if_pos (by rw [lv, lw]; omega)]
  | succ d ih =>
    intro i hi
    have ht := take_short cv v0 hv i (by omega)
    rw [← ev] at ht
    refine Ev.step (fun k => by simp only [crosswaylaw08_VariOrder.l0]; rw [if_pos (by omega), if_pos (by omega), if_pos (by omega), Int.toNat_natCast]) ?_
    exact Ev.bind (ev_eq (take_ev _ (fun x hx => putV_bytes v x (List.mem_of_mem_take hx)) (by rw [List.length_take]; omega)) ht) (Ev.congr (fun k => by rw [if_pos rfl, w64_up i (by omega)]) (ih (i + 1) (by omega)))
theorem ok_iff {v : Int} : ((putV v).2 == 0) = decide (v < 4611686018427387904) := by
  have h4 := @form_four v
  have hle := form_le4 v
  by_cases c : (putV v).2 = 0
  · have := putV_ok.1 c
    rw [c, decide_eq_true (by omega)]
    rfl
  · have : ¬ form v < 4 := fun h => c (putV_ok.2 h)
    rw [beq_eq_false_iff_ne.2 c, decide_eq_false (by omega)]
theorem VariOrder : crosswaylaw08_VariOrder.Pure := by
  intro v w hv hw
  obtain ⟨v0, v1⟩ := wf_u64 hv
  obtain ⟨w0, w1⟩ := wf_u64 hw
  refine Ev.rounds (Ev.congr (fun k => rfl) (Ev.bind alive_ev (Ev.congr (fun k => if_pos rfl) ?_)))
  have stop : Ev (fun k => crosswaylaw08_VariOrder.j0 k v w (putV v).1 (putV v).2 (putV w).1 (putV w).2 true) true := by
    refine Ev.step (f := fun _ => some true) (fun k => ?_) (Ev.now _)
    simp only [crosswaylaw08_VariOrder.j0]
    rw [if_pos trivial, ok_iff, ok_iff, beq_self_eq_true, if_pos rfl, beq_self_eq_true]
  refine Ev.bind (vput_ev v0) (Ev.bind (vput_ev w0) ?_)
  by_cases c : (putV v).2 = 0
  · refine Ev.congr (fun k => if_pos c) ?_
    by_cases d : (putV w).2 = 0
    · have e : ((putV w).2 != 0) = false := by rw [d]; rfl
      rw [e]
      exact Ev.step (fun k => by simp only [crosswaylaw08_VariOrder.j0]; rw [if_neg (by decide)]; rfl) (order_l0 v0 w0 (putV_ok.1 c) (putV_ok.1 d) (siz (form v)) 0 (by omega))
    · have e : ((putV w).2 != 0) = true := bne_iff_ne.2 d
      rw [e]
      exact stop
  · exact Ev.congr (fun k => if_neg c) stop
end Go.Proofs.Ytbiiccgheblhpab.Pure
