/- FlowIdle: behind the idle time without a use an entry isn't got; ahead of it, it is. No condition. -/
-- MERGED by wip/tools/merge.py
import Derived.Test.YtikpgmajiafhgaaFlG3
import Derived.Test.YtikpgmajiafhgaaFlG4
import Derived.Test.YtikpgmajiafhgaaRows
import Derived.Test.YtikpgmajiafhgaaXWords
import Derived.WalkKit
import Derived.ProofKit
import Derived.OpenShut
import Derived.ShutString
import Derived.ChangeOld
import Derived.Below
import Derived.SizedLaws
import Derived.Lib.SmallJoins
/- flow, plain: behind the idle time. -/
namespace Go.Proofs.Ytikpgmajiafhgaa.Fl
open Go.RowKit
set_option linter.unusedVariables false
set_option linter.unusedSimpArgs false
theorem makeS_sub {m i now : Int} {R : List Rw} {r : Rw} (h : r ∈ (makeS m i now R).1) : r ∈ R := by
  unfold makeS at h
  split at h
  · exact roomS_mem h
  · exact roomS_mem (List.mem_of_mem_tail h)
theorem cutS_sub {R : List Rw} {k : List Int} {r : Rw} (h : r ∈ cutS R k) : r ∈ R := List.mem_of_mem_eraseP h
theorem fnd_some {R : List Rw} {k : List Int} {r : Rw} (h : fnd R k = some r) : r ∈ R ∧ r.ky = k := ⟨List.mem_of_find?_eq_some h, by have := List.find?_some h; simpa using this⟩
theorem fnd_ne {R : List Rw} {k : List Int} (h : fnd R k = none) : ∀ r ∈ R, r.ky ≠ k := fun r hr => by have := List.find?_eq_none.1 h r hr; simpa using this
theorem cutS_ne {R : List Rw} {k : List Int} (hn : (R.map Rw.ky).Nodup) {r : Rw} (h : r ∈ cutS R k) : r.ky ≠ k := by
  intro he
  cases hf : fnd R k with
  | none => exact fnd_ne hf r (cutS_sub h) he
  | some q =>
    obtain ⟨hq, hk⟩ := fnd_some hf
    obtain ⟨a, b, hab, ha⟩ : ∃ a b, R = a ++ q :: b ∧ ∀ x ∈ a, x.ky ≠ k := by
      unfold fnd at hf
      obtain ⟨_, a, b, e, h2⟩ := List.find?_eq_some_iff_append.1 hf
      exact ⟨a, b, e, fun x hx => by simpa using h2 x hx⟩
    rw [hab] at h hn
    rw [(fnd_of hk ha).2] at h
    rw [List.map_append, List.map_cons] at hn
    rcases List.mem_append.1 h with h1 | h1
    · exact ha r h1 he
    · have h2 := (List.nodup_append.1 hn).2.1
      rw [List.nodup_cons] at h2
      exact h2.1 (List.mem_map.2 ⟨r, h1, he.trans hk.symm⟩)
theorem putS_mem {m i bk now : Int} {R : List Rw} {k : List Int} {r : Rw} (h : r ∈ (putS m i R k bk now).1) : r ∈ R ∨ r = ⟨k, bk, now⟩ := by
  unfold putS at h
  split at h
  · exact .inl h
  · split at h
    · split at h
      · rcases List.mem_append.1 h with h | h
        · exact .inl (cutS_sub (makeS_sub h))
        · exact .inr (by simpa using h)
      · exact .inl h
    · rcases List.mem_append.1 h with h | h
      · exact .inl (makeS_sub h)
      · exact .inr (by simpa using h)
def putN (m i now : Int) (ks : List (List Int)) : Nat → List Rw
  | 0 => []
  | j + 1 => (putS m i (putN m i now ks j) (ks.getD j []) (j : Int) now).1
def getN (i t : Int) (R : List Rw) (ks : List (List Int)) : Nat → List Rw
  | 0 => R
  | j + 1 => (getS i (getN i t R ks j) (ks.getD j []) t).1
theorem putN_mem {m i now : Int} {ks : List (List Int)} : ∀ (j : Nat) (r : Rw), j ≤ ks.length → r ∈ putN m i now ks j → r.la = now ∧ r.ky ∈ ks.take j
  | 0, r, _, h => absurd h List.not_mem_nil
  | j + 1, r, hj, h => by
    have hk : ks[j]? = some (ks.getD j []) := by rw [List.getD_eq_getElem?_getD, List.getElem?_eq_getElem (by omega)]; rfl
    rw [List.take_add_one, hk]
    rcases putS_mem h with h | rfl
    · obtain ⟨h1, h2⟩ := putN_mem j r (by omega) h
      exact ⟨h1, List.mem_append_left _ h2⟩
    · exact ⟨rfl, List.mem_append_right _ (by simp)⟩
theorem over_later {now later i : Int} (h0 : 0 ≤ now) (h1 : now ≤ 1152921504606846976) (h2 : 0 ≤ later) (h3 : later ≤ 1152921504606846976) (hi : 1 ≤ i) : overS now i (now + later) = decide (i ≤ later) := by
  unfold overS
  rw [show now + later - now = later by omega, Bv.wrap_id (show 0 ≤ later by omega) (show later < 18446744073709551616 by omega)]
  by_cases h : i ≤ later
  · rw [decide_eq_true h, decide_eq_true (by omega)]; rfl
  · rw [decide_eq_false h, Bool.and_false]
theorem over_same (t i : Int) : overS t i t = false := by
  unfold overS
  rw [decide_eq_false (by omega), Bool.false_and]
theorem sweep_all {R : List Rw} {i t : Int} (h : ∀ r ∈ R, overS r.la i t = true) : sweepS R i t = [] := by
  unfold sweepS
  rw [List.filter_eq_nil_iff]
  intro r hr
  simp [h r hr]
theorem sweep_none {R : List Rw} {i t : Int} (h : ∀ r ∈ R, overS r.la i t = false) : sweepS R i t = R := by
  unfold sweepS
  rw [List.filter_eq_self]
  intro r hr
  simp [h r hr]
theorem get_ok {R : List Rw} {i t : Int} {ov : Bool} (h : ∀ r ∈ R, overS r.la i t = ov) (k : List Int) : (getS i R k t).2.2 = ((ofS R k).2.2 && !ov) := by
  unfold getS ofS
  cases hf : fnd R k with
  | none => rfl
  | some q =>
    dsimp only
    have h1 := h q (fnd_some hf).1
    cases ov with
    | true => rw [if_pos h1]; rfl
    | false => rw [if_neg (by rw [h1]; exact Bool.false_ne_true)]; rfl
theorem getS_over {R : List Rw} {i t : Int} (hn : (R.map Rw.ky).Nodup) (h : ∀ r ∈ R, overS r.la i t = true) (k : List Int) : ∀ r ∈ (getS i R k t).1, r ∈ R ∧ r.ky ≠ k := by
  intro r hr
  unfold getS at hr
  cases hf : fnd R k with
  | none => rw [hf] at hr; exact ⟨hr, fnd_ne hf r hr⟩
  | some q =>
    rw [hf] at hr
    dsimp only at hr
    rw [if_pos (h q (fnd_some hf).1)] at hr
    exact ⟨cutS_sub hr, cutS_ne hn hr⟩
theorem getS_la {R : List Rw} {i t : Int} (k : List Int) (P : Int → Prop) (h : ∀ r ∈ R, P r.la) (hm : ∀ x, P x → P (max x t)) : ∀ r ∈ (getS i R k t).1, P r.la := by
  intro r hr
  unfold getS at hr
  cases hf : fnd R k with
  | none => rw [hf] at hr; exact h r hr
  | some q =>
    rw [hf] at hr
    dsimp only at hr
    split at hr
    · exact h r (cutS_sub hr)
    · rcases List.mem_append.1 hr with h1 | h1
      · exact h r (cutS_sub h1)
      · simp only [List.mem_singleton] at h1
        rw [h1]
        exact hm _ (h q (fnd_some hf).1)
theorem nil_of {α : Type} {l : List α} (h : ∀ r ∈ l, False) : l = [] := by
  cases l with
  | nil => rfl
  | cons a l => exact (h a List.mem_cons_self).elim
theorem drop_ne {ks : List (List Int)} {j : Nat} {k x : List Int} (hk : ks[j]? = some k) (hx : x ∈ ks.drop j) (hn : x ≠ k) : x ∈ ks.drop (j + 1) := by
  obtain ⟨hj, e⟩ := List.getElem?_eq_some_iff.1 hk
  rw [List.drop_eq_getElem_cons hj, e] at hx
  rcases List.mem_cons.1 hx with h | h
  · exact absurd h hn
  · exact h
end Go.Proofs.Ytikpgmajiafhgaa.Fl
/- flow: the walk of FlowIdle. Written by wip/gen/flid.py. -/
namespace Go.Proofs.Ytikpgmajiafhgaa.Fl
open Go.RowKit Go.Proofs.YtikpgmajiafhgaaW.PrintWords Go.Proofs.YtikpgmajiafhgaaW.PrintLast Go.Proofs.YtikpgmajiafhgaaW.PrintMore Go.Proofs.Ytikpgmajiafhgaa.X Go.Proofs.Ytikpgmajiafhgaa.M
set_option linter.unusedVariables false
set_option linter.unusedSimpArgs false

set_option maxRecDepth 100000 in
set_option maxHeartbeats 4000000 in
theorem idle_calls (m i : Int) (ks : List (List Int)) (n : Nat) (hn : n = ks.length) (now later : Int) (A : Option Addr) (c : Nat) (w : World) (hC : kK.C w A n ks) (hc : n ≤ c) (hk : ∀ k ∈ ks, KeyOk k) (r1 : 0 ≤ now) (r2 : 0 ≤ later) :
    Calls Try.prog 5 #[.int .i64 m, .int .u64 i, .slice A n c, .int .u64 now, .int .u64 later] w fun en w' => en = .returned (.bool true) ∧ Below w.heap.size w w' := by
  have HN := Aside0.mk hn
  clear hn
  by_cases h1 : 60 < n
  · have e1 : ((60 : Int) < (n : Int)) = True := eq_true (by omega)
    have d1 : decide ((60 : Int) < (n : Int)) = true := decide_eq_true (by omega)
    clear h1
    clear hC hk
    go_enter Try.func5, Try.ntmps5
    go_wp2_with fail
    (with_reducible refine (alive_calls w).mono ?_)
    rintro en w1 ⟨rfl, hb⟩
    have HB := Aside0.mk hb
    clear hb
    go_wp2_with fail
    go_ret
    exact ⟨rfl, HB.out⟩
  by_cases h2 : (1152921504606846976 : Int) < now
  · have e1 : ((60 : Int) < (n : Int)) = False := eq_false (by omega)
    have d1 : decide ((60 : Int) < (n : Int)) = false := decide_eq_false (by omega)
    have e2 : ((1152921504606846976 : Int) < now) = True := eq_true h2
    have d2 : decide ((1152921504606846976 : Int) < now) = true := decide_eq_true h2
    clear h1 h2
    clear hC hk
    go_enter Try.func5, Try.ntmps5
    go_wp2_with fail
    (with_reducible refine (alive_calls w).mono ?_)
    rintro en w1 ⟨rfl, hb⟩
    have HB := Aside0.mk hb
    clear hb
    go_wp2_with fail
    go_ret
    exact ⟨rfl, HB.out⟩
  by_cases h3 : (1152921504606846976 : Int) < later
  · have e1 : ((60 : Int) < (n : Int)) = False := eq_false (by omega)
    have d1 : decide ((60 : Int) < (n : Int)) = false := decide_eq_false (by omega)
    have e2 : ((1152921504606846976 : Int) < now) = False := eq_false h2
    have d2 : decide ((1152921504606846976 : Int) < now) = false := decide_eq_false h2
    have e3 : ((1152921504606846976 : Int) < later) = True := eq_true h3
    have d3 : decide ((1152921504606846976 : Int) < later) = true := decide_eq_true h3
    clear h1 h2 h3
    clear hC hk
    go_enter Try.func5, Try.ntmps5
    go_wp2_with fail
    (with_reducible refine (alive_calls w).mono ?_)
    rintro en w1 ⟨rfl, hb⟩
    have HB := Aside0.mk hb
    clear hb
    go_wp2_with fail
    go_ret
    exact ⟨rfl, HB.out⟩
  have e1 : ((60 : Int) < (n : Int)) = False := eq_false (by omega)
  have d1 : decide ((60 : Int) < (n : Int)) = false := decide_eq_false (by omega)
  have e2 : ((1152921504606846976 : Int) < now) = False := eq_false h2
  have d2 : decide ((1152921504606846976 : Int) < now) = false := decide_eq_false h2
  have e3 : ((1152921504606846976 : Int) < later) = False := eq_false h3
  have d3 : decide ((1152921504606846976 : Int) < later) = false := decide_eq_false h3
  have HK := Aside0.mk hk
  have HR := Aside0.mk (And.intro r1 (And.intro (show now ≤ 1152921504606846976 by omega) (And.intro r2 (And.intro (show later ≤ 1152921504606846976 by omega) (show n ≤ 60 by omega)))))
  have HC0 := Aside0.mk hC
  have HCC := Aside0.mk hc
  clear h1 h2 h3 hk r1 r2 hC hc
  by_cases hok : NewOk m i
  · have HOK := Aside0.mk hok
    clear hok
    go_enter Try.func5, Try.ntmps5
    go_wp2_with fail
    (with_reducible refine (alive_calls w).mono ?_)
    rintro en w1 ⟨rfl, hb⟩
    have E0 := Aside0.mk (Env.start w |>.below hb)
    clear hb
    go_wp2_with fail
    (with_reducible refine (new_tw m i HOK.out _).mono ?_)
    rintro en w2 ⟨b, rfl, ⟨O1, hT, hO⟩, hb⟩
    have E1 := Aside0.mk (E0.out.new (thT O1 b m i []) hT hO hb)
    clear E0
    clear hT hO hb
    go_wp2_with fail
    go_loopw [13] (fun iv wr => ∃ j : Nat, j ≤ n ∧ iv = .int .i64 (j : Int) ∧ ∃ O, Aside0 (Env w wr [thT O b m i (putN m i now ks j)])) (fun iv _ => n - (intOf iv).toNat)
    case atStart => exact ⟨0, Nat.zero_le _, rfl, O1, E1⟩
    case round =>
      obtain ⟨j, hj, rfl, O, E90⟩ := hrel
      clear E1
      by_cases hlt : j < n
      · have hkj : ks[j]? = some (ks.getD j []) := by rw [List.getD_eq_getElem?_getD, List.getElem?_eq_getElem (by have := HN.out; omega)]; rfl
        have HKJ := Aside0.mk (HK.out _ (List.mem_of_getElem? hkj))
        have HJ := Aside0.mk hlt
        have HC1 := Aside0.mk (Kd.C_below HC0.out (E90.out.bel))
        obtain ⟨ad, hA⟩ := C_ad HC1.out (by have := HN.out; omega)
        have HCX := Aside0.mk HC1.out
        rw [hA] at HCX
        have HLD := Aside0.mk (C_key HCX.out hkj)
        obtain ⟨kk, hkk⟩ : ∃ kk, kk = ks.getD j [] := ⟨_, rfl⟩
        have HP := Aside0.mk (show putN m i now ks (j + 1) = (putS m i (putN m i now ks j) kk (j : Int) now).1 by rw [hkk]; rfl)
        rw [← hkk] at HLD HKJ
        have f1 : ((j : Int) < (n : Int)) = True := eq_true (by omega)
        have f2 : decide ((j : Int) < (n : Int)) = true := decide_eq_true (by omega)
        have f3 : (0 : Int) ≤ (j : Int) := by omega
        have f4 : (j : Int) ≤ 60 := by have := HR.out.2.2.2.2; omega
        have HAA := Aside0.mk hA
        subst hA
        clear hkj hlt hj hkk
        go_wp2_with (refine wpList_load_of rfl 29 (.tmp 58) rfl (ad.add (j * 34)) rfl HLD.out ?_)
        (with_reducible refine (put_tw (E90.out.at 0 rfl) HKJ.out _ _).mono ?_)
        rintro en w91 ⟨rfl, ho⟩
        obtain ⟨Ow91, hE⟩ := E90.out.out [] ho
        have E91 := Aside0.mk hE
        clear hE ho E90
        rw [← HP.out] at E91
        go_wp2_with fail
        go_roundw
        case rel => exact ⟨j + 1, by have := HJ.out; omega, by go_num, Ow91, E91⟩
        case measure => have := HJ.out; simp [intOf]; omega
      · have hjn : j = n := by omega
        subst hjn
        clear hlt hj
        have g1 : ((j : Int) < (j : Int)) = False := eq_false (by omega)
        have g2 : decide ((j : Int) < (j : Int)) = false := decide_eq_false (by omega)
        obtain ⟨R, hR⟩ : ∃ R, R = putN m i now ks j := ⟨_, rfl⟩
        rw [← hR] at E90
        have HRM := Aside0.mk (show ∀ r ∈ R, r.la = now ∧ r.ky ∈ ks from fun r hr => by rw [hR] at hr; obtain ⟨h1, h2⟩ := putN_mem j r (by have := HN.out; omega) hr; exact ⟨h1, List.mem_of_mem_take h2⟩)
        clear hR
        go_wp2_with fail
        (with_reducible refine (len_tw (E90.out.at 0 rfl)).mono ?_)
        rintro en w_ ⟨rfl, hw⟩
        have hw2 := hw.symm
        subst hw2
        clear hw
        go_wp2_with fail
        (with_reducible refine (clone_tw (E90.out.at 0 rfl)).mono ?_)
        rintro en w31 ⟨cl, rfl, ⟨Oc, hT, hO⟩, hb⟩
        have E91 := Aside0.mk (E90.out.new (thT Oc cl m i R) hT hO hb)
        clear E90
        clear hT hO hb
        have HBD := Aside0.mk (Tw.bound (E91.out.at 0 rfl : Tw _ Oc cl m i R))
        obtain ⟨q, hq⟩ : ∃ q, q = R.length := ⟨_, rfl⟩
        rw [← hq]
        have HQ := Aside0.mk hq
        have q1 : (m < (q : Int)) = False := eq_false (by have := HBD.out.1; omega)
        have q2 : decide (m < (q : Int)) = false := decide_eq_false (by have := HBD.out.1; omega)
        clear hq
        obtain ⟨t, ht⟩ : ∃ t, t = now + later := ⟨_, rfl⟩
        have q3 : IntKind.u64.wrap (now + later) = t := by have := HR.out; rw [Bv.wrap_id (by omega) (by omega)]; exact ht.symm
        have HOV := Aside0.mk (show overS now i t = decide (i ≤ later) by have := HR.out; rw [ht]; exact over_later this.1 this.2.1 this.2.2.1 this.2.2.2.1 HOK.out.2.2.1)
        have HLT := Aside0.mk (show now ≤ t by have := HR.out; omega)
        clear ht
        by_cases hov : i ≤ later
        · have HOI := Aside0.mk hov
          have o1 : (i ≤ later) = True := eq_true hov
          have o2 : decide (i ≤ later) = true := decide_eq_true hov
          clear hov
          have hz := zeroE
          go_wp2_with fail
          (with_reducible refine (sweep_is (E91.out.at 1 rfl) (sweep_all (fun r hr => by rw [(HRM.out r hr).1, HOV.out]; exact decide_eq_true HOI.out)) (c := (q : Int)) (by rw [HQ.out]; simp)).mono ?_)
          rintro en w32 ⟨rfl, ho⟩
          obtain ⟨Ow32, hE⟩ := E91.out.out [thT Oc cl m i R] ho
          have E92 := Aside0.mk hE
          clear hE ho E91
          go_wp2_with fail
          (with_reducible refine (len_is (E92.out.at 1 rfl) (c := 0) rfl).mono ?_)
          rintro en w_ ⟨rfl, hw⟩
          have hw2 := hw.symm
          subst hw2
          clear hw
          go_wp2_with fail
          go_loopw [17] (fun iv wr => ∃ j2 : Nat, j2 ≤ j ∧ iv = .int .i64 (j2 : Int) ∧ ∃ O2, Aside0 (Env w wr [thT O2 cl m i (getN i t R ks j2)]) ∧ Aside0 (∀ r ∈ getN i t R ks j2, r.la = now ∧ r.ky ∈ ks.drop j2)) (fun iv _ => j - (intOf iv).toNat)
          case atStart => exact ⟨0, Nat.zero_le _, rfl, Oc, ⟨(E92.out : Env w w32 ([thT Oc cl m i R] ++ [thT Ow32 b m i []])).left⟩, ⟨fun r hr => HRM.out r hr⟩⟩
          case round =>
            obtain ⟨j2, hj2, rfl, O2, E70, HIN⟩ := hrel
            clear E92
            by_cases hlt : j2 < j
            · have hkj : ks[j2]? = some (ks.getD j2 []) := by rw [List.getD_eq_getElem?_getD, List.getElem?_eq_getElem (by have := HN.out; omega)]; rfl
              obtain ⟨RR, hRR⟩ : ∃ RR, RR = getN i t R ks j2 := ⟨_, rfl⟩
              rw [← hRR] at E70 HIN
              have HKJ := Aside0.mk (HK.out _ (List.mem_of_getElem? hkj))
              have HJ := Aside0.mk hlt
              have HC1 := Aside0.mk (Kd.C_below HC0.out (E70.out.bel))
              obtain ⟨ad, hA⟩ := C_ad HC1.out (by have := HN.out; omega)
              have HCX := Aside0.mk HC1.out
              rw [hA] at HCX
              have HLD := Aside0.mk (C_key HCX.out hkj)
              have HKK2 := Aside0.mk hkj
              obtain ⟨kk, hkk⟩ : ∃ kk, kk = ks.getD j2 [] := ⟨_, rfl⟩
              have HP := Aside0.mk (show getN i t R ks (j2 + 1) = (getS i RR kk t).1 by rw [hRR, hkk]; rfl)
              rw [← hkk] at HLD HKJ HKK2
              have HGO := Aside0.mk (get_ok (ov := true) (show ∀ r ∈ RR, overS r.la i t = true from fun r hr => by rw [(HIN.out r hr).1, HOV.out]; exact decide_eq_true HOI.out) kk)
              have f1 : ((j2 : Int) < (j : Int)) = True := eq_true (by omega)
              have f2 : decide ((j2 : Int) < (j : Int)) = true := decide_eq_true (by omega)
              have f3 : (0 : Int) ≤ (j2 : Int) := by omega
              have f4 : (j2 : Int) ≤ 60 := by have := HR.out.2.2.2.2; omega
              have HAA := Aside0.mk hA
              subst hA
              clear hkj hlt hj2 hkk hRR
              obtain ⟨wo, hwo⟩ : ∃ x, x = (ofS RR kk).2.2 := ⟨_, rfl⟩
              obtain ⟨bo, hbo⟩ : ∃ x, x = (ofS RR kk).1 := ⟨_, rfl⟩
              obtain ⟨lo, hlo⟩ : ∃ x, x = (ofS RR kk).2.1 := ⟨_, rfl⟩
              have HTN := Aside0.mk (Tw.keys (E70.out.at 0 rfl : Tw _ O2 cl m i RR))
              have HOF := Aside0.mk (show ofS RR kk = (bo, lo, wo) by rw [hwo, hbo, hlo])
              rw [← hwo] at HGO
              obtain ⟨bg, hbg⟩ : ∃ x, x = (getS i RR kk t).2.1 := ⟨_, rfl⟩
              have HGE := Aside0.mk (show getS i RR kk t = ((getS i RR kk t).1, bg, (wo && !true)) by rw [hbg, ← HGO.out])
              clear hwo hbo hlo hbg HGO
              go_wp2_with (refine wpList_load_of rfl 29 (.tmp 118) rfl (ad.add (j2 * 34)) rfl HLD.out ?_)
              (with_reducible refine (of_is (E70.out.at 0 rfl) HKJ.out HOF.out).mono ?_)
              rintro en w71 ⟨rfl, hb⟩
              have E71 := Aside0.mk (E70.out.below hb)
              clear E70
              clear hb
              have HLD2 := Aside0.mk (C_key (l := ks) (show kK.C (w71.alloc (.cells #[.int .i64 bo, .int .u64 lo] 43)) (some ad) j ks from Kd.C_below HC0.out (below_alloc E71.out.bel _)) HKK2.out)
              go_wp2_with (first | (refine pl_boxE rfl rfl 18 (.tmp 121) rfl rfl rfl rfl bo lo rfl rfl ?_) | (refine wpList_load_of rfl 29 (.tmp 127) rfl (ad.add (j2 * 34)) rfl HLD2.out ?_))
              have E72 := Aside0.mk (E71.out.alloc #[.int .i64 bo, .int .u64 lo] 43)
              clear E71
              (with_reducible refine (get_is (E72.out.at 1 rfl) HKJ.out HGE.out).mono ?_)
              rintro en w72 ⟨rfl, ho⟩
              obtain ⟨Ow72, hE⟩ := E72.out.out [thB w71.heap.size #[.int .i64 bo, .int .u64 lo] 43] ho
              have E73 := Aside0.mk hE
              clear hE ho E72
              rw [← HP.out] at E73
              have HIN2 := Aside0.mk (show ∀ r ∈ getN i t R ks (j2 + 1), r.la = now ∧ r.ky ∈ ks.drop (j2 + 1) by rw [HP.out]; exact fun r hr => by obtain ⟨h1, h2⟩ := getS_over (HTN.out) (fun r hr => by rw [(HIN.out r hr).1, HOV.out]; exact decide_eq_true HOI.out) kk r hr; obtain ⟨h3, h4⟩ := HIN.out r h1; exact ⟨h3, drop_ne HKK2.out h4 h2⟩)
              clear HGE HOF
              cases wo with
              | true =>
                go_wp2_with fail
                go_roundw
                case rel => exact ⟨j2 + 1, by have := HJ.out; omega, by go_num, _, ⟨(E73.out : Env w _ ([thB w71.heap.size #[.int .i64 bo, .int .u64 lo] 43] ++ [thT Ow72 cl m i (getN i t R ks (j2 + 1))])).right⟩, HIN2⟩
                case measure => have := HJ.out; simp [intOf]; omega
              | false =>
                go_wp2_with fail
                go_roundw
                case rel => exact ⟨j2 + 1, by have := HJ.out; omega, by go_num, _, ⟨(E73.out : Env w _ ([thB w71.heap.size #[.int .i64 bo, .int .u64 lo] 43] ++ [thT Ow72 cl m i (getN i t R ks (j2 + 1))])).right⟩, HIN2⟩
                case measure => have := HJ.out; simp [intOf]; omega
            · have hjn : j2 = j := by omega
              subst hjn
              clear hlt hj2
              go_wp2_with fail
              have HZ := Aside0.mk (show ((getN i t R ks j2).length : Int) = 0 by rw [nil_of (l := getN i t R ks j2) (fun r hr => by have h := (HIN.out r hr).2; rw [List.drop_eq_nil_of_le (by have := HN.out; omega)] at h; exact absurd h List.not_mem_nil)]; rfl)
              (with_reducible refine (len_is (E70.out.at 0 rfl) (c := 0) HZ.out).mono ?_)
              rintro en w_ ⟨rfl, hw⟩
              have hw2 := hw.symm
              subst hw2
              clear hw
              go_wp2_with fail
              go_ret
              exact ⟨rfl, E70.out.bel⟩
        · have HOI := Aside0.mk hov
          have o1 : (i ≤ later) = False := eq_false hov
          have o2 : decide (i ≤ later) = false := decide_eq_false hov
          clear hov
          by_cases hq0 : q = 0
          · have q4 : (q : Int) = 0 := by omega
            subst hq0
            clear q4 q1 q2
            have q8 : (m < 0) = False := eq_false (by have := HBD.out.2.1; omega)
            have q9 : decide (m < 0) = false := decide_eq_false (by have := HBD.out.2.1; omega)
            have hz := zeroE
            go_wp2_with fail
            (with_reducible refine (sweep_is (E91.out.at 1 rfl) (sweep_none (fun r hr => by rw [(HRM.out r hr).1, HOV.out]; exact decide_eq_false (by have := HOI.out; omega))) (c := 0) (by omega)).mono ?_)
            rintro en w32 ⟨rfl, ho⟩
            obtain ⟨Ow32, hE⟩ := E91.out.out [thT Oc cl m i R] ho
            have E92 := Aside0.mk hE
            clear hE ho E91
            go_wp2_with fail
            (with_reducible refine (len_is (E92.out.at 1 rfl) (c := 0) (by have := HQ.out; omega)).mono ?_)
            rintro en w_ ⟨rfl, hw⟩
            have hw2 := hw.symm
            subst hw2
            clear hw
            go_wp2_with fail
            go_loopw [17] (fun iv wr => ∃ j2 : Nat, j2 ≤ j ∧ iv = .int .i64 (j2 : Int) ∧ ∃ O2, Aside0 (Env w wr [thT O2 cl m i (getN i t R ks j2)]) ∧ Aside0 (∀ r ∈ getN i t R ks j2, r.la = now ∨ r.la = t)) (fun iv _ => j - (intOf iv).toNat)
            case atStart => exact ⟨0, Nat.zero_le _, rfl, Oc, ⟨(E92.out : Env w w32 ([thT Oc cl m i R] ++ [thT Ow32 b m i R])).left⟩, ⟨fun r hr => .inl (HRM.out r hr).1⟩⟩
            case round =>
              obtain ⟨j2, hj2, rfl, O2, E70, HIN⟩ := hrel
              clear E92
              by_cases hlt : j2 < j
              · have hkj : ks[j2]? = some (ks.getD j2 []) := by rw [List.getD_eq_getElem?_getD, List.getElem?_eq_getElem (by have := HN.out; omega)]; rfl
                obtain ⟨RR, hRR⟩ : ∃ RR, RR = getN i t R ks j2 := ⟨_, rfl⟩
                rw [← hRR] at E70 HIN
                have HKJ := Aside0.mk (HK.out _ (List.mem_of_getElem? hkj))
                have HJ := Aside0.mk hlt
                have HC1 := Aside0.mk (Kd.C_below HC0.out (E70.out.bel))
                obtain ⟨ad, hA⟩ := C_ad HC1.out (by have := HN.out; omega)
                have HCX := Aside0.mk HC1.out
                rw [hA] at HCX
                have HLD := Aside0.mk (C_key HCX.out hkj)
                have HKK2 := Aside0.mk hkj
                obtain ⟨kk, hkk⟩ : ∃ kk, kk = ks.getD j2 [] := ⟨_, rfl⟩
                have HP := Aside0.mk (show getN i t R ks (j2 + 1) = (getS i RR kk t).1 by rw [hRR, hkk]; rfl)
                rw [← hkk] at HLD HKJ HKK2
                have HGO := Aside0.mk (get_ok (ov := false) (show ∀ r ∈ RR, overS r.la i t = false from fun r hr => by rcases HIN.out r hr with h | h; rw [h, HOV.out]; exact decide_eq_false (by have := HOI.out; omega); rw [h]; exact over_same t i) kk)
                have f1 : ((j2 : Int) < (j : Int)) = True := eq_true (by omega)
                have f2 : decide ((j2 : Int) < (j : Int)) = true := decide_eq_true (by omega)
                have f3 : (0 : Int) ≤ (j2 : Int) := by omega
                have f4 : (j2 : Int) ≤ 60 := by have := HR.out.2.2.2.2; omega
                have HAA := Aside0.mk hA
                subst hA
                clear hkj hlt hj2 hkk hRR
                obtain ⟨wo, hwo⟩ : ∃ x, x = (ofS RR kk).2.2 := ⟨_, rfl⟩
                obtain ⟨bo, hbo⟩ : ∃ x, x = (ofS RR kk).1 := ⟨_, rfl⟩
                obtain ⟨lo, hlo⟩ : ∃ x, x = (ofS RR kk).2.1 := ⟨_, rfl⟩
                have HTN := Aside0.mk (Tw.keys (E70.out.at 0 rfl : Tw _ O2 cl m i RR))
                have HOF := Aside0.mk (show ofS RR kk = (bo, lo, wo) by rw [hwo, hbo, hlo])
                rw [← hwo] at HGO
                obtain ⟨bg, hbg⟩ : ∃ x, x = (getS i RR kk t).2.1 := ⟨_, rfl⟩
                have HGE := Aside0.mk (show getS i RR kk t = ((getS i RR kk t).1, bg, (wo && !false)) by rw [hbg, ← HGO.out])
                clear hwo hbo hlo hbg HGO
                go_wp2_with (refine wpList_load_of rfl 29 (.tmp 118) rfl (ad.add (j2 * 34)) rfl HLD.out ?_)
                (with_reducible refine (of_is (E70.out.at 0 rfl) HKJ.out HOF.out).mono ?_)
                rintro en w71 ⟨rfl, hb⟩
                have E71 := Aside0.mk (E70.out.below hb)
                clear E70
                clear hb
                have HLD2 := Aside0.mk (C_key (l := ks) (show kK.C (w71.alloc (.cells #[.int .i64 bo, .int .u64 lo] 43)) (some ad) j ks from Kd.C_below HC0.out (below_alloc E71.out.bel _)) HKK2.out)
                go_wp2_with (first | (refine pl_boxE rfl rfl 18 (.tmp 121) rfl rfl rfl rfl bo lo rfl rfl ?_) | (refine wpList_load_of rfl 29 (.tmp 127) rfl (ad.add (j2 * 34)) rfl HLD2.out ?_))
                have E72 := Aside0.mk (E71.out.alloc #[.int .i64 bo, .int .u64 lo] 43)
                clear E71
                (with_reducible refine (get_is (E72.out.at 1 rfl) HKJ.out HGE.out).mono ?_)
                rintro en w72 ⟨rfl, ho⟩
                obtain ⟨Ow72, hE⟩ := E72.out.out [thB w71.heap.size #[.int .i64 bo, .int .u64 lo] 43] ho
                have E73 := Aside0.mk hE
                clear hE ho E72
                rw [← HP.out] at E73
                have HIN2 := Aside0.mk (show ∀ r ∈ getN i t R ks (j2 + 1), r.la = now ∨ r.la = t by rw [HP.out]; exact getS_la kk (fun x => x = now ∨ x = t) HIN.out (fun x hx => by rcases hx with h | h <;> (have := HLT.out; omega)))
                clear HGE HOF
                cases wo with
                | true =>
                  go_wp2_with fail
                  go_roundw
                  case rel => exact ⟨j2 + 1, by have := HJ.out; omega, by go_num, _, ⟨(E73.out : Env w _ ([thB w71.heap.size #[.int .i64 bo, .int .u64 lo] 43] ++ [thT Ow72 cl m i (getN i t R ks (j2 + 1))])).right⟩, HIN2⟩
                  case measure => have := HJ.out; simp [intOf]; omega
                | false =>
                  go_wp2_with fail
                  go_roundw
                  case rel => exact ⟨j2 + 1, by have := HJ.out; omega, by go_num, _, ⟨(E73.out : Env w _ ([thB w71.heap.size #[.int .i64 bo, .int .u64 lo] 43] ++ [thT Ow72 cl m i (getN i t R ks (j2 + 1))])).right⟩, HIN2⟩
                  case measure => have := HJ.out; simp [intOf]; omega
              · have hjn : j2 = j := by omega
                subst hjn
                clear hlt hj2
                go_wp2_with fail
                go_ret
                exact ⟨rfl, E70.out.bel⟩
          · have q4 : ((q : Int) = 0) = False := eq_false (by omega)
            have q5 : ((0 : Int) = (q : Int)) = False := eq_false (by omega)
            have q6 : ((0 : Int) < (q : Int)) = True := eq_true (by omega)
            have q7 : (q = 0) = False := eq_false hq0
            clear hq0
            have hz := zeroE
            go_wp2_with fail
            (with_reducible refine (sweep_is (E91.out.at 1 rfl) (sweep_none (fun r hr => by rw [(HRM.out r hr).1, HOV.out]; exact decide_eq_false (by have := HOI.out; omega))) (c := 0) (by omega)).mono ?_)
            rintro en w32 ⟨rfl, ho⟩
            obtain ⟨Ow32, hE⟩ := E91.out.out [thT Oc cl m i R] ho
            have E92 := Aside0.mk hE
            clear hE ho E91
            go_wp2_with fail
            (with_reducible refine (len_is (E92.out.at 1 rfl) (c := (q : Int)) (congrArg Nat.cast HQ.out.symm)).mono ?_)
            rintro en w_ ⟨rfl, hw⟩
            have hw2 := hw.symm
            subst hw2
            clear hw
            go_wp2_with fail
            go_loopw [17] (fun iv wr => ∃ j2 : Nat, j2 ≤ j ∧ iv = .int .i64 (j2 : Int) ∧ ∃ O2, Aside0 (Env w wr [thT O2 cl m i (getN i t R ks j2)]) ∧ Aside0 (∀ r ∈ getN i t R ks j2, r.la = now ∨ r.la = t)) (fun iv _ => j - (intOf iv).toNat)
            case atStart => exact ⟨0, Nat.zero_le _, rfl, Oc, ⟨(E92.out : Env w w32 ([thT Oc cl m i R] ++ [thT Ow32 b m i R])).left⟩, ⟨fun r hr => .inl (HRM.out r hr).1⟩⟩
            case round =>
              obtain ⟨j2, hj2, rfl, O2, E70, HIN⟩ := hrel
              clear E92
              by_cases hlt : j2 < j
              · have hkj : ks[j2]? = some (ks.getD j2 []) := by rw [List.getD_eq_getElem?_getD, List.getElem?_eq_getElem (by have := HN.out; omega)]; rfl
                obtain ⟨RR, hRR⟩ : ∃ RR, RR = getN i t R ks j2 := ⟨_, rfl⟩
                rw [← hRR] at E70 HIN
                have HKJ := Aside0.mk (HK.out _ (List.mem_of_getElem? hkj))
                have HJ := Aside0.mk hlt
                have HC1 := Aside0.mk (Kd.C_below HC0.out (E70.out.bel))
                obtain ⟨ad, hA⟩ := C_ad HC1.out (by have := HN.out; omega)
                have HCX := Aside0.mk HC1.out
                rw [hA] at HCX
                have HLD := Aside0.mk (C_key HCX.out hkj)
                have HKK2 := Aside0.mk hkj
                obtain ⟨kk, hkk⟩ : ∃ kk, kk = ks.getD j2 [] := ⟨_, rfl⟩
                have HP := Aside0.mk (show getN i t R ks (j2 + 1) = (getS i RR kk t).1 by rw [hRR, hkk]; rfl)
                rw [← hkk] at HLD HKJ HKK2
                have HGO := Aside0.mk (get_ok (ov := false) (show ∀ r ∈ RR, overS r.la i t = false from fun r hr => by rcases HIN.out r hr with h | h; rw [h, HOV.out]; exact decide_eq_false (by have := HOI.out; omega); rw [h]; exact over_same t i) kk)
                have f1 : ((j2 : Int) < (j : Int)) = True := eq_true (by omega)
                have f2 : decide ((j2 : Int) < (j : Int)) = true := decide_eq_true (by omega)
                have f3 : (0 : Int) ≤ (j2 : Int) := by omega
                have f4 : (j2 : Int) ≤ 60 := by have := HR.out.2.2.2.2; omega
                have HAA := Aside0.mk hA
                subst hA
                clear hkj hlt hj2 hkk hRR
                obtain ⟨wo, hwo⟩ : ∃ x, x = (ofS RR kk).2.2 := ⟨_, rfl⟩
                obtain ⟨bo, hbo⟩ : ∃ x, x = (ofS RR kk).1 := ⟨_, rfl⟩
                obtain ⟨lo, hlo⟩ : ∃ x, x = (ofS RR kk).2.1 := ⟨_, rfl⟩
                have HTN := Aside0.mk (Tw.keys (E70.out.at 0 rfl : Tw _ O2 cl m i RR))
                have HOF := Aside0.mk (show ofS RR kk = (bo, lo, wo) by rw [hwo, hbo, hlo])
                rw [← hwo] at HGO
                obtain ⟨bg, hbg⟩ : ∃ x, x = (getS i RR kk t).2.1 := ⟨_, rfl⟩
                have HGE := Aside0.mk (show getS i RR kk t = ((getS i RR kk t).1, bg, (wo && !false)) by rw [hbg, ← HGO.out])
                clear hwo hbo hlo hbg HGO
                go_wp2_with (refine wpList_load_of rfl 29 (.tmp 118) rfl (ad.add (j2 * 34)) rfl HLD.out ?_)
                (with_reducible refine (of_is (E70.out.at 0 rfl) HKJ.out HOF.out).mono ?_)
                rintro en w71 ⟨rfl, hb⟩
                have E71 := Aside0.mk (E70.out.below hb)
                clear E70
                clear hb
                have HLD2 := Aside0.mk (C_key (l := ks) (show kK.C (w71.alloc (.cells #[.int .i64 bo, .int .u64 lo] 43)) (some ad) j ks from Kd.C_below HC0.out (below_alloc E71.out.bel _)) HKK2.out)
                go_wp2_with (first | (refine pl_boxE rfl rfl 18 (.tmp 121) rfl rfl rfl rfl bo lo rfl rfl ?_) | (refine wpList_load_of rfl 29 (.tmp 127) rfl (ad.add (j2 * 34)) rfl HLD2.out ?_))
                have E72 := Aside0.mk (E71.out.alloc #[.int .i64 bo, .int .u64 lo] 43)
                clear E71
                (with_reducible refine (get_is (E72.out.at 1 rfl) HKJ.out HGE.out).mono ?_)
                rintro en w72 ⟨rfl, ho⟩
                obtain ⟨Ow72, hE⟩ := E72.out.out [thB w71.heap.size #[.int .i64 bo, .int .u64 lo] 43] ho
                have E73 := Aside0.mk hE
                clear hE ho E72
                rw [← HP.out] at E73
                have HIN2 := Aside0.mk (show ∀ r ∈ getN i t R ks (j2 + 1), r.la = now ∨ r.la = t by rw [HP.out]; exact getS_la kk (fun x => x = now ∨ x = t) HIN.out (fun x hx => by rcases hx with h | h <;> (have := HLT.out; omega)))
                clear HGE HOF
                cases wo with
                | true =>
                  go_wp2_with fail
                  go_roundw
                  case rel => exact ⟨j2 + 1, by have := HJ.out; omega, by go_num, _, ⟨(E73.out : Env w _ ([thB w71.heap.size #[.int .i64 bo, .int .u64 lo] 43] ++ [thT Ow72 cl m i (getN i t R ks (j2 + 1))])).right⟩, HIN2⟩
                  case measure => have := HJ.out; simp [intOf]; omega
                | false =>
                  go_wp2_with fail
                  go_roundw
                  case rel => exact ⟨j2 + 1, by have := HJ.out; omega, by go_num, _, ⟨(E73.out : Env w _ ([thB w71.heap.size #[.int .i64 bo, .int .u64 lo] 43] ++ [thT Ow72 cl m i (getN i t R ks (j2 + 1))])).right⟩, HIN2⟩
                  case measure => have := HJ.out; simp [intOf]; omega
              · have hjn : j2 = j := by omega
                subst hjn
                clear hlt hj2
                go_wp2_with fail
                go_ret
                exact ⟨rfl, E70.out.bel⟩
  · have HB2 := Aside0.mk (new_bad m i hok)
    clear hok
    go_enter Try.func5, Try.ntmps5
    go_wp2_with fail
    (with_reducible refine (alive_calls w).mono ?_)
    rintro en w1 ⟨rfl, hb⟩
    have HB := Aside0.mk hb
    clear hb
    go_wp2_with fail
    (with_reducible refine (HB2.out _).mono ?_)
    rintro en w_ ⟨rfl, hw⟩
    have hw2 := hw.symm
    subst hw2
    clear hw
    go_wp2_with fail
    go_ret
    exact ⟨rfl, HB.out⟩
end Go.Proofs.Ytikpgmajiafhgaa.Fl
/- The row of the law FlowIdle: for every input it returns true and its arguments read as they did (behind the idle time without a use an entry isn't got; ahead of it, it is). No condition. -/
namespace Go.Proofs.Ytikpgmajiafhgaa.flowIdle
open Go.ChangeShapes Go.WideShapes Go.ChangeAt Go.RowKit
open Go.ChangeMaps (open_string shut_string)
open Go.Proofs.YtikpgmajiafhgaaW.PrintWords Go.Proofs.YtikpgmajiafhgaaW.PrintMore Go.Proofs.Ytikpgmajiafhgaa.X Go.Proofs.Ytikpgmajiafhgaa.M Go.Proofs.Ytikpgmajiafhgaa.Fl
theorem own : ownKnob Try.prog.godebug = none := by kernel_rfl
theorem laidOut : laidOutB Try.prog = true := by kernel_rfl
set_option maxRecDepth 100000 in
theorem lifted (os : Os) (started : os.Started) (H : Type) (enc : TypeId × Value → H) :
    ReturnsInHanded {} Try.checked os 5 .any (Rows.flowIdleSpec.pre6 enc Try.prog Try.f5 Rows.flowIdleRow.domain false) (Rows.flowIdleSpec.post enc Try.prog Try.f5 false true false false) := by
  refine returnsInHanded_of_change_sized (C := Try.checked) own started (by kernel_rfl) Try.func5
    (ChangeSpec.witness6 (enc := enc) (C := Try.checked) false ⟨#[], #[.int .i64 0, .int .u64 0, .slice none 0 0, .int .u64 0, .int .u64 0], []⟩ 8 (by kernel_rfl) (by kernel_rfl) (by kernel_rfl) (by kernel_rfl)) ?_
  intro W base args ds gs before hval0 hW hcnd hsz0 _
  have hval : ∀ (j : Nat) t v, Try.f5.params[j]? = some t → args[j]? = some v → Value.okWide Try.prog W .any base t v := hval0
  have hW' := hW
  obtain ⟨p, q, hA0, hV, rfl, hfz, hnd⟩ := hW
  have hA : DataW.TrodAll enc Try.prog W 0 (fun _ => true) true Try.f5.params.toList args.toList ds p := hA0
  rw [Try.params5] at hA hval
  obtain ⟨v0, vs0, d0, ds0, p0, q0, hargs, rfl, rfl, h0, r0⟩ := trodAll_cons hA
  obtain ⟨v1, vs1, d1, ds1, p1, q1, rfl, rfl, rfl, h1, r1⟩ := trodAll_cons r0
  obtain ⟨v2, vs2, d2, ds2, p2, q2, rfl, rfl, rfl, h2, r2⟩ := trodAll_cons r1
  obtain ⟨v3, vs3, d3, ds3, p3, q3, rfl, rfl, rfl, h3, r3⟩ := trodAll_cons r2
  obtain ⟨v4, vs4, d4, ds4, p4, q4, rfl, rfl, rfl, h4, r4⟩ := trodAll_cons r3
  obtain ⟨rfl, rfl, rfl⟩ := trodAll_nil r4
  obtain rfl : args = #[v0, v1, v2, v3, v4] := by cases args; simp_all
  obtain ⟨rfl, rfl⟩ := trodVars_none hV
  obtain ⟨a0, rfl, rfl, rfl, w0⟩ := open_int Try.underlying3 (hval 0 3 v0 rfl rfl) h0
  obtain ⟨a1, rfl, rfl, rfl, w1⟩ := open_int Try.underlying22 (hval 1 22 v1 rfl rfl) h1
  have k2 := h2
  have lt2 : ∀ x ∈ p2, x.block < W.heap.size := by obtain ⟨m, hm⟩ := k2; exact DataW.trod_lt m _ _ _ hm
  obtain ⟨a2, len2, cap2, rfl⟩ := okWide_slice Try.underlying64 (hval 2 64 v2 rfl rfl)
  obtain ⟨l2, ⟨b2, c2, e2, hc2, hr2⟩, hm2, hw2⟩ : ∃ v, (Kd.slice 29 kK).K W v [.slice a2 len2 cap2] ∧ (v.length ≤ maxLen ∧ ∀ xv ∈ v, KeyOk xv) := by
    obtain ⟨fuel, hf⟩ := h2
    exact (opens_slice Try.underlying64 (by kernel_rfl) open_key) H enc W fuel _ _ (by simpa [Value.cells] using hf)
  simp only [List.cons.injEq, Value.slice.injEq, and_true] at e2
  obtain ⟨rfl, rfl, rfl⟩ := e2
  obtain ⟨a3, rfl, rfl, rfl, w3⟩ := open_int Try.underlying22 (hval 3 22 v3 rfl rfl) h3
  obtain ⟨a4, rfl, rfl, rfl, w4⟩ := open_int Try.underlying22 (hval 4 22 v4 rfl rfl) h4
  clear hA0 hval0 hsz0
  refine (idle_calls a0 a1 l2 _ rfl a3 a4 _ _ W hr2 hc2 hw2 (bounds_u64 w3).1 (bounds_u64 w4).1).mono fun e W' ⟨he, bel0⟩ => ?_
  have bel : Below W.heap.size W W' := bel0
  subst he
  exact ⟨_, rfl, _, _, _, [], _, [], hW', trodAll_mk1 (shut_bool Try.underlying4 _), (trodAll_cons_mk (shut_int Try.underlying3 w0) (trodAll_cons_mk (shut_int Try.underlying22 w1) (trodAll_cons_mk (Below.trod laidOut (by kernel_rfl) (of_decide_eq_true (by kernel_rfl)) k2 bel lt2) (trodAll_cons_mk (shut_int Try.underlying22 w3) (trodAll_cons_mk (shut_int Try.underlying22 w4) trodAll_mk0))))), rfl, bel.frame _, fun h => by cases h⟩
theorem over : Rows.flowIdleRow.holds Try.pinned (OpenSpec.ofChange Rows.flowIdleSpec) :=
  OpenClaim.holds_of_wide 5 Try.f5 rfl rfl rfl rfl rfl rfl rfl ⟨rfl, rfl, rfl, rfl, rfl⟩ rfl rfl rfl rfl rfl (by kernel_rfl) Try.func5 (by kernel_rfl)
    (of_decide_eq_true (by kernel_rfl)) (by unfold Func.isWrapper; first | (rw [if_pos (by decide +kernel)]; kernel_rfl) | (rw [if_neg (by decide +kernel)]; exact ⟨rfl, rfl⟩))
    (fun os started H enc _ => lifted os started H enc)
theorem proved : Rows.FlowIdleSaid := over
end Go.Proofs.Ytikpgmajiafhgaa.flowIdle
namespace Go.Proofs.Ytikpgmajiafhgaa
/-- The row, under a short name, for the claim. -/
theorem flowIdle_holds : Rows.FlowIdleSaid := flowIdle.proved
#print axioms flowIdle_holds
end Go.Proofs.Ytikpgmajiafhgaa
