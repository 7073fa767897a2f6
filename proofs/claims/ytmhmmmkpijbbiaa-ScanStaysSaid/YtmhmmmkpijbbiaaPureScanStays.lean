/- The plain statement of ScanStays: an error stays, in a reader and in a writer. -/
import Derived.Test.YtmhmmmkpijbbiaaM11
import Derived.Test.YtmhmmmkpijbbiaaPuScanW
namespace Go.Proofs.Ytmhmmmkpijbbiaa.Pure
open Go.RowKit Go.Proofs.YtmhmmmkpijbbiaaW.PrintWords Go.Proofs.YtmhmmmkpijbbiaaW.PrintMore Go.Proofs.Ytmhmmmkpijbbiaa.M Go.Proofs.Ytmhmmmkpijbbiaa.Bv Go.Proofs.Ytmhmmmkpijbbiaa.PuLib Go.Proofs.Ytmhmmmkpijbbiaa.PuVari Go.Proofs.Ytmhmmmkpijbbiaa.PuScan
theorem asks_ev (l0 : List Int) (h0 : By l0) (hl0 : l0.length ≤ 3000) : ∀ (l1 : List S47) (e : Int) (l : List Int), By l → l.length ≤ 3000 → ∃ r, Ev (fun k => crosswaylaw09_ScanStays.asks k l0 l1 e l) r ∧ By r.2 ∧ r.2.length ≤ 3000
  | [], e, l, hb, hl => ⟨(e, l), Ev.now _, hb, hl⟩
  | a :: rest, e, l, hb, hl => by
    obtain ⟨b, p, q, ⟨K, hK⟩, hp, hpl, hs, _⟩ := ask_ev e l 0 l0 a.f0 a.f1 hb h0 hl hl0
    obtain ⟨r, ⟨K2, h2⟩, hr⟩ := asks_ev l0 h0 hl0 rest p.1 p.2 hp (by omega)
    refine ⟨r, ⟨max K K2, fun k hk => ?_⟩, hr⟩
    have h1 : askf k e l 0 l0 a.f0 a.f1 = some (b, p, q) := hK k (by omega)
    have h3 := h2 k (by omega)
    show crosswaylaw09_ScanStays.asks k l0 (a :: rest) e l = some r
    unfold crosswaylaw09_ScanStays.asks
    rw [h1]
    dsimp only
    rw [if_pos ⟨hs, hpl⟩]
    exact h3
theorem nought_ev {e : Int} (he : e ≠ 0) (l : List Int) (hb : By l) (hl : l.length ≤ 3000) : ∃ K, ∀ k, K ≤ k → crosswaylaw09_ScanStays.nought k e l = true := by
  have h1 := numR_ev e l 1 hb
  have h2 := rdVari_ev e l hb (by omega)
  have h3 : Ev (fun k => rdShort k e l) (countS (numR e l 1) l) := rd_count l (numR_ev e l 1 hb) (numR_range e l 1 hb).1
  have h4 : Ev (fun k => rdLong k e l) (countS (variS e l) l) := rd_count l (rdVari_ev e l hb (by omega)) (variS_range e l hb).1
  rw [numR_err he] at h1 h3
  rw [variS_err he] at h2 h4
  rw [countS_err he] at h3 h4
  obtain ⟨K1, h1⟩ := h1
  obtain ⟨K2, h2⟩ := h2
  obtain ⟨K3, h3⟩ := h3
  obtain ⟨K4, h4⟩ := h4
  refine ⟨K1 + K2 + K3 + K4, fun k hk => ?_⟩
  have g1 : rdNum k e l 1 = _ := h1 k (by omega)
  have g2 : rdVari k e l = _ := h2 k (by omega)
  have g3 : rdShort k e l = _ := h3 k (by omega)
  have g4 : rdLong k e l = _ := h4 k (by omega)
  unfold crosswaylaw09_ScanStays.nought
  rw [g1, g2, g3, g4, bytes_err he, bytes_err he]
  simp
theorem putS2_stays {e : Int} (he : e ≠ 0) (e1 : Int) (l a : List Int) : putS2 e e1 l a = (e, l) := by
  unfold putS2
  rw [if_neg he, if_neg he]
theorem puts_ev : ∀ (ps : List S35) (e : Int) (l : List Int), (∀ p ∈ ps, p.f3.length ≤ 300 ∧ 0 ≤ p.f2 ∧ p.f2 < 18446744073709551616) → l.length + 400 * ps.length ≤ 30000 → ∃ K, ∀ k, K ≤ k → crosswaylaw09_ScanStays.puts k ps e l = true
  | [], _, _, _, _ => ⟨0, fun _ _ => rfl⟩
  | a :: rest, e, l, hp, hl => by
    have ha := hp a List.mem_cons_self
    rw [List.length_cons] at hl
    obtain ⟨x, hx⟩ : ∃ x, x = putS2 e (pieceS a.f0 a.f1 a.f2 a.f3).2 l (pieceS a.f0 a.f1 a.f2 a.f3).1 := ⟨_, rfl⟩
    have hput := put_evS e l 0 [] a.f0 a.f1 a.f2 a.f3 ha.2.1 ha.2.2 ha.1 (by omega) (by simp)
    rw [← hx] at hput
    have hxl : x.2.length ≤ l.length + 400 := by
      have h1 := putS2_len e (pieceS a.f0 a.f1 a.f2 a.f3).2 l (pieceS a.f0 a.f1 a.f2 a.f3).1
      have h2 := piece_len a.f0 a.f1 a.f2 a.f3 ha.1
      rw [← hx] at h1
      omega
    have hst : e ≠ 0 → x = (e, l) := fun he => by rw [hx, putS2_stays he]
    obtain ⟨K, hK⟩ := hput
    obtain ⟨K2, h2⟩ := puts_ev rest x.1 x.2 (fun p h => hp p (List.mem_cons_of_mem _ h)) (by omega)
    refine ⟨K + K2, fun k hk => ?_⟩
    have h1 : putf k e l 0 [] a.f0 a.f1 a.f2 a.f3 = some (x, _) := hK k (by omega)
    have h4 := h2 k (by omega)
    unfold crosswaylaw09_ScanStays.puts
    rw [h1]
    dsimp only
    rw [h4]
    simp only [Bool.and_true, Bool.and_eq_true, decide_eq_true_eq]
    exact ⟨⟨⟨hst, by omega⟩, by omega⟩, by omega⟩
theorem ScanStays : crosswaylaw09_ScanStays.Pure := by
  intro l0 l1 l2 _ hb _ _ _ hw
  have hb' : By l0 := fun x hx => wf_u8 (hb x hx)
  unfold crosswaylaw09_ScanStays.f
  by_cases q0 : 3000 < l0.length
  · exact ⟨0, if_pos q0⟩
  by_cases q1 : 100 < l1.length
  · exact ⟨0, by rw [if_neg q0, if_pos q1]⟩
  obtain ⟨b, hgr, hf⟩ := great_ev l2
  obtain ⟨Kg, hgr⟩ := hgr
  cases b with
  | true =>
    refine ⟨Kg, ?_⟩
    have h3 : crosswaylaw09_great.f Kg l2 = some true := hgr _ (Nat.le_refl _)
    rw [if_neg q0, if_neg q1, h3, Option.bind_some, if_pos rfl]
  | false =>
    obtain ⟨h1, h2⟩ := hf rfl
    obtain ⟨K, hK⟩ := puts_ev l2 0 [] (fun p hp => ⟨h2 p hp, wf_u64 (hw p hp).2.2.1⟩) (by simp; omega)
    obtain ⟨r, ⟨K2, hK2⟩, hrb, hrl⟩ := asks_ev l0 hb' (by omega) l1 0 l0 hb' (by omega)
    obtain ⟨K3, hK3⟩ : ∃ K, ∀ k, K ≤ k → (r.1 ≠ 0 → crosswaylaw09_ScanStays.nought k r.1 r.2 = true) := by
      by_cases he : r.1 = 0
      · exact ⟨0, fun k _ h => absurd he h⟩
      · obtain ⟨K, h⟩ := nought_ev he r.2 hrb hrl
        exact ⟨K, fun k hk _ => h k hk⟩
    refine ⟨Kg + K + K2 + K3, ?_⟩
    have h3 : crosswaylaw09_great.f (Kg + K + K2 + K3) l2 = some false := hgr _ (by omega)
    have h4 : crosswaylaw09_ScanStays.asks (Kg + K + K2 + K3) l0 l1 0 l0 = some r := hK2 _ (by omega)
    rw [if_neg q0, if_neg q1, h3, Option.bind_some, if_neg (by decide), if_pos ⟨copy_eq l0 (by omega), hK _ (by omega)⟩, h4, Option.bind_some, if_pos (hK3 _ (by omega))]
end Go.Proofs.Ytmhmmmkpijbbiaa.Pure
