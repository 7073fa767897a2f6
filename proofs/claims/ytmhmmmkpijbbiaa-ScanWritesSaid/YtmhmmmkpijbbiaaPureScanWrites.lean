/- The plain statement of ScanWrites: any row of parts is put as the document says. -/
import Derived.Test.YtmhmmmkpijbbiaaM8
import Derived.Test.YtmhmmmkpijbbiaaPuScanW
namespace Go.Proofs.Ytmhmmmkpijbbiaa.Pure
open Go.RowKit Go.Proofs.YtmhmmmkpijbbiaaW.PrintWords Go.Proofs.YtmhmmmkpijbbiaaW.PrintMore Go.Proofs.Ytmhmmmkpijbbiaa.M Go.Proofs.Ytmhmmmkpijbbiaa.Bv Go.Proofs.Ytmhmmmkpijbbiaa.PuLib Go.Proofs.Ytmhmmmkpijbbiaa.PuVari Go.Proofs.Ytmhmmmkpijbbiaa.PuScan
theorem writes_ev : ∀ (ps : List S35) (e : Int) (l : List Int), (∀ p ∈ ps, p.f3.length ≤ 300 ∧ 0 ≤ p.f2 ∧ p.f2 < 18446744073709551616) → l.length + 400 * ps.length ≤ 30000 → ∃ K, ∀ k, K ≤ k → crosswaylaw09_ScanWrites.run k ps e l = true
  | [], _, _, _, _ => ⟨0, fun _ _ => rfl⟩
  | a :: rest, e, l, hp, hl => by
    have ha := hp a List.mem_cons_self
    rw [List.length_cons] at hl
    obtain ⟨x, hx⟩ : ∃ x, x = putS2 e (pieceS a.f0 a.f1 a.f2 a.f3).2 l (pieceS a.f0 a.f1 a.f2 a.f3).1 := ⟨_, rfl⟩
    have hput := put_evS e l e l a.f0 a.f1 a.f2 a.f3 ha.2.1 ha.2.2 ha.1 (by omega) (by omega)
    rw [← hx] at hput
    have hxl : x.2.length ≤ l.length + 400 := by
      have h1 := putS2_len e (pieceS a.f0 a.f1 a.f2 a.f3).2 l (pieceS a.f0 a.f1 a.f2 a.f3).1
      have h2 := piece_len a.f0 a.f1 a.f2 a.f3 ha.1
      rw [← hx] at h1
      omega
    obtain ⟨K, hK⟩ := hput
    obtain ⟨K2, h2⟩ := writes_ev rest x.1 x.2 (fun p h => hp p (List.mem_cons_of_mem _ h)) (by omega)
    obtain ⟨K3, h3⟩ := same_ev (if x.1 = 0 then x.2 else []) (if x.1 = 0 then x.2 else []) (by split; omega; exact Nat.zero_le _)
    refine ⟨K + K2 + K3, fun k hk => ?_⟩
    have h1 : putf k e l e l a.f0 a.f1 a.f2 a.f3 = some (x, x) := hK k (by omega)
    have h4 := h2 k (by omega)
    have h5 : crosswayref00_SameBytes.f k (if x.1 = 0 then x.2 else []) (if x.1 = 0 then x.2 else []) = some true := (h3 k (by omega)).trans (by simp)
    unfold crosswaylaw09_ScanWrites.run
    rw [h1]
    dsimp only
    rw [h4, h5]
    simp
    omega
theorem ScanWrites : crosswaylaw09_ScanWrites.Pure := by
  intro l0 _ hw
  obtain ⟨b, hb, hf⟩ := great_ev l0
  unfold crosswaylaw09_ScanWrites.f
  cases b with
  | true => exact Ev.rounds (Ev.bind hb (Ev.congr (f := fun _ => some true) (fun k => if_pos rfl) (Ev.now true)))
  | false =>
    obtain ⟨h1, h2⟩ := hf rfl
    obtain ⟨K, hK⟩ := writes_ev l0 0 [] (fun p hp => ⟨h2 p hp, wf_u64 (hw p hp).2.2.1⟩) (by simp; omega)
    obtain ⟨K2, hK2⟩ := hb
    refine ⟨K + K2, ?_⟩
    have h3 : crosswaylaw09_great.f (K + K2) l0 = some false := hK2 _ (by omega)
    rw [h3, Option.bind_some, if_neg (by decide), if_pos (hK _ (by omega))]
end Go.Proofs.Ytmhmmmkpijbbiaa.Pure
