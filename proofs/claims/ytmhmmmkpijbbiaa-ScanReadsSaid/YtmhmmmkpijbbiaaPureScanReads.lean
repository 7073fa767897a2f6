/- The plain statement of ScanReads: any row of questions to a reader of any bytes is answered as the document says. -/
import Derived.Test.YtmhmmmkpijbbiaaM9
import Derived.Test.YtmhmmmkpijbbiaaPuScan
namespace Go.Proofs.Ytmhmmmkpijbbiaa.Pure
open Go.RowKit Go.Proofs.YtmhmmmkpijbbiaaW.PrintWords Go.Proofs.YtmhmmmkpijbbiaaW.PrintMore Go.Proofs.Ytmhmmmkpijbbiaa.M Go.Proofs.Ytmhmmmkpijbbiaa.Bv Go.Proofs.Ytmhmmmkpijbbiaa.PuLib Go.Proofs.Ytmhmmmkpijbbiaa.PuVari Go.Proofs.Ytmhmmmkpijbbiaa.PuScan
theorem run_ev : ∀ (l1 : List S47) (e : Int) (l : List Int), By l → l.length ≤ 3000 → ∃ K, ∀ k, K ≤ k → crosswaylaw09_ScanReads.run k l1 e l = true
  | [], _, _, _, _ => ⟨0, fun _ _ => rfl⟩
  | a :: rest, e, l, hb, hl => by
    obtain ⟨b, p, q, ⟨K, hK⟩, hp, hpl, _, hs⟩ := ask_ev e l e l a.f0 a.f1 hb hb hl hl
    obtain ⟨rfl, rfl⟩ := hs rfl rfl
    obtain ⟨K2, h2⟩ := run_ev rest p.1 p.2 hp (by omega)
    refine ⟨max K K2, fun k hk => ?_⟩
    have h1 : askf k e l e l a.f0 a.f1 = some (true, p, p) := hK k (by omega)
    have h3 := h2 k (by omega)
    unfold crosswaylaw09_ScanReads.run
    rw [h1]
    simp [h3, hpl]
theorem ScanReads : crosswaylaw09_ScanReads.Pure := by
  intro l0 l1 _ hb _ _
  have hb' : By l0 := fun x hx => wf_u8 (hb x hx)
  unfold crosswaylaw09_ScanReads.f
  by_cases q0 : 3000 < l0.length
  · exact ⟨0, if_pos q0⟩
  by_cases q1 : 100 < l1.length
  · exact ⟨0, by rw [if_neg q0, if_pos q1]⟩
  obtain ⟨K, hK⟩ := run_ev l1 0 l0 hb' (by omega)
  obtain ⟨K2, h2⟩ := same_ev l0 l0 (by omega)
  have h2' : crosswayref00_SameBytes.f (max K K2) l0 l0 = _ := h2 (max K K2) (by omega)
  refine ⟨max K K2, ?_⟩
  rw [if_neg q0, if_neg q1, if_pos ⟨copy_eq l0 (by omega), h2'.trans (by simp), hK _ (by omega)⟩]
end Go.Proofs.Ytmhmmmkpijbbiaa.Pure
