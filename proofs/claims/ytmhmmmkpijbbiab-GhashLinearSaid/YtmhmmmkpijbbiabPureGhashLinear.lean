/- The plain statement of GhashLinear: products with the key are those of parts together. The walk has shown it for all elements and bytes. -/
import Derived.Test.YtmhmmmkpijbbiabM7
namespace Go.Proofs.Ytmhmmmkpijbbiab.Pure
open Go.RowKit Go.Proofs.YtmhmmmkpijbbiabW.PrintWords Go.Proofs.YtmhmmmkpijbbiabW.PrintMore Go.Proofs.Ytmhmmmkpijbbiab.M Go.Proofs.Ytmhmmmkpijbbiab.Bv
theorem GhashLinear : crosswaylaw05_GhashLinear.Pure := by
  intro l0 a1_0 a1_1 a2_0 a2_1 l3 l4 hm0 hw0 v1_0 v1_1 v2_0 v2_1 hm3 hw3 hm4 hw4
  have q0 := (Gh.byteL_iff l0).2 (fun x hx => wf_u8 (hw0 x hx))
  have q1 := (Gh.fineB_iff a1_0 a1_1).2 ⟨wf_u64 v1_0, wf_u64 v1_1⟩
  have q2 := (Gh.fineB_iff a2_0 a2_1).2 ⟨wf_u64 v2_0, wf_u64 v2_1⟩
  have q3 := (Gh.byteL_iff l3).2 (fun x hx => wf_u8 (hw3 x hx))
  have q4 := (Gh.byteL_iff l4).2 (fun x hx => wf_u8 (hw4 x hx))
  refine ⟨0, ?_⟩
  unfold crosswaylaw05_GhashLinear.f
  rw [q0, q1, q2, q3, q4]
  rfl
end Go.Proofs.Ytmhmmmkpijbbiab.Pure
