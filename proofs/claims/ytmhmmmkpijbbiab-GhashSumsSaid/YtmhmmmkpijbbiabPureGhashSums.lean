/- The plain statement of GhashSums: every New, Sum and Blocks. The walk has shown it for all elements and bytes. -/
import Derived.Test.YtmhmmmkpijbbiabM4
namespace Go.Proofs.Ytmhmmmkpijbbiab.Pure
open Go.RowKit Go.Proofs.YtmhmmmkpijbbiabW.PrintWords Go.Proofs.YtmhmmmkpijbbiabW.PrintMore Go.Proofs.Ytmhmmmkpijbbiab.M Go.Proofs.Ytmhmmmkpijbbiab.Bv
theorem GhashSums : crosswaylaw05_GhashSums.Pure := by
  intro l0 l1 l2 hm0 hw0 hm1 hw1 hm2 hw2
  have q0 := (Gh.byteL_iff l0).2 (fun x hx => wf_u8 (hw0 x hx))
  have q1 := (Gh.byteL_iff l1).2 (fun x hx => wf_u8 (hw1 x hx))
  have q2 := (Gh.byteL_iff l2).2 (fun x hx => wf_u8 (hw2 x hx))
  refine ⟨0, ?_⟩
  unfold crosswaylaw05_GhashSums.f
  rw [q0, q1, q2]
  rfl
end Go.Proofs.Ytmhmmmkpijbbiab.Pure
