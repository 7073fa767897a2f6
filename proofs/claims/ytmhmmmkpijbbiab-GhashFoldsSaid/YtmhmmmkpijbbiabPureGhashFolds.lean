/- The plain statement of GhashFolds: every Fold and Times. The walk has shown it for all elements and bytes. -/
import Derived.Test.YtmhmmmkpijbbiabM5
namespace Go.Proofs.Ytmhmmmkpijbbiab.Pure
open Go.RowKit Go.Proofs.YtmhmmmkpijbbiabW.PrintWords Go.Proofs.YtmhmmmkpijbbiabW.PrintMore Go.Proofs.Ytmhmmmkpijbbiab.M Go.Proofs.Ytmhmmmkpijbbiab.Bv
theorem GhashFolds : crosswaylaw05_GhashFolds.Pure := by
  intro l0 a1_0 a1_1 l2 hm0 hw0 v1_0 v1_1 hm2 hw2
  have q0 := (Gh.byteL_iff l0).2 (fun x hx => wf_u8 (hw0 x hx))
  have q1 := (Gh.fineB_iff a1_0 a1_1).2 ⟨wf_u64 v1_0, wf_u64 v1_1⟩
  have q2 := (Gh.fineL_iff l2).2 (fun x hx => ⟨wf_u64 (hw2 x hx).1, wf_u64 (hw2 x hx).2.1⟩)
  refine ⟨0, ?_⟩
  unfold crosswaylaw05_GhashFolds.f
  rw [q0, q1, q2]
  rfl
end Go.Proofs.Ytmhmmmkpijbbiab.Pure
