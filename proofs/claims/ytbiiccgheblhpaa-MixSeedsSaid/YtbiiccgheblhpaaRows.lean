/-
  No cell of these rows narrows 'for every input' (looked for: loops, veiled, ifaces, maps, wideKeys, modest, calm, conditions, laid).
  DERIVED. THE GIVEN ROWS OF THIS SEAT. 4 by the template 'for every input the law returns true; each argument reads behind the call as it read before'; 0 by the template 'total and deterministic' (their statements: YtbiiccgheblhpaaTotals.lean).
  GIVEN WITH THE SEED: the statements are not yours to turn. If you find one false, say at which input.
  Laid BY PROGRAM, IN A SANDBOX (cutbox-rows.mjs): the forced cells as the released guide's own fill.sh prints them over the translation 74db055cba3d1f4a… (all of the seat's roots in one cut). By AI agents, Wed Nov 11 2026. No macro, syntax, notation, axiom, sorry.
-/
import Derived.Test.YtbiiccgheblhpaaChecked
import GoSem.Claim
import GoSem.ClaimJoined
import GoSem.ClaimMapViews
import Derived.JoinedTies
import Derived.KernelRfl
namespace Go.Proofs.Ytbiiccgheblhpaa
/- THE CELL 'sum', in the pinned program and in every row, IS THE sha256 OF THE DUMP (.gsa) THAT YtbiiccgheblhpaaProg.lean LOADS. Nothing in Lean hashes anything: it is a label: what it is worth is what the hold of that sum in a sandbox is worth. -/
noncomputable def Try.pinned : Pinned := { name := "ytbiiccgheblhpaa", sum := "74db055cba3d1f4a85b765654decc4546175fb8c9854502e35317419fc776080", checked := Try.checked }
namespace Rows
def none {H : Type} : Left H := { results := [], args := [] }

/-- 'crosswaylaw22.MixAnswers': WHATEVER THE INPUT: true; the input reads as it did. -/
def mixAnswersSpec : ChangeSpec := { name := "mixAnswers", fn := fun _ => fun
  | [d1, d2, d3, d4] => { results := [.lit (.bool true)], args := [d1, d2, d3, d4] }
  | _ => none }
def mixAnswersRow : OpenClaim := { program := "ytbiiccgheblhpaa", sum := "74db055cba3d1f4a85b765654decc4546175fb8c9854502e35317419fc776080", func := "crossway/crosswaylaw22.MixAnswers", spec := "mixAnswers", apart := false }
def MixAnswersSaid : Prop := mixAnswersRow.holds Try.pinned (OpenSpec.ofChange mixAnswersSpec)

/-- ITS FALSE NEIGHBOUR: 'it returns false'. Refute it at one input. -/
def mixAnswersWrong : ChangeSpec := { name := "mixAnswers", fn := fun _ => fun
  | [d1, d2, d3, d4] => { results := [.lit (.bool false)], args := [d1, d2, d3, d4] }
  | _ => none }
def MixAnswersWrongFalsely : Prop := mixAnswersRow.holds Try.pinned (OpenSpec.ofChange mixAnswersWrong)

/-- 'crosswaylaw22.MixApart': WHATEVER THE INPUT: true; the input reads as it did. -/
def mixApartSpec : ChangeSpec := { name := "mixApart", fn := fun _ => fun
  | [d1, d2, d3, d4] => { results := [.lit (.bool true)], args := [d1, d2, d3, d4] }
  | _ => none }
def mixApartRow : OpenClaim := { program := "ytbiiccgheblhpaa", sum := "74db055cba3d1f4a85b765654decc4546175fb8c9854502e35317419fc776080", func := "crossway/crosswaylaw22.MixApart", spec := "mixApart", apart := false }
def MixApartSaid : Prop := mixApartRow.holds Try.pinned (OpenSpec.ofChange mixApartSpec)

/-- ITS FALSE NEIGHBOUR: 'it returns false'. Refute it at one input. -/
def mixApartWrong : ChangeSpec := { name := "mixApart", fn := fun _ => fun
  | [d1, d2, d3, d4] => { results := [.lit (.bool false)], args := [d1, d2, d3, d4] }
  | _ => none }
def MixApartWrongFalsely : Prop := mixApartRow.holds Try.pinned (OpenSpec.ofChange mixApartWrong)

/-- 'crosswaylaw22.MixParts': WHATEVER THE INPUT: true; the input reads as it did. -/
def mixPartsSpec : ChangeSpec := { name := "mixParts", fn := fun _ => fun
  | [d1, d2, d3] => { results := [.lit (.bool true)], args := [d1, d2, d3] }
  | _ => none }
def mixPartsRow : OpenClaim := { program := "ytbiiccgheblhpaa", sum := "74db055cba3d1f4a85b765654decc4546175fb8c9854502e35317419fc776080", func := "crossway/crosswaylaw22.MixParts", spec := "mixParts", unfollowed := true, recurses := true, apart := false }
def MixPartsSaid : Prop := mixPartsRow.holds Try.pinned (OpenSpec.ofChange mixPartsSpec)

/-- ITS FALSE NEIGHBOUR: 'it returns false'. Refute it at one input. -/
def mixPartsWrong : ChangeSpec := { name := "mixParts", fn := fun _ => fun
  | [d1, d2, d3] => { results := [.lit (.bool false)], args := [d1, d2, d3] }
  | _ => none }
def MixPartsWrongFalsely : Prop := mixPartsRow.holds Try.pinned (OpenSpec.ofChange mixPartsWrong)

/-- 'crosswaylaw22.MixSeeds': WHATEVER THE INPUT: true; the input reads as it did. -/
def mixSeedsSpec : ChangeSpec := { name := "mixSeeds", fn := fun _ => fun
  | [d1, d2, d3, d4, d5] => { results := [.lit (.bool true)], args := [d1, d2, d3, d4, d5] }
  | _ => none }
def mixSeedsRow : OpenClaim := { program := "ytbiiccgheblhpaa", sum := "74db055cba3d1f4a85b765654decc4546175fb8c9854502e35317419fc776080", func := "crossway/crosswaylaw22.MixSeeds", spec := "mixSeeds", apart := false }
def MixSeedsSaid : Prop := mixSeedsRow.holds Try.pinned (OpenSpec.ofChange mixSeedsSpec)

/-- ITS FALSE NEIGHBOUR: 'it returns false'. Refute it at one input. -/
def mixSeedsWrong : ChangeSpec := { name := "mixSeeds", fn := fun _ => fun
  | [d1, d2, d3, d4, d5] => { results := [.lit (.bool false)], args := [d1, d2, d3, d4, d5] }
  | _ => none }
def MixSeedsWrongFalsely : Prop := mixSeedsRow.holds Try.pinned (OpenSpec.ofChange mixSeedsWrong)

/- THE SECOND FORM. 'bulk': how many values and letters a reading holds, each counted each time it is reached (what is shared counts as often as it is met; a slice's spare places count too). A statement '..UptoSaid' is the law's where the arguments, and the package variables that the reading takes, are together of bulk at most 1048576: NARROWER than '..Said'. Prove '..Said' where nothing that the law and all that it calls make is longer than what came in: it says more and counts as full. Else prove '..UptoSaid'. A law counts once. -/
mutual
def uptoBulk {H : Type} : DataW H → Nat
  | .lit (.string bytes) => bytes.length + 1
  | .lit _ => 1
  | .nil => 1
  | .ptr d => uptoBulk d + 1
  | .slice elems spare => uptoBulkAll elems + uptoBulkAll spare + 1
  | .agg parts => uptoBulkAll parts + 1
  | .iface _ d => uptoBulk d + 1
  | .map entries => uptoBulkEntries entries + 1
  | .held _ => 1
def uptoBulkAll {H : Type} : List (DataW H) → Nat
  | [] => 0
  | d :: r => uptoBulk d + uptoBulkAll r
def uptoBulkEntries {H : Type} : List (Lit × DataW H) → Nat
  | [] => 0
  | x :: r => uptoBulkEntry x + uptoBulkEntries r
def uptoBulkEntry {H : Type} : Lit × DataW H → Nat
  | (.string bytes, d) => bytes.length + uptoBulk d + 1
  | (_, d) => uptoBulk d + 1
 end
def uptoSmall : (H : Type) → List (DataW H) → Bool := fun _ ds => decide (uptoBulkAll ds ≤ 1048576)
def OpenSpec.upto (s : _root_.Go.ChangeSpec) : _root_.Go.OpenSpec := { _root_.Go.OpenSpec.ofChange s with cond := some uptoSmall }

/-- 'crosswaylaw22.MixAnswers', WHERE WHAT IT READS IS OF BULK AT MOST 1048576: true; the input reads as it did. -/
def mixAnswersUptoRow : OpenClaim := { program := "ytbiiccgheblhpaa", sum := "74db055cba3d1f4a85b765654decc4546175fb8c9854502e35317419fc776080", func := "crossway/crosswaylaw22.MixAnswers", spec := "mixAnswers", apart := false, narrowed := true }
def MixAnswersUptoSaid : Prop := mixAnswersUptoRow.holds Try.pinned (OpenSpec.upto mixAnswersSpec)

/-- 'crosswaylaw22.MixApart', WHERE WHAT IT READS IS OF BULK AT MOST 1048576: true; the input reads as it did. -/
def mixApartUptoRow : OpenClaim := { program := "ytbiiccgheblhpaa", sum := "74db055cba3d1f4a85b765654decc4546175fb8c9854502e35317419fc776080", func := "crossway/crosswaylaw22.MixApart", spec := "mixApart", apart := false, narrowed := true }
def MixApartUptoSaid : Prop := mixApartUptoRow.holds Try.pinned (OpenSpec.upto mixApartSpec)

/-- 'crosswaylaw22.MixParts', WHERE WHAT IT READS IS OF BULK AT MOST 1048576: true; the input reads as it did. -/
def mixPartsUptoRow : OpenClaim := { program := "ytbiiccgheblhpaa", sum := "74db055cba3d1f4a85b765654decc4546175fb8c9854502e35317419fc776080", func := "crossway/crosswaylaw22.MixParts", spec := "mixParts", unfollowed := true, recurses := true, apart := false, narrowed := true }
def MixPartsUptoSaid : Prop := mixPartsUptoRow.holds Try.pinned (OpenSpec.upto mixPartsSpec)

/-- 'crosswaylaw22.MixSeeds', WHERE WHAT IT READS IS OF BULK AT MOST 1048576: true; the input reads as it did. -/
def mixSeedsUptoRow : OpenClaim := { program := "ytbiiccgheblhpaa", sum := "74db055cba3d1f4a85b765654decc4546175fb8c9854502e35317419fc776080", func := "crossway/crosswaylaw22.MixSeeds", spec := "mixSeeds", apart := false, narrowed := true }
def MixSeedsUptoSaid : Prop := mixSeedsUptoRow.holds Try.pinned (OpenSpec.upto mixSeedsSpec)

end Rows
end Go.Proofs.Ytbiiccgheblhpaa
