/-
  No cell of these rows narrows 'for every input' (looked for: loops, veiled, ifaces, maps, wideKeys, modest, calm, conditions, laid).
  DERIVED. THE GIVEN ROWS OF THIS SEAT. 2 by the template 'for every input the law returns true; each argument reads behind the call as it read before'; 0 by the template 'total and deterministic' (their statements: YtblllcmdnmjghaaTotals.lean).
  GIVEN WITH THE SEED: the statements are not yours to turn. If you find one false, say at which input.
  Laid BY PROGRAM, IN A SANDBOX (cutbox-rows.mjs): the forced cells as the released guide's own fill.sh prints them over the translation 3b7b34c317478af0… (all of the seat's roots in one cut). By AI agents, Wed Nov 11 2026. No macro, syntax, notation, axiom, sorry.
-/
import Derived.Test.YtblllcmdnmjghaaChecked
import GoSem.Claim
import GoSem.ClaimJoined
import GoSem.ClaimMapViews
import Derived.JoinedTies
import Derived.KernelRfl
namespace Go.Proofs.Ytblllcmdnmjghaa
/- THE CELL 'sum', in the pinned program and in every row, IS THE sha256 OF THE DUMP (.gsa) THAT YtblllcmdnmjghaaProg.lean LOADS. Nothing in Lean hashes anything: it is a label: what it is worth is what the hold of that sum in a sandbox is worth. -/
noncomputable def Try.pinned : Pinned := { name := "ytblllcmdnmjghaa", sum := "3b7b34c317478af09d3d20c5a5c3a87fea1d612d9f6179a93e73ba9a1d7e5b55", checked := Try.checked }
namespace Rows
def none {H : Type} : Left H := { results := [], args := [] }

/-- 'crosswaylaw04.PolyAnswers': WHATEVER THE INPUT: true; the input reads as it did. -/
def polyAnswersSpec : ChangeSpec := { name := "polyAnswers", fn := fun _ => fun
  | [d1, d2, d3] => { results := [.lit (.bool true)], args := [d1, d2, d3] }
  | _ => none }
def polyAnswersRow : OpenClaim := { program := "ytblllcmdnmjghaa", sum := "3b7b34c317478af09d3d20c5a5c3a87fea1d612d9f6179a93e73ba9a1d7e5b55", func := "crossway/crosswaylaw04.PolyAnswers", spec := "polyAnswers", unfollowed := true, recurses := true, apart := false }
def PolyAnswersSaid : Prop := polyAnswersRow.holds Try.pinned (OpenSpec.ofChange polyAnswersSpec)

/-- ITS FALSE NEIGHBOUR: 'it returns false'. Refute it at one input. -/
def polyAnswersWrong : ChangeSpec := { name := "polyAnswers", fn := fun _ => fun
  | [d1, d2, d3] => { results := [.lit (.bool false)], args := [d1, d2, d3] }
  | _ => none }
def PolyAnswersWrongFalsely : Prop := polyAnswersRow.holds Try.pinned (OpenSpec.ofChange polyAnswersWrong)

/-- 'crosswaylaw04.PolyBytes': WHATEVER THE INPUT: true; the input reads as it did. -/
def polyBytesSpec : ChangeSpec := { name := "polyBytes", fn := fun _ => fun
  | [d1, d2, d3] => { results := [.lit (.bool true)], args := [d1, d2, d3] }
  | _ => none }
def polyBytesRow : OpenClaim := { program := "ytblllcmdnmjghaa", sum := "3b7b34c317478af09d3d20c5a5c3a87fea1d612d9f6179a93e73ba9a1d7e5b55", func := "crossway/crosswaylaw04.PolyBytes", spec := "polyBytes", unfollowed := true, recurses := true, apart := false }
def PolyBytesSaid : Prop := polyBytesRow.holds Try.pinned (OpenSpec.ofChange polyBytesSpec)

/-- ITS FALSE NEIGHBOUR: 'it returns false'. Refute it at one input. -/
def polyBytesWrong : ChangeSpec := { name := "polyBytes", fn := fun _ => fun
  | [d1, d2, d3] => { results := [.lit (.bool false)], args := [d1, d2, d3] }
  | _ => none }
def PolyBytesWrongFalsely : Prop := polyBytesRow.holds Try.pinned (OpenSpec.ofChange polyBytesWrong)

/- THE SECOND FORM. 'bulk': how many values and letters a reading holds, each counted each time it is reached (what is shared counts as often as it is met; a slice's spare places count too). A statement '..UptoSaid' is the law's where the arguments, and the package variables that the reading takes, are together of bulk at most 1048576: NARROWER than '..Said'. Prove '..Said' where nothing that the law and all that it calls make is longer than what came in: it says more and counts as full. Else prove '..UptoSaid'. A law counts once. -/
mutual
def uptoBulk {H : Type} : DataW H → Nat
  | .lit (.string bytes) => bytes.length + 1
  | .lit _ => 1
  | .nil => 1
  | .ptr d => uptoBulk d + 1
  | .slice elems spare => uptoBulkAll elems + uptoBulkAll spare + 1
  | .agg parts => uptoBulkAll parts + 1
  | .iface _ d => uptoBulk d + 1
  | .map entries => uptoBulkEntries entries + 1
  | .held _ => 1
def uptoBulkAll {H : Type} : List (DataW H) → Nat
  | [] => 0
  | d :: r => uptoBulk d + uptoBulkAll r
def uptoBulkEntries {H : Type} : List (Lit × DataW H) → Nat
  | [] => 0
  | x :: r => uptoBulkEntry x + uptoBulkEntries r
def uptoBulkEntry {H : Type} : Lit × DataW H → Nat
  | (.string bytes, d) => bytes.length + uptoBulk d + 1
  | (_, d) => uptoBulk d + 1
 end
def uptoSmall : (H : Type) → List (DataW H) → Bool := fun _ ds => decide (uptoBulkAll ds ≤ 1048576)
def OpenSpec.upto (s : _root_.Go.ChangeSpec) : _root_.Go.OpenSpec := { _root_.Go.OpenSpec.ofChange s with cond := some uptoSmall }

/-- 'crosswaylaw04.PolyAnswers', WHERE WHAT IT READS IS OF BULK AT MOST 1048576: true; the input reads as it did. -/
def polyAnswersUptoRow : OpenClaim := { program := "ytblllcmdnmjghaa", sum := "3b7b34c317478af09d3d20c5a5c3a87fea1d612d9f6179a93e73ba9a1d7e5b55", func := "crossway/crosswaylaw04.PolyAnswers", spec := "polyAnswers", unfollowed := true, recurses := true, apart := false, narrowed := true }
def PolyAnswersUptoSaid : Prop := polyAnswersUptoRow.holds Try.pinned (OpenSpec.upto polyAnswersSpec)

/-- 'crosswaylaw04.PolyBytes', WHERE WHAT IT READS IS OF BULK AT MOST 1048576: true; the input reads as it did. -/
def polyBytesUptoRow : OpenClaim := { program := "ytblllcmdnmjghaa", sum := "3b7b34c317478af09d3d20c5a5c3a87fea1d612d9f6179a93e73ba9a1d7e5b55", func := "crossway/crosswaylaw04.PolyBytes", spec := "polyBytes", unfollowed := true, recurses := true, apart := false, narrowed := true }
def PolyBytesUptoSaid : Prop := polyBytesUptoRow.holds Try.pinned (OpenSpec.upto polyBytesSpec)

end Rows
end Go.Proofs.Ytblllcmdnmjghaa
