/-
  No cell of these rows narrows 'for every input' (looked for: loops, veiled, ifaces, maps, wideKeys, modest, calm, conditions, laid).
  DERIVED. THE GIVEN ROWS OF THIS SEAT. 4 by the template 'for every input the law returns true; each argument reads behind the call as it read before'; 0 by the template 'total and deterministic' (their statements: YtonofmnjcocokaaTotals.lean).
  GIVEN WITH THE SEED: the statements are not yours to turn. If you find one false, say at which input.
  Laid BY PROGRAM, IN A SANDBOX (cutbox-rows.mjs): the forced cells as the released guide's own fill.sh prints them over the translation ae911e2855b9facd… (all of the seat's roots in one cut). By AI agents, Wed Nov 11 2026. No macro, syntax, notation, axiom, sorry.
-/
import Derived.Test.YtonofmnjcocokaaChecked
import GoSem.Claim
import GoSem.ClaimJoined
import GoSem.ClaimMapViews
import Derived.JoinedTies
import Derived.KernelRfl
namespace Go.Proofs.Ytonofmnjcocokaa
/- THE CELL 'sum', in the pinned program and in every row, IS THE sha256 OF THE DUMP (.gsa) THAT YtonofmnjcocokaaProg.lean LOADS. Nothing in Lean hashes anything: it is a label: what it is worth is what the hold of that sum in a sandbox is worth. -/
noncomputable def Try.pinned : Pinned := { name := "ytonofmnjcocokaa", sum := "ae911e2855b9facd761cb26a7c77f95433b0b9f10fdfe045e57ddfc96448595d", checked := Try.checked }
namespace Rows
def none {H : Type} : Left H := { results := [], args := [] }

/-- 'crosswaylaw23.RankAnswers': WHATEVER THE INPUT: true; the input reads as it did. -/
def rankAnswersSpec : ChangeSpec := { name := "rankAnswers", fn := fun _ => fun
  | [d1, d2, d3, d4] => { results := [.lit (.bool true)], args := [d1, d2, d3, d4] }
  | _ => none }
def rankAnswersRow : OpenClaim := { program := "ytonofmnjcocokaa", sum := "ae911e2855b9facd761cb26a7c77f95433b0b9f10fdfe045e57ddfc96448595d", func := "crossway/crosswaylaw23.RankAnswers", spec := "rankAnswers", unfollowed := true, recurses := true, apart := false }
def RankAnswersSaid : Prop := rankAnswersRow.holds Try.pinned (OpenSpec.ofChange rankAnswersSpec)

/-- ITS FALSE NEIGHBOUR: 'it returns false'. Refute it at one input. -/
def rankAnswersWrong : ChangeSpec := { name := "rankAnswers", fn := fun _ => fun
  | [d1, d2, d3, d4] => { results := [.lit (.bool false)], args := [d1, d2, d3, d4] }
  | _ => none }
def RankAnswersWrongFalsely : Prop := rankAnswersRow.holds Try.pinned (OpenSpec.ofChange rankAnswersWrong)

/-- 'crosswaylaw23.RankFew': WHATEVER THE INPUT: true; the input reads as it did. -/
def rankFewSpec : ChangeSpec := { name := "rankFew", fn := fun _ => fun
  | [d1, d2, d3, d4, d5] => { results := [.lit (.bool true)], args := [d1, d2, d3, d4, d5] }
  | _ => none }
def rankFewRow : OpenClaim := { program := "ytonofmnjcocokaa", sum := "ae911e2855b9facd761cb26a7c77f95433b0b9f10fdfe045e57ddfc96448595d", func := "crossway/crosswaylaw23.RankFew", spec := "rankFew", unfollowed := true, recurses := true, apart := false }
def RankFewSaid : Prop := rankFewRow.holds Try.pinned (OpenSpec.ofChange rankFewSpec)

/-- ITS FALSE NEIGHBOUR: 'it returns false'. Refute it at one input. -/
def rankFewWrong : ChangeSpec := { name := "rankFew", fn := fun _ => fun
  | [d1, d2, d3, d4, d5] => { results := [.lit (.bool false)], args := [d1, d2, d3, d4, d5] }
  | _ => none }
def RankFewWrongFalsely : Prop := rankFewRow.holds Try.pinned (OpenSpec.ofChange rankFewWrong)

/-- 'crosswaylaw23.RankTurns': WHATEVER THE INPUT: true; the input reads as it did. -/
def rankTurnsSpec : ChangeSpec := { name := "rankTurns", fn := fun _ => fun
  | [d1, d2, d3, d4] => { results := [.lit (.bool true)], args := [d1, d2, d3, d4] }
  | _ => none }
def rankTurnsRow : OpenClaim := { program := "ytonofmnjcocokaa", sum := "ae911e2855b9facd761cb26a7c77f95433b0b9f10fdfe045e57ddfc96448595d", func := "crossway/crosswaylaw23.RankTurns", spec := "rankTurns", unfollowed := true, recurses := true, apart := false }
def RankTurnsSaid : Prop := rankTurnsRow.holds Try.pinned (OpenSpec.ofChange rankTurnsSpec)

/-- ITS FALSE NEIGHBOUR: 'it returns false'. Refute it at one input. -/
def rankTurnsWrong : ChangeSpec := { name := "rankTurns", fn := fun _ => fun
  | [d1, d2, d3, d4] => { results := [.lit (.bool false)], args := [d1, d2, d3, d4] }
  | _ => none }
def RankTurnsWrongFalsely : Prop := rankTurnsRow.holds Try.pinned (OpenSpec.ofChange rankTurnsWrong)

/-- 'crosswaylaw23.RankSums': WHATEVER THE INPUT: true; the input reads as it did. -/
def rankSumsSpec : ChangeSpec := { name := "rankSums", fn := fun _ => fun
  | [d1, d2, d3] => { results := [.lit (.bool true)], args := [d1, d2, d3] }
  | _ => none }
def rankSumsRow : OpenClaim := { program := "ytonofmnjcocokaa", sum := "ae911e2855b9facd761cb26a7c77f95433b0b9f10fdfe045e57ddfc96448595d", func := "crossway/crosswaylaw23.RankSums", spec := "rankSums", unfollowed := true, recurses := true, apart := false }
def RankSumsSaid : Prop := rankSumsRow.holds Try.pinned (OpenSpec.ofChange rankSumsSpec)

/-- ITS FALSE NEIGHBOUR: 'it returns false'. Refute it at one input. -/
def rankSumsWrong : ChangeSpec := { name := "rankSums", fn := fun _ => fun
  | [d1, d2, d3] => { results := [.lit (.bool false)], args := [d1, d2, d3] }
  | _ => none }
def RankSumsWrongFalsely : Prop := rankSumsRow.holds Try.pinned (OpenSpec.ofChange rankSumsWrong)

/- THE SECOND FORM. 'bulk': how many values and letters a reading holds, each counted each time it is reached (what is shared counts as often as it is met; a slice's spare places count too). A statement '..UptoSaid' is the law's where the arguments, and the package variables that the reading takes, are together of bulk at most 1048576: NARROWER than '..Said'. Prove '..Said' where nothing that the law and all that it calls make is longer than what came in: it says more and counts as full. Else prove '..UptoSaid'. A law counts once. -/
mutual
def uptoBulk {H : Type} : DataW H → Nat
  | .lit (.string bytes) => bytes.length + 1
  | .lit _ => 1
  | .nil => 1
  | .ptr d => uptoBulk d + 1
  | .slice elems spare => uptoBulkAll elems + uptoBulkAll spare + 1
  | .agg parts => uptoBulkAll parts + 1
  | .iface _ d => uptoBulk d + 1
  | .map entries => uptoBulkEntries entries + 1
  | .held _ => 1
def uptoBulkAll {H : Type} : List (DataW H) → Nat
  | [] => 0
  | d :: r => uptoBulk d + uptoBulkAll r
def uptoBulkEntries {H : Type} : List (Lit × DataW H) → Nat
  | [] => 0
  | x :: r => uptoBulkEntry x + uptoBulkEntries r
def uptoBulkEntry {H : Type} : Lit × DataW H → Nat
  | (.string bytes, d) => bytes.length + uptoBulk d + 1
  | (_, d) => uptoBulk d + 1
 end
def uptoSmall : (H : Type) → List (DataW H) → Bool := fun _ ds => decide (uptoBulkAll ds ≤ 1048576)
def OpenSpec.upto (s : _root_.Go.ChangeSpec) : _root_.Go.OpenSpec := { _root_.Go.OpenSpec.ofChange s with cond := some uptoSmall }

/-- 'crosswaylaw23.RankAnswers', WHERE WHAT IT READS IS OF BULK AT MOST 1048576: true; the input reads as it did. -/
def rankAnswersUptoRow : OpenClaim := { program := "ytonofmnjcocokaa", sum := "ae911e2855b9facd761cb26a7c77f95433b0b9f10fdfe045e57ddfc96448595d", func := "crossway/crosswaylaw23.RankAnswers", spec := "rankAnswers", unfollowed := true, recurses := true, apart := false, narrowed := true }
def RankAnswersUptoSaid : Prop := rankAnswersUptoRow.holds Try.pinned (OpenSpec.upto rankAnswersSpec)

/-- 'crosswaylaw23.RankFew', WHERE WHAT IT READS IS OF BULK AT MOST 1048576: true; the input reads as it did. -/
def rankFewUptoRow : OpenClaim := { program := "ytonofmnjcocokaa", sum := "ae911e2855b9facd761cb26a7c77f95433b0b9f10fdfe045e57ddfc96448595d", func := "crossway/crosswaylaw23.RankFew", spec := "rankFew", unfollowed := true, recurses := true, apart := false, narrowed := true }
def RankFewUptoSaid : Prop := rankFewUptoRow.holds Try.pinned (OpenSpec.upto rankFewSpec)

/-- 'crosswaylaw23.RankTurns', WHERE WHAT IT READS IS OF BULK AT MOST 1048576: true; the input reads as it did. -/
def rankTurnsUptoRow : OpenClaim := { program := "ytonofmnjcocokaa", sum := "ae911e2855b9facd761cb26a7c77f95433b0b9f10fdfe045e57ddfc96448595d", func := "crossway/crosswaylaw23.RankTurns", spec := "rankTurns", unfollowed := true, recurses := true, apart := false, narrowed := true }
def RankTurnsUptoSaid : Prop := rankTurnsUptoRow.holds Try.pinned (OpenSpec.upto rankTurnsSpec)

/-- 'crosswaylaw23.RankSums', WHERE WHAT IT READS IS OF BULK AT MOST 1048576: true; the input reads as it did. -/
def rankSumsUptoRow : OpenClaim := { program := "ytonofmnjcocokaa", sum := "ae911e2855b9facd761cb26a7c77f95433b0b9f10fdfe045e57ddfc96448595d", func := "crossway/crosswaylaw23.RankSums", spec := "rankSums", unfollowed := true, recurses := true, apart := false, narrowed := true }
def RankSumsUptoSaid : Prop := rankSumsUptoRow.holds Try.pinned (OpenSpec.upto rankSumsSpec)

end Rows
end Go.Proofs.Ytonofmnjcocokaa
