/-
  No cell of these rows narrows 'for every input' (looked for: loops, veiled, ifaces, maps, wideKeys, modest, calm, conditions, laid).
  DERIVED. THE GIVEN ROWS OF THIS SEAT. 4 by the template 'for every input the law returns true; each argument reads behind the call as it read before'; 0 by the template 'total and deterministic' (their statements: YtmhmmmkpijbbiaaTotals.lean).
  GIVEN WITH THE SEED: the statements are not yours to turn. If you find one false, say at which input.
  Laid BY PROGRAM, IN A SANDBOX (cutbox-rows.mjs): the forced cells as the released guide's own fill.sh prints them over the translation 372c55d15e85e146… (all of the seat's roots in one cut). By AI agents, Wed Nov 11 2026. No macro, syntax, notation, axiom, sorry.
-/
import Derived.Test.YtmhmmmkpijbbiaaChecked
import GoSem.Claim
import GoSem.ClaimJoined
import GoSem.ClaimMapViews
import Derived.JoinedTies
import Derived.KernelRfl
namespace Go.Proofs.Ytmhmmmkpijbbiaa
/- THE CELL 'sum', in the pinned program and in every row, IS THE sha256 OF THE DUMP (.gsa) THAT YtmhmmmkpijbbiaaProg.lean LOADS. Nothing in Lean hashes anything: it is a label: what it is worth is what the hold of that sum in a sandbox is worth. -/
noncomputable def Try.pinned : Pinned := { name := "ytmhmmmkpijbbiaa", sum := "372c55d15e85e146d457128aa3eaf0fdc36567f371d514886a1523c59412a7bc", checked := Try.checked }
namespace Rows
def none {H : Type} : Left H := { results := [], args := [] }

/-- 'crosswaylaw09.ScanWrites': WHATEVER THE INPUT: true; the input reads as it did. -/
def scanWritesSpec : ChangeSpec := { name := "scanWrites", fn := fun _ => fun
  | [d] => { results := [.lit (.bool true)], args := [d] }
  | _ => none }
def scanWritesRow : OpenClaim := { program := "ytmhmmmkpijbbiaa", sum := "372c55d15e85e146d457128aa3eaf0fdc36567f371d514886a1523c59412a7bc", func := "crossway/crosswaylaw09.ScanWrites", spec := "scanWrites", unfollowed := true, recurses := true, apart := false }
def ScanWritesSaid : Prop := scanWritesRow.holds Try.pinned (OpenSpec.ofChange scanWritesSpec)

/-- ITS FALSE NEIGHBOUR: 'it returns false'. Refute it at one input. -/
def scanWritesWrong : ChangeSpec := { name := "scanWrites", fn := fun _ => fun
  | [d] => { results := [.lit (.bool false)], args := [d] }
  | _ => none }
def ScanWritesWrongFalsely : Prop := scanWritesRow.holds Try.pinned (OpenSpec.ofChange scanWritesWrong)

/-- 'crosswaylaw09.ScanReads': WHATEVER THE INPUT: true; the input reads as it did. -/
def scanReadsSpec : ChangeSpec := { name := "scanReads", fn := fun _ => fun
  | [d1, d2] => { results := [.lit (.bool true)], args := [d1, d2] }
  | _ => none }
def scanReadsRow : OpenClaim := { program := "ytmhmmmkpijbbiaa", sum := "372c55d15e85e146d457128aa3eaf0fdc36567f371d514886a1523c59412a7bc", func := "crossway/crosswaylaw09.ScanReads", spec := "scanReads", unfollowed := true, recurses := true, apart := false }
def ScanReadsSaid : Prop := scanReadsRow.holds Try.pinned (OpenSpec.ofChange scanReadsSpec)

/-- ITS FALSE NEIGHBOUR: 'it returns false'. Refute it at one input. -/
def scanReadsWrong : ChangeSpec := { name := "scanReads", fn := fun _ => fun
  | [d1, d2] => { results := [.lit (.bool false)], args := [d1, d2] }
  | _ => none }
def ScanReadsWrongFalsely : Prop := scanReadsRow.holds Try.pinned (OpenSpec.ofChange scanReadsWrong)

/-- 'crosswaylaw09.ScanBack': WHATEVER THE INPUT: true; the input reads as it did. -/
def scanBackSpec : ChangeSpec := { name := "scanBack", fn := fun _ => fun
  | [d1, d2] => { results := [.lit (.bool true)], args := [d1, d2] }
  | _ => none }
def scanBackRow : OpenClaim := { program := "ytmhmmmkpijbbiaa", sum := "372c55d15e85e146d457128aa3eaf0fdc36567f371d514886a1523c59412a7bc", func := "crossway/crosswaylaw09.ScanBack", spec := "scanBack", unfollowed := true, recurses := true, apart := false }
def ScanBackSaid : Prop := scanBackRow.holds Try.pinned (OpenSpec.ofChange scanBackSpec)

/-- ITS FALSE NEIGHBOUR: 'it returns false'. Refute it at one input. -/
def scanBackWrong : ChangeSpec := { name := "scanBack", fn := fun _ => fun
  | [d1, d2] => { results := [.lit (.bool false)], args := [d1, d2] }
  | _ => none }
def ScanBackWrongFalsely : Prop := scanBackRow.holds Try.pinned (OpenSpec.ofChange scanBackWrong)

/-- 'crosswaylaw09.ScanStays': WHATEVER THE INPUT: true; the input reads as it did. -/
def scanStaysSpec : ChangeSpec := { name := "scanStays", fn := fun _ => fun
  | [d1, d2, d3] => { results := [.lit (.bool true)], args := [d1, d2, d3] }
  | _ => none }
def scanStaysRow : OpenClaim := { program := "ytmhmmmkpijbbiaa", sum := "372c55d15e85e146d457128aa3eaf0fdc36567f371d514886a1523c59412a7bc", func := "crossway/crosswaylaw09.ScanStays", spec := "scanStays", unfollowed := true, recurses := true, apart := false }
def ScanStaysSaid : Prop := scanStaysRow.holds Try.pinned (OpenSpec.ofChange scanStaysSpec)

/-- ITS FALSE NEIGHBOUR: 'it returns false'. Refute it at one input. -/
def scanStaysWrong : ChangeSpec := { name := "scanStays", fn := fun _ => fun
  | [d1, d2, d3] => { results := [.lit (.bool false)], args := [d1, d2, d3] }
  | _ => none }
def ScanStaysWrongFalsely : Prop := scanStaysRow.holds Try.pinned (OpenSpec.ofChange scanStaysWrong)

/- THE SECOND FORM. 'bulk': how many values and letters a reading holds, each counted each time it is reached (what is shared counts as often as it is met; a slice's spare places count too). A statement '..UptoSaid' is the law's where the arguments, and the package variables that the reading takes, are together of bulk at most 1048576: NARROWER than '..Said'. Prove '..Said' where nothing that the law and all that it calls make is longer than what came in: it says more and counts as full. Else prove '..UptoSaid'. A law counts once. -/
mutual
def uptoBulk {H : Type} : DataW H → Nat
  | .lit (.string bytes) => bytes.length + 1
  | .lit _ => 1
  | .nil => 1
  | .ptr d => uptoBulk d + 1
  | .slice elems spare => uptoBulkAll elems + uptoBulkAll spare + 1
  | .agg parts => uptoBulkAll parts + 1
  | .iface _ d => uptoBulk d + 1
  | .map entries => uptoBulkEntries entries + 1
  | .held _ => 1
def uptoBulkAll {H : Type} : List (DataW H) → Nat
  | [] => 0
  | d :: r => uptoBulk d + uptoBulkAll r
def uptoBulkEntries {H : Type} : List (Lit × DataW H) → Nat
  | [] => 0
  | x :: r => uptoBulkEntry x + uptoBulkEntries r
def uptoBulkEntry {H : Type} : Lit × DataW H → Nat
  | (.string bytes, d) => bytes.length + uptoBulk d + 1
  | (_, d) => uptoBulk d + 1
 end
def uptoSmall : (H : Type) → List (DataW H) → Bool := fun _ ds => decide (uptoBulkAll ds ≤ 1048576)
def OpenSpec.upto (s : _root_.Go.ChangeSpec) : _root_.Go.OpenSpec := { _root_.Go.OpenSpec.ofChange s with cond := some uptoSmall }

/-- 'crosswaylaw09.ScanWrites', WHERE WHAT IT READS IS OF BULK AT MOST 1048576: true; the input reads as it did. -/
def scanWritesUptoRow : OpenClaim := { program := "ytmhmmmkpijbbiaa", sum := "372c55d15e85e146d457128aa3eaf0fdc36567f371d514886a1523c59412a7bc", func := "crossway/crosswaylaw09.ScanWrites", spec := "scanWrites", unfollowed := true, recurses := true, apart := false, narrowed := true }
def ScanWritesUptoSaid : Prop := scanWritesUptoRow.holds Try.pinned (OpenSpec.upto scanWritesSpec)

/-- 'crosswaylaw09.ScanReads', WHERE WHAT IT READS IS OF BULK AT MOST 1048576: true; the input reads as it did. -/
def scanReadsUptoRow : OpenClaim := { program := "ytmhmmmkpijbbiaa", sum := "372c55d15e85e146d457128aa3eaf0fdc36567f371d514886a1523c59412a7bc", func := "crossway/crosswaylaw09.ScanReads", spec := "scanReads", unfollowed := true, recurses := true, apart := false, narrowed := true }
def ScanReadsUptoSaid : Prop := scanReadsUptoRow.holds Try.pinned (OpenSpec.upto scanReadsSpec)

/-- 'crosswaylaw09.ScanBack', WHERE WHAT IT READS IS OF BULK AT MOST 1048576: true; the input reads as it did. -/
def scanBackUptoRow : OpenClaim := { program := "ytmhmmmkpijbbiaa", sum := "372c55d15e85e146d457128aa3eaf0fdc36567f371d514886a1523c59412a7bc", func := "crossway/crosswaylaw09.ScanBack", spec := "scanBack", unfollowed := true, recurses := true, apart := false, narrowed := true }
def ScanBackUptoSaid : Prop := scanBackUptoRow.holds Try.pinned (OpenSpec.upto scanBackSpec)

/-- 'crosswaylaw09.ScanStays', WHERE WHAT IT READS IS OF BULK AT MOST 1048576: true; the input reads as it did. -/
def scanStaysUptoRow : OpenClaim := { program := "ytmhmmmkpijbbiaa", sum := "372c55d15e85e146d457128aa3eaf0fdc36567f371d514886a1523c59412a7bc", func := "crossway/crosswaylaw09.ScanStays", spec := "scanStays", unfollowed := true, recurses := true, apart := false, narrowed := true }
def ScanStaysUptoSaid : Prop := scanStaysUptoRow.holds Try.pinned (OpenSpec.upto scanStaysSpec)

end Rows
end Go.Proofs.Ytmhmmmkpijbbiaa
