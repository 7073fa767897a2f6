/-
  No cell of these rows narrows 'for every input' (looked for: loops, veiled, ifaces, maps, wideKeys, modest, calm, conditions, laid).
  DERIVED. THE GIVEN ROWS OF THIS SEAT. 3 by the template 'for every input the law returns true; each argument reads behind the call as it read before'; 0 by the template 'total and deterministic' (their statements: YtmhmmmkpijbbiadTotals.lean).
  GIVEN WITH THE SEED: the statements are not yours to turn. If you find one false, say at which input.
  Laid BY PROGRAM, IN A SANDBOX (cutbox-rows.mjs): the forced cells as the released guide's own fill.sh prints them over the translation 349e4dae1ad142bd… (all of the seat's roots in one cut). By AI agents, Wed Nov 11 2026. No macro, syntax, notation, axiom, sorry.
-/
import Derived.Test.YtmhmmmkpijbbiadChecked
import GoSem.Claim
import GoSem.ClaimJoined
import GoSem.ClaimMapViews
import Derived.JoinedTies
import Derived.KernelRfl
namespace Go.Proofs.Ytmhmmmkpijbbiad
/- THE CELL 'sum', in the pinned program and in every row, IS THE sha256 OF THE DUMP (.gsa) THAT YtmhmmmkpijbbiadProg.lean LOADS. Nothing in Lean hashes anything: it is a label: what it is worth is what the hold of that sum in a sandbox is worth. -/
noncomputable def Try.pinned : Pinned := { name := "ytmhmmmkpijbbiad", sum := "349e4dae1ad142bd7a88e479e474c66ce2698b28c3726b80a58f2cd8ad361b75", checked := Try.checked }
namespace Rows
def none {H : Type} : Left H := { results := [], args := [] }

/-- 'crosswaylaw11.InitialParses': WHATEVER THE INPUT: true; the input reads as it did. -/
def initialParsesSpec : ChangeSpec := { name := "initialParses", fn := fun _ => fun
  | [d1, d2] => { results := [.lit (.bool true)], args := [d1, d2] }
  | _ => none }
def initialParsesRow : OpenClaim := { program := "ytmhmmmkpijbbiad", sum := "349e4dae1ad142bd7a88e479e474c66ce2698b28c3726b80a58f2cd8ad361b75", func := "crossway/crosswaylaw11.InitialParses", spec := "initialParses", unfollowed := true, recurses := true, apart := false }
def InitialParsesSaid : Prop := initialParsesRow.holds Try.pinned (OpenSpec.ofChange initialParsesSpec)

/-- ITS FALSE NEIGHBOUR: 'it returns false'. Refute it at one input. -/
def initialParsesWrong : ChangeSpec := { name := "initialParses", fn := fun _ => fun
  | [d1, d2] => { results := [.lit (.bool false)], args := [d1, d2] }
  | _ => none }
def InitialParsesWrongFalsely : Prop := initialParsesRow.holds Try.pinned (OpenSpec.ofChange initialParsesWrong)

/-- 'crosswaylaw11.InitialBack': WHATEVER THE INPUT: true; the input reads as it did. -/
def initialBackSpec : ChangeSpec := { name := "initialBack", fn := fun _ => fun
  | [d1, d2, d3, d4, d5] => { results := [.lit (.bool true)], args := [d1, d2, d3, d4, d5] }
  | _ => none }
def initialBackRow : OpenClaim := { program := "ytmhmmmkpijbbiad", sum := "349e4dae1ad142bd7a88e479e474c66ce2698b28c3726b80a58f2cd8ad361b75", func := "crossway/crosswaylaw11.InitialBack", spec := "initialBack", unfollowed := true, recurses := true, apart := false }
def InitialBackSaid : Prop := initialBackRow.holds Try.pinned (OpenSpec.ofChange initialBackSpec)

/-- ITS FALSE NEIGHBOUR: 'it returns false'. Refute it at one input. -/
def initialBackWrong : ChangeSpec := { name := "initialBack", fn := fun _ => fun
  | [d1, d2, d3, d4, d5] => { results := [.lit (.bool false)], args := [d1, d2, d3, d4, d5] }
  | _ => none }
def InitialBackWrongFalsely : Prop := initialBackRow.holds Try.pinned (OpenSpec.ofChange initialBackWrong)

/-- 'crosswaylaw11.InitialTypes': WHATEVER THE INPUT: true; the input reads as it did. -/
def initialTypesSpec : ChangeSpec := { name := "initialTypes", fn := fun _ => fun
  | [d1, d2, d3, d4, d5] => { results := [.lit (.bool true)], args := [d1, d2, d3, d4, d5] }
  | _ => none }
def initialTypesRow : OpenClaim := { program := "ytmhmmmkpijbbiad", sum := "349e4dae1ad142bd7a88e479e474c66ce2698b28c3726b80a58f2cd8ad361b75", func := "crossway/crosswaylaw11.InitialTypes", spec := "initialTypes", unfollowed := true, recurses := true, apart := false }
def InitialTypesSaid : Prop := initialTypesRow.holds Try.pinned (OpenSpec.ofChange initialTypesSpec)

/-- ITS FALSE NEIGHBOUR: 'it returns false'. Refute it at one input. -/
def initialTypesWrong : ChangeSpec := { name := "initialTypes", fn := fun _ => fun
  | [d1, d2, d3, d4, d5] => { results := [.lit (.bool false)], args := [d1, d2, d3, d4, d5] }
  | _ => none }
def InitialTypesWrongFalsely : Prop := initialTypesRow.holds Try.pinned (OpenSpec.ofChange initialTypesWrong)

/- THE SECOND FORM. 'bulk': how many values and letters a reading holds, each counted each time it is reached (what is shared counts as often as it is met; a slice's spare places count too). A statement '..UptoSaid' is the law's where the arguments, and the package variables that the reading takes, are together of bulk at most 1048576: NARROWER than '..Said'. Prove '..Said' where nothing that the law and all that it calls make is longer than what came in: it says more and counts as full. Else prove '..UptoSaid'. A law counts once. -/
mutual
def uptoBulk {H : Type} : DataW H → Nat
  | .lit (.string bytes) => bytes.length + 1
  | .lit _ => 1
  | .nil => 1
  | .ptr d => uptoBulk d + 1
  | .slice elems spare => uptoBulkAll elems + uptoBulkAll spare + 1
  | .agg parts => uptoBulkAll parts + 1
  | .iface _ d => uptoBulk d + 1
  | .map entries => uptoBulkEntries entries + 1
  | .held _ => 1
def uptoBulkAll {H : Type} : List (DataW H) → Nat
  | [] => 0
  | d :: r => uptoBulk d + uptoBulkAll r
def uptoBulkEntries {H : Type} : List (Lit × DataW H) → Nat
  | [] => 0
  | x :: r => uptoBulkEntry x + uptoBulkEntries r
def uptoBulkEntry {H : Type} : Lit × DataW H → Nat
  | (.string bytes, d) => bytes.length + uptoBulk d + 1
  | (_, d) => uptoBulk d + 1
 end
def uptoSmall : (H : Type) → List (DataW H) → Bool := fun _ ds => decide (uptoBulkAll ds ≤ 1048576)
def OpenSpec.upto (s : _root_.Go.ChangeSpec) : _root_.Go.OpenSpec := { _root_.Go.OpenSpec.ofChange s with cond := some uptoSmall }

/-- 'crosswaylaw11.InitialParses', WHERE WHAT IT READS IS OF BULK AT MOST 1048576: true; the input reads as it did. -/
def initialParsesUptoRow : OpenClaim := { program := "ytmhmmmkpijbbiad", sum := "349e4dae1ad142bd7a88e479e474c66ce2698b28c3726b80a58f2cd8ad361b75", func := "crossway/crosswaylaw11.InitialParses", spec := "initialParses", unfollowed := true, recurses := true, apart := false, narrowed := true }
def InitialParsesUptoSaid : Prop := initialParsesUptoRow.holds Try.pinned (OpenSpec.upto initialParsesSpec)

/-- 'crosswaylaw11.InitialBack', WHERE WHAT IT READS IS OF BULK AT MOST 1048576: true; the input reads as it did. -/
def initialBackUptoRow : OpenClaim := { program := "ytmhmmmkpijbbiad", sum := "349e4dae1ad142bd7a88e479e474c66ce2698b28c3726b80a58f2cd8ad361b75", func := "crossway/crosswaylaw11.InitialBack", spec := "initialBack", unfollowed := true, recurses := true, apart := false, narrowed := true }
def InitialBackUptoSaid : Prop := initialBackUptoRow.holds Try.pinned (OpenSpec.upto initialBackSpec)

/-- 'crosswaylaw11.InitialTypes', WHERE WHAT IT READS IS OF BULK AT MOST 1048576: true; the input reads as it did. -/
def initialTypesUptoRow : OpenClaim := { program := "ytmhmmmkpijbbiad", sum := "349e4dae1ad142bd7a88e479e474c66ce2698b28c3726b80a58f2cd8ad361b75", func := "crossway/crosswaylaw11.InitialTypes", spec := "initialTypes", unfollowed := true, recurses := true, apart := false, narrowed := true }
def InitialTypesUptoSaid : Prop := initialTypesUptoRow.holds Try.pinned (OpenSpec.upto initialTypesSpec)

end Rows
end Go.Proofs.Ytmhmmmkpijbbiad
