/-
  No cell of these rows narrows 'for every input' (looked for: loops, veiled, ifaces, maps, wideKeys, modest, calm, conditions, laid).
  DERIVED. THE GIVEN ROWS OF THIS SEAT. 4 by the template 'for every input the law returns true; each argument reads behind the call as it read before'; 0 by the template 'total and deterministic' (their statements: YtbiiccgheblhpacTotals.lean).
  GIVEN WITH THE SEED: the statements are not yours to turn. If you find one false, say at which input.
  Laid BY PROGRAM, IN A SANDBOX (cutbox-rows.mjs): the forced cells as the released guide's own fill.sh prints them over the translation 884aa66b175acd32… (all of the seat's roots in one cut). By AI agents, Wed Nov 11 2026. No macro, syntax, notation, axiom, sorry.
-/
import Derived.Test.YtbiiccgheblhpacChecked
import GoSem.Claim
import GoSem.ClaimJoined
import GoSem.ClaimMapViews
import Derived.JoinedTies
import Derived.KernelRfl
namespace Go.Proofs.Ytbiiccgheblhpac
/- THE CELL 'sum', in the pinned program and in every row, IS THE sha256 OF THE DUMP (.gsa) THAT YtbiiccgheblhpacProg.lean LOADS. Nothing in Lean hashes anything: it is a label: what it is worth is what the hold of that sum in a sandbox is worth. -/
noncomputable def Try.pinned : Pinned := { name := "ytbiiccgheblhpac", sum := "884aa66b175acd325c1caf20381d99f8cfdb2aa459e5df1a552342a9caeb44bf", checked := Try.checked }
namespace Rows
def none {H : Type} : Left H := { results := [], args := [] }

/-- 'crosswaylaw14.HalvesCuts': WHATEVER THE INPUT: true; the input reads as it did. -/
def halvesCutsSpec : ChangeSpec := { name := "halvesCuts", fn := fun _ => fun
  | [d1, d2] => { results := [.lit (.bool true)], args := [d1, d2] }
  | _ => none }
def halvesCutsRow : OpenClaim := { program := "ytbiiccgheblhpac", sum := "884aa66b175acd325c1caf20381d99f8cfdb2aa459e5df1a552342a9caeb44bf", func := "crossway/crosswaylaw14.HalvesCuts", spec := "halvesCuts", unfollowed := true, recurses := true, apart := false }
def HalvesCutsSaid : Prop := halvesCutsRow.holds Try.pinned (OpenSpec.ofChange halvesCutsSpec)

/-- ITS FALSE NEIGHBOUR: 'it returns false'. Refute it at one input. -/
def halvesCutsWrong : ChangeSpec := { name := "halvesCuts", fn := fun _ => fun
  | [d1, d2] => { results := [.lit (.bool false)], args := [d1, d2] }
  | _ => none }
def HalvesCutsWrongFalsely : Prop := halvesCutsRow.holds Try.pinned (OpenSpec.ofChange halvesCutsWrong)

/-- 'crosswaylaw14.HalvesJoins': WHATEVER THE INPUT: true; the input reads as it did. -/
def halvesJoinsSpec : ChangeSpec := { name := "halvesJoins", fn := fun _ => fun
  | [d1, d2, d3, d4, d5] => { results := [.lit (.bool true)], args := [d1, d2, d3, d4, d5] }
  | _ => none }
def halvesJoinsRow : OpenClaim := { program := "ytbiiccgheblhpac", sum := "884aa66b175acd325c1caf20381d99f8cfdb2aa459e5df1a552342a9caeb44bf", func := "crossway/crosswaylaw14.HalvesJoins", spec := "halvesJoins", unfollowed := true, recurses := true, apart := false }
def HalvesJoinsSaid : Prop := halvesJoinsRow.holds Try.pinned (OpenSpec.ofChange halvesJoinsSpec)

/-- ITS FALSE NEIGHBOUR: 'it returns false'. Refute it at one input. -/
def halvesJoinsWrong : ChangeSpec := { name := "halvesJoins", fn := fun _ => fun
  | [d1, d2, d3, d4, d5] => { results := [.lit (.bool false)], args := [d1, d2, d3, d4, d5] }
  | _ => none }
def HalvesJoinsWrongFalsely : Prop := halvesJoinsRow.holds Try.pinned (OpenSpec.ofChange halvesJoinsWrong)

/-- 'crosswaylaw14.HalvesBack': WHATEVER THE INPUT: true; the input reads as it did. -/
def halvesBackSpec : ChangeSpec := { name := "halvesBack", fn := fun _ => fun
  | [d1, d2, d3, d4] => { results := [.lit (.bool true)], args := [d1, d2, d3, d4] }
  | _ => none }
def halvesBackRow : OpenClaim := { program := "ytbiiccgheblhpac", sum := "884aa66b175acd325c1caf20381d99f8cfdb2aa459e5df1a552342a9caeb44bf", func := "crossway/crosswaylaw14.HalvesBack", spec := "halvesBack", unfollowed := true, recurses := true, apart := false }
def HalvesBackSaid : Prop := halvesBackRow.holds Try.pinned (OpenSpec.ofChange halvesBackSpec)

/-- ITS FALSE NEIGHBOUR: 'it returns false'. Refute it at one input. -/
def halvesBackWrong : ChangeSpec := { name := "halvesBack", fn := fun _ => fun
  | [d1, d2, d3, d4] => { results := [.lit (.bool false)], args := [d1, d2, d3, d4] }
  | _ => none }
def HalvesBackWrongFalsely : Prop := halvesBackRow.holds Try.pinned (OpenSpec.ofChange halvesBackWrong)

/-- 'crosswaylaw14.HalvesBits': WHATEVER THE INPUT: true; the input reads as it did. -/
def halvesBitsSpec : ChangeSpec := { name := "halvesBits", fn := fun _ => fun
  | [d1, d2, d3, d4] => { results := [.lit (.bool true)], args := [d1, d2, d3, d4] }
  | _ => none }
def halvesBitsRow : OpenClaim := { program := "ytbiiccgheblhpac", sum := "884aa66b175acd325c1caf20381d99f8cfdb2aa459e5df1a552342a9caeb44bf", func := "crossway/crosswaylaw14.HalvesBits", spec := "halvesBits", unfollowed := true, recurses := true, apart := false }
def HalvesBitsSaid : Prop := halvesBitsRow.holds Try.pinned (OpenSpec.ofChange halvesBitsSpec)

/-- ITS FALSE NEIGHBOUR: 'it returns false'. Refute it at one input. -/
def halvesBitsWrong : ChangeSpec := { name := "halvesBits", fn := fun _ => fun
  | [d1, d2, d3, d4] => { results := [.lit (.bool false)], args := [d1, d2, d3, d4] }
  | _ => none }
def HalvesBitsWrongFalsely : Prop := halvesBitsRow.holds Try.pinned (OpenSpec.ofChange halvesBitsWrong)

/- THE SECOND FORM. 'bulk': how many values and letters a reading holds, each counted each time it is reached (what is shared counts as often as it is met; a slice's spare places count too). A statement '..UptoSaid' is the law's where the arguments, and the package variables that the reading takes, are together of bulk at most 1048576: NARROWER than '..Said'. Prove '..Said' where nothing that the law and all that it calls make is longer than what came in: it says more and counts as full. Else prove '..UptoSaid'. A law counts once. -/
mutual
def uptoBulk {H : Type} : DataW H → Nat
  | .lit (.string bytes) => bytes.length + 1
  | .lit _ => 1
  | .nil => 1
  | .ptr d => uptoBulk d + 1
  | .slice elems spare => uptoBulkAll elems + uptoBulkAll spare + 1
  | .agg parts => uptoBulkAll parts + 1
  | .iface _ d => uptoBulk d + 1
  | .map entries => uptoBulkEntries entries + 1
  | .held _ => 1
def uptoBulkAll {H : Type} : List (DataW H) → Nat
  | [] => 0
  | d :: r => uptoBulk d + uptoBulkAll r
def uptoBulkEntries {H : Type} : List (Lit × DataW H) → Nat
  | [] => 0
  | x :: r => uptoBulkEntry x + uptoBulkEntries r
def uptoBulkEntry {H : Type} : Lit × DataW H → Nat
  | (.string bytes, d) => bytes.length + uptoBulk d + 1
  | (_, d) => uptoBulk d + 1
 end
def uptoSmall : (H : Type) → List (DataW H) → Bool := fun _ ds => decide (uptoBulkAll ds ≤ 1048576)
def OpenSpec.upto (s : _root_.Go.ChangeSpec) : _root_.Go.OpenSpec := { _root_.Go.OpenSpec.ofChange s with cond := some uptoSmall }

/-- 'crosswaylaw14.HalvesCuts', WHERE WHAT IT READS IS OF BULK AT MOST 1048576: true; the input reads as it did. -/
def halvesCutsUptoRow : OpenClaim := { program := "ytbiiccgheblhpac", sum := "884aa66b175acd325c1caf20381d99f8cfdb2aa459e5df1a552342a9caeb44bf", func := "crossway/crosswaylaw14.HalvesCuts", spec := "halvesCuts", unfollowed := true, recurses := true, apart := false, narrowed := true }
def HalvesCutsUptoSaid : Prop := halvesCutsUptoRow.holds Try.pinned (OpenSpec.upto halvesCutsSpec)

/-- 'crosswaylaw14.HalvesJoins', WHERE WHAT IT READS IS OF BULK AT MOST 1048576: true; the input reads as it did. -/
def halvesJoinsUptoRow : OpenClaim := { program := "ytbiiccgheblhpac", sum := "884aa66b175acd325c1caf20381d99f8cfdb2aa459e5df1a552342a9caeb44bf", func := "crossway/crosswaylaw14.HalvesJoins", spec := "halvesJoins", unfollowed := true, recurses := true, apart := false, narrowed := true }
def HalvesJoinsUptoSaid : Prop := halvesJoinsUptoRow.holds Try.pinned (OpenSpec.upto halvesJoinsSpec)

/-- 'crosswaylaw14.HalvesBack', WHERE WHAT IT READS IS OF BULK AT MOST 1048576: true; the input reads as it did. -/
def halvesBackUptoRow : OpenClaim := { program := "ytbiiccgheblhpac", sum := "884aa66b175acd325c1caf20381d99f8cfdb2aa459e5df1a552342a9caeb44bf", func := "crossway/crosswaylaw14.HalvesBack", spec := "halvesBack", unfollowed := true, recurses := true, apart := false, narrowed := true }
def HalvesBackUptoSaid : Prop := halvesBackUptoRow.holds Try.pinned (OpenSpec.upto halvesBackSpec)

/-- 'crosswaylaw14.HalvesBits', WHERE WHAT IT READS IS OF BULK AT MOST 1048576: true; the input reads as it did. -/
def halvesBitsUptoRow : OpenClaim := { program := "ytbiiccgheblhpac", sum := "884aa66b175acd325c1caf20381d99f8cfdb2aa459e5df1a552342a9caeb44bf", func := "crossway/crosswaylaw14.HalvesBits", spec := "halvesBits", unfollowed := true, recurses := true, apart := false, narrowed := true }
def HalvesBitsUptoSaid : Prop := halvesBitsUptoRow.holds Try.pinned (OpenSpec.upto halvesBitsSpec)

end Rows
end Go.Proofs.Ytbiiccgheblhpac
