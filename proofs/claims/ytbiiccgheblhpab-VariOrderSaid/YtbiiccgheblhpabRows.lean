/-
  No cell of these rows narrows 'for every input' (looked for: loops, veiled, ifaces, maps, wideKeys, modest, calm, conditions, laid).
  DERIVED. THE GIVEN ROWS OF THIS SEAT. 4 by the template 'for every input the law returns true; each argument reads behind the call as it read before'; 0 by the template 'total and deterministic' (their statements: YtbiiccgheblhpabTotals.lean).
  GIVEN WITH THE SEED: the statements are not yours to turn. If you find one false, say at which input.
  Laid BY PROGRAM, IN A SANDBOX (cutbox-rows.mjs): the forced cells as the released guide's own fill.sh prints them over the translation 7ba7defc34c655e6… (all of the seat's roots in one cut). By AI agents, Wed Nov 11 2026. No macro, syntax, notation, axiom, sorry.
-/
import Derived.Test.YtbiiccgheblhpabChecked
import GoSem.Claim
import GoSem.ClaimJoined
import GoSem.ClaimMapViews
import Derived.JoinedTies
import Derived.KernelRfl
namespace Go.Proofs.Ytbiiccgheblhpab
/- THE CELL 'sum', in the pinned program and in every row, IS THE sha256 OF THE DUMP (.gsa) THAT YtbiiccgheblhpabProg.lean LOADS. Nothing in Lean hashes anything: it is a label: what it is worth is what the hold of that sum in a sandbox is worth. -/
noncomputable def Try.pinned : Pinned := { name := "ytbiiccgheblhpab", sum := "7ba7defc34c655e6bbbcc66f0a5a107e6f2e7c2613d870218715947326a46db2", checked := Try.checked }
namespace Rows
def none {H : Type} : Left H := { results := [], args := [] }

/-- 'crosswaylaw08.VariWrites': WHATEVER THE INPUT: true; the input reads as it did. -/
def variWritesSpec : ChangeSpec := { name := "variWrites", fn := fun _ => fun
  | [d1, d2, d3] => { results := [.lit (.bool true)], args := [d1, d2, d3] }
  | _ => none }
def variWritesRow : OpenClaim := { program := "ytbiiccgheblhpab", sum := "7ba7defc34c655e6bbbcc66f0a5a107e6f2e7c2613d870218715947326a46db2", func := "crossway/crosswaylaw08.VariWrites", spec := "variWrites", apart := false }
def VariWritesSaid : Prop := variWritesRow.holds Try.pinned (OpenSpec.ofChange variWritesSpec)

/-- ITS FALSE NEIGHBOUR: 'it returns false'. Refute it at one input. -/
def variWritesWrong : ChangeSpec := { name := "variWrites", fn := fun _ => fun
  | [d1, d2, d3] => { results := [.lit (.bool false)], args := [d1, d2, d3] }
  | _ => none }
def VariWritesWrongFalsely : Prop := variWritesRow.holds Try.pinned (OpenSpec.ofChange variWritesWrong)

/-- 'crosswaylaw08.VariTakes': WHATEVER THE INPUT: true; the input reads as it did. -/
def variTakesSpec : ChangeSpec := { name := "variTakes", fn := fun _ => fun
  | [d] => { results := [.lit (.bool true)], args := [d] }
  | _ => none }
def variTakesRow : OpenClaim := { program := "ytbiiccgheblhpab", sum := "7ba7defc34c655e6bbbcc66f0a5a107e6f2e7c2613d870218715947326a46db2", func := "crossway/crosswaylaw08.VariTakes", spec := "variTakes", apart := false }
def VariTakesSaid : Prop := variTakesRow.holds Try.pinned (OpenSpec.ofChange variTakesSpec)

/-- ITS FALSE NEIGHBOUR: 'it returns false'. Refute it at one input. -/
def variTakesWrong : ChangeSpec := { name := "variTakes", fn := fun _ => fun
  | [d] => { results := [.lit (.bool false)], args := [d] }
  | _ => none }
def VariTakesWrongFalsely : Prop := variTakesRow.holds Try.pinned (OpenSpec.ofChange variTakesWrong)

/-- 'crosswaylaw08.VariBack': WHATEVER THE INPUT: true; the input reads as it did. -/
def variBackSpec : ChangeSpec := { name := "variBack", fn := fun _ => fun
  | [d1, d2, d3] => { results := [.lit (.bool true)], args := [d1, d2, d3] }
  | _ => none }
def variBackRow : OpenClaim := { program := "ytbiiccgheblhpab", sum := "7ba7defc34c655e6bbbcc66f0a5a107e6f2e7c2613d870218715947326a46db2", func := "crossway/crosswaylaw08.VariBack", spec := "variBack", apart := false }
def VariBackSaid : Prop := variBackRow.holds Try.pinned (OpenSpec.ofChange variBackSpec)

/-- ITS FALSE NEIGHBOUR: 'it returns false'. Refute it at one input. -/
def variBackWrong : ChangeSpec := { name := "variBack", fn := fun _ => fun
  | [d1, d2, d3] => { results := [.lit (.bool false)], args := [d1, d2, d3] }
  | _ => none }
def VariBackWrongFalsely : Prop := variBackRow.holds Try.pinned (OpenSpec.ofChange variBackWrong)

/-- 'crosswaylaw08.VariOrder': WHATEVER THE INPUT: true; the input reads as it did. -/
def variOrderSpec : ChangeSpec := { name := "variOrder", fn := fun _ => fun
  | [d1, d2] => { results := [.lit (.bool true)], args := [d1, d2] }
  | _ => none }
def variOrderRow : OpenClaim := { program := "ytbiiccgheblhpab", sum := "7ba7defc34c655e6bbbcc66f0a5a107e6f2e7c2613d870218715947326a46db2", func := "crossway/crosswaylaw08.VariOrder", spec := "variOrder", apart := false }
def VariOrderSaid : Prop := variOrderRow.holds Try.pinned (OpenSpec.ofChange variOrderSpec)

/-- ITS FALSE NEIGHBOUR: 'it returns false'. Refute it at one input. -/
def variOrderWrong : ChangeSpec := { name := "variOrder", fn := fun _ => fun
  | [d1, d2] => { results := [.lit (.bool false)], args := [d1, d2] }
  | _ => none }
def VariOrderWrongFalsely : Prop := variOrderRow.holds Try.pinned (OpenSpec.ofChange variOrderWrong)

/- THE SECOND FORM. 'bulk': how many values and letters a reading holds, each counted each time it is reached (what is shared counts as often as it is met; a slice's spare places count too). A statement '..UptoSaid' is the law's where the arguments, and the package variables that the reading takes, are together of bulk at most 1048576: NARROWER than '..Said'. Prove '..Said' where nothing that the law and all that it calls make is longer than what came in: it says more and counts as full. Else prove '..UptoSaid'. A law counts once. -/
mutual
def uptoBulk {H : Type} : DataW H → Nat
  | .lit (.string bytes) => bytes.length + 1
  | .lit _ => 1
  | .nil => 1
  | .ptr d => uptoBulk d + 1
  | .slice elems spare => uptoBulkAll elems + uptoBulkAll spare + 1
  | .agg parts => uptoBulkAll parts + 1
  | .iface _ d => uptoBulk d + 1
  | .map entries => uptoBulkEntries entries + 1
  | .held _ => 1
def uptoBulkAll {H : Type} : List (DataW H) → Nat
  | [] => 0
  | d :: r => uptoBulk d + uptoBulkAll r
def uptoBulkEntries {H : Type} : List (Lit × DataW H) → Nat
  | [] => 0
  | x :: r => uptoBulkEntry x + uptoBulkEntries r
def uptoBulkEntry {H : Type} : Lit × DataW H → Nat
  | (.string bytes, d) => bytes.length + uptoBulk d + 1
  | (_, d) => uptoBulk d + 1
 end
def uptoSmall : (H : Type) → List (DataW H) → Bool := fun _ ds => decide (uptoBulkAll ds ≤ 1048576)
def OpenSpec.upto (s : _root_.Go.ChangeSpec) : _root_.Go.OpenSpec := { _root_.Go.OpenSpec.ofChange s with cond := some uptoSmall }

/-- 'crosswaylaw08.VariWrites', WHERE WHAT IT READS IS OF BULK AT MOST 1048576: true; the input reads as it did. -/
def variWritesUptoRow : OpenClaim := { program := "ytbiiccgheblhpab", sum := "7ba7defc34c655e6bbbcc66f0a5a107e6f2e7c2613d870218715947326a46db2", func := "crossway/crosswaylaw08.VariWrites", spec := "variWrites", apart := false, narrowed := true }
def VariWritesUptoSaid : Prop := variWritesUptoRow.holds Try.pinned (OpenSpec.upto variWritesSpec)

/-- 'crosswaylaw08.VariTakes', WHERE WHAT IT READS IS OF BULK AT MOST 1048576: true; the input reads as it did. -/
def variTakesUptoRow : OpenClaim := { program := "ytbiiccgheblhpab", sum := "7ba7defc34c655e6bbbcc66f0a5a107e6f2e7c2613d870218715947326a46db2", func := "crossway/crosswaylaw08.VariTakes", spec := "variTakes", apart := false, narrowed := true }
def VariTakesUptoSaid : Prop := variTakesUptoRow.holds Try.pinned (OpenSpec.upto variTakesSpec)

/-- 'crosswaylaw08.VariBack', WHERE WHAT IT READS IS OF BULK AT MOST 1048576: true; the input reads as it did. -/
def variBackUptoRow : OpenClaim := { program := "ytbiiccgheblhpab", sum := "7ba7defc34c655e6bbbcc66f0a5a107e6f2e7c2613d870218715947326a46db2", func := "crossway/crosswaylaw08.VariBack", spec := "variBack", apart := false, narrowed := true }
def VariBackUptoSaid : Prop := variBackUptoRow.holds Try.pinned (OpenSpec.upto variBackSpec)

/-- 'crosswaylaw08.VariOrder', WHERE WHAT IT READS IS OF BULK AT MOST 1048576: true; the input reads as it did. -/
def variOrderUptoRow : OpenClaim := { program := "ytbiiccgheblhpab", sum := "7ba7defc34c655e6bbbcc66f0a5a107e6f2e7c2613d870218715947326a46db2", func := "crossway/crosswaylaw08.VariOrder", spec := "variOrder", apart := false, narrowed := true }
def VariOrderUptoSaid : Prop := variOrderUptoRow.holds Try.pinned (OpenSpec.upto variOrderSpec)

end Rows
end Go.Proofs.Ytbiiccgheblhpab
