/-
  No cell of these rows narrows 'for every input' (looked for: loops, veiled, ifaces, maps, wideKeys, modest, calm, conditions, laid).
  DERIVED. THE GIVEN ROWS OF THIS SEAT. 4 by the template 'for every input the law returns true; each argument reads behind the call as it read before'; 0 by the template 'total and deterministic' (their statements: YtnmhnihhlakinacTotals.lean).
  GIVEN WITH THE SEED: the statements are not yours to turn. If you find one false, say at which input.
  Laid BY PROGRAM, IN A SANDBOX (cutbox-rows.mjs): the forced cells as the released guide's own fill.sh prints them over the translation 8371aad82efaff66… (all of the seat's roots in one cut). By AI agents, Wed Nov 11 2026. No macro, syntax, notation, axiom, sorry.
-/
import Derived.Test.YtnmhnihhlakinacChecked
import GoSem.Claim
import GoSem.ClaimJoined
import GoSem.ClaimMapViews
import Derived.JoinedTies
import Derived.KernelRfl
namespace Go.Proofs.Ytnmhnihhlakinac
/- THE CELL 'sum', in the pinned program and in every row, IS THE sha256 OF THE DUMP (.gsa) THAT YtnmhnihhlakinacProg.lean LOADS. Nothing in Lean hashes anything: it is a label: what it is worth is what the hold of that sum in a sandbox is worth. -/
noncomputable def Try.pinned : Pinned := { name := "ytnmhnihhlakinac", sum := "8371aad82efaff66c5c6c21777c03999914894f934d7adc80625a75389d1c492", checked := Try.checked }
namespace Rows
def none {H : Type} : Left H := { results := [], args := [] }

/-- 'crosswaylaw13.OfferMakes': WHATEVER THE INPUT: true; the input reads as it did. -/
def offerMakesSpec : ChangeSpec := { name := "offerMakes", fn := fun _ => fun
  | [d1, d2, d3, d4, d5] => { results := [.lit (.bool true)], args := [d1, d2, d3, d4, d5] }
  | _ => none }
def offerMakesRow : OpenClaim := { program := "ytnmhnihhlakinac", sum := "8371aad82efaff66c5c6c21777c03999914894f934d7adc80625a75389d1c492", func := "crossway/crosswaylaw13.OfferMakes", spec := "offerMakes", unfollowed := true, recurses := true, apart := false }
def OfferMakesSaid : Prop := offerMakesRow.holds Try.pinned (OpenSpec.ofChange offerMakesSpec)

/-- ITS FALSE NEIGHBOUR: 'it returns false'. Refute it at one input. -/
def offerMakesWrong : ChangeSpec := { name := "offerMakes", fn := fun _ => fun
  | [d1, d2, d3, d4, d5] => { results := [.lit (.bool false)], args := [d1, d2, d3, d4, d5] }
  | _ => none }
def OfferMakesWrongFalsely : Prop := offerMakesRow.holds Try.pinned (OpenSpec.ofChange offerMakesWrong)

/-- 'crosswaylaw13.OfferParses': WHATEVER THE INPUT: true; the input reads as it did. -/
def offerParsesSpec : ChangeSpec := { name := "offerParses", fn := fun _ => fun
  | [d1, d2] => { results := [.lit (.bool true)], args := [d1, d2] }
  | _ => none }
def offerParsesRow : OpenClaim := { program := "ytnmhnihhlakinac", sum := "8371aad82efaff66c5c6c21777c03999914894f934d7adc80625a75389d1c492", func := "crossway/crosswaylaw13.OfferParses", spec := "offerParses", unfollowed := true, recurses := true, apart := false }
def OfferParsesSaid : Prop := offerParsesRow.holds Try.pinned (OpenSpec.ofChange offerParsesSpec)

/-- ITS FALSE NEIGHBOUR: 'it returns false'. Refute it at one input. -/
def offerParsesWrong : ChangeSpec := { name := "offerParses", fn := fun _ => fun
  | [d1, d2] => { results := [.lit (.bool false)], args := [d1, d2] }
  | _ => none }
def OfferParsesWrongFalsely : Prop := offerParsesRow.holds Try.pinned (OpenSpec.ofChange offerParsesWrong)

/-- 'crosswaylaw13.OfferBack': WHATEVER THE INPUT: true; the input reads as it did. -/
def offerBackSpec : ChangeSpec := { name := "offerBack", fn := fun _ => fun
  | [d1, d2, d3, d4] => { results := [.lit (.bool true)], args := [d1, d2, d3, d4] }
  | _ => none }
def offerBackRow : OpenClaim := { program := "ytnmhnihhlakinac", sum := "8371aad82efaff66c5c6c21777c03999914894f934d7adc80625a75389d1c492", func := "crossway/crosswaylaw13.OfferBack", spec := "offerBack", unfollowed := true, recurses := true, apart := false }
def OfferBackSaid : Prop := offerBackRow.holds Try.pinned (OpenSpec.ofChange offerBackSpec)

/-- ITS FALSE NEIGHBOUR: 'it returns false'. Refute it at one input. -/
def offerBackWrong : ChangeSpec := { name := "offerBack", fn := fun _ => fun
  | [d1, d2, d3, d4] => { results := [.lit (.bool false)], args := [d1, d2, d3, d4] }
  | _ => none }
def OfferBackWrongFalsely : Prop := offerBackRow.holds Try.pinned (OpenSpec.ofChange offerBackWrong)

/-- 'crosswaylaw13.OfferHas': WHATEVER THE INPUT: true; the input reads as it did. -/
def offerHasSpec : ChangeSpec := { name := "offerHas", fn := fun _ => fun
  | [d1, d2, d3, d4, d5] => { results := [.lit (.bool true)], args := [d1, d2, d3, d4, d5] }
  | _ => none }
def offerHasRow : OpenClaim := { program := "ytnmhnihhlakinac", sum := "8371aad82efaff66c5c6c21777c03999914894f934d7adc80625a75389d1c492", func := "crossway/crosswaylaw13.OfferHas", spec := "offerHas", unfollowed := true, recurses := true, apart := false }
def OfferHasSaid : Prop := offerHasRow.holds Try.pinned (OpenSpec.ofChange offerHasSpec)

/-- ITS FALSE NEIGHBOUR: 'it returns false'. Refute it at one input. -/
def offerHasWrong : ChangeSpec := { name := "offerHas", fn := fun _ => fun
  | [d1, d2, d3, d4, d5] => { results := [.lit (.bool false)], args := [d1, d2, d3, d4, d5] }
  | _ => none }
def OfferHasWrongFalsely : Prop := offerHasRow.holds Try.pinned (OpenSpec.ofChange offerHasWrong)

/- THE SECOND FORM. 'bulk': how many values and letters a reading holds, each counted each time it is reached (what is shared counts as often as it is met; a slice's spare places count too). A statement '..UptoSaid' is the law's where the arguments, and the package variables that the reading takes, are together of bulk at most 1048576: NARROWER than '..Said'. Prove '..Said' where nothing that the law and all that it calls make is longer than what came in: it says more and counts as full. Else prove '..UptoSaid'. A law counts once. -/
mutual
def uptoBulk {H : Type} : DataW H → Nat
  | .lit (.string bytes) => bytes.length + 1
  | .lit _ => 1
  | .nil => 1
  | .ptr d => uptoBulk d + 1
  | .slice elems spare => uptoBulkAll elems + uptoBulkAll spare + 1
  | .agg parts => uptoBulkAll parts + 1
  | .iface _ d => uptoBulk d + 1
  | .map entries => uptoBulkEntries entries + 1
  | .held _ => 1
def uptoBulkAll {H : Type} : List (DataW H) → Nat
  | [] => 0
  | d :: r => uptoBulk d + uptoBulkAll r
def uptoBulkEntries {H : Type} : List (Lit × DataW H) → Nat
  | [] => 0
  | x :: r => uptoBulkEntry x + uptoBulkEntries r
def uptoBulkEntry {H : Type} : Lit × DataW H → Nat
  | (.string bytes, d) => bytes.length + uptoBulk d + 1
  | (_, d) => uptoBulk d + 1
 end
def uptoSmall : (H : Type) → List (DataW H) → Bool := fun _ ds => decide (uptoBulkAll ds ≤ 1048576)
def OpenSpec.upto (s : _root_.Go.ChangeSpec) : _root_.Go.OpenSpec := { _root_.Go.OpenSpec.ofChange s with cond := some uptoSmall }

/-- 'crosswaylaw13.OfferMakes', WHERE WHAT IT READS IS OF BULK AT MOST 1048576: true; the input reads as it did. -/
def offerMakesUptoRow : OpenClaim := { program := "ytnmhnihhlakinac", sum := "8371aad82efaff66c5c6c21777c03999914894f934d7adc80625a75389d1c492", func := "crossway/crosswaylaw13.OfferMakes", spec := "offerMakes", unfollowed := true, recurses := true, apart := false, narrowed := true }
def OfferMakesUptoSaid : Prop := offerMakesUptoRow.holds Try.pinned (OpenSpec.upto offerMakesSpec)

/-- 'crosswaylaw13.OfferParses', WHERE WHAT IT READS IS OF BULK AT MOST 1048576: true; the input reads as it did. -/
def offerParsesUptoRow : OpenClaim := { program := "ytnmhnihhlakinac", sum := "8371aad82efaff66c5c6c21777c03999914894f934d7adc80625a75389d1c492", func := "crossway/crosswaylaw13.OfferParses", spec := "offerParses", unfollowed := true, recurses := true, apart := false, narrowed := true }
def OfferParsesUptoSaid : Prop := offerParsesUptoRow.holds Try.pinned (OpenSpec.upto offerParsesSpec)

/-- 'crosswaylaw13.OfferBack', WHERE WHAT IT READS IS OF BULK AT MOST 1048576: true; the input reads as it did. -/
def offerBackUptoRow : OpenClaim := { program := "ytnmhnihhlakinac", sum := "8371aad82efaff66c5c6c21777c03999914894f934d7adc80625a75389d1c492", func := "crossway/crosswaylaw13.OfferBack", spec := "offerBack", unfollowed := true, recurses := true, apart := false, narrowed := true }
def OfferBackUptoSaid : Prop := offerBackUptoRow.holds Try.pinned (OpenSpec.upto offerBackSpec)

/-- 'crosswaylaw13.OfferHas', WHERE WHAT IT READS IS OF BULK AT MOST 1048576: true; the input reads as it did. -/
def offerHasUptoRow : OpenClaim := { program := "ytnmhnihhlakinac", sum := "8371aad82efaff66c5c6c21777c03999914894f934d7adc80625a75389d1c492", func := "crossway/crosswaylaw13.OfferHas", spec := "offerHas", unfollowed := true, recurses := true, apart := false, narrowed := true }
def OfferHasUptoSaid : Prop := offerHasUptoRow.holds Try.pinned (OpenSpec.upto offerHasSpec)

end Rows
end Go.Proofs.Ytnmhnihhlakinac
