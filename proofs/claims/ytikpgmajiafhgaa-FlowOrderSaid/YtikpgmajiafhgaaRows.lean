/-
  No cell of these rows narrows 'for every input' (looked for: loops, veiled, ifaces, maps, wideKeys, modest, calm, conditions, laid).
  DERIVED. THE GIVEN ROWS OF THIS SEAT. 5 by the template 'for every input the law returns true; each argument reads behind the call as it read before'; 0 by the template 'total and deterministic' (their statements: YtikpgmajiafhgaaTotals.lean).
  GIVEN WITH THE SEED: the statements are not yours to turn. If you find one false, say at which input.
  Laid BY PROGRAM, IN A SANDBOX (cutbox-rows.mjs): the forced cells as the released guide's own fill.sh prints them over the translation 2b5addde12f628c6… (all of the seat's roots in one cut). By AI agents, Wed Nov 11 2026. No macro, syntax, notation, axiom, sorry.
-/
import Derived.Test.YtikpgmajiafhgaaChecked
import GoSem.Claim
import GoSem.ClaimJoined
import GoSem.ClaimMapViews
import Derived.JoinedTies
import Derived.KernelRfl
namespace Go.Proofs.Ytikpgmajiafhgaa
/- THE CELL 'sum', in the pinned program and in every row, IS THE sha256 OF THE DUMP (.gsa) THAT YtikpgmajiafhgaaProg.lean LOADS. Nothing in Lean hashes anything: it is a label: what it is worth is what the hold of that sum in a sandbox is worth. -/
noncomputable def Try.pinned : Pinned := { name := "ytikpgmajiafhgaa", sum := "2b5addde12f628c6deb81b2ca8d398283a51ee5789e32f118101132728698be3", checked := Try.checked }
namespace Rows
def none {H : Type} : Left H := { results := [], args := [] }

/-- 'crosswaylaw24.FlowCalls': WHATEVER THE INPUT: true; the input reads as it did. -/
def flowCallsSpec : ChangeSpec := { name := "flowCalls", fn := fun _ => fun
  | [d1, d2, d3, d4] => { results := [.lit (.bool true)], args := [d1, d2, d3, d4] }
  | _ => none }
def flowCallsRow : OpenClaim := { program := "ytikpgmajiafhgaa", sum := "2b5addde12f628c6deb81b2ca8d398283a51ee5789e32f118101132728698be3", func := "crossway/crosswaylaw24.FlowCalls", spec := "flowCalls", unfollowed := true, recurses := true, plainKeys := false, apart := false }
def FlowCallsSaid : Prop := flowCallsRow.holds Try.pinned (OpenSpec.ofChange flowCallsSpec)

/-- ITS FALSE NEIGHBOUR: 'it returns false'. Refute it at one input. -/
def flowCallsWrong : ChangeSpec := { name := "flowCalls", fn := fun _ => fun
  | [d1, d2, d3, d4] => { results := [.lit (.bool false)], args := [d1, d2, d3, d4] }
  | _ => none }
def FlowCallsWrongFalsely : Prop := flowCallsRow.holds Try.pinned (OpenSpec.ofChange flowCallsWrong)

/-- 'crosswaylaw24.FlowRoom': WHATEVER THE INPUT: true; the input reads as it did. -/
def flowRoomSpec : ChangeSpec := { name := "flowRoom", fn := fun _ => fun
  | [d1, d2, d3] => { results := [.lit (.bool true)], args := [d1, d2, d3] }
  | _ => none }
def flowRoomRow : OpenClaim := { program := "ytikpgmajiafhgaa", sum := "2b5addde12f628c6deb81b2ca8d398283a51ee5789e32f118101132728698be3", func := "crossway/crosswaylaw24.FlowRoom", spec := "flowRoom", unfollowed := true, recurses := true, plainKeys := false, apart := false }
def FlowRoomSaid : Prop := flowRoomRow.holds Try.pinned (OpenSpec.ofChange flowRoomSpec)

/-- ITS FALSE NEIGHBOUR: 'it returns false'. Refute it at one input. -/
def flowRoomWrong : ChangeSpec := { name := "flowRoom", fn := fun _ => fun
  | [d1, d2, d3] => { results := [.lit (.bool false)], args := [d1, d2, d3] }
  | _ => none }
def FlowRoomWrongFalsely : Prop := flowRoomRow.holds Try.pinned (OpenSpec.ofChange flowRoomWrong)

/-- 'crosswaylaw24.FlowIdle': WHATEVER THE INPUT: true; the input reads as it did. -/
def flowIdleSpec : ChangeSpec := { name := "flowIdle", fn := fun _ => fun
  | [d1, d2, d3, d4, d5] => { results := [.lit (.bool true)], args := [d1, d2, d3, d4, d5] }
  | _ => none }
def flowIdleRow : OpenClaim := { program := "ytikpgmajiafhgaa", sum := "2b5addde12f628c6deb81b2ca8d398283a51ee5789e32f118101132728698be3", func := "crossway/crosswaylaw24.FlowIdle", spec := "flowIdle", unfollowed := true, recurses := true, plainKeys := false, apart := false }
def FlowIdleSaid : Prop := flowIdleRow.holds Try.pinned (OpenSpec.ofChange flowIdleSpec)

/-- ITS FALSE NEIGHBOUR: 'it returns false'. Refute it at one input. -/
def flowIdleWrong : ChangeSpec := { name := "flowIdle", fn := fun _ => fun
  | [d1, d2, d3, d4, d5] => { results := [.lit (.bool false)], args := [d1, d2, d3, d4, d5] }
  | _ => none }
def FlowIdleWrongFalsely : Prop := flowIdleRow.holds Try.pinned (OpenSpec.ofChange flowIdleWrong)

/-- 'crosswaylaw24.FlowOrder': WHATEVER THE INPUT: true; the input reads as it did. -/
def flowOrderSpec : ChangeSpec := { name := "flowOrder", fn := fun _ => fun
  | [d1, d2, d3] => { results := [.lit (.bool true)], args := [d1, d2, d3] }
  | _ => none }
def flowOrderRow : OpenClaim := { program := "ytikpgmajiafhgaa", sum := "2b5addde12f628c6deb81b2ca8d398283a51ee5789e32f118101132728698be3", func := "crossway/crosswaylaw24.FlowOrder", spec := "flowOrder", unfollowed := true, recurses := true, plainKeys := false, apart := false }
def FlowOrderSaid : Prop := flowOrderRow.holds Try.pinned (OpenSpec.ofChange flowOrderSpec)

/-- ITS FALSE NEIGHBOUR: 'it returns false'. Refute it at one input. -/
def flowOrderWrong : ChangeSpec := { name := "flowOrder", fn := fun _ => fun
  | [d1, d2, d3] => { results := [.lit (.bool false)], args := [d1, d2, d3] }
  | _ => none }
def FlowOrderWrongFalsely : Prop := flowOrderRow.holds Try.pinned (OpenSpec.ofChange flowOrderWrong)

/-- 'crosswaylaw24.FlowForget': WHATEVER THE INPUT: true; the input reads as it did. -/
def flowForgetSpec : ChangeSpec := { name := "flowForget", fn := fun _ => fun
  | [d1, d2, d3, d4] => { results := [.lit (.bool true)], args := [d1, d2, d3, d4] }
  | _ => none }
def flowForgetRow : OpenClaim := { program := "ytikpgmajiafhgaa", sum := "2b5addde12f628c6deb81b2ca8d398283a51ee5789e32f118101132728698be3", func := "crossway/crosswaylaw24.FlowForget", spec := "flowForget", unfollowed := true, recurses := true, plainKeys := false, apart := false }
def FlowForgetSaid : Prop := flowForgetRow.holds Try.pinned (OpenSpec.ofChange flowForgetSpec)

/-- ITS FALSE NEIGHBOUR: 'it returns false'. Refute it at one input. -/
def flowForgetWrong : ChangeSpec := { name := "flowForget", fn := fun _ => fun
  | [d1, d2, d3, d4] => { results := [.lit (.bool false)], args := [d1, d2, d3, d4] }
  | _ => none }
def FlowForgetWrongFalsely : Prop := flowForgetRow.holds Try.pinned (OpenSpec.ofChange flowForgetWrong)

/- THE SECOND FORM. 'bulk': how many values and letters a reading holds, each counted each time it is reached (what is shared counts as often as it is met; a slice's spare places count too). A statement '..UptoSaid' is the law's where the arguments, and the package variables that the reading takes, are together of bulk at most 1048576: NARROWER than '..Said'. Prove '..Said' where nothing that the law and all that it calls make is longer than what came in: it says more and counts as full. Else prove '..UptoSaid'. A law counts once. -/
mutual
def uptoBulk {H : Type} : DataW H → Nat
  | .lit (.string bytes) => bytes.length + 1
  | .lit _ => 1
  | .nil => 1
  | .ptr d => uptoBulk d + 1
  | .slice elems spare => uptoBulkAll elems + uptoBulkAll spare + 1
  | .agg parts => uptoBulkAll parts + 1
  | .iface _ d => uptoBulk d + 1
  | .map entries => uptoBulkEntries entries + 1
  | .held _ => 1
def uptoBulkAll {H : Type} : List (DataW H) → Nat
  | [] => 0
  | d :: r => uptoBulk d + uptoBulkAll r
def uptoBulkEntries {H : Type} : List (Lit × DataW H) → Nat
  | [] => 0
  | x :: r => uptoBulkEntry x + uptoBulkEntries r
def uptoBulkEntry {H : Type} : Lit × DataW H → Nat
  | (.string bytes, d) => bytes.length + uptoBulk d + 1
  | (_, d) => uptoBulk d + 1
 end
def uptoSmall : (H : Type) → List (DataW H) → Bool := fun _ ds => decide (uptoBulkAll ds ≤ 1048576)
def OpenSpec.upto (s : _root_.Go.ChangeSpec) : _root_.Go.OpenSpec := { _root_.Go.OpenSpec.ofChange s with cond := some uptoSmall }

/-- 'crosswaylaw24.FlowCalls', WHERE WHAT IT READS IS OF BULK AT MOST 1048576: true; the input reads as it did. -/
def flowCallsUptoRow : OpenClaim := { program := "ytikpgmajiafhgaa", sum := "2b5addde12f628c6deb81b2ca8d398283a51ee5789e32f118101132728698be3", func := "crossway/crosswaylaw24.FlowCalls", spec := "flowCalls", unfollowed := true, recurses := true, plainKeys := false, apart := false, narrowed := true }
def FlowCallsUptoSaid : Prop := flowCallsUptoRow.holds Try.pinned (OpenSpec.upto flowCallsSpec)

/-- 'crosswaylaw24.FlowRoom', WHERE WHAT IT READS IS OF BULK AT MOST 1048576: true; the input reads as it did. -/
def flowRoomUptoRow : OpenClaim := { program := "ytikpgmajiafhgaa", sum := "2b5addde12f628c6deb81b2ca8d398283a51ee5789e32f118101132728698be3", func := "crossway/crosswaylaw24.FlowRoom", spec := "flowRoom", unfollowed := true, recurses := true, plainKeys := false, apart := false, narrowed := true }
def FlowRoomUptoSaid : Prop := flowRoomUptoRow.holds Try.pinned (OpenSpec.upto flowRoomSpec)

/-- 'crosswaylaw24.FlowIdle', WHERE WHAT IT READS IS OF BULK AT MOST 1048576: true; the input reads as it did. -/
def flowIdleUptoRow : OpenClaim := { program := "ytikpgmajiafhgaa", sum := "2b5addde12f628c6deb81b2ca8d398283a51ee5789e32f118101132728698be3", func := "crossway/crosswaylaw24.FlowIdle", spec := "flowIdle", unfollowed := true, recurses := true, plainKeys := false, apart := false, narrowed := true }
def FlowIdleUptoSaid : Prop := flowIdleUptoRow.holds Try.pinned (OpenSpec.upto flowIdleSpec)

/-- 'crosswaylaw24.FlowOrder', WHERE WHAT IT READS IS OF BULK AT MOST 1048576: true; the input reads as it did. -/
def flowOrderUptoRow : OpenClaim := { program := "ytikpgmajiafhgaa", sum := "2b5addde12f628c6deb81b2ca8d398283a51ee5789e32f118101132728698be3", func := "crossway/crosswaylaw24.FlowOrder", spec := "flowOrder", unfollowed := true, recurses := true, plainKeys := false, apart := false, narrowed := true }
def FlowOrderUptoSaid : Prop := flowOrderUptoRow.holds Try.pinned (OpenSpec.upto flowOrderSpec)

/-- 'crosswaylaw24.FlowForget', WHERE WHAT IT READS IS OF BULK AT MOST 1048576: true; the input reads as it did. -/
def flowForgetUptoRow : OpenClaim := { program := "ytikpgmajiafhgaa", sum := "2b5addde12f628c6deb81b2ca8d398283a51ee5789e32f118101132728698be3", func := "crossway/crosswaylaw24.FlowForget", spec := "flowForget", unfollowed := true, recurses := true, plainKeys := false, apart := false, narrowed := true }
def FlowForgetUptoSaid : Prop := flowForgetUptoRow.holds Try.pinned (OpenSpec.upto flowForgetSpec)

end Rows
end Go.Proofs.Ytikpgmajiafhgaa
