/-
  No cell of these rows narrows 'for every input' (looked for: loops, veiled, ifaces, maps, wideKeys, modest, calm, conditions, laid).
  DERIVED. THE GIVEN ROWS OF THIS SEAT. 3 by the template 'for every input the law returns true; each argument reads behind the call as it read before'; 0 by the template 'total and deterministic' (their statements: YtgikdkfobdfmfaaTotals.lean).
  GIVEN WITH THE SEED: the statements are not yours to turn. If you find one false, say at which input.
  Laid BY PROGRAM, IN A SANDBOX (cutbox-rows.mjs): the forced cells as the released guide's own fill.sh prints them over the translation 2c637bda74d0c15a… (all of the seat's roots in one cut). By AI agents, Wed Nov 11 2026. No macro, syntax, notation, axiom, sorry.
-/
import Derived.Test.YtgikdkfobdfmfaaChecked
import GoSem.Claim
import GoSem.ClaimJoined
import GoSem.ClaimMapViews
import Derived.JoinedTies
import Derived.KernelRfl
namespace Go.Proofs.Ytgikdkfobdfmfaa
/- THE CELL 'sum', in the pinned program and in every row, IS THE sha256 OF THE DUMP (.gsa) THAT YtgikdkfobdfmfaaProg.lean LOADS. Nothing in Lean hashes anything: it is a label: what it is worth is what the hold of that sum in a sandbox is worth. -/
noncomputable def Try.pinned : Pinned := { name := "ytgikdkfobdfmfaa", sum := "2c637bda74d0c15ae1ea7dc1790fad0a4021c007a336a5ab1a84fcd87d834820", checked := Try.checked }
namespace Rows
def none {H : Type} : Left H := { results := [], args := [] }

/-- 'linchpinlaw35.CostMay': WHATEVER THE INPUT: true; the input reads as it did. -/
def costMaySpec : ChangeSpec := { name := "costMay", fn := fun _ => fun
  | [d1, d2, d3, d4, d5, d6] => { results := [.lit (.bool true)], args := [d1, d2, d3, d4, d5, d6] }
  | _ => none }
def costMayRow : OpenClaim := { program := "ytgikdkfobdfmfaa", sum := "2c637bda74d0c15ae1ea7dc1790fad0a4021c007a336a5ab1a84fcd87d834820", func := "linchpin/linchpinlaw35.CostMay", spec := "costMay", unfollowed := true, recurses := true, apart := false }
def CostMaySaid : Prop := costMayRow.holds Try.pinned (OpenSpec.ofChange costMaySpec)

/-- ITS FALSE NEIGHBOUR: 'it returns false'. Refute it at one input. -/
def costMayWrong : ChangeSpec := { name := "costMay", fn := fun _ => fun
  | [d1, d2, d3, d4, d5, d6] => { results := [.lit (.bool false)], args := [d1, d2, d3, d4, d5, d6] }
  | _ => none }
def CostMayWrongFalsely : Prop := costMayRow.holds Try.pinned (OpenSpec.ofChange costMayWrong)

/-- 'linchpinlaw35.CostNothing': WHATEVER THE INPUT: true; the input reads as it did. -/
def costNothingSpec : ChangeSpec := { name := "costNothing", fn := fun _ => fun
  | [d1, d2, d3] => { results := [.lit (.bool true)], args := [d1, d2, d3] }
  | _ => none }
def costNothingRow : OpenClaim := { program := "ytgikdkfobdfmfaa", sum := "2c637bda74d0c15ae1ea7dc1790fad0a4021c007a336a5ab1a84fcd87d834820", func := "linchpin/linchpinlaw35.CostNothing", spec := "costNothing", unfollowed := true, recurses := true, apart := false }
def CostNothingSaid : Prop := costNothingRow.holds Try.pinned (OpenSpec.ofChange costNothingSpec)

/-- ITS FALSE NEIGHBOUR: 'it returns false'. Refute it at one input. -/
def costNothingWrong : ChangeSpec := { name := "costNothing", fn := fun _ => fun
  | [d1, d2, d3] => { results := [.lit (.bool false)], args := [d1, d2, d3] }
  | _ => none }
def CostNothingWrongFalsely : Prop := costNothingRow.holds Try.pinned (OpenSpec.ofChange costNothingWrong)

/-- 'linchpinlaw35.CostOrder': WHATEVER THE INPUT: true; the input reads as it did. -/
def costOrderSpec : ChangeSpec := { name := "costOrder", fn := fun _ => fun
  | [d1, d2, d3] => { results := [.lit (.bool true)], args := [d1, d2, d3] }
  | _ => none }
def costOrderRow : OpenClaim := { program := "ytgikdkfobdfmfaa", sum := "2c637bda74d0c15ae1ea7dc1790fad0a4021c007a336a5ab1a84fcd87d834820", func := "linchpin/linchpinlaw35.CostOrder", spec := "costOrder", unfollowed := true, recurses := true, apart := false }
def CostOrderSaid : Prop := costOrderRow.holds Try.pinned (OpenSpec.ofChange costOrderSpec)

/-- ITS FALSE NEIGHBOUR: 'it returns false'. Refute it at one input. -/
def costOrderWrong : ChangeSpec := { name := "costOrder", fn := fun _ => fun
  | [d1, d2, d3] => { results := [.lit (.bool false)], args := [d1, d2, d3] }
  | _ => none }
def CostOrderWrongFalsely : Prop := costOrderRow.holds Try.pinned (OpenSpec.ofChange costOrderWrong)

/- THE SECOND FORM. 'bulk': how many values and letters a reading holds, each counted each time it is reached (what is shared counts as often as it is met; a slice's spare places count too). A statement '..UptoSaid' is the law's where the arguments, and the package variables that the reading takes, are together of bulk at most 1048576: NARROWER than '..Said'. Prove '..Said' where nothing that the law and all that it calls make is longer than what came in: it says more and counts as full. Else prove '..UptoSaid'. A law counts once. -/
mutual
def uptoBulk {H : Type} : DataW H → Nat
  | .lit (.string bytes) => bytes.length + 1
  | .lit _ => 1
  | .nil => 1
  | .ptr d => uptoBulk d + 1
  | .slice elems spare => uptoBulkAll elems + uptoBulkAll spare + 1
  | .agg parts => uptoBulkAll parts + 1
  | .iface _ d => uptoBulk d + 1
  | .map entries => uptoBulkEntries entries + 1
  | .held _ => 1
def uptoBulkAll {H : Type} : List (DataW H) → Nat
  | [] => 0
  | d :: r => uptoBulk d + uptoBulkAll r
def uptoBulkEntries {H : Type} : List (Lit × DataW H) → Nat
  | [] => 0
  | x :: r => uptoBulkEntry x + uptoBulkEntries r
def uptoBulkEntry {H : Type} : Lit × DataW H → Nat
  | (.string bytes, d) => bytes.length + uptoBulk d + 1
  | (_, d) => uptoBulk d + 1
 end
def uptoSmall : (H : Type) → List (DataW H) → Bool := fun _ ds => decide (uptoBulkAll ds ≤ 1048576)
def OpenSpec.upto (s : _root_.Go.ChangeSpec) : _root_.Go.OpenSpec := { _root_.Go.OpenSpec.ofChange s with cond := some uptoSmall }

/-- 'linchpinlaw35.CostMay', WHERE WHAT IT READS IS OF BULK AT MOST 1048576: true; the input reads as it did. -/
def costMayUptoRow : OpenClaim := { program := "ytgikdkfobdfmfaa", sum := "2c637bda74d0c15ae1ea7dc1790fad0a4021c007a336a5ab1a84fcd87d834820", func := "linchpin/linchpinlaw35.CostMay", spec := "costMay", unfollowed := true, recurses := true, apart := false, narrowed := true }
def CostMayUptoSaid : Prop := costMayUptoRow.holds Try.pinned (OpenSpec.upto costMaySpec)

/-- 'linchpinlaw35.CostNothing', WHERE WHAT IT READS IS OF BULK AT MOST 1048576: true; the input reads as it did. -/
def costNothingUptoRow : OpenClaim := { program := "ytgikdkfobdfmfaa", sum := "2c637bda74d0c15ae1ea7dc1790fad0a4021c007a336a5ab1a84fcd87d834820", func := "linchpin/linchpinlaw35.CostNothing", spec := "costNothing", unfollowed := true, recurses := true, apart := false, narrowed := true }
def CostNothingUptoSaid : Prop := costNothingUptoRow.holds Try.pinned (OpenSpec.upto costNothingSpec)

/-- 'linchpinlaw35.CostOrder', WHERE WHAT IT READS IS OF BULK AT MOST 1048576: true; the input reads as it did. -/
def costOrderUptoRow : OpenClaim := { program := "ytgikdkfobdfmfaa", sum := "2c637bda74d0c15ae1ea7dc1790fad0a4021c007a336a5ab1a84fcd87d834820", func := "linchpin/linchpinlaw35.CostOrder", spec := "costOrder", unfollowed := true, recurses := true, apart := false, narrowed := true }
def CostOrderUptoSaid : Prop := costOrderUptoRow.holds Try.pinned (OpenSpec.upto costOrderSpec)

end Rows
end Go.Proofs.Ytgikdkfobdfmfaa
