/-
  No cell of these rows narrows 'for every input' (looked for: loops, veiled, ifaces, maps, wideKeys, modest, calm, conditions, laid).
  DERIVED. THE GIVEN ROWS OF THIS SEAT. 2 by the template 'for every input the law returns true; each argument reads behind the call as it read before'; 0 by the template 'total and deterministic' (their statements: YtmlclkgmdndcdaaTotals.lean).
  GIVEN WITH THE SEED: the statements are not yours to turn. If you find one false, say at which input.
  Laid BY PROGRAM, IN A SANDBOX (cutbox-rows.mjs): the forced cells as the released guide's own fill.sh prints them over the translation 34b241956e2e4dad… (all of the seat's roots in one cut). By AI agents, Wed Nov 11 2026. No macro, syntax, notation, axiom, sorry.
-/
import Derived.Test.YtmlclkgmdndcdaaChecked
import GoSem.Claim
import GoSem.ClaimJoined
import GoSem.ClaimMapViews
import Derived.JoinedTies
import Derived.KernelRfl
namespace Go.Proofs.Ytmlclkgmdndcdaa
/- THE CELL 'sum', in the pinned program and in every row, IS THE sha256 OF THE DUMP (.gsa) THAT YtmlclkgmdndcdaaProg.lean LOADS. Nothing in Lean hashes anything: it is a label: what it is worth is what the hold of that sum in a sandbox is worth. -/
noncomputable def Try.pinned : Pinned := { name := "ytmlclkgmdndcdaa", sum := "34b241956e2e4dadf85635420b75cef575d17ec7a36a8f60a0fafb37a3c04793", checked := Try.checked }
namespace Rows
def none {H : Type} : Left H := { results := [], args := [] }

/-- 'linchpinlaw24.TrailMay': WHATEVER THE INPUT: true; the input reads as it did. -/
def trailMaySpec : ChangeSpec := { name := "trailMay", fn := fun _ => fun
  | [d1, d2, d3] => { results := [.lit (.bool true)], args := [d1, d2, d3] }
  | _ => none }
def trailMayRow : OpenClaim := { program := "ytmlclkgmdndcdaa", sum := "34b241956e2e4dadf85635420b75cef575d17ec7a36a8f60a0fafb37a3c04793", func := "linchpin/linchpinlaw24.TrailMay", spec := "trailMay", unfollowed := true, recurses := true, apart := false }
def TrailMaySaid : Prop := trailMayRow.holds Try.pinned (OpenSpec.ofChange trailMaySpec)

/-- ITS FALSE NEIGHBOUR: 'it returns false'. Refute it at one input. -/
def trailMayWrong : ChangeSpec := { name := "trailMay", fn := fun _ => fun
  | [d1, d2, d3] => { results := [.lit (.bool false)], args := [d1, d2, d3] }
  | _ => none }
def TrailMayWrongFalsely : Prop := trailMayRow.holds Try.pinned (OpenSpec.ofChange trailMayWrong)

/-- 'linchpinlaw24.TrailEnds': WHATEVER THE INPUT: true; the input reads as it did. -/
def trailEndsSpec : ChangeSpec := { name := "trailEnds", fn := fun _ => fun
  | [d1, d2] => { results := [.lit (.bool true)], args := [d1, d2] }
  | _ => none }
def trailEndsRow : OpenClaim := { program := "ytmlclkgmdndcdaa", sum := "34b241956e2e4dadf85635420b75cef575d17ec7a36a8f60a0fafb37a3c04793", func := "linchpin/linchpinlaw24.TrailEnds", spec := "trailEnds", unfollowed := true, recurses := true, apart := false }
def TrailEndsSaid : Prop := trailEndsRow.holds Try.pinned (OpenSpec.ofChange trailEndsSpec)

/-- ITS FALSE NEIGHBOUR: 'it returns false'. Refute it at one input. -/
def trailEndsWrong : ChangeSpec := { name := "trailEnds", fn := fun _ => fun
  | [d1, d2] => { results := [.lit (.bool false)], args := [d1, d2] }
  | _ => none }
def TrailEndsWrongFalsely : Prop := trailEndsRow.holds Try.pinned (OpenSpec.ofChange trailEndsWrong)

/- THE SECOND FORM. 'bulk': how many values and letters a reading holds, each counted each time it is reached (what is shared counts as often as it is met; a slice's spare places count too). A statement '..UptoSaid' is the law's where the arguments, and the package variables that the reading takes, are together of bulk at most 1048576: NARROWER than '..Said'. Prove '..Said' where nothing that the law and all that it calls make is longer than what came in: it says more and counts as full. Else prove '..UptoSaid'. A law counts once. -/
mutual
def uptoBulk {H : Type} : DataW H → Nat
  | .lit (.string bytes) => bytes.length + 1
  | .lit _ => 1
  | .nil => 1
  | .ptr d => uptoBulk d + 1
  | .slice elems spare => uptoBulkAll elems + uptoBulkAll spare + 1
  | .agg parts => uptoBulkAll parts + 1
  | .iface _ d => uptoBulk d + 1
  | .map entries => uptoBulkEntries entries + 1
  | .held _ => 1
def uptoBulkAll {H : Type} : List (DataW H) → Nat
  | [] => 0
  | d :: r => uptoBulk d + uptoBulkAll r
def uptoBulkEntries {H : Type} : List (Lit × DataW H) → Nat
  | [] => 0
  | x :: r => uptoBulkEntry x + uptoBulkEntries r
def uptoBulkEntry {H : Type} : Lit × DataW H → Nat
  | (.string bytes, d) => bytes.length + uptoBulk d + 1
  | (_, d) => uptoBulk d + 1
 end
def uptoSmall : (H : Type) → List (DataW H) → Bool := fun _ ds => decide (uptoBulkAll ds ≤ 1048576)
def OpenSpec.upto (s : _root_.Go.ChangeSpec) : _root_.Go.OpenSpec := { _root_.Go.OpenSpec.ofChange s with cond := some uptoSmall }

/-- 'linchpinlaw24.TrailMay', WHERE WHAT IT READS IS OF BULK AT MOST 1048576: true; the input reads as it did. -/
def trailMayUptoRow : OpenClaim := { program := "ytmlclkgmdndcdaa", sum := "34b241956e2e4dadf85635420b75cef575d17ec7a36a8f60a0fafb37a3c04793", func := "linchpin/linchpinlaw24.TrailMay", spec := "trailMay", unfollowed := true, recurses := true, apart := false, narrowed := true }
def TrailMayUptoSaid : Prop := trailMayUptoRow.holds Try.pinned (OpenSpec.upto trailMaySpec)

/-- 'linchpinlaw24.TrailEnds', WHERE WHAT IT READS IS OF BULK AT MOST 1048576: true; the input reads as it did. -/
def trailEndsUptoRow : OpenClaim := { program := "ytmlclkgmdndcdaa", sum := "34b241956e2e4dadf85635420b75cef575d17ec7a36a8f60a0fafb37a3c04793", func := "linchpin/linchpinlaw24.TrailEnds", spec := "trailEnds", unfollowed := true, recurses := true, apart := false, narrowed := true }
def TrailEndsUptoSaid : Prop := trailEndsUptoRow.holds Try.pinned (OpenSpec.upto trailEndsSpec)

end Rows
end Go.Proofs.Ytmlclkgmdndcdaa
