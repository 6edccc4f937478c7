/-
  No cell of these rows narrows 'for every input' (looked for: loops, veiled, ifaces, maps, wideKeys, modest, calm, conditions, laid).
  DERIVED. THE GIVEN ROWS OF THIS SEAT. 2 by the template 'for every input the law returns true; each argument reads behind the call as it read before'; 0 by the template 'total and deterministic' (their statements: YtfgihmikcbbbgaaGreatTotals.lean).
  GIVEN WITH THE SEED: the statements are not yours to turn. If you find one false, say at which input.
  Laid BY PROGRAM, IN A SANDBOX (cutbox-rows.mjs): the forced cells as the released guide's own fill.sh prints them over the translation 03c3d6c14bcd8677… (all of the seat's roots in one cut). By AI agents, Wed Nov 11 2026. No macro, syntax, notation, axiom, sorry.
-/
import Derived.Test.YtfgihmikcbbbgaaGreatChecked
import GoSem.Claim
import GoSem.ClaimJoined
import GoSem.ClaimMapViews
import Derived.JoinedTies
import Derived.KernelRfl
namespace Go.Proofs.YtfgihmikcbbbgaaGreat
/- THE CELL 'sum', in the pinned program and in every row, IS THE sha256 OF THE DUMP (.gsa) THAT YtfgihmikcbbbgaaGreatProg.lean LOADS. Nothing in Lean hashes anything: it is a label: what it is worth is what the hold of that sum in a sandbox is worth. -/
noncomputable def Tryz.pinned : Pinned := { name := "ytfgihmikcbbbgaagreat", sum := "03c3d6c14bcd8677d03d6bf0a2e871f25d75397993837dcb0e207386e68c43ff", checked := Tryz.checked }
namespace Rows
def none {H : Type} : Left H := { results := [], args := [] }

/-- 'linchpinlaw24.TrailGrows': WHATEVER THE INPUT: true; the input reads as it did. -/
def trailGrowsSpec : ChangeSpec := { name := "trailGrows", fn := fun _ => fun
  | [d1, d2, d3, d4, d5, d6, d7, d8] => { results := [.lit (.bool true)], args := [d1, d2, d3, d4, d5, d6, d7, d8] }
  | _ => none }
def trailGrowsRow : OpenClaim := { program := "ytfgihmikcbbbgaagreat", sum := "03c3d6c14bcd8677d03d6bf0a2e871f25d75397993837dcb0e207386e68c43ff", func := "linchpin/linchpinlaw24.TrailGrows", spec := "trailGrows", unfollowed := true, recurses := true, apart := false }
def TrailGrowsSaid : Prop := trailGrowsRow.holds Tryz.pinned (OpenSpec.ofChange trailGrowsSpec)

/-- ITS FALSE NEIGHBOUR: 'it returns false'. Refute it at one input. -/
def trailGrowsWrong : ChangeSpec := { name := "trailGrows", fn := fun _ => fun
  | [d1, d2, d3, d4, d5, d6, d7, d8] => { results := [.lit (.bool false)], args := [d1, d2, d3, d4, d5, d6, d7, d8] }
  | _ => none }
def TrailGrowsWrongFalsely : Prop := trailGrowsRow.holds Tryz.pinned (OpenSpec.ofChange trailGrowsWrong)

/-- 'linchpinlaw24.TrailBack': WHATEVER THE INPUT: true; the input reads as it did. -/
def trailBackSpec : ChangeSpec := { name := "trailBack", fn := fun _ => fun
  | [d1, d2, d3, d4, d5] => { results := [.lit (.bool true)], args := [d1, d2, d3, d4, d5] }
  | _ => none }
def trailBackRow : OpenClaim := { program := "ytfgihmikcbbbgaagreat", sum := "03c3d6c14bcd8677d03d6bf0a2e871f25d75397993837dcb0e207386e68c43ff", func := "linchpin/linchpinlaw24.TrailBack", spec := "trailBack", unfollowed := true, recurses := true, apart := false }
def TrailBackSaid : Prop := trailBackRow.holds Tryz.pinned (OpenSpec.ofChange trailBackSpec)

/-- ITS FALSE NEIGHBOUR: 'it returns false'. Refute it at one input. -/
def trailBackWrong : ChangeSpec := { name := "trailBack", fn := fun _ => fun
  | [d1, d2, d3, d4, d5] => { results := [.lit (.bool false)], args := [d1, d2, d3, d4, d5] }
  | _ => none }
def TrailBackWrongFalsely : Prop := trailBackRow.holds Tryz.pinned (OpenSpec.ofChange trailBackWrong)

/- THE SECOND FORM. 'bulk': how many values and letters a reading holds, each counted each time it is reached (what is shared counts as often as it is met; a slice's spare places count too). A statement '..UptoSaid' is the law's where the arguments, and the package variables that the reading takes, are together of bulk at most 1048576: NARROWER than '..Said'. Prove '..Said' where nothing that the law and all that it calls make is longer than what came in: it says more and counts as full. Else prove '..UptoSaid'. A law counts once. -/
mutual
def uptoBulk {H : Type} : DataW H → Nat
  | .lit (.string bytes) => bytes.length + 1
  | .lit _ => 1
  | .nil => 1
  | .ptr d => uptoBulk d + 1
  | .slice elems spare => uptoBulkAll elems + uptoBulkAll spare + 1
  | .agg parts => uptoBulkAll parts + 1
  | .iface _ d => uptoBulk d + 1
  | .map entries => uptoBulkEntries entries + 1
  | .held _ => 1
def uptoBulkAll {H : Type} : List (DataW H) → Nat
  | [] => 0
  | d :: r => uptoBulk d + uptoBulkAll r
def uptoBulkEntries {H : Type} : List (Lit × DataW H) → Nat
  | [] => 0
  | x :: r => uptoBulkEntry x + uptoBulkEntries r
def uptoBulkEntry {H : Type} : Lit × DataW H → Nat
  | (.string bytes, d) => bytes.length + uptoBulk d + 1
  | (_, d) => uptoBulk d + 1
 end
def uptoSmall : (H : Type) → List (DataW H) → Bool := fun _ ds => decide (uptoBulkAll ds ≤ 1048576)
def OpenSpec.upto (s : _root_.Go.ChangeSpec) : _root_.Go.OpenSpec := { _root_.Go.OpenSpec.ofChange s with cond := some uptoSmall }

/-- 'linchpinlaw24.TrailGrows', WHERE WHAT IT READS IS OF BULK AT MOST 1048576: true; the input reads as it did. -/
def trailGrowsUptoRow : OpenClaim := { program := "ytfgihmikcbbbgaagreat", sum := "03c3d6c14bcd8677d03d6bf0a2e871f25d75397993837dcb0e207386e68c43ff", func := "linchpin/linchpinlaw24.TrailGrows", spec := "trailGrows", unfollowed := true, recurses := true, apart := false, narrowed := true }
def TrailGrowsUptoSaid : Prop := trailGrowsUptoRow.holds Tryz.pinned (OpenSpec.upto trailGrowsSpec)

/-- 'linchpinlaw24.TrailBack', WHERE WHAT IT READS IS OF BULK AT MOST 1048576: true; the input reads as it did. -/
def trailBackUptoRow : OpenClaim := { program := "ytfgihmikcbbbgaagreat", sum := "03c3d6c14bcd8677d03d6bf0a2e871f25d75397993837dcb0e207386e68c43ff", func := "linchpin/linchpinlaw24.TrailBack", spec := "trailBack", unfollowed := true, recurses := true, apart := false, narrowed := true }
def TrailBackUptoSaid : Prop := trailBackUptoRow.holds Tryz.pinned (OpenSpec.upto trailBackSpec)

end Rows
end Go.Proofs.YtfgihmikcbbbgaaGreat
