/-
  No cell of these rows narrows 'for every input' (looked for: loops, veiled, ifaces, maps, wideKeys, modest, calm, conditions, laid).
  DERIVED. THE GIVEN ROWS OF THIS SEAT. 6 by the template 'for every input the law returns true; each argument reads behind the call as it read before'; 0 by the template 'total and deterministic' (their statements: YtmlclkgmdndcdaaGreatTotals.lean).
  GIVEN WITH THE SEED: the statements are not yours to turn. If you find one false, say at which input.
  Laid BY PROGRAM, IN A SANDBOX (cutbox-rows.mjs): the forced cells as the released guide's own fill.sh prints them over the translation 153eb7b9e14eadad… (all of the seat's roots in one cut). By AI agents, Wed Nov 11 2026. No macro, syntax, notation, axiom, sorry.
-/
import Derived.Test.YtmlclkgmdndcdaaGreatChecked
import GoSem.Claim
import GoSem.ClaimJoined
import GoSem.ClaimMapViews
import Derived.JoinedTies
import Derived.KernelRfl
namespace Go.Proofs.YtmlclkgmdndcdaaGreat
/- THE CELL 'sum', in the pinned program and in every row, IS THE sha256 OF THE DUMP (.gsa) THAT YtmlclkgmdndcdaaGreatProg.lean LOADS. Nothing in Lean hashes anything: it is a label: what it is worth is what the hold of that sum in a sandbox is worth. -/
noncomputable def Tryz.pinned : Pinned := { name := "ytmlclkgmdndcdaagreat", sum := "153eb7b9e14eadadd2c4ce04d593fdefeae69d95dc71c59c1d5ac4d722d8252d", checked := Tryz.checked }
namespace Rows
def none {H : Type} : Left H := { results := [], args := [] }

/-- 'linchpinlaw24.TrailDerives': WHATEVER THE INPUT: true; the input reads as it did. -/
def trailDerivesSpec : ChangeSpec := { name := "trailDerives", fn := fun _ => fun
  | [d1, d2, d3, d4, d5] => { results := [.lit (.bool true)], args := [d1, d2, d3, d4, d5] }
  | _ => none }
def trailDerivesRow : OpenClaim := { program := "ytmlclkgmdndcdaagreat", sum := "153eb7b9e14eadadd2c4ce04d593fdefeae69d95dc71c59c1d5ac4d722d8252d", func := "linchpin/linchpinlaw24.TrailDerives", spec := "trailDerives", unfollowed := true, recurses := true, apart := false }
def TrailDerivesSaid : Prop := trailDerivesRow.holds Tryz.pinned (OpenSpec.ofChange trailDerivesSpec)

/-- ITS FALSE NEIGHBOUR: 'it returns false'. Refute it at one input. -/
def trailDerivesWrong : ChangeSpec := { name := "trailDerives", fn := fun _ => fun
  | [d1, d2, d3, d4, d5] => { results := [.lit (.bool false)], args := [d1, d2, d3, d4, d5] }
  | _ => none }
def TrailDerivesWrongFalsely : Prop := trailDerivesRow.holds Tryz.pinned (OpenSpec.ofChange trailDerivesWrong)

/-- 'linchpinlaw24.TrailSure': WHATEVER THE INPUT: true; the input reads as it did. -/
def trailSureSpec : ChangeSpec := { name := "trailSure", fn := fun _ => fun
  | [d1, d2, d3] => { results := [.lit (.bool true)], args := [d1, d2, d3] }
  | _ => none }
def trailSureRow : OpenClaim := { program := "ytmlclkgmdndcdaagreat", sum := "153eb7b9e14eadadd2c4ce04d593fdefeae69d95dc71c59c1d5ac4d722d8252d", func := "linchpin/linchpinlaw24.TrailSure", spec := "trailSure", unfollowed := true, recurses := true, apart := false }
def TrailSureSaid : Prop := trailSureRow.holds Tryz.pinned (OpenSpec.ofChange trailSureSpec)

/-- ITS FALSE NEIGHBOUR: 'it returns false'. Refute it at one input. -/
def trailSureWrong : ChangeSpec := { name := "trailSure", fn := fun _ => fun
  | [d1, d2, d3] => { results := [.lit (.bool false)], args := [d1, d2, d3] }
  | _ => none }
def TrailSureWrongFalsely : Prop := trailSureRow.holds Tryz.pinned (OpenSpec.ofChange trailSureWrong)

/-- 'linchpinlaw24.TrailPath': WHATEVER THE INPUT: true; the input reads as it did. -/
def trailPathSpec : ChangeSpec := { name := "trailPath", fn := fun _ => fun
  | [d1, d2] => { results := [.lit (.bool true)], args := [d1, d2] }
  | _ => none }
def trailPathRow : OpenClaim := { program := "ytmlclkgmdndcdaagreat", sum := "153eb7b9e14eadadd2c4ce04d593fdefeae69d95dc71c59c1d5ac4d722d8252d", func := "linchpin/linchpinlaw24.TrailPath", spec := "trailPath", unfollowed := true, recurses := true, apart := false }
def TrailPathSaid : Prop := trailPathRow.holds Tryz.pinned (OpenSpec.ofChange trailPathSpec)

/-- ITS FALSE NEIGHBOUR: 'it returns false'. Refute it at one input. -/
def trailPathWrong : ChangeSpec := { name := "trailPath", fn := fun _ => fun
  | [d1, d2] => { results := [.lit (.bool false)], args := [d1, d2] }
  | _ => none }
def TrailPathWrongFalsely : Prop := trailPathRow.holds Tryz.pinned (OpenSpec.ofChange trailPathWrong)

/-- 'linchpinlaw24.TrailAsks': WHATEVER THE INPUT: true; the input reads as it did. -/
def trailAsksSpec : ChangeSpec := { name := "trailAsks", fn := fun _ => fun
  | [d1, d2, d3, d4] => { results := [.lit (.bool true)], args := [d1, d2, d3, d4] }
  | _ => none }
def trailAsksRow : OpenClaim := { program := "ytmlclkgmdndcdaagreat", sum := "153eb7b9e14eadadd2c4ce04d593fdefeae69d95dc71c59c1d5ac4d722d8252d", func := "linchpin/linchpinlaw24.TrailAsks", spec := "trailAsks", unfollowed := true, recurses := true, apart := false }
def TrailAsksSaid : Prop := trailAsksRow.holds Tryz.pinned (OpenSpec.ofChange trailAsksSpec)

/-- ITS FALSE NEIGHBOUR: 'it returns false'. Refute it at one input. -/
def trailAsksWrong : ChangeSpec := { name := "trailAsks", fn := fun _ => fun
  | [d1, d2, d3, d4] => { results := [.lit (.bool false)], args := [d1, d2, d3, d4] }
  | _ => none }
def TrailAsksWrongFalsely : Prop := trailAsksRow.holds Tryz.pinned (OpenSpec.ofChange trailAsksWrong)

/-- 'linchpinlaw24.TrailGrows': WHATEVER THE INPUT: true; the input reads as it did. -/
def trailGrowsSpec : ChangeSpec := { name := "trailGrows", fn := fun _ => fun
  | [d1, d2, d3, d4, d5, d6, d7, d8] => { results := [.lit (.bool true)], args := [d1, d2, d3, d4, d5, d6, d7, d8] }
  | _ => none }
def trailGrowsRow : OpenClaim := { program := "ytmlclkgmdndcdaagreat", sum := "153eb7b9e14eadadd2c4ce04d593fdefeae69d95dc71c59c1d5ac4d722d8252d", func := "linchpin/linchpinlaw24.TrailGrows", spec := "trailGrows", unfollowed := true, recurses := true, apart := false }
def TrailGrowsSaid : Prop := trailGrowsRow.holds Tryz.pinned (OpenSpec.ofChange trailGrowsSpec)

/-- ITS FALSE NEIGHBOUR: 'it returns false'. Refute it at one input. -/
def trailGrowsWrong : ChangeSpec := { name := "trailGrows", fn := fun _ => fun
  | [d1, d2, d3, d4, d5, d6, d7, d8] => { results := [.lit (.bool false)], args := [d1, d2, d3, d4, d5, d6, d7, d8] }
  | _ => none }
def TrailGrowsWrongFalsely : Prop := trailGrowsRow.holds Tryz.pinned (OpenSpec.ofChange trailGrowsWrong)

/-- 'linchpinlaw24.TrailBack': WHATEVER THE INPUT: true; the input reads as it did. -/
def trailBackSpec : ChangeSpec := { name := "trailBack", fn := fun _ => fun
  | [d1, d2, d3, d4, d5] => { results := [.lit (.bool true)], args := [d1, d2, d3, d4, d5] }
  | _ => none }
def trailBackRow : OpenClaim := { program := "ytmlclkgmdndcdaagreat", sum := "153eb7b9e14eadadd2c4ce04d593fdefeae69d95dc71c59c1d5ac4d722d8252d", func := "linchpin/linchpinlaw24.TrailBack", spec := "trailBack", unfollowed := true, recurses := true, apart := false }
def TrailBackSaid : Prop := trailBackRow.holds Tryz.pinned (OpenSpec.ofChange trailBackSpec)

/-- ITS FALSE NEIGHBOUR: 'it returns false'. Refute it at one input. -/
def trailBackWrong : ChangeSpec := { name := "trailBack", fn := fun _ => fun
  | [d1, d2, d3, d4, d5] => { results := [.lit (.bool false)], args := [d1, d2, d3, d4, d5] }
  | _ => none }
def TrailBackWrongFalsely : Prop := trailBackRow.holds Tryz.pinned (OpenSpec.ofChange trailBackWrong)

/- THE SECOND FORM. 'bulk': how many values and letters a reading holds, each counted each time it is reached (what is shared counts as often as it is met; a slice's spare places count too). A statement '..UptoSaid' is the law's where the arguments, and the package variables that the reading takes, are together of bulk at most 1048576: NARROWER than '..Said'. Prove '..Said' where nothing that the law and all that it calls make is longer than what came in: it says more and counts as full. Else prove '..UptoSaid'. A law counts once. -/
mutual
def uptoBulk {H : Type} : DataW H → Nat
  | .lit (.string bytes) => bytes.length + 1
  | .lit _ => 1
  | .nil => 1
  | .ptr d => uptoBulk d + 1
  | .slice elems spare => uptoBulkAll elems + uptoBulkAll spare + 1
  | .agg parts => uptoBulkAll parts + 1
  | .iface _ d => uptoBulk d + 1
  | .map entries => uptoBulkEntries entries + 1
  | .held _ => 1
def uptoBulkAll {H : Type} : List (DataW H) → Nat
  | [] => 0
  | d :: r => uptoBulk d + uptoBulkAll r
def uptoBulkEntries {H : Type} : List (Lit × DataW H) → Nat
  | [] => 0
  | x :: r => uptoBulkEntry x + uptoBulkEntries r
def uptoBulkEntry {H : Type} : Lit × DataW H → Nat
  | (.string bytes, d) => bytes.length + uptoBulk d + 1
  | (_, d) => uptoBulk d + 1
 end
def uptoSmall : (H : Type) → List (DataW H) → Bool := fun _ ds => decide (uptoBulkAll ds ≤ 1048576)
def OpenSpec.upto (s : _root_.Go.ChangeSpec) : _root_.Go.OpenSpec := { _root_.Go.OpenSpec.ofChange s with cond := some uptoSmall }

/-- 'linchpinlaw24.TrailDerives', WHERE WHAT IT READS IS OF BULK AT MOST 1048576: true; the input reads as it did. -/
def trailDerivesUptoRow : OpenClaim := { program := "ytmlclkgmdndcdaagreat", sum := "153eb7b9e14eadadd2c4ce04d593fdefeae69d95dc71c59c1d5ac4d722d8252d", func := "linchpin/linchpinlaw24.TrailDerives", spec := "trailDerives", unfollowed := true, recurses := true, apart := false, narrowed := true }
def TrailDerivesUptoSaid : Prop := trailDerivesUptoRow.holds Tryz.pinned (OpenSpec.upto trailDerivesSpec)

/-- 'linchpinlaw24.TrailSure', WHERE WHAT IT READS IS OF BULK AT MOST 1048576: true; the input reads as it did. -/
def trailSureUptoRow : OpenClaim := { program := "ytmlclkgmdndcdaagreat", sum := "153eb7b9e14eadadd2c4ce04d593fdefeae69d95dc71c59c1d5ac4d722d8252d", func := "linchpin/linchpinlaw24.TrailSure", spec := "trailSure", unfollowed := true, recurses := true, apart := false, narrowed := true }
def TrailSureUptoSaid : Prop := trailSureUptoRow.holds Tryz.pinned (OpenSpec.upto trailSureSpec)

/-- 'linchpinlaw24.TrailPath', WHERE WHAT IT READS IS OF BULK AT MOST 1048576: true; the input reads as it did. -/
def trailPathUptoRow : OpenClaim := { program := "ytmlclkgmdndcdaagreat", sum := "153eb7b9e14eadadd2c4ce04d593fdefeae69d95dc71c59c1d5ac4d722d8252d", func := "linchpin/linchpinlaw24.TrailPath", spec := "trailPath", unfollowed := true, recurses := true, apart := false, narrowed := true }
def TrailPathUptoSaid : Prop := trailPathUptoRow.holds Tryz.pinned (OpenSpec.upto trailPathSpec)

/-- 'linchpinlaw24.TrailAsks', WHERE WHAT IT READS IS OF BULK AT MOST 1048576: true; the input reads as it did. -/
def trailAsksUptoRow : OpenClaim := { program := "ytmlclkgmdndcdaagreat", sum := "153eb7b9e14eadadd2c4ce04d593fdefeae69d95dc71c59c1d5ac4d722d8252d", func := "linchpin/linchpinlaw24.TrailAsks", spec := "trailAsks", unfollowed := true, recurses := true, apart := false, narrowed := true }
def TrailAsksUptoSaid : Prop := trailAsksUptoRow.holds Tryz.pinned (OpenSpec.upto trailAsksSpec)

/-- 'linchpinlaw24.TrailGrows', WHERE WHAT IT READS IS OF BULK AT MOST 1048576: true; the input reads as it did. -/
def trailGrowsUptoRow : OpenClaim := { program := "ytmlclkgmdndcdaagreat", sum := "153eb7b9e14eadadd2c4ce04d593fdefeae69d95dc71c59c1d5ac4d722d8252d", func := "linchpin/linchpinlaw24.TrailGrows", spec := "trailGrows", unfollowed := true, recurses := true, apart := false, narrowed := true }
def TrailGrowsUptoSaid : Prop := trailGrowsUptoRow.holds Tryz.pinned (OpenSpec.upto trailGrowsSpec)

/-- 'linchpinlaw24.TrailBack', WHERE WHAT IT READS IS OF BULK AT MOST 1048576: true; the input reads as it did. -/
def trailBackUptoRow : OpenClaim := { program := "ytmlclkgmdndcdaagreat", sum := "153eb7b9e14eadadd2c4ce04d593fdefeae69d95dc71c59c1d5ac4d722d8252d", func := "linchpin/linchpinlaw24.TrailBack", spec := "trailBack", unfollowed := true, recurses := true, apart := false, narrowed := true }
def TrailBackUptoSaid : Prop := trailBackUptoRow.holds Tryz.pinned (OpenSpec.upto trailBackSpec)

end Rows
end Go.Proofs.YtmlclkgmdndcdaaGreat
