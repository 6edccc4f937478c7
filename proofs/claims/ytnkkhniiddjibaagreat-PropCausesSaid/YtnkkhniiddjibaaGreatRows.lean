/-
  No cell of these rows narrows 'for every input' (looked for: loops, veiled, ifaces, maps, wideKeys, modest, calm, conditions, laid).
  DERIVED. THE GIVEN ROWS OF THIS SEAT. 6 by the template 'for every input the law returns true; each argument reads behind the call as it read before'; 0 by the template 'total and deterministic' (their statements: YtnkkhniiddjibaaGreatTotals.lean).
  GIVEN WITH THE SEED: the statements are not yours to turn. If you find one false, say at which input.
  Laid BY PROGRAM, IN A SANDBOX (cutbox-rows.mjs): the forced cells as the released guide's own fill.sh prints them over the translation 2f297d7869acfdc8… (all of the seat's roots in one cut). By AI agents, Wed Nov 11 2026. No macro, syntax, notation, axiom, sorry.
-/
import Derived.Test.YtnkkhniiddjibaaGreatChecked
import GoSem.Claim
import GoSem.ClaimJoined
import GoSem.ClaimMapViews
import Derived.JoinedTies
import Derived.KernelRfl
namespace Go.Proofs.YtnkkhniiddjibaaGreat
/- THE CELL 'sum', in the pinned program and in every row, IS THE sha256 OF THE DUMP (.gsa) THAT YtnkkhniiddjibaaGreatProg.lean LOADS. Nothing in Lean hashes anything: it is a label: what it is worth is what the hold of that sum in a sandbox is worth. -/
noncomputable def Tryz.pinned : Pinned := { name := "ytnkkhniiddjibaagreat", sum := "2f297d7869acfdc814328f74acf83d4f28ba5417021d5f5b9845389a485f1bc8", checked := Tryz.checked }
namespace Rows
def none {H : Type} : Left H := { results := [], args := [] }

/-- 'linchpinlaw25.PropRuns': WHATEVER THE INPUT: true; the input reads as it did. -/
def propRunsSpec : ChangeSpec := { name := "propRuns", fn := fun _ => fun
  | [d1, d2, d3] => { results := [.lit (.bool true)], args := [d1, d2, d3] }
  | _ => none }
def propRunsRow : OpenClaim := { program := "ytnkkhniiddjibaagreat", sum := "2f297d7869acfdc814328f74acf83d4f28ba5417021d5f5b9845389a485f1bc8", func := "linchpin/linchpinlaw25.PropRuns", spec := "propRuns", apart := false }
def PropRunsSaid : Prop := propRunsRow.holds Tryz.pinned (OpenSpec.ofChange propRunsSpec)

/-- ITS FALSE NEIGHBOUR: 'it returns false'. Refute it at one input. -/
def propRunsWrong : ChangeSpec := { name := "propRuns", fn := fun _ => fun
  | [d1, d2, d3] => { results := [.lit (.bool false)], args := [d1, d2, d3] }
  | _ => none }
def PropRunsWrongFalsely : Prop := propRunsRow.holds Tryz.pinned (OpenSpec.ofChange propRunsWrong)

/-- 'linchpinlaw25.PropSound': WHATEVER THE INPUT: true; the input reads as it did. -/
def propSoundSpec : ChangeSpec := { name := "propSound", fn := fun _ => fun
  | [d1, d2, d3] => { results := [.lit (.bool true)], args := [d1, d2, d3] }
  | _ => none }
def propSoundRow : OpenClaim := { program := "ytnkkhniiddjibaagreat", sum := "2f297d7869acfdc814328f74acf83d4f28ba5417021d5f5b9845389a485f1bc8", func := "linchpin/linchpinlaw25.PropSound", spec := "propSound", apart := false }
def PropSoundSaid : Prop := propSoundRow.holds Tryz.pinned (OpenSpec.ofChange propSoundSpec)

/-- ITS FALSE NEIGHBOUR: 'it returns false'. Refute it at one input. -/
def propSoundWrong : ChangeSpec := { name := "propSound", fn := fun _ => fun
  | [d1, d2, d3] => { results := [.lit (.bool false)], args := [d1, d2, d3] }
  | _ => none }
def PropSoundWrongFalsely : Prop := propSoundRow.holds Tryz.pinned (OpenSpec.ofChange propSoundWrong)

/-- 'linchpinlaw25.PropEnds': WHATEVER THE INPUT: true; the input reads as it did. -/
def propEndsSpec : ChangeSpec := { name := "propEnds", fn := fun _ => fun
  | [d1, d2, d3] => { results := [.lit (.bool true)], args := [d1, d2, d3] }
  | _ => none }
def propEndsRow : OpenClaim := { program := "ytnkkhniiddjibaagreat", sum := "2f297d7869acfdc814328f74acf83d4f28ba5417021d5f5b9845389a485f1bc8", func := "linchpin/linchpinlaw25.PropEnds", spec := "propEnds", apart := false }
def PropEndsSaid : Prop := propEndsRow.holds Tryz.pinned (OpenSpec.ofChange propEndsSpec)

/-- ITS FALSE NEIGHBOUR: 'it returns false'. Refute it at one input. -/
def propEndsWrong : ChangeSpec := { name := "propEnds", fn := fun _ => fun
  | [d1, d2, d3] => { results := [.lit (.bool false)], args := [d1, d2, d3] }
  | _ => none }
def PropEndsWrongFalsely : Prop := propEndsRow.holds Tryz.pinned (OpenSpec.ofChange propEndsWrong)

/-- 'linchpinlaw25.PropCauses': WHATEVER THE INPUT: true; the input reads as it did. -/
def propCausesSpec : ChangeSpec := { name := "propCauses", fn := fun _ => fun
  | [d1, d2, d3] => { results := [.lit (.bool true)], args := [d1, d2, d3] }
  | _ => none }
def propCausesRow : OpenClaim := { program := "ytnkkhniiddjibaagreat", sum := "2f297d7869acfdc814328f74acf83d4f28ba5417021d5f5b9845389a485f1bc8", func := "linchpin/linchpinlaw25.PropCauses", spec := "propCauses", apart := false }
def PropCausesSaid : Prop := propCausesRow.holds Tryz.pinned (OpenSpec.ofChange propCausesSpec)

/-- ITS FALSE NEIGHBOUR: 'it returns false'. Refute it at one input. -/
def propCausesWrong : ChangeSpec := { name := "propCauses", fn := fun _ => fun
  | [d1, d2, d3] => { results := [.lit (.bool false)], args := [d1, d2, d3] }
  | _ => none }
def PropCausesWrongFalsely : Prop := propCausesRow.holds Tryz.pinned (OpenSpec.ofChange propCausesWrong)

/-- 'linchpinlaw25.PropAny': WHATEVER THE INPUT: true; the input reads as it did. -/
def propAnySpec : ChangeSpec := { name := "propAny", fn := fun _ => fun
  | [d1, d2, d3, d4] => { results := [.lit (.bool true)], args := [d1, d2, d3, d4] }
  | _ => none }
def propAnyRow : OpenClaim := { program := "ytnkkhniiddjibaagreat", sum := "2f297d7869acfdc814328f74acf83d4f28ba5417021d5f5b9845389a485f1bc8", func := "linchpin/linchpinlaw25.PropAny", spec := "propAny", apart := false }
def PropAnySaid : Prop := propAnyRow.holds Tryz.pinned (OpenSpec.ofChange propAnySpec)

/-- ITS FALSE NEIGHBOUR: 'it returns false'. Refute it at one input. -/
def propAnyWrong : ChangeSpec := { name := "propAny", fn := fun _ => fun
  | [d1, d2, d3, d4] => { results := [.lit (.bool false)], args := [d1, d2, d3, d4] }
  | _ => none }
def PropAnyWrongFalsely : Prop := propAnyRow.holds Tryz.pinned (OpenSpec.ofChange propAnyWrong)

/-- 'linchpinlaw25.PropMore': WHATEVER THE INPUT: true; the input reads as it did. -/
def propMoreSpec : ChangeSpec := { name := "propMore", fn := fun _ => fun
  | [d1, d2, d3] => { results := [.lit (.bool true)], args := [d1, d2, d3] }
  | _ => none }
def propMoreRow : OpenClaim := { program := "ytnkkhniiddjibaagreat", sum := "2f297d7869acfdc814328f74acf83d4f28ba5417021d5f5b9845389a485f1bc8", func := "linchpin/linchpinlaw25.PropMore", spec := "propMore", apart := false }
def PropMoreSaid : Prop := propMoreRow.holds Tryz.pinned (OpenSpec.ofChange propMoreSpec)

/-- ITS FALSE NEIGHBOUR: 'it returns false'. Refute it at one input. -/
def propMoreWrong : ChangeSpec := { name := "propMore", fn := fun _ => fun
  | [d1, d2, d3] => { results := [.lit (.bool false)], args := [d1, d2, d3] }
  | _ => none }
def PropMoreWrongFalsely : Prop := propMoreRow.holds Tryz.pinned (OpenSpec.ofChange propMoreWrong)

/- THE SECOND FORM. 'bulk': how many values and letters a reading holds, each counted each time it is reached (what is shared counts as often as it is met; a slice's spare places count too). A statement '..UptoSaid' is the law's where the arguments, and the package variables that the reading takes, are together of bulk at most 1048576: NARROWER than '..Said'. Prove '..Said' where nothing that the law and all that it calls make is longer than what came in: it says more and counts as full. Else prove '..UptoSaid'. A law counts once. -/
mutual
def uptoBulk {H : Type} : DataW H → Nat
  | .lit (.string bytes) => bytes.length + 1
  | .lit _ => 1
  | .nil => 1
  | .ptr d => uptoBulk d + 1
  | .slice elems spare => uptoBulkAll elems + uptoBulkAll spare + 1
  | .agg parts => uptoBulkAll parts + 1
  | .iface _ d => uptoBulk d + 1
  | .map entries => uptoBulkEntries entries + 1
  | .held _ => 1
def uptoBulkAll {H : Type} : List (DataW H) → Nat
  | [] => 0
  | d :: r => uptoBulk d + uptoBulkAll r
def uptoBulkEntries {H : Type} : List (Lit × DataW H) → Nat
  | [] => 0
  | x :: r => uptoBulkEntry x + uptoBulkEntries r
def uptoBulkEntry {H : Type} : Lit × DataW H → Nat
  | (.string bytes, d) => bytes.length + uptoBulk d + 1
  | (_, d) => uptoBulk d + 1
 end
def uptoSmall : (H : Type) → List (DataW H) → Bool := fun _ ds => decide (uptoBulkAll ds ≤ 1048576)
def OpenSpec.upto (s : _root_.Go.ChangeSpec) : _root_.Go.OpenSpec := { _root_.Go.OpenSpec.ofChange s with cond := some uptoSmall }

/-- 'linchpinlaw25.PropRuns', WHERE WHAT IT READS IS OF BULK AT MOST 1048576: true; the input reads as it did. -/
def propRunsUptoRow : OpenClaim := { program := "ytnkkhniiddjibaagreat", sum := "2f297d7869acfdc814328f74acf83d4f28ba5417021d5f5b9845389a485f1bc8", func := "linchpin/linchpinlaw25.PropRuns", spec := "propRuns", apart := false, narrowed := true }
def PropRunsUptoSaid : Prop := propRunsUptoRow.holds Tryz.pinned (OpenSpec.upto propRunsSpec)

/-- 'linchpinlaw25.PropSound', WHERE WHAT IT READS IS OF BULK AT MOST 1048576: true; the input reads as it did. -/
def propSoundUptoRow : OpenClaim := { program := "ytnkkhniiddjibaagreat", sum := "2f297d7869acfdc814328f74acf83d4f28ba5417021d5f5b9845389a485f1bc8", func := "linchpin/linchpinlaw25.PropSound", spec := "propSound", apart := false, narrowed := true }
def PropSoundUptoSaid : Prop := propSoundUptoRow.holds Tryz.pinned (OpenSpec.upto propSoundSpec)

/-- 'linchpinlaw25.PropEnds', WHERE WHAT IT READS IS OF BULK AT MOST 1048576: true; the input reads as it did. -/
def propEndsUptoRow : OpenClaim := { program := "ytnkkhniiddjibaagreat", sum := "2f297d7869acfdc814328f74acf83d4f28ba5417021d5f5b9845389a485f1bc8", func := "linchpin/linchpinlaw25.PropEnds", spec := "propEnds", apart := false, narrowed := true }
def PropEndsUptoSaid : Prop := propEndsUptoRow.holds Tryz.pinned (OpenSpec.upto propEndsSpec)

/-- 'linchpinlaw25.PropCauses', WHERE WHAT IT READS IS OF BULK AT MOST 1048576: true; the input reads as it did. -/
def propCausesUptoRow : OpenClaim := { program := "ytnkkhniiddjibaagreat", sum := "2f297d7869acfdc814328f74acf83d4f28ba5417021d5f5b9845389a485f1bc8", func := "linchpin/linchpinlaw25.PropCauses", spec := "propCauses", apart := false, narrowed := true }
def PropCausesUptoSaid : Prop := propCausesUptoRow.holds Tryz.pinned (OpenSpec.upto propCausesSpec)

/-- 'linchpinlaw25.PropAny', WHERE WHAT IT READS IS OF BULK AT MOST 1048576: true; the input reads as it did. -/
def propAnyUptoRow : OpenClaim := { program := "ytnkkhniiddjibaagreat", sum := "2f297d7869acfdc814328f74acf83d4f28ba5417021d5f5b9845389a485f1bc8", func := "linchpin/linchpinlaw25.PropAny", spec := "propAny", apart := false, narrowed := true }
def PropAnyUptoSaid : Prop := propAnyUptoRow.holds Tryz.pinned (OpenSpec.upto propAnySpec)

/-- 'linchpinlaw25.PropMore', WHERE WHAT IT READS IS OF BULK AT MOST 1048576: true; the input reads as it did. -/
def propMoreUptoRow : OpenClaim := { program := "ytnkkhniiddjibaagreat", sum := "2f297d7869acfdc814328f74acf83d4f28ba5417021d5f5b9845389a485f1bc8", func := "linchpin/linchpinlaw25.PropMore", spec := "propMore", apart := false, narrowed := true }
def PropMoreUptoSaid : Prop := propMoreUptoRow.holds Tryz.pinned (OpenSpec.upto propMoreSpec)

end Rows
end Go.Proofs.YtnkkhniiddjibaaGreat
