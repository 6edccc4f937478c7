/-
  NARROWER THAN 'FOR EVERY INPUT', by the rows' own cells (each row's printed sentence says how): TermFull: laid · TermTells: laid · TermEach: laid · TermMeets: laid · TermSets: laid · TermBoth: laid · TermEither: laid.
  DERIVED. THE GIVEN ROWS OF THIS SEAT. 7 by the template 'for every input the law returns true; each argument reads behind the call as it read before'; 0 by the template 'total and deterministic' (their statements: YtaclbcdfaokmjaaDoorTotals.lean).
  GIVEN WITH THE SEED: the statements are not yours to turn. If you find one false, say at which input.
  Laid BY PROGRAM, IN A SANDBOX (cutbox-rows.mjs): the forced cells as the released guide's own fill.sh prints them over the translation 63b59211e96e8df4… (all of the seat's roots in one cut). By AI agents, Wed Nov 11 2026. No macro, syntax, notation, axiom, sorry.
-/
import Derived.Test.YtaclbcdfaokmjaaDoorChecked
import GoSem.Claim
import GoSem.ClaimJoined
import GoSem.ClaimMapViews
import Derived.JoinedTies
import Derived.KernelRfl
namespace Go.Proofs.YtaclbcdfaokmjaaDoor
/- THE CELL 'sum', in the pinned program and in every row, IS THE sha256 OF THE DUMP (.gsa) THAT YtaclbcdfaokmjaaDoorProg.lean LOADS. Nothing in Lean hashes anything: it is a label: what it is worth is what the hold of that sum in a sandbox is worth. -/
noncomputable def Tryd.pinned : Pinned := { name := "ytaclbcdfaokmjaadoor", sum := "63b59211e96e8df440657fe5aa490c192c3b0ffc17764f891003e6c0f2ec6181", checked := Tryd.checked }
namespace Rows
def none {H : Type} : Left H := { results := [], args := [] }

/- WHAT THE LISTED PACKAGE-LEVEL VARIABLES READ AS WHEN THE CALL BEGINS. Each datum BY PROGRAM (the guide's laid-datum.mjs) off the statement by which the dump's own 'gosem.cut.vars' lays the variable. In a bare row this is a premise. The card (YtaclbcdfaokmjaaDoorCards.lean) ties it to the program's text. -/
def laid_linchpin_set_first {H : Type} : DataW H := .agg [.lit (.int .i64 0), .lit (.int .i64 0), .lit (.int .i64 0), .lit (.string []), .lit (.string [])]

/-- 'linchpinlaw21.TermFull': WHATEVER THE INPUT: true; the input reads as it did. -/
def termFullSpec : ChangeSpec := { name := "termFull", fn := fun _ => fun
  | [d1, d2, d3, d4] => { results := [.lit (.bool true)], args := [d1, d2, d3, d4] }
  | _ => none }
def termFullRow : OpenClaim := { program := "ytaclbcdfaokmjaadoor", sum := "63b59211e96e8df440657fe5aa490c192c3b0ffc17764f891003e6c0f2ec6181", func := "linchpin/linchpinlaw21.TermFull", spec := "termFull", unfollowed := true, recurses := true, named := ["linchpin/set.first"], apart := false, laid := [("linchpin/set.first", laid_linchpin_set_first)] }
def TermFullSaid : Prop := termFullRow.holds Tryd.pinned (OpenSpec.ofChange termFullSpec)

/-- ITS FALSE NEIGHBOUR: 'it returns false'. Refute it at one input. -/
def termFullWrong : ChangeSpec := { name := "termFull", fn := fun _ => fun
  | [d1, d2, d3, d4] => { results := [.lit (.bool false)], args := [d1, d2, d3, d4] }
  | _ => none }
def TermFullWrongFalsely : Prop := termFullRow.holds Tryd.pinned (OpenSpec.ofChange termFullWrong)

/-- 'linchpinlaw21.TermTells': WHATEVER THE INPUT: true; the input reads as it did. -/
def termTellsSpec : ChangeSpec := { name := "termTells", fn := fun _ => fun
  | [d1, d2, d3] => { results := [.lit (.bool true)], args := [d1, d2, d3] }
  | _ => none }
def termTellsRow : OpenClaim := { program := "ytaclbcdfaokmjaadoor", sum := "63b59211e96e8df440657fe5aa490c192c3b0ffc17764f891003e6c0f2ec6181", func := "linchpin/linchpinlaw21.TermTells", spec := "termTells", unfollowed := true, recurses := true, named := ["linchpin/set.first"], apart := false, laid := [("linchpin/set.first", laid_linchpin_set_first)] }
def TermTellsSaid : Prop := termTellsRow.holds Tryd.pinned (OpenSpec.ofChange termTellsSpec)

/-- ITS FALSE NEIGHBOUR: 'it returns false'. Refute it at one input. -/
def termTellsWrong : ChangeSpec := { name := "termTells", fn := fun _ => fun
  | [d1, d2, d3] => { results := [.lit (.bool false)], args := [d1, d2, d3] }
  | _ => none }
def TermTellsWrongFalsely : Prop := termTellsRow.holds Tryd.pinned (OpenSpec.ofChange termTellsWrong)

/-- 'linchpinlaw21.TermEach': WHATEVER THE INPUT: true; the input reads as it did. -/
def termEachSpec : ChangeSpec := { name := "termEach", fn := fun _ => fun
  | [d1, d2] => { results := [.lit (.bool true)], args := [d1, d2] }
  | _ => none }
def termEachRow : OpenClaim := { program := "ytaclbcdfaokmjaadoor", sum := "63b59211e96e8df440657fe5aa490c192c3b0ffc17764f891003e6c0f2ec6181", func := "linchpin/linchpinlaw21.TermEach", spec := "termEach", unfollowed := true, recurses := true, named := ["linchpin/set.first"], apart := false, laid := [("linchpin/set.first", laid_linchpin_set_first)] }
def TermEachSaid : Prop := termEachRow.holds Tryd.pinned (OpenSpec.ofChange termEachSpec)

/-- ITS FALSE NEIGHBOUR: 'it returns false'. Refute it at one input. -/
def termEachWrong : ChangeSpec := { name := "termEach", fn := fun _ => fun
  | [d1, d2] => { results := [.lit (.bool false)], args := [d1, d2] }
  | _ => none }
def TermEachWrongFalsely : Prop := termEachRow.holds Tryd.pinned (OpenSpec.ofChange termEachWrong)

/-- 'linchpinlaw21.TermMeets': WHATEVER THE INPUT: true; the input reads as it did. -/
def termMeetsSpec : ChangeSpec := { name := "termMeets", fn := fun _ => fun
  | [d1, d2, d3] => { results := [.lit (.bool true)], args := [d1, d2, d3] }
  | _ => none }
def termMeetsRow : OpenClaim := { program := "ytaclbcdfaokmjaadoor", sum := "63b59211e96e8df440657fe5aa490c192c3b0ffc17764f891003e6c0f2ec6181", func := "linchpin/linchpinlaw21.TermMeets", spec := "termMeets", unfollowed := true, recurses := true, named := ["linchpin/set.first"], apart := false, laid := [("linchpin/set.first", laid_linchpin_set_first)] }
def TermMeetsSaid : Prop := termMeetsRow.holds Tryd.pinned (OpenSpec.ofChange termMeetsSpec)

/-- ITS FALSE NEIGHBOUR: 'it returns false'. Refute it at one input. -/
def termMeetsWrong : ChangeSpec := { name := "termMeets", fn := fun _ => fun
  | [d1, d2, d3] => { results := [.lit (.bool false)], args := [d1, d2, d3] }
  | _ => none }
def TermMeetsWrongFalsely : Prop := termMeetsRow.holds Tryd.pinned (OpenSpec.ofChange termMeetsWrong)

/-- 'linchpinlaw21.TermSets': WHATEVER THE INPUT: true; the input reads as it did. -/
def termSetsSpec : ChangeSpec := { name := "termSets", fn := fun _ => fun
  | [d1, d2, d3] => { results := [.lit (.bool true)], args := [d1, d2, d3] }
  | _ => none }
def termSetsRow : OpenClaim := { program := "ytaclbcdfaokmjaadoor", sum := "63b59211e96e8df440657fe5aa490c192c3b0ffc17764f891003e6c0f2ec6181", func := "linchpin/linchpinlaw21.TermSets", spec := "termSets", unfollowed := true, recurses := true, named := ["linchpin/set.first"], apart := false, laid := [("linchpin/set.first", laid_linchpin_set_first)] }
def TermSetsSaid : Prop := termSetsRow.holds Tryd.pinned (OpenSpec.ofChange termSetsSpec)

/-- ITS FALSE NEIGHBOUR: 'it returns false'. Refute it at one input. -/
def termSetsWrong : ChangeSpec := { name := "termSets", fn := fun _ => fun
  | [d1, d2, d3] => { results := [.lit (.bool false)], args := [d1, d2, d3] }
  | _ => none }
def TermSetsWrongFalsely : Prop := termSetsRow.holds Tryd.pinned (OpenSpec.ofChange termSetsWrong)

/-- 'linchpinlaw21.TermBoth': WHATEVER THE INPUT: true; the input reads as it did. -/
def termBothSpec : ChangeSpec := { name := "termBoth", fn := fun _ => fun
  | [d1, d2, d3, d4] => { results := [.lit (.bool true)], args := [d1, d2, d3, d4] }
  | _ => none }
def termBothRow : OpenClaim := { program := "ytaclbcdfaokmjaadoor", sum := "63b59211e96e8df440657fe5aa490c192c3b0ffc17764f891003e6c0f2ec6181", func := "linchpin/linchpinlaw21.TermBoth", spec := "termBoth", unfollowed := true, recurses := true, named := ["linchpin/set.first"], apart := false, laid := [("linchpin/set.first", laid_linchpin_set_first)] }
def TermBothSaid : Prop := termBothRow.holds Tryd.pinned (OpenSpec.ofChange termBothSpec)

/-- ITS FALSE NEIGHBOUR: 'it returns false'. Refute it at one input. -/
def termBothWrong : ChangeSpec := { name := "termBoth", fn := fun _ => fun
  | [d1, d2, d3, d4] => { results := [.lit (.bool false)], args := [d1, d2, d3, d4] }
  | _ => none }
def TermBothWrongFalsely : Prop := termBothRow.holds Tryd.pinned (OpenSpec.ofChange termBothWrong)

/-- 'linchpinlaw21.TermEither': WHATEVER THE INPUT: true; the input reads as it did. -/
def termEitherSpec : ChangeSpec := { name := "termEither", fn := fun _ => fun
  | [d1, d2, d3] => { results := [.lit (.bool true)], args := [d1, d2, d3] }
  | _ => none }
def termEitherRow : OpenClaim := { program := "ytaclbcdfaokmjaadoor", sum := "63b59211e96e8df440657fe5aa490c192c3b0ffc17764f891003e6c0f2ec6181", func := "linchpin/linchpinlaw21.TermEither", spec := "termEither", unfollowed := true, recurses := true, named := ["linchpin/set.first"], apart := false, laid := [("linchpin/set.first", laid_linchpin_set_first)] }
def TermEitherSaid : Prop := termEitherRow.holds Tryd.pinned (OpenSpec.ofChange termEitherSpec)

/-- ITS FALSE NEIGHBOUR: 'it returns false'. Refute it at one input. -/
def termEitherWrong : ChangeSpec := { name := "termEither", fn := fun _ => fun
  | [d1, d2, d3] => { results := [.lit (.bool false)], args := [d1, d2, d3] }
  | _ => none }
def TermEitherWrongFalsely : Prop := termEitherRow.holds Tryd.pinned (OpenSpec.ofChange termEitherWrong)

/- THE SECOND FORM. 'bulk': how many values and letters a reading holds, each counted each time it is reached (what is shared counts as often as it is met; a slice's spare places count too). A statement '..UptoSaid' is the law's where the arguments, and the package variables that the reading takes, are together of bulk at most 1048576: NARROWER than '..Said'. Prove '..Said' where nothing that the law and all that it calls make is longer than what came in: it says more and counts as full. Else prove '..UptoSaid'. A law counts once. -/
mutual
def uptoBulk {H : Type} : DataW H → Nat
  | .lit (.string bytes) => bytes.length + 1
  | .lit _ => 1
  | .nil => 1
  | .ptr d => uptoBulk d + 1
  | .slice elems spare => uptoBulkAll elems + uptoBulkAll spare + 1
  | .agg parts => uptoBulkAll parts + 1
  | .iface _ d => uptoBulk d + 1
  | .map entries => uptoBulkEntries entries + 1
  | .held _ => 1
def uptoBulkAll {H : Type} : List (DataW H) → Nat
  | [] => 0
  | d :: r => uptoBulk d + uptoBulkAll r
def uptoBulkEntries {H : Type} : List (Lit × DataW H) → Nat
  | [] => 0
  | x :: r => uptoBulkEntry x + uptoBulkEntries r
def uptoBulkEntry {H : Type} : Lit × DataW H → Nat
  | (.string bytes, d) => bytes.length + uptoBulk d + 1
  | (_, d) => uptoBulk d + 1
 end
def uptoSmall : (H : Type) → List (DataW H) → Bool := fun _ ds => decide (uptoBulkAll ds ≤ 1048576)
def OpenSpec.upto (s : _root_.Go.ChangeSpec) : _root_.Go.OpenSpec := { _root_.Go.OpenSpec.ofChange s with cond := some uptoSmall }

/-- 'linchpinlaw21.TermFull', WHERE WHAT IT READS IS OF BULK AT MOST 1048576: true; the input reads as it did. -/
def termFullUptoRow : OpenClaim := { program := "ytaclbcdfaokmjaadoor", sum := "63b59211e96e8df440657fe5aa490c192c3b0ffc17764f891003e6c0f2ec6181", func := "linchpin/linchpinlaw21.TermFull", spec := "termFull", unfollowed := true, recurses := true, named := ["linchpin/set.first"], apart := false, laid := [("linchpin/set.first", laid_linchpin_set_first)], narrowed := true }
def TermFullUptoSaid : Prop := termFullUptoRow.holds Tryd.pinned (OpenSpec.upto termFullSpec)

/-- 'linchpinlaw21.TermTells', WHERE WHAT IT READS IS OF BULK AT MOST 1048576: true; the input reads as it did. -/
def termTellsUptoRow : OpenClaim := { program := "ytaclbcdfaokmjaadoor", sum := "63b59211e96e8df440657fe5aa490c192c3b0ffc17764f891003e6c0f2ec6181", func := "linchpin/linchpinlaw21.TermTells", spec := "termTells", unfollowed := true, recurses := true, named := ["linchpin/set.first"], apart := false, laid := [("linchpin/set.first", laid_linchpin_set_first)], narrowed := true }
def TermTellsUptoSaid : Prop := termTellsUptoRow.holds Tryd.pinned (OpenSpec.upto termTellsSpec)

/-- 'linchpinlaw21.TermEach', WHERE WHAT IT READS IS OF BULK AT MOST 1048576: true; the input reads as it did. -/
def termEachUptoRow : OpenClaim := { program := "ytaclbcdfaokmjaadoor", sum := "63b59211e96e8df440657fe5aa490c192c3b0ffc17764f891003e6c0f2ec6181", func := "linchpin/linchpinlaw21.TermEach", spec := "termEach", unfollowed := true, recurses := true, named := ["linchpin/set.first"], apart := false, laid := [("linchpin/set.first", laid_linchpin_set_first)], narrowed := true }
def TermEachUptoSaid : Prop := termEachUptoRow.holds Tryd.pinned (OpenSpec.upto termEachSpec)

/-- 'linchpinlaw21.TermMeets', WHERE WHAT IT READS IS OF BULK AT MOST 1048576: true; the input reads as it did. -/
def termMeetsUptoRow : OpenClaim := { program := "ytaclbcdfaokmjaadoor", sum := "63b59211e96e8df440657fe5aa490c192c3b0ffc17764f891003e6c0f2ec6181", func := "linchpin/linchpinlaw21.TermMeets", spec := "termMeets", unfollowed := true, recurses := true, named := ["linchpin/set.first"], apart := false, laid := [("linchpin/set.first", laid_linchpin_set_first)], narrowed := true }
def TermMeetsUptoSaid : Prop := termMeetsUptoRow.holds Tryd.pinned (OpenSpec.upto termMeetsSpec)

/-- 'linchpinlaw21.TermSets', WHERE WHAT IT READS IS OF BULK AT MOST 1048576: true; the input reads as it did. -/
def termSetsUptoRow : OpenClaim := { program := "ytaclbcdfaokmjaadoor", sum := "63b59211e96e8df440657fe5aa490c192c3b0ffc17764f891003e6c0f2ec6181", func := "linchpin/linchpinlaw21.TermSets", spec := "termSets", unfollowed := true, recurses := true, named := ["linchpin/set.first"], apart := false, laid := [("linchpin/set.first", laid_linchpin_set_first)], narrowed := true }
def TermSetsUptoSaid : Prop := termSetsUptoRow.holds Tryd.pinned (OpenSpec.upto termSetsSpec)

/-- 'linchpinlaw21.TermBoth', WHERE WHAT IT READS IS OF BULK AT MOST 1048576: true; the input reads as it did. -/
def termBothUptoRow : OpenClaim := { program := "ytaclbcdfaokmjaadoor", sum := "63b59211e96e8df440657fe5aa490c192c3b0ffc17764f891003e6c0f2ec6181", func := "linchpin/linchpinlaw21.TermBoth", spec := "termBoth", unfollowed := true, recurses := true, named := ["linchpin/set.first"], apart := false, laid := [("linchpin/set.first", laid_linchpin_set_first)], narrowed := true }
def TermBothUptoSaid : Prop := termBothUptoRow.holds Tryd.pinned (OpenSpec.upto termBothSpec)

/-- 'linchpinlaw21.TermEither', WHERE WHAT IT READS IS OF BULK AT MOST 1048576: true; the input reads as it did. -/
def termEitherUptoRow : OpenClaim := { program := "ytaclbcdfaokmjaadoor", sum := "63b59211e96e8df440657fe5aa490c192c3b0ffc17764f891003e6c0f2ec6181", func := "linchpin/linchpinlaw21.TermEither", spec := "termEither", unfollowed := true, recurses := true, named := ["linchpin/set.first"], apart := false, laid := [("linchpin/set.first", laid_linchpin_set_first)], narrowed := true }
def TermEitherUptoSaid : Prop := termEitherUptoRow.holds Tryd.pinned (OpenSpec.upto termEitherSpec)

end Rows
end Go.Proofs.YtaclbcdfaokmjaaDoor
