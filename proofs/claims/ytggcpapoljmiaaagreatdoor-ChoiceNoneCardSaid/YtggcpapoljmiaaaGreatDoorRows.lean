/-
  NARROWER THAN 'FOR EVERY INPUT', by the rows' own cells (each row's printed sentence says how): ChoiceMade: laid · ChoiceTidy: laid · ChoiceBent: laid · ChoiceFeatures: laid · ChoiceNone: laid · ChoiceReach: laid · ChoiceUnder: laid · TallyMade: laid · TallyEach: laid · TallyAny: laid · TallyLess: laid · TallyGone: laid.
  DERIVED. THE GIVEN ROWS OF THIS SEAT. 12 by the template 'for every input the law returns true; each argument reads behind the call as it read before'; 0 by the template 'total and deterministic' (their statements: YtggcpapoljmiaaaGreatDoorTotals.lean).
  GIVEN WITH THE SEED: the statements are not yours to turn. If you find one false, say at which input.
  Laid BY PROGRAM, IN A SANDBOX (cutbox-rows.mjs): the forced cells as the released guide's own fill.sh prints them over the translation 2bad95ec5102eaad… (all of the seat's roots in one cut). By AI agents, Wed Nov 11 2026. No macro, syntax, notation, axiom, sorry.
-/
import Derived.Test.YtggcpapoljmiaaaGreatDoorChecked
import GoSem.Claim
import GoSem.ClaimJoined
import GoSem.ClaimMapViews
import Derived.JoinedTies
import Derived.KernelRfl
namespace Go.Proofs.YtggcpapoljmiaaaGreatDoor
/- THE CELL 'sum', in the pinned program and in every row, IS THE sha256 OF THE DUMP (.gsa) THAT YtggcpapoljmiaaaGreatDoorProg.lean LOADS. Nothing in Lean hashes anything: it is a label: what it is worth is what the hold of that sum in a sandbox is worth. -/
noncomputable def Tryz.pinned : Pinned := { name := "ytggcpapoljmiaaagreatdoor", sum := "2bad95ec5102eaad908c11c9b57ffd3230ad6539cab5277219b0945464e32a84", checked := Tryz.checked }
namespace Rows
def none {H : Type} : Left H := { results := [], args := [] }

/- WHAT THE LISTED PACKAGE-LEVEL VARIABLES READ AS WHEN THE CALL BEGINS. Each datum BY PROGRAM (the guide's laid-datum.mjs) off the statement by which the dump's own 'gosem.cut.vars' lays the variable. In a bare row this is a premise. The card (YtggcpapoljmiaaaGreatDoorCards.lean) ties it to the program's text. -/
def laid_linchpin_set_first {H : Type} : DataW H := .agg [.lit (.int .i64 0), .lit (.int .i64 0), .lit (.int .i64 0), .lit (.string []), .lit (.string [])]

/-- 'linchpinlaw19.ChoiceMade': WHATEVER THE INPUT: true; the input reads as it did. -/
def choiceMadeSpec : ChangeSpec := { name := "choiceMade", fn := fun _ => fun
  | [d1, d2, d3] => { results := [.lit (.bool true)], args := [d1, d2, d3] }
  | _ => none }
def choiceMadeRow : OpenClaim := { program := "ytggcpapoljmiaaagreatdoor", sum := "2bad95ec5102eaad908c11c9b57ffd3230ad6539cab5277219b0945464e32a84", func := "linchpin/linchpinlaw19.ChoiceMade", spec := "choiceMade", recurses := true, named := ["linchpin/set.first"], apart := false, laid := [("linchpin/set.first", laid_linchpin_set_first)] }
def ChoiceMadeSaid : Prop := choiceMadeRow.holds Tryz.pinned (OpenSpec.ofChange choiceMadeSpec)

/-- ITS FALSE NEIGHBOUR: 'it returns false'. Refute it at one input. -/
def choiceMadeWrong : ChangeSpec := { name := "choiceMade", fn := fun _ => fun
  | [d1, d2, d3] => { results := [.lit (.bool false)], args := [d1, d2, d3] }
  | _ => none }
def ChoiceMadeWrongFalsely : Prop := choiceMadeRow.holds Tryz.pinned (OpenSpec.ofChange choiceMadeWrong)

/-- 'linchpinlaw19.ChoiceTidy': WHATEVER THE INPUT: true; the input reads as it did. -/
def choiceTidySpec : ChangeSpec := { name := "choiceTidy", fn := fun _ => fun
  | [d1, d2, d3] => { results := [.lit (.bool true)], args := [d1, d2, d3] }
  | _ => none }
def choiceTidyRow : OpenClaim := { program := "ytggcpapoljmiaaagreatdoor", sum := "2bad95ec5102eaad908c11c9b57ffd3230ad6539cab5277219b0945464e32a84", func := "linchpin/linchpinlaw19.ChoiceTidy", spec := "choiceTidy", recurses := true, named := ["linchpin/set.first"], apart := false, laid := [("linchpin/set.first", laid_linchpin_set_first)] }
def ChoiceTidySaid : Prop := choiceTidyRow.holds Tryz.pinned (OpenSpec.ofChange choiceTidySpec)

/-- ITS FALSE NEIGHBOUR: 'it returns false'. Refute it at one input. -/
def choiceTidyWrong : ChangeSpec := { name := "choiceTidy", fn := fun _ => fun
  | [d1, d2, d3] => { results := [.lit (.bool false)], args := [d1, d2, d3] }
  | _ => none }
def ChoiceTidyWrongFalsely : Prop := choiceTidyRow.holds Tryz.pinned (OpenSpec.ofChange choiceTidyWrong)

/-- 'linchpinlaw19.ChoiceBent': WHATEVER THE INPUT: true; the input reads as it did. -/
def choiceBentSpec : ChangeSpec := { name := "choiceBent", fn := fun _ => fun
  | [d1, d2, d3] => { results := [.lit (.bool true)], args := [d1, d2, d3] }
  | _ => none }
def choiceBentRow : OpenClaim := { program := "ytggcpapoljmiaaagreatdoor", sum := "2bad95ec5102eaad908c11c9b57ffd3230ad6539cab5277219b0945464e32a84", func := "linchpin/linchpinlaw19.ChoiceBent", spec := "choiceBent", recurses := true, named := ["linchpin/set.first"], apart := false, laid := [("linchpin/set.first", laid_linchpin_set_first)] }
def ChoiceBentSaid : Prop := choiceBentRow.holds Tryz.pinned (OpenSpec.ofChange choiceBentSpec)

/-- ITS FALSE NEIGHBOUR: 'it returns false'. Refute it at one input. -/
def choiceBentWrong : ChangeSpec := { name := "choiceBent", fn := fun _ => fun
  | [d1, d2, d3] => { results := [.lit (.bool false)], args := [d1, d2, d3] }
  | _ => none }
def ChoiceBentWrongFalsely : Prop := choiceBentRow.holds Tryz.pinned (OpenSpec.ofChange choiceBentWrong)

/-- 'linchpinlaw19.ChoiceFeatures': WHATEVER THE INPUT: true; the input reads as it did. -/
def choiceFeaturesSpec : ChangeSpec := { name := "choiceFeatures", fn := fun _ => fun
  | [d] => { results := [.lit (.bool true)], args := [d] }
  | _ => none }
def choiceFeaturesRow : OpenClaim := { program := "ytggcpapoljmiaaagreatdoor", sum := "2bad95ec5102eaad908c11c9b57ffd3230ad6539cab5277219b0945464e32a84", func := "linchpin/linchpinlaw19.ChoiceFeatures", spec := "choiceFeatures", recurses := true, named := ["linchpin/set.first"], apart := false, laid := [("linchpin/set.first", laid_linchpin_set_first)] }
def ChoiceFeaturesSaid : Prop := choiceFeaturesRow.holds Tryz.pinned (OpenSpec.ofChange choiceFeaturesSpec)

/-- ITS FALSE NEIGHBOUR: 'it returns false'. Refute it at one input. -/
def choiceFeaturesWrong : ChangeSpec := { name := "choiceFeatures", fn := fun _ => fun
  | [d] => { results := [.lit (.bool false)], args := [d] }
  | _ => none }
def ChoiceFeaturesWrongFalsely : Prop := choiceFeaturesRow.holds Tryz.pinned (OpenSpec.ofChange choiceFeaturesWrong)

/-- 'linchpinlaw19.ChoiceNone': WHATEVER THE INPUT: true; the input reads as it did. -/
def choiceNoneSpec : ChangeSpec := { name := "choiceNone", fn := fun _ => fun
  | [d1, d2] => { results := [.lit (.bool true)], args := [d1, d2] }
  | _ => none }
def choiceNoneRow : OpenClaim := { program := "ytggcpapoljmiaaagreatdoor", sum := "2bad95ec5102eaad908c11c9b57ffd3230ad6539cab5277219b0945464e32a84", func := "linchpin/linchpinlaw19.ChoiceNone", spec := "choiceNone", recurses := true, named := ["linchpin/set.first"], apart := false, laid := [("linchpin/set.first", laid_linchpin_set_first)] }
def ChoiceNoneSaid : Prop := choiceNoneRow.holds Tryz.pinned (OpenSpec.ofChange choiceNoneSpec)

/-- ITS FALSE NEIGHBOUR: 'it returns false'. Refute it at one input. -/
def choiceNoneWrong : ChangeSpec := { name := "choiceNone", fn := fun _ => fun
  | [d1, d2] => { results := [.lit (.bool false)], args := [d1, d2] }
  | _ => none }
def ChoiceNoneWrongFalsely : Prop := choiceNoneRow.holds Tryz.pinned (OpenSpec.ofChange choiceNoneWrong)

/-- 'linchpinlaw19.ChoiceReach': WHATEVER THE INPUT: true; the input reads as it did. -/
def choiceReachSpec : ChangeSpec := { name := "choiceReach", fn := fun _ => fun
  | [d1, d2, d3] => { results := [.lit (.bool true)], args := [d1, d2, d3] }
  | _ => none }
def choiceReachRow : OpenClaim := { program := "ytggcpapoljmiaaagreatdoor", sum := "2bad95ec5102eaad908c11c9b57ffd3230ad6539cab5277219b0945464e32a84", func := "linchpin/linchpinlaw19.ChoiceReach", spec := "choiceReach", recurses := true, named := ["linchpin/set.first"], apart := false, laid := [("linchpin/set.first", laid_linchpin_set_first)] }
def ChoiceReachSaid : Prop := choiceReachRow.holds Tryz.pinned (OpenSpec.ofChange choiceReachSpec)

/-- ITS FALSE NEIGHBOUR: 'it returns false'. Refute it at one input. -/
def choiceReachWrong : ChangeSpec := { name := "choiceReach", fn := fun _ => fun
  | [d1, d2, d3] => { results := [.lit (.bool false)], args := [d1, d2, d3] }
  | _ => none }
def ChoiceReachWrongFalsely : Prop := choiceReachRow.holds Tryz.pinned (OpenSpec.ofChange choiceReachWrong)

/-- 'linchpinlaw19.ChoiceUnder': WHATEVER THE INPUT: true; the input reads as it did. -/
def choiceUnderSpec : ChangeSpec := { name := "choiceUnder", fn := fun _ => fun
  | [d1, d2, d3] => { results := [.lit (.bool true)], args := [d1, d2, d3] }
  | _ => none }
def choiceUnderRow : OpenClaim := { program := "ytggcpapoljmiaaagreatdoor", sum := "2bad95ec5102eaad908c11c9b57ffd3230ad6539cab5277219b0945464e32a84", func := "linchpin/linchpinlaw19.ChoiceUnder", spec := "choiceUnder", recurses := true, named := ["linchpin/set.first"], apart := false, laid := [("linchpin/set.first", laid_linchpin_set_first)] }
def ChoiceUnderSaid : Prop := choiceUnderRow.holds Tryz.pinned (OpenSpec.ofChange choiceUnderSpec)

/-- ITS FALSE NEIGHBOUR: 'it returns false'. Refute it at one input. -/
def choiceUnderWrong : ChangeSpec := { name := "choiceUnder", fn := fun _ => fun
  | [d1, d2, d3] => { results := [.lit (.bool false)], args := [d1, d2, d3] }
  | _ => none }
def ChoiceUnderWrongFalsely : Prop := choiceUnderRow.holds Tryz.pinned (OpenSpec.ofChange choiceUnderWrong)

/-- 'linchpinlaw20.TallyMade': WHATEVER THE INPUT: true; the input reads as it did. -/
def tallyMadeSpec : ChangeSpec := { name := "tallyMade", fn := fun _ => fun
  | [d1, d2] => { results := [.lit (.bool true)], args := [d1, d2] }
  | _ => none }
def tallyMadeRow : OpenClaim := { program := "ytggcpapoljmiaaagreatdoor", sum := "2bad95ec5102eaad908c11c9b57ffd3230ad6539cab5277219b0945464e32a84", func := "linchpin/linchpinlaw20.TallyMade", spec := "tallyMade", unfollowed := true, recurses := true, named := ["linchpin/set.first"], apart := false, laid := [("linchpin/set.first", laid_linchpin_set_first)] }
def TallyMadeSaid : Prop := tallyMadeRow.holds Tryz.pinned (OpenSpec.ofChange tallyMadeSpec)

/-- ITS FALSE NEIGHBOUR: 'it returns false'. Refute it at one input. -/
def tallyMadeWrong : ChangeSpec := { name := "tallyMade", fn := fun _ => fun
  | [d1, d2] => { results := [.lit (.bool false)], args := [d1, d2] }
  | _ => none }
def TallyMadeWrongFalsely : Prop := tallyMadeRow.holds Tryz.pinned (OpenSpec.ofChange tallyMadeWrong)

/-- 'linchpinlaw20.TallyEach': WHATEVER THE INPUT: true; the input reads as it did. -/
def tallyEachSpec : ChangeSpec := { name := "tallyEach", fn := fun _ => fun
  | [d1, d2] => { results := [.lit (.bool true)], args := [d1, d2] }
  | _ => none }
def tallyEachRow : OpenClaim := { program := "ytggcpapoljmiaaagreatdoor", sum := "2bad95ec5102eaad908c11c9b57ffd3230ad6539cab5277219b0945464e32a84", func := "linchpin/linchpinlaw20.TallyEach", spec := "tallyEach", unfollowed := true, recurses := true, named := ["linchpin/set.first"], apart := false, laid := [("linchpin/set.first", laid_linchpin_set_first)] }
def TallyEachSaid : Prop := tallyEachRow.holds Tryz.pinned (OpenSpec.ofChange tallyEachSpec)

/-- ITS FALSE NEIGHBOUR: 'it returns false'. Refute it at one input. -/
def tallyEachWrong : ChangeSpec := { name := "tallyEach", fn := fun _ => fun
  | [d1, d2] => { results := [.lit (.bool false)], args := [d1, d2] }
  | _ => none }
def TallyEachWrongFalsely : Prop := tallyEachRow.holds Tryz.pinned (OpenSpec.ofChange tallyEachWrong)

/-- 'linchpinlaw20.TallyAny': WHATEVER THE INPUT: true; the input reads as it did. -/
def tallyAnySpec : ChangeSpec := { name := "tallyAny", fn := fun _ => fun
  | [d1, d2, d3] => { results := [.lit (.bool true)], args := [d1, d2, d3] }
  | _ => none }
def tallyAnyRow : OpenClaim := { program := "ytggcpapoljmiaaagreatdoor", sum := "2bad95ec5102eaad908c11c9b57ffd3230ad6539cab5277219b0945464e32a84", func := "linchpin/linchpinlaw20.TallyAny", spec := "tallyAny", unfollowed := true, recurses := true, named := ["linchpin/set.first"], apart := false, laid := [("linchpin/set.first", laid_linchpin_set_first)] }
def TallyAnySaid : Prop := tallyAnyRow.holds Tryz.pinned (OpenSpec.ofChange tallyAnySpec)

/-- ITS FALSE NEIGHBOUR: 'it returns false'. Refute it at one input. -/
def tallyAnyWrong : ChangeSpec := { name := "tallyAny", fn := fun _ => fun
  | [d1, d2, d3] => { results := [.lit (.bool false)], args := [d1, d2, d3] }
  | _ => none }
def TallyAnyWrongFalsely : Prop := tallyAnyRow.holds Tryz.pinned (OpenSpec.ofChange tallyAnyWrong)

/-- 'linchpinlaw20.TallyLess': WHATEVER THE INPUT: true; the input reads as it did. -/
def tallyLessSpec : ChangeSpec := { name := "tallyLess", fn := fun _ => fun
  | [d1, d2, d3, d4] => { results := [.lit (.bool true)], args := [d1, d2, d3, d4] }
  | _ => none }
def tallyLessRow : OpenClaim := { program := "ytggcpapoljmiaaagreatdoor", sum := "2bad95ec5102eaad908c11c9b57ffd3230ad6539cab5277219b0945464e32a84", func := "linchpin/linchpinlaw20.TallyLess", spec := "tallyLess", unfollowed := true, recurses := true, named := ["linchpin/set.first"], apart := false, laid := [("linchpin/set.first", laid_linchpin_set_first)] }
def TallyLessSaid : Prop := tallyLessRow.holds Tryz.pinned (OpenSpec.ofChange tallyLessSpec)

/-- ITS FALSE NEIGHBOUR: 'it returns false'. Refute it at one input. -/
def tallyLessWrong : ChangeSpec := { name := "tallyLess", fn := fun _ => fun
  | [d1, d2, d3, d4] => { results := [.lit (.bool false)], args := [d1, d2, d3, d4] }
  | _ => none }
def TallyLessWrongFalsely : Prop := tallyLessRow.holds Tryz.pinned (OpenSpec.ofChange tallyLessWrong)

/-- 'linchpinlaw20.TallyGone': WHATEVER THE INPUT: true; the input reads as it did. -/
def tallyGoneSpec : ChangeSpec := { name := "tallyGone", fn := fun _ => fun
  | [d1, d2] => { results := [.lit (.bool true)], args := [d1, d2] }
  | _ => none }
def tallyGoneRow : OpenClaim := { program := "ytggcpapoljmiaaagreatdoor", sum := "2bad95ec5102eaad908c11c9b57ffd3230ad6539cab5277219b0945464e32a84", func := "linchpin/linchpinlaw20.TallyGone", spec := "tallyGone", unfollowed := true, recurses := true, named := ["linchpin/set.first"], apart := false, laid := [("linchpin/set.first", laid_linchpin_set_first)] }
def TallyGoneSaid : Prop := tallyGoneRow.holds Tryz.pinned (OpenSpec.ofChange tallyGoneSpec)

/-- ITS FALSE NEIGHBOUR: 'it returns false'. Refute it at one input. -/
def tallyGoneWrong : ChangeSpec := { name := "tallyGone", fn := fun _ => fun
  | [d1, d2] => { results := [.lit (.bool false)], args := [d1, d2] }
  | _ => none }
def TallyGoneWrongFalsely : Prop := tallyGoneRow.holds Tryz.pinned (OpenSpec.ofChange tallyGoneWrong)

/- THE SECOND FORM. 'bulk': how many values and letters a reading holds, each counted each time it is reached (what is shared counts as often as it is met; a slice's spare places count too). A statement '..UptoSaid' is the law's where the arguments, and the package variables that the reading takes, are together of bulk at most 1048576: NARROWER than '..Said'. Prove '..Said' where nothing that the law and all that it calls make is longer than what came in: it says more and counts as full. Else prove '..UptoSaid'. A law counts once. -/
mutual
def uptoBulk {H : Type} : DataW H → Nat
  | .lit (.string bytes) => bytes.length + 1
  | .lit _ => 1
  | .nil => 1
  | .ptr d => uptoBulk d + 1
  | .slice elems spare => uptoBulkAll elems + uptoBulkAll spare + 1
  | .agg parts => uptoBulkAll parts + 1
  | .iface _ d => uptoBulk d + 1
  | .map entries => uptoBulkEntries entries + 1
  | .held _ => 1
def uptoBulkAll {H : Type} : List (DataW H) → Nat
  | [] => 0
  | d :: r => uptoBulk d + uptoBulkAll r
def uptoBulkEntries {H : Type} : List (Lit × DataW H) → Nat
  | [] => 0
  | x :: r => uptoBulkEntry x + uptoBulkEntries r
def uptoBulkEntry {H : Type} : Lit × DataW H → Nat
  | (.string bytes, d) => bytes.length + uptoBulk d + 1
  | (_, d) => uptoBulk d + 1
 end
def uptoSmall : (H : Type) → List (DataW H) → Bool := fun _ ds => decide (uptoBulkAll ds ≤ 1048576)
def OpenSpec.upto (s : _root_.Go.ChangeSpec) : _root_.Go.OpenSpec := { _root_.Go.OpenSpec.ofChange s with cond := some uptoSmall }

/-- 'linchpinlaw19.ChoiceMade', WHERE WHAT IT READS IS OF BULK AT MOST 1048576: true; the input reads as it did. -/
def choiceMadeUptoRow : OpenClaim := { program := "ytggcpapoljmiaaagreatdoor", sum := "2bad95ec5102eaad908c11c9b57ffd3230ad6539cab5277219b0945464e32a84", func := "linchpin/linchpinlaw19.ChoiceMade", spec := "choiceMade", recurses := true, named := ["linchpin/set.first"], apart := false, laid := [("linchpin/set.first", laid_linchpin_set_first)], narrowed := true }
def ChoiceMadeUptoSaid : Prop := choiceMadeUptoRow.holds Tryz.pinned (OpenSpec.upto choiceMadeSpec)

/-- 'linchpinlaw19.ChoiceTidy', WHERE WHAT IT READS IS OF BULK AT MOST 1048576: true; the input reads as it did. -/
def choiceTidyUptoRow : OpenClaim := { program := "ytggcpapoljmiaaagreatdoor", sum := "2bad95ec5102eaad908c11c9b57ffd3230ad6539cab5277219b0945464e32a84", func := "linchpin/linchpinlaw19.ChoiceTidy", spec := "choiceTidy", recurses := true, named := ["linchpin/set.first"], apart := false, laid := [("linchpin/set.first", laid_linchpin_set_first)], narrowed := true }
def ChoiceTidyUptoSaid : Prop := choiceTidyUptoRow.holds Tryz.pinned (OpenSpec.upto choiceTidySpec)

/-- 'linchpinlaw19.ChoiceBent', WHERE WHAT IT READS IS OF BULK AT MOST 1048576: true; the input reads as it did. -/
def choiceBentUptoRow : OpenClaim := { program := "ytggcpapoljmiaaagreatdoor", sum := "2bad95ec5102eaad908c11c9b57ffd3230ad6539cab5277219b0945464e32a84", func := "linchpin/linchpinlaw19.ChoiceBent", spec := "choiceBent", recurses := true, named := ["linchpin/set.first"], apart := false, laid := [("linchpin/set.first", laid_linchpin_set_first)], narrowed := true }
def ChoiceBentUptoSaid : Prop := choiceBentUptoRow.holds Tryz.pinned (OpenSpec.upto choiceBentSpec)

/-- 'linchpinlaw19.ChoiceFeatures', WHERE WHAT IT READS IS OF BULK AT MOST 1048576: true; the input reads as it did. -/
def choiceFeaturesUptoRow : OpenClaim := { program := "ytggcpapoljmiaaagreatdoor", sum := "2bad95ec5102eaad908c11c9b57ffd3230ad6539cab5277219b0945464e32a84", func := "linchpin/linchpinlaw19.ChoiceFeatures", spec := "choiceFeatures", recurses := true, named := ["linchpin/set.first"], apart := false, laid := [("linchpin/set.first", laid_linchpin_set_first)], narrowed := true }
def ChoiceFeaturesUptoSaid : Prop := choiceFeaturesUptoRow.holds Tryz.pinned (OpenSpec.upto choiceFeaturesSpec)

/-- 'linchpinlaw19.ChoiceNone', WHERE WHAT IT READS IS OF BULK AT MOST 1048576: true; the input reads as it did. -/
def choiceNoneUptoRow : OpenClaim := { program := "ytggcpapoljmiaaagreatdoor", sum := "2bad95ec5102eaad908c11c9b57ffd3230ad6539cab5277219b0945464e32a84", func := "linchpin/linchpinlaw19.ChoiceNone", spec := "choiceNone", recurses := true, named := ["linchpin/set.first"], apart := false, laid := [("linchpin/set.first", laid_linchpin_set_first)], narrowed := true }
def ChoiceNoneUptoSaid : Prop := choiceNoneUptoRow.holds Tryz.pinned (OpenSpec.upto choiceNoneSpec)

/-- 'linchpinlaw19.ChoiceReach', WHERE WHAT IT READS IS OF BULK AT MOST 1048576: true; the input reads as it did. -/
def choiceReachUptoRow : OpenClaim := { program := "ytggcpapoljmiaaagreatdoor", sum := "2bad95ec5102eaad908c11c9b57ffd3230ad6539cab5277219b0945464e32a84", func := "linchpin/linchpinlaw19.ChoiceReach", spec := "choiceReach", recurses := true, named := ["linchpin/set.first"], apart := false, laid := [("linchpin/set.first", laid_linchpin_set_first)], narrowed := true }
def ChoiceReachUptoSaid : Prop := choiceReachUptoRow.holds Tryz.pinned (OpenSpec.upto choiceReachSpec)

/-- 'linchpinlaw19.ChoiceUnder', WHERE WHAT IT READS IS OF BULK AT MOST 1048576: true; the input reads as it did. -/
def choiceUnderUptoRow : OpenClaim := { program := "ytggcpapoljmiaaagreatdoor", sum := "2bad95ec5102eaad908c11c9b57ffd3230ad6539cab5277219b0945464e32a84", func := "linchpin/linchpinlaw19.ChoiceUnder", spec := "choiceUnder", recurses := true, named := ["linchpin/set.first"], apart := false, laid := [("linchpin/set.first", laid_linchpin_set_first)], narrowed := true }
def ChoiceUnderUptoSaid : Prop := choiceUnderUptoRow.holds Tryz.pinned (OpenSpec.upto choiceUnderSpec)

/-- 'linchpinlaw20.TallyMade', WHERE WHAT IT READS IS OF BULK AT MOST 1048576: true; the input reads as it did. -/
def tallyMadeUptoRow : OpenClaim := { program := "ytggcpapoljmiaaagreatdoor", sum := "2bad95ec5102eaad908c11c9b57ffd3230ad6539cab5277219b0945464e32a84", func := "linchpin/linchpinlaw20.TallyMade", spec := "tallyMade", unfollowed := true, recurses := true, named := ["linchpin/set.first"], apart := false, laid := [("linchpin/set.first", laid_linchpin_set_first)], narrowed := true }
def TallyMadeUptoSaid : Prop := tallyMadeUptoRow.holds Tryz.pinned (OpenSpec.upto tallyMadeSpec)

/-- 'linchpinlaw20.TallyEach', WHERE WHAT IT READS IS OF BULK AT MOST 1048576: true; the input reads as it did. -/
def tallyEachUptoRow : OpenClaim := { program := "ytggcpapoljmiaaagreatdoor", sum := "2bad95ec5102eaad908c11c9b57ffd3230ad6539cab5277219b0945464e32a84", func := "linchpin/linchpinlaw20.TallyEach", spec := "tallyEach", unfollowed := true, recurses := true, named := ["linchpin/set.first"], apart := false, laid := [("linchpin/set.first", laid_linchpin_set_first)], narrowed := true }
def TallyEachUptoSaid : Prop := tallyEachUptoRow.holds Tryz.pinned (OpenSpec.upto tallyEachSpec)

/-- 'linchpinlaw20.TallyAny', WHERE WHAT IT READS IS OF BULK AT MOST 1048576: true; the input reads as it did. -/
def tallyAnyUptoRow : OpenClaim := { program := "ytggcpapoljmiaaagreatdoor", sum := "2bad95ec5102eaad908c11c9b57ffd3230ad6539cab5277219b0945464e32a84", func := "linchpin/linchpinlaw20.TallyAny", spec := "tallyAny", unfollowed := true, recurses := true, named := ["linchpin/set.first"], apart := false, laid := [("linchpin/set.first", laid_linchpin_set_first)], narrowed := true }
def TallyAnyUptoSaid : Prop := tallyAnyUptoRow.holds Tryz.pinned (OpenSpec.upto tallyAnySpec)

/-- 'linchpinlaw20.TallyLess', WHERE WHAT IT READS IS OF BULK AT MOST 1048576: true; the input reads as it did. -/
def tallyLessUptoRow : OpenClaim := { program := "ytggcpapoljmiaaagreatdoor", sum := "2bad95ec5102eaad908c11c9b57ffd3230ad6539cab5277219b0945464e32a84", func := "linchpin/linchpinlaw20.TallyLess", spec := "tallyLess", unfollowed := true, recurses := true, named := ["linchpin/set.first"], apart := false, laid := [("linchpin/set.first", laid_linchpin_set_first)], narrowed := true }
def TallyLessUptoSaid : Prop := tallyLessUptoRow.holds Tryz.pinned (OpenSpec.upto tallyLessSpec)

/-- 'linchpinlaw20.TallyGone', WHERE WHAT IT READS IS OF BULK AT MOST 1048576: true; the input reads as it did. -/
def tallyGoneUptoRow : OpenClaim := { program := "ytggcpapoljmiaaagreatdoor", sum := "2bad95ec5102eaad908c11c9b57ffd3230ad6539cab5277219b0945464e32a84", func := "linchpin/linchpinlaw20.TallyGone", spec := "tallyGone", unfollowed := true, recurses := true, named := ["linchpin/set.first"], apart := false, laid := [("linchpin/set.first", laid_linchpin_set_first)], narrowed := true }
def TallyGoneUptoSaid : Prop := tallyGoneUptoRow.holds Tryz.pinned (OpenSpec.upto tallyGoneSpec)

end Rows
end Go.Proofs.YtggcpapoljmiaaaGreatDoor
