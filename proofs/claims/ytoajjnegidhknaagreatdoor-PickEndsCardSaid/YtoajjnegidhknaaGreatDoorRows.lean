/-
  NARROWER THAN 'FOR EVERY INPUT', by the rows' own cells (each row's printed sentence says how): PickTells: laid · PickGuides: laid · PickEnds: laid · PickOffers: laid · PickOrder: laid.
  DERIVED. THE GIVEN ROWS OF THIS SEAT. 5 by the template 'for every input the law returns true; each argument reads behind the call as it read before'; 0 by the template 'total and deterministic' (their statements: YtoajjnegidhknaaGreatDoorTotals.lean).
  GIVEN WITH THE SEED: the statements are not yours to turn. If you find one false, say at which input.
  Laid BY PROGRAM, IN A SANDBOX (cutbox-rows.mjs): the forced cells as the released guide's own fill.sh prints them over the translation 5798252d422a4f6d… (all of the seat's roots in one cut). By AI agents, Wed Nov 11 2026. No macro, syntax, notation, axiom, sorry.
-/
import Derived.Test.YtoajjnegidhknaaGreatDoorChecked
import GoSem.Claim
import GoSem.ClaimJoined
import GoSem.ClaimMapViews
import Derived.JoinedTies
import Derived.KernelRfl
namespace Go.Proofs.YtoajjnegidhknaaGreatDoor
/- THE CELL 'sum', in the pinned program and in every row, IS THE sha256 OF THE DUMP (.gsa) THAT YtoajjnegidhknaaGreatDoorProg.lean LOADS. Nothing in Lean hashes anything: it is a label: what it is worth is what the hold of that sum in a sandbox is worth. -/
noncomputable def Tryz.pinned : Pinned := { name := "ytoajjnegidhknaagreatdoor", sum := "5798252d422a4f6d37c8a0e30d08d0c18bd394234aa3b65ae0b1cbaa2c4af64f", checked := Tryz.checked }
namespace Rows
def none {H : Type} : Left H := { results := [], args := [] }

/- WHAT THE LISTED PACKAGE-LEVEL VARIABLES READ AS WHEN THE CALL BEGINS. Each datum BY PROGRAM (the guide's laid-datum.mjs) off the statement by which the dump's own 'gosem.cut.vars' lays the variable. In a bare row this is a premise. The card (YtoajjnegidhknaaGreatDoorCards.lean) ties it to the program's text. -/
def laid_linchpin_set_first {H : Type} : DataW H := .agg [.lit (.int .i64 0), .lit (.int .i64 0), .lit (.int .i64 0), .lit (.string []), .lit (.string [])]

/-- 'linchpinlaw27.PickTells': WHATEVER THE INPUT: true; the input reads as it did. -/
def pickTellsSpec : ChangeSpec := { name := "pickTells", fn := fun _ => fun
  | [d1, d2, d3, d4] => { results := [.lit (.bool true)], args := [d1, d2, d3, d4] }
  | _ => none }
def pickTellsRow : OpenClaim := { program := "ytoajjnegidhknaagreatdoor", sum := "5798252d422a4f6d37c8a0e30d08d0c18bd394234aa3b65ae0b1cbaa2c4af64f", func := "linchpin/linchpinlaw27.PickTells", spec := "pickTells", unfollowed := true, recurses := true, named := ["linchpin/set.first"], apart := false, laid := [("linchpin/set.first", laid_linchpin_set_first)] }
def PickTellsSaid : Prop := pickTellsRow.holds Tryz.pinned (OpenSpec.ofChange pickTellsSpec)

/-- ITS FALSE NEIGHBOUR: 'it returns false'. Refute it at one input. -/
def pickTellsWrong : ChangeSpec := { name := "pickTells", fn := fun _ => fun
  | [d1, d2, d3, d4] => { results := [.lit (.bool false)], args := [d1, d2, d3, d4] }
  | _ => none }
def PickTellsWrongFalsely : Prop := pickTellsRow.holds Tryz.pinned (OpenSpec.ofChange pickTellsWrong)

/-- 'linchpinlaw27.PickGuides': WHATEVER THE INPUT: true; the input reads as it did. -/
def pickGuidesSpec : ChangeSpec := { name := "pickGuides", fn := fun _ => fun
  | [d1, d2, d3, d4, d5] => { results := [.lit (.bool true)], args := [d1, d2, d3, d4, d5] }
  | _ => none }
def pickGuidesRow : OpenClaim := { program := "ytoajjnegidhknaagreatdoor", sum := "5798252d422a4f6d37c8a0e30d08d0c18bd394234aa3b65ae0b1cbaa2c4af64f", func := "linchpin/linchpinlaw27.PickGuides", spec := "pickGuides", unfollowed := true, recurses := true, named := ["linchpin/set.first"], apart := false, laid := [("linchpin/set.first", laid_linchpin_set_first)] }
def PickGuidesSaid : Prop := pickGuidesRow.holds Tryz.pinned (OpenSpec.ofChange pickGuidesSpec)

/-- ITS FALSE NEIGHBOUR: 'it returns false'. Refute it at one input. -/
def pickGuidesWrong : ChangeSpec := { name := "pickGuides", fn := fun _ => fun
  | [d1, d2, d3, d4, d5] => { results := [.lit (.bool false)], args := [d1, d2, d3, d4, d5] }
  | _ => none }
def PickGuidesWrongFalsely : Prop := pickGuidesRow.holds Tryz.pinned (OpenSpec.ofChange pickGuidesWrong)

/-- 'linchpinlaw27.PickEnds': WHATEVER THE INPUT: true; the input reads as it did. -/
def pickEndsSpec : ChangeSpec := { name := "pickEnds", fn := fun _ => fun
  | [d1, d2, d3] => { results := [.lit (.bool true)], args := [d1, d2, d3] }
  | _ => none }
def pickEndsRow : OpenClaim := { program := "ytoajjnegidhknaagreatdoor", sum := "5798252d422a4f6d37c8a0e30d08d0c18bd394234aa3b65ae0b1cbaa2c4af64f", func := "linchpin/linchpinlaw27.PickEnds", spec := "pickEnds", unfollowed := true, recurses := true, named := ["linchpin/set.first"], apart := false, laid := [("linchpin/set.first", laid_linchpin_set_first)] }
def PickEndsSaid : Prop := pickEndsRow.holds Tryz.pinned (OpenSpec.ofChange pickEndsSpec)

/-- ITS FALSE NEIGHBOUR: 'it returns false'. Refute it at one input. -/
def pickEndsWrong : ChangeSpec := { name := "pickEnds", fn := fun _ => fun
  | [d1, d2, d3] => { results := [.lit (.bool false)], args := [d1, d2, d3] }
  | _ => none }
def PickEndsWrongFalsely : Prop := pickEndsRow.holds Tryz.pinned (OpenSpec.ofChange pickEndsWrong)

/-- 'linchpinlaw27.PickOffers': WHATEVER THE INPUT: true; the input reads as it did. -/
def pickOffersSpec : ChangeSpec := { name := "pickOffers", fn := fun _ => fun
  | [d1, d2, d3] => { results := [.lit (.bool true)], args := [d1, d2, d3] }
  | _ => none }
def pickOffersRow : OpenClaim := { program := "ytoajjnegidhknaagreatdoor", sum := "5798252d422a4f6d37c8a0e30d08d0c18bd394234aa3b65ae0b1cbaa2c4af64f", func := "linchpin/linchpinlaw27.PickOffers", spec := "pickOffers", unfollowed := true, recurses := true, named := ["linchpin/set.first"], apart := false, laid := [("linchpin/set.first", laid_linchpin_set_first)] }
def PickOffersSaid : Prop := pickOffersRow.holds Tryz.pinned (OpenSpec.ofChange pickOffersSpec)

/-- ITS FALSE NEIGHBOUR: 'it returns false'. Refute it at one input. -/
def pickOffersWrong : ChangeSpec := { name := "pickOffers", fn := fun _ => fun
  | [d1, d2, d3] => { results := [.lit (.bool false)], args := [d1, d2, d3] }
  | _ => none }
def PickOffersWrongFalsely : Prop := pickOffersRow.holds Tryz.pinned (OpenSpec.ofChange pickOffersWrong)

/-- 'linchpinlaw27.PickOrder': WHATEVER THE INPUT: true; the input reads as it did. -/
def pickOrderSpec : ChangeSpec := { name := "pickOrder", fn := fun _ => fun
  | [d1, d2, d3] => { results := [.lit (.bool true)], args := [d1, d2, d3] }
  | _ => none }
def pickOrderRow : OpenClaim := { program := "ytoajjnegidhknaagreatdoor", sum := "5798252d422a4f6d37c8a0e30d08d0c18bd394234aa3b65ae0b1cbaa2c4af64f", func := "linchpin/linchpinlaw27.PickOrder", spec := "pickOrder", unfollowed := true, recurses := true, named := ["linchpin/set.first"], apart := false, laid := [("linchpin/set.first", laid_linchpin_set_first)] }
def PickOrderSaid : Prop := pickOrderRow.holds Tryz.pinned (OpenSpec.ofChange pickOrderSpec)

/-- ITS FALSE NEIGHBOUR: 'it returns false'. Refute it at one input. -/
def pickOrderWrong : ChangeSpec := { name := "pickOrder", fn := fun _ => fun
  | [d1, d2, d3] => { results := [.lit (.bool false)], args := [d1, d2, d3] }
  | _ => none }
def PickOrderWrongFalsely : Prop := pickOrderRow.holds Tryz.pinned (OpenSpec.ofChange pickOrderWrong)

/- THE SECOND FORM. 'bulk': how many values and letters a reading holds, each counted each time it is reached (what is shared counts as often as it is met; a slice's spare places count too). A statement '..UptoSaid' is the law's where the arguments, and the package variables that the reading takes, are together of bulk at most 1048576: NARROWER than '..Said'. Prove '..Said' where nothing that the law and all that it calls make is longer than what came in: it says more and counts as full. Else prove '..UptoSaid'. A law counts once. -/
mutual
def uptoBulk {H : Type} : DataW H → Nat
  | .lit (.string bytes) => bytes.length + 1
  | .lit _ => 1
  | .nil => 1
  | .ptr d => uptoBulk d + 1
  | .slice elems spare => uptoBulkAll elems + uptoBulkAll spare + 1
  | .agg parts => uptoBulkAll parts + 1
  | .iface _ d => uptoBulk d + 1
  | .map entries => uptoBulkEntries entries + 1
  | .held _ => 1
def uptoBulkAll {H : Type} : List (DataW H) → Nat
  | [] => 0
  | d :: r => uptoBulk d + uptoBulkAll r
def uptoBulkEntries {H : Type} : List (Lit × DataW H) → Nat
  | [] => 0
  | x :: r => uptoBulkEntry x + uptoBulkEntries r
def uptoBulkEntry {H : Type} : Lit × DataW H → Nat
  | (.string bytes, d) => bytes.length + uptoBulk d + 1
  | (_, d) => uptoBulk d + 1
 end
def uptoSmall : (H : Type) → List (DataW H) → Bool := fun _ ds => decide (uptoBulkAll ds ≤ 1048576)
def OpenSpec.upto (s : _root_.Go.ChangeSpec) : _root_.Go.OpenSpec := { _root_.Go.OpenSpec.ofChange s with cond := some uptoSmall }

/-- 'linchpinlaw27.PickTells', WHERE WHAT IT READS IS OF BULK AT MOST 1048576: true; the input reads as it did. -/
def pickTellsUptoRow : OpenClaim := { program := "ytoajjnegidhknaagreatdoor", sum := "5798252d422a4f6d37c8a0e30d08d0c18bd394234aa3b65ae0b1cbaa2c4af64f", func := "linchpin/linchpinlaw27.PickTells", spec := "pickTells", unfollowed := true, recurses := true, named := ["linchpin/set.first"], apart := false, laid := [("linchpin/set.first", laid_linchpin_set_first)], narrowed := true }
def PickTellsUptoSaid : Prop := pickTellsUptoRow.holds Tryz.pinned (OpenSpec.upto pickTellsSpec)

/-- 'linchpinlaw27.PickGuides', WHERE WHAT IT READS IS OF BULK AT MOST 1048576: true; the input reads as it did. -/
def pickGuidesUptoRow : OpenClaim := { program := "ytoajjnegidhknaagreatdoor", sum := "5798252d422a4f6d37c8a0e30d08d0c18bd394234aa3b65ae0b1cbaa2c4af64f", func := "linchpin/linchpinlaw27.PickGuides", spec := "pickGuides", unfollowed := true, recurses := true, named := ["linchpin/set.first"], apart := false, laid := [("linchpin/set.first", laid_linchpin_set_first)], narrowed := true }
def PickGuidesUptoSaid : Prop := pickGuidesUptoRow.holds Tryz.pinned (OpenSpec.upto pickGuidesSpec)

/-- 'linchpinlaw27.PickEnds', WHERE WHAT IT READS IS OF BULK AT MOST 1048576: true; the input reads as it did. -/
def pickEndsUptoRow : OpenClaim := { program := "ytoajjnegidhknaagreatdoor", sum := "5798252d422a4f6d37c8a0e30d08d0c18bd394234aa3b65ae0b1cbaa2c4af64f", func := "linchpin/linchpinlaw27.PickEnds", spec := "pickEnds", unfollowed := true, recurses := true, named := ["linchpin/set.first"], apart := false, laid := [("linchpin/set.first", laid_linchpin_set_first)], narrowed := true }
def PickEndsUptoSaid : Prop := pickEndsUptoRow.holds Tryz.pinned (OpenSpec.upto pickEndsSpec)

/-- 'linchpinlaw27.PickOffers', WHERE WHAT IT READS IS OF BULK AT MOST 1048576: true; the input reads as it did. -/
def pickOffersUptoRow : OpenClaim := { program := "ytoajjnegidhknaagreatdoor", sum := "5798252d422a4f6d37c8a0e30d08d0c18bd394234aa3b65ae0b1cbaa2c4af64f", func := "linchpin/linchpinlaw27.PickOffers", spec := "pickOffers", unfollowed := true, recurses := true, named := ["linchpin/set.first"], apart := false, laid := [("linchpin/set.first", laid_linchpin_set_first)], narrowed := true }
def PickOffersUptoSaid : Prop := pickOffersUptoRow.holds Tryz.pinned (OpenSpec.upto pickOffersSpec)

/-- 'linchpinlaw27.PickOrder', WHERE WHAT IT READS IS OF BULK AT MOST 1048576: true; the input reads as it did. -/
def pickOrderUptoRow : OpenClaim := { program := "ytoajjnegidhknaagreatdoor", sum := "5798252d422a4f6d37c8a0e30d08d0c18bd394234aa3b65ae0b1cbaa2c4af64f", func := "linchpin/linchpinlaw27.PickOrder", spec := "pickOrder", unfollowed := true, recurses := true, named := ["linchpin/set.first"], apart := false, laid := [("linchpin/set.first", laid_linchpin_set_first)], narrowed := true }
def PickOrderUptoSaid : Prop := pickOrderUptoRow.holds Tryz.pinned (OpenSpec.upto pickOrderSpec)

end Rows
end Go.Proofs.YtoajjnegidhknaaGreatDoor
