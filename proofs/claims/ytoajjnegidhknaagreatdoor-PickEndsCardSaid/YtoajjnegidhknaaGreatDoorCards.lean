/-
  DERIVED. GIVEN WITH THE SEED: THE CARDS: each row of YtoajjnegidhknaaGreatDoorRows.lean that lists a variable, with what it lists TIED to the program's text (the seventh form; the later family's looks); each row that meets fmt, with fmt's text TOLD by the authors' own Lean function (tested against real Go, not proved from fmt's source: count such statements apart). THE CARD IS WHAT COUNTS. Prove the row's statement (the work); the ties are given (YtoajjnegidhknaaGreatDoorTie.lean); close each card by the builder's one call (the guide's Derived/Test/ToyasCard.lean, 'card_holds'). Laid BY PROGRAM, IN A SANDBOX (cutbox-door.mjs). By AI agents, Wed Nov 11 2026. No macro, syntax, notation, axiom, sorry.
-/
import Derived.Test.YtoajjnegidhknaaGreatDoorRows
import GoSem.ClaimSeven
namespace Go.Proofs.YtoajjnegidhknaaGreatDoor
namespace Rows

/-- THE TIED CARD OF 'linchpinlaw27.PickTells'. -/
def pickTellsCard : Claim7 := { stood := { row := pickTellsRow, standIns := [], harness := (true, "61540e482cbb1648f0955c9048cbbfbb72827cb1dd6733277d4fd92547892616"), looks := false }, kinds := [], alts := [], laidByText := true, laidKinds := [.data], laidTests := true, laidLooks := .later }
def PickTellsCardSaid : Prop := Claim7.holds Tryz.pinned (.plain (OpenSpec.ofChange pickTellsSpec)) pickTellsCard

/-- THE TIED CARD OF 'linchpinlaw27.PickGuides'. -/
def pickGuidesCard : Claim7 := { stood := { row := pickGuidesRow, standIns := [], harness := (true, "61540e482cbb1648f0955c9048cbbfbb72827cb1dd6733277d4fd92547892616"), looks := false }, kinds := [], alts := [], laidByText := true, laidKinds := [.data], laidTests := true, laidLooks := .later }
def PickGuidesCardSaid : Prop := Claim7.holds Tryz.pinned (.plain (OpenSpec.ofChange pickGuidesSpec)) pickGuidesCard

/-- THE TIED CARD OF 'linchpinlaw27.PickEnds'. -/
def pickEndsCard : Claim7 := { stood := { row := pickEndsRow, standIns := [], harness := (true, "61540e482cbb1648f0955c9048cbbfbb72827cb1dd6733277d4fd92547892616"), looks := false }, kinds := [], alts := [], laidByText := true, laidKinds := [.data], laidTests := true, laidLooks := .later }
def PickEndsCardSaid : Prop := Claim7.holds Tryz.pinned (.plain (OpenSpec.ofChange pickEndsSpec)) pickEndsCard

/-- THE TIED CARD OF 'linchpinlaw27.PickOffers'. -/
def pickOffersCard : Claim7 := { stood := { row := pickOffersRow, standIns := [], harness := (true, "61540e482cbb1648f0955c9048cbbfbb72827cb1dd6733277d4fd92547892616"), looks := false }, kinds := [], alts := [], laidByText := true, laidKinds := [.data], laidTests := true, laidLooks := .later }
def PickOffersCardSaid : Prop := Claim7.holds Tryz.pinned (.plain (OpenSpec.ofChange pickOffersSpec)) pickOffersCard

/-- THE TIED CARD OF 'linchpinlaw27.PickOrder'. -/
def pickOrderCard : Claim7 := { stood := { row := pickOrderRow, standIns := [], harness := (true, "61540e482cbb1648f0955c9048cbbfbb72827cb1dd6733277d4fd92547892616"), looks := false }, kinds := [], alts := [], laidByText := true, laidKinds := [.data], laidTests := true, laidLooks := .later }
def PickOrderCardSaid : Prop := Claim7.holds Tryz.pinned (.plain (OpenSpec.ofChange pickOrderSpec)) pickOrderCard

/-- THE SECOND FORM's CARD OF 'linchpinlaw27.PickTells'. -/
def pickTellsUptoCard : Claim7 := { stood := { row := pickTellsUptoRow, standIns := [], harness := (true, "61540e482cbb1648f0955c9048cbbfbb72827cb1dd6733277d4fd92547892616"), looks := false }, kinds := [], alts := [], laidByText := true, laidKinds := [.data], laidTests := true, laidLooks := .later }
def PickTellsUptoCardSaid : Prop := Claim7.holds Tryz.pinned (.plain (OpenSpec.upto pickTellsSpec)) pickTellsUptoCard

/-- THE SECOND FORM's CARD OF 'linchpinlaw27.PickGuides'. -/
def pickGuidesUptoCard : Claim7 := { stood := { row := pickGuidesUptoRow, standIns := [], harness := (true, "61540e482cbb1648f0955c9048cbbfbb72827cb1dd6733277d4fd92547892616"), looks := false }, kinds := [], alts := [], laidByText := true, laidKinds := [.data], laidTests := true, laidLooks := .later }
def PickGuidesUptoCardSaid : Prop := Claim7.holds Tryz.pinned (.plain (OpenSpec.upto pickGuidesSpec)) pickGuidesUptoCard

/-- THE SECOND FORM's CARD OF 'linchpinlaw27.PickEnds'. -/
def pickEndsUptoCard : Claim7 := { stood := { row := pickEndsUptoRow, standIns := [], harness := (true, "61540e482cbb1648f0955c9048cbbfbb72827cb1dd6733277d4fd92547892616"), looks := false }, kinds := [], alts := [], laidByText := true, laidKinds := [.data], laidTests := true, laidLooks := .later }
def PickEndsUptoCardSaid : Prop := Claim7.holds Tryz.pinned (.plain (OpenSpec.upto pickEndsSpec)) pickEndsUptoCard

/-- THE SECOND FORM's CARD OF 'linchpinlaw27.PickOffers'. -/
def pickOffersUptoCard : Claim7 := { stood := { row := pickOffersUptoRow, standIns := [], harness := (true, "61540e482cbb1648f0955c9048cbbfbb72827cb1dd6733277d4fd92547892616"), looks := false }, kinds := [], alts := [], laidByText := true, laidKinds := [.data], laidTests := true, laidLooks := .later }
def PickOffersUptoCardSaid : Prop := Claim7.holds Tryz.pinned (.plain (OpenSpec.upto pickOffersSpec)) pickOffersUptoCard

/-- THE SECOND FORM's CARD OF 'linchpinlaw27.PickOrder'. -/
def pickOrderUptoCard : Claim7 := { stood := { row := pickOrderUptoRow, standIns := [], harness := (true, "61540e482cbb1648f0955c9048cbbfbb72827cb1dd6733277d4fd92547892616"), looks := false }, kinds := [], alts := [], laidByText := true, laidKinds := [.data], laidTests := true, laidLooks := .later }
def PickOrderUptoCardSaid : Prop := Claim7.holds Tryz.pinned (.plain (OpenSpec.upto pickOrderSpec)) pickOrderUptoCard
end Rows
end Go.Proofs.YtoajjnegidhknaaGreatDoor
