/-
  DERIVED. GIVEN WITH THE SEED: THE CARDS: each row of YtggcpapoljmiaaaGreatDoorRows.lean that lists a variable, with what it lists TIED to the program's text (the seventh form; the later family's looks); each row that meets fmt, with fmt's text TOLD by the authors' own Lean function (tested against real Go, not proved from fmt's source: count such statements apart). THE CARD IS WHAT COUNTS. Prove the row's statement (the work); the ties are given (YtggcpapoljmiaaaGreatDoorTie.lean); close each card by the builder's one call (the guide's Derived/Test/ToyasCard.lean, 'card_holds'). Laid BY PROGRAM, IN A SANDBOX (cutbox-door.mjs). By AI agents, Wed Nov 11 2026. No macro, syntax, notation, axiom, sorry.
-/
import Derived.Test.YtggcpapoljmiaaaGreatDoorRows
import GoSem.ClaimSeven
namespace Go.Proofs.YtggcpapoljmiaaaGreatDoor
namespace Rows

/-- THE TIED CARD OF 'linchpinlaw19.ChoiceMade'. -/
def choiceMadeCard : Claim7 := { stood := { row := choiceMadeRow, standIns := [], harness := (true, "2fe50029c293f50de3d044661aee7a6c77d90537ffb7f51e24c63b5d42cee2a6"), looks := false }, kinds := [], alts := [], laidByText := true, laidKinds := [.data], laidTests := true, laidLooks := .later }
def ChoiceMadeCardSaid : Prop := Claim7.holds Tryz.pinned (.plain (OpenSpec.ofChange choiceMadeSpec)) choiceMadeCard

/-- THE TIED CARD OF 'linchpinlaw19.ChoiceTidy'. -/
def choiceTidyCard : Claim7 := { stood := { row := choiceTidyRow, standIns := [], harness := (true, "2fe50029c293f50de3d044661aee7a6c77d90537ffb7f51e24c63b5d42cee2a6"), looks := false }, kinds := [], alts := [], laidByText := true, laidKinds := [.data], laidTests := true, laidLooks := .later }
def ChoiceTidyCardSaid : Prop := Claim7.holds Tryz.pinned (.plain (OpenSpec.ofChange choiceTidySpec)) choiceTidyCard

/-- THE TIED CARD OF 'linchpinlaw19.ChoiceBent'. -/
def choiceBentCard : Claim7 := { stood := { row := choiceBentRow, standIns := [], harness := (true, "2fe50029c293f50de3d044661aee7a6c77d90537ffb7f51e24c63b5d42cee2a6"), looks := false }, kinds := [], alts := [], laidByText := true, laidKinds := [.data], laidTests := true, laidLooks := .later }
def ChoiceBentCardSaid : Prop := Claim7.holds Tryz.pinned (.plain (OpenSpec.ofChange choiceBentSpec)) choiceBentCard

/-- THE TIED CARD OF 'linchpinlaw19.ChoiceFeatures'. -/
def choiceFeaturesCard : Claim7 := { stood := { row := choiceFeaturesRow, standIns := [], harness := (true, "2fe50029c293f50de3d044661aee7a6c77d90537ffb7f51e24c63b5d42cee2a6"), looks := false }, kinds := [], alts := [], laidByText := true, laidKinds := [.data], laidTests := true, laidLooks := .later }
def ChoiceFeaturesCardSaid : Prop := Claim7.holds Tryz.pinned (.plain (OpenSpec.ofChange choiceFeaturesSpec)) choiceFeaturesCard

/-- THE TIED CARD OF 'linchpinlaw19.ChoiceNone'. -/
def choiceNoneCard : Claim7 := { stood := { row := choiceNoneRow, standIns := [], harness := (true, "2fe50029c293f50de3d044661aee7a6c77d90537ffb7f51e24c63b5d42cee2a6"), looks := false }, kinds := [], alts := [], laidByText := true, laidKinds := [.data], laidTests := true, laidLooks := .later }
def ChoiceNoneCardSaid : Prop := Claim7.holds Tryz.pinned (.plain (OpenSpec.ofChange choiceNoneSpec)) choiceNoneCard

/-- THE TIED CARD OF 'linchpinlaw19.ChoiceReach'. -/
def choiceReachCard : Claim7 := { stood := { row := choiceReachRow, standIns := [], harness := (true, "2fe50029c293f50de3d044661aee7a6c77d90537ffb7f51e24c63b5d42cee2a6"), looks := false }, kinds := [], alts := [], laidByText := true, laidKinds := [.data], laidTests := true, laidLooks := .later }
def ChoiceReachCardSaid : Prop := Claim7.holds Tryz.pinned (.plain (OpenSpec.ofChange choiceReachSpec)) choiceReachCard

/-- THE TIED CARD OF 'linchpinlaw19.ChoiceUnder'. -/
def choiceUnderCard : Claim7 := { stood := { row := choiceUnderRow, standIns := [], harness := (true, "2fe50029c293f50de3d044661aee7a6c77d90537ffb7f51e24c63b5d42cee2a6"), looks := false }, kinds := [], alts := [], laidByText := true, laidKinds := [.data], laidTests := true, laidLooks := .later }
def ChoiceUnderCardSaid : Prop := Claim7.holds Tryz.pinned (.plain (OpenSpec.ofChange choiceUnderSpec)) choiceUnderCard

/-- THE TIED CARD OF 'linchpinlaw20.TallyMade'. -/
def tallyMadeCard : Claim7 := { stood := { row := tallyMadeRow, standIns := [], harness := (true, "2fe50029c293f50de3d044661aee7a6c77d90537ffb7f51e24c63b5d42cee2a6"), looks := false }, kinds := [], alts := [], laidByText := true, laidKinds := [.data], laidTests := true, laidLooks := .later }
def TallyMadeCardSaid : Prop := Claim7.holds Tryz.pinned (.plain (OpenSpec.ofChange tallyMadeSpec)) tallyMadeCard

/-- THE TIED CARD OF 'linchpinlaw20.TallyEach'. -/
def tallyEachCard : Claim7 := { stood := { row := tallyEachRow, standIns := [], harness := (true, "2fe50029c293f50de3d044661aee7a6c77d90537ffb7f51e24c63b5d42cee2a6"), looks := false }, kinds := [], alts := [], laidByText := true, laidKinds := [.data], laidTests := true, laidLooks := .later }
def TallyEachCardSaid : Prop := Claim7.holds Tryz.pinned (.plain (OpenSpec.ofChange tallyEachSpec)) tallyEachCard

/-- THE TIED CARD OF 'linchpinlaw20.TallyAny'. -/
def tallyAnyCard : Claim7 := { stood := { row := tallyAnyRow, standIns := [], harness := (true, "2fe50029c293f50de3d044661aee7a6c77d90537ffb7f51e24c63b5d42cee2a6"), looks := false }, kinds := [], alts := [], laidByText := true, laidKinds := [.data], laidTests := true, laidLooks := .later }
def TallyAnyCardSaid : Prop := Claim7.holds Tryz.pinned (.plain (OpenSpec.ofChange tallyAnySpec)) tallyAnyCard

/-- THE TIED CARD OF 'linchpinlaw20.TallyLess'. -/
def tallyLessCard : Claim7 := { stood := { row := tallyLessRow, standIns := [], harness := (true, "2fe50029c293f50de3d044661aee7a6c77d90537ffb7f51e24c63b5d42cee2a6"), looks := false }, kinds := [], alts := [], laidByText := true, laidKinds := [.data], laidTests := true, laidLooks := .later }
def TallyLessCardSaid : Prop := Claim7.holds Tryz.pinned (.plain (OpenSpec.ofChange tallyLessSpec)) tallyLessCard

/-- THE TIED CARD OF 'linchpinlaw20.TallyGone'. -/
def tallyGoneCard : Claim7 := { stood := { row := tallyGoneRow, standIns := [], harness := (true, "2fe50029c293f50de3d044661aee7a6c77d90537ffb7f51e24c63b5d42cee2a6"), looks := false }, kinds := [], alts := [], laidByText := true, laidKinds := [.data], laidTests := true, laidLooks := .later }
def TallyGoneCardSaid : Prop := Claim7.holds Tryz.pinned (.plain (OpenSpec.ofChange tallyGoneSpec)) tallyGoneCard

/-- THE SECOND FORM's CARD OF 'linchpinlaw19.ChoiceMade'. -/
def choiceMadeUptoCard : Claim7 := { stood := { row := choiceMadeUptoRow, standIns := [], harness := (true, "2fe50029c293f50de3d044661aee7a6c77d90537ffb7f51e24c63b5d42cee2a6"), looks := false }, kinds := [], alts := [], laidByText := true, laidKinds := [.data], laidTests := true, laidLooks := .later }
def ChoiceMadeUptoCardSaid : Prop := Claim7.holds Tryz.pinned (.plain (OpenSpec.upto choiceMadeSpec)) choiceMadeUptoCard

/-- THE SECOND FORM's CARD OF 'linchpinlaw19.ChoiceTidy'. -/
def choiceTidyUptoCard : Claim7 := { stood := { row := choiceTidyUptoRow, standIns := [], harness := (true, "2fe50029c293f50de3d044661aee7a6c77d90537ffb7f51e24c63b5d42cee2a6"), looks := false }, kinds := [], alts := [], laidByText := true, laidKinds := [.data], laidTests := true, laidLooks := .later }
def ChoiceTidyUptoCardSaid : Prop := Claim7.holds Tryz.pinned (.plain (OpenSpec.upto choiceTidySpec)) choiceTidyUptoCard

/-- THE SECOND FORM's CARD OF 'linchpinlaw19.ChoiceBent'. -/
def choiceBentUptoCard : Claim7 := { stood := { row := choiceBentUptoRow, standIns := [], harness := (true, "2fe50029c293f50de3d044661aee7a6c77d90537ffb7f51e24c63b5d42cee2a6"), looks := false }, kinds := [], alts := [], laidByText := true, laidKinds := [.data], laidTests := true, laidLooks := .later }
def ChoiceBentUptoCardSaid : Prop := Claim7.holds Tryz.pinned (.plain (OpenSpec.upto choiceBentSpec)) choiceBentUptoCard

/-- THE SECOND FORM's CARD OF 'linchpinlaw19.ChoiceFeatures'. -/
def choiceFeaturesUptoCard : Claim7 := { stood := { row := choiceFeaturesUptoRow, standIns := [], harness := (true, "2fe50029c293f50de3d044661aee7a6c77d90537ffb7f51e24c63b5d42cee2a6"), looks := false }, kinds := [], alts := [], laidByText := true, laidKinds := [.data], laidTests := true, laidLooks := .later }
def ChoiceFeaturesUptoCardSaid : Prop := Claim7.holds Tryz.pinned (.plain (OpenSpec.upto choiceFeaturesSpec)) choiceFeaturesUptoCard

/-- THE SECOND FORM's CARD OF 'linchpinlaw19.ChoiceNone'. -/
def choiceNoneUptoCard : Claim7 := { stood := { row := choiceNoneUptoRow, standIns := [], harness := (true, "2fe50029c293f50de3d044661aee7a6c77d90537ffb7f51e24c63b5d42cee2a6"), looks := false }, kinds := [], alts := [], laidByText := true, laidKinds := [.data], laidTests := true, laidLooks := .later }
def ChoiceNoneUptoCardSaid : Prop := Claim7.holds Tryz.pinned (.plain (OpenSpec.upto choiceNoneSpec)) choiceNoneUptoCard

/-- THE SECOND FORM's CARD OF 'linchpinlaw19.ChoiceReach'. -/
def choiceReachUptoCard : Claim7 := { stood := { row := choiceReachUptoRow, standIns := [], harness := (true, "2fe50029c293f50de3d044661aee7a6c77d90537ffb7f51e24c63b5d42cee2a6"), looks := false }, kinds := [], alts := [], laidByText := true, laidKinds := [.data], laidTests := true, laidLooks := .later }
def ChoiceReachUptoCardSaid : Prop := Claim7.holds Tryz.pinned (.plain (OpenSpec.upto choiceReachSpec)) choiceReachUptoCard

/-- THE SECOND FORM's CARD OF 'linchpinlaw19.ChoiceUnder'. -/
def choiceUnderUptoCard : Claim7 := { stood := { row := choiceUnderUptoRow, standIns := [], harness := (true, "2fe50029c293f50de3d044661aee7a6c77d90537ffb7f51e24c63b5d42cee2a6"), looks := false }, kinds := [], alts := [], laidByText := true, laidKinds := [.data], laidTests := true, laidLooks := .later }
def ChoiceUnderUptoCardSaid : Prop := Claim7.holds Tryz.pinned (.plain (OpenSpec.upto choiceUnderSpec)) choiceUnderUptoCard

/-- THE SECOND FORM's CARD OF 'linchpinlaw20.TallyMade'. -/
def tallyMadeUptoCard : Claim7 := { stood := { row := tallyMadeUptoRow, standIns := [], harness := (true, "2fe50029c293f50de3d044661aee7a6c77d90537ffb7f51e24c63b5d42cee2a6"), looks := false }, kinds := [], alts := [], laidByText := true, laidKinds := [.data], laidTests := true, laidLooks := .later }
def TallyMadeUptoCardSaid : Prop := Claim7.holds Tryz.pinned (.plain (OpenSpec.upto tallyMadeSpec)) tallyMadeUptoCard

/-- THE SECOND FORM's CARD OF 'linchpinlaw20.TallyEach'. -/
def tallyEachUptoCard : Claim7 := { stood := { row := tallyEachUptoRow, standIns := [], harness := (true, "2fe50029c293f50de3d044661aee7a6c77d90537ffb7f51e24c63b5d42cee2a6"), looks := false }, kinds := [], alts := [], laidByText := true, laidKinds := [.data], laidTests := true, laidLooks := .later }
def TallyEachUptoCardSaid : Prop := Claim7.holds Tryz.pinned (.plain (OpenSpec.upto tallyEachSpec)) tallyEachUptoCard

/-- THE SECOND FORM's CARD OF 'linchpinlaw20.TallyAny'. -/
def tallyAnyUptoCard : Claim7 := { stood := { row := tallyAnyUptoRow, standIns := [], harness := (true, "2fe50029c293f50de3d044661aee7a6c77d90537ffb7f51e24c63b5d42cee2a6"), looks := false }, kinds := [], alts := [], laidByText := true, laidKinds := [.data], laidTests := true, laidLooks := .later }
def TallyAnyUptoCardSaid : Prop := Claim7.holds Tryz.pinned (.plain (OpenSpec.upto tallyAnySpec)) tallyAnyUptoCard

/-- THE SECOND FORM's CARD OF 'linchpinlaw20.TallyLess'. -/
def tallyLessUptoCard : Claim7 := { stood := { row := tallyLessUptoRow, standIns := [], harness := (true, "2fe50029c293f50de3d044661aee7a6c77d90537ffb7f51e24c63b5d42cee2a6"), looks := false }, kinds := [], alts := [], laidByText := true, laidKinds := [.data], laidTests := true, laidLooks := .later }
def TallyLessUptoCardSaid : Prop := Claim7.holds Tryz.pinned (.plain (OpenSpec.upto tallyLessSpec)) tallyLessUptoCard

/-- THE SECOND FORM's CARD OF 'linchpinlaw20.TallyGone'. -/
def tallyGoneUptoCard : Claim7 := { stood := { row := tallyGoneUptoRow, standIns := [], harness := (true, "2fe50029c293f50de3d044661aee7a6c77d90537ffb7f51e24c63b5d42cee2a6"), looks := false }, kinds := [], alts := [], laidByText := true, laidKinds := [.data], laidTests := true, laidLooks := .later }
def TallyGoneUptoCardSaid : Prop := Claim7.holds Tryz.pinned (.plain (OpenSpec.upto tallyGoneSpec)) tallyGoneUptoCard
end Rows
end Go.Proofs.YtggcpapoljmiaaaGreatDoor
