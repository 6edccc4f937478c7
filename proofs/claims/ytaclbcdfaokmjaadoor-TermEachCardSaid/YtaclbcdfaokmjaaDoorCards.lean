/-
  DERIVED. GIVEN WITH THE SEED: THE CARDS: each row of YtaclbcdfaokmjaaDoorRows.lean that lists a variable, with what it lists TIED to the program's text (the seventh form; the later family's looks); each row that meets fmt, with fmt's text TOLD by the authors' own Lean function (tested against real Go, not proved from fmt's source: count such statements apart). THE CARD IS WHAT COUNTS. Prove the row's statement (the work); the ties are given (YtaclbcdfaokmjaaDoorTie.lean); close each card by the builder's one call (the guide's Derived/Test/ToyasCard.lean, 'card_holds'). Laid BY PROGRAM, IN A SANDBOX (cutbox-door.mjs). By AI agents, Wed Nov 11 2026. No macro, syntax, notation, axiom, sorry.
-/
import Derived.Test.YtaclbcdfaokmjaaDoorRows
import GoSem.ClaimSeven
namespace Go.Proofs.YtaclbcdfaokmjaaDoor
namespace Rows

/-- THE TIED CARD OF 'linchpinlaw21.TermFull'. -/
def termFullCard : Claim7 := { stood := { row := termFullRow, standIns := [], harness := (true, "be32ec52564042927736dd51a0a3724be50de45bd02930097676238269c1edf6"), looks := false }, kinds := [], alts := [], laidByText := true, laidKinds := [.data], laidTests := true, laidLooks := .later }
def TermFullCardSaid : Prop := Claim7.holds Tryd.pinned (.plain (OpenSpec.ofChange termFullSpec)) termFullCard

/-- THE TIED CARD OF 'linchpinlaw21.TermTells'. -/
def termTellsCard : Claim7 := { stood := { row := termTellsRow, standIns := [], harness := (true, "be32ec52564042927736dd51a0a3724be50de45bd02930097676238269c1edf6"), looks := false }, kinds := [], alts := [], laidByText := true, laidKinds := [.data], laidTests := true, laidLooks := .later }
def TermTellsCardSaid : Prop := Claim7.holds Tryd.pinned (.plain (OpenSpec.ofChange termTellsSpec)) termTellsCard

/-- THE TIED CARD OF 'linchpinlaw21.TermEach'. -/
def termEachCard : Claim7 := { stood := { row := termEachRow, standIns := [], harness := (true, "be32ec52564042927736dd51a0a3724be50de45bd02930097676238269c1edf6"), looks := false }, kinds := [], alts := [], laidByText := true, laidKinds := [.data], laidTests := true, laidLooks := .later }
def TermEachCardSaid : Prop := Claim7.holds Tryd.pinned (.plain (OpenSpec.ofChange termEachSpec)) termEachCard

/-- THE TIED CARD OF 'linchpinlaw21.TermMeets'. -/
def termMeetsCard : Claim7 := { stood := { row := termMeetsRow, standIns := [], harness := (true, "be32ec52564042927736dd51a0a3724be50de45bd02930097676238269c1edf6"), looks := false }, kinds := [], alts := [], laidByText := true, laidKinds := [.data], laidTests := true, laidLooks := .later }
def TermMeetsCardSaid : Prop := Claim7.holds Tryd.pinned (.plain (OpenSpec.ofChange termMeetsSpec)) termMeetsCard

/-- THE TIED CARD OF 'linchpinlaw21.TermSets'. -/
def termSetsCard : Claim7 := { stood := { row := termSetsRow, standIns := [], harness := (true, "be32ec52564042927736dd51a0a3724be50de45bd02930097676238269c1edf6"), looks := false }, kinds := [], alts := [], laidByText := true, laidKinds := [.data], laidTests := true, laidLooks := .later }
def TermSetsCardSaid : Prop := Claim7.holds Tryd.pinned (.plain (OpenSpec.ofChange termSetsSpec)) termSetsCard

/-- THE TIED CARD OF 'linchpinlaw21.TermBoth'. -/
def termBothCard : Claim7 := { stood := { row := termBothRow, standIns := [], harness := (true, "be32ec52564042927736dd51a0a3724be50de45bd02930097676238269c1edf6"), looks := false }, kinds := [], alts := [], laidByText := true, laidKinds := [.data], laidTests := true, laidLooks := .later }
def TermBothCardSaid : Prop := Claim7.holds Tryd.pinned (.plain (OpenSpec.ofChange termBothSpec)) termBothCard

/-- THE TIED CARD OF 'linchpinlaw21.TermEither'. -/
def termEitherCard : Claim7 := { stood := { row := termEitherRow, standIns := [], harness := (true, "be32ec52564042927736dd51a0a3724be50de45bd02930097676238269c1edf6"), looks := false }, kinds := [], alts := [], laidByText := true, laidKinds := [.data], laidTests := true, laidLooks := .later }
def TermEitherCardSaid : Prop := Claim7.holds Tryd.pinned (.plain (OpenSpec.ofChange termEitherSpec)) termEitherCard

/-- THE SECOND FORM's CARD OF 'linchpinlaw21.TermFull'. -/
def termFullUptoCard : Claim7 := { stood := { row := termFullUptoRow, standIns := [], harness := (true, "be32ec52564042927736dd51a0a3724be50de45bd02930097676238269c1edf6"), looks := false }, kinds := [], alts := [], laidByText := true, laidKinds := [.data], laidTests := true, laidLooks := .later }
def TermFullUptoCardSaid : Prop := Claim7.holds Tryd.pinned (.plain (OpenSpec.upto termFullSpec)) termFullUptoCard

/-- THE SECOND FORM's CARD OF 'linchpinlaw21.TermTells'. -/
def termTellsUptoCard : Claim7 := { stood := { row := termTellsUptoRow, standIns := [], harness := (true, "be32ec52564042927736dd51a0a3724be50de45bd02930097676238269c1edf6"), looks := false }, kinds := [], alts := [], laidByText := true, laidKinds := [.data], laidTests := true, laidLooks := .later }
def TermTellsUptoCardSaid : Prop := Claim7.holds Tryd.pinned (.plain (OpenSpec.upto termTellsSpec)) termTellsUptoCard

/-- THE SECOND FORM's CARD OF 'linchpinlaw21.TermEach'. -/
def termEachUptoCard : Claim7 := { stood := { row := termEachUptoRow, standIns := [], harness := (true, "be32ec52564042927736dd51a0a3724be50de45bd02930097676238269c1edf6"), looks := false }, kinds := [], alts := [], laidByText := true, laidKinds := [.data], laidTests := true, laidLooks := .later }
def TermEachUptoCardSaid : Prop := Claim7.holds Tryd.pinned (.plain (OpenSpec.upto termEachSpec)) termEachUptoCard

/-- THE SECOND FORM's CARD OF 'linchpinlaw21.TermMeets'. -/
def termMeetsUptoCard : Claim7 := { stood := { row := termMeetsUptoRow, standIns := [], harness := (true, "be32ec52564042927736dd51a0a3724be50de45bd02930097676238269c1edf6"), looks := false }, kinds := [], alts := [], laidByText := true, laidKinds := [.data], laidTests := true, laidLooks := .later }
def TermMeetsUptoCardSaid : Prop := Claim7.holds Tryd.pinned (.plain (OpenSpec.upto termMeetsSpec)) termMeetsUptoCard

/-- THE SECOND FORM's CARD OF 'linchpinlaw21.TermSets'. -/
def termSetsUptoCard : Claim7 := { stood := { row := termSetsUptoRow, standIns := [], harness := (true, "be32ec52564042927736dd51a0a3724be50de45bd02930097676238269c1edf6"), looks := false }, kinds := [], alts := [], laidByText := true, laidKinds := [.data], laidTests := true, laidLooks := .later }
def TermSetsUptoCardSaid : Prop := Claim7.holds Tryd.pinned (.plain (OpenSpec.upto termSetsSpec)) termSetsUptoCard

/-- THE SECOND FORM's CARD OF 'linchpinlaw21.TermBoth'. -/
def termBothUptoCard : Claim7 := { stood := { row := termBothUptoRow, standIns := [], harness := (true, "be32ec52564042927736dd51a0a3724be50de45bd02930097676238269c1edf6"), looks := false }, kinds := [], alts := [], laidByText := true, laidKinds := [.data], laidTests := true, laidLooks := .later }
def TermBothUptoCardSaid : Prop := Claim7.holds Tryd.pinned (.plain (OpenSpec.upto termBothSpec)) termBothUptoCard

/-- THE SECOND FORM's CARD OF 'linchpinlaw21.TermEither'. -/
def termEitherUptoCard : Claim7 := { stood := { row := termEitherUptoRow, standIns := [], harness := (true, "be32ec52564042927736dd51a0a3724be50de45bd02930097676238269c1edf6"), looks := false }, kinds := [], alts := [], laidByText := true, laidKinds := [.data], laidTests := true, laidLooks := .later }
def TermEitherUptoCardSaid : Prop := Claim7.holds Tryd.pinned (.plain (OpenSpec.upto termEitherSpec)) termEitherUptoCard
end Rows
end Go.Proofs.YtaclbcdfaokmjaaDoor
