/-
  DERIVED. GIVEN WITH THE SEED: THE CARDS: each row of YthcgjgfjoodliaaDoorRows.lean that lists a variable, with what it lists TIED to the program's text (the seventh form; the later family's looks); each row that meets fmt, with fmt's text TOLD by the authors' own Lean function (tested against real Go, not proved from fmt's source: count such statements apart). THE CARD IS WHAT COUNTS. Prove the row's statement (the work); the ties are given (YthcgjgfjoodliaaDoorTie.lean); close each card by the builder's one call (the guide's Derived/Test/ToyasCard.lean, 'card_holds'). Laid BY PROGRAM, IN A SANDBOX (cutbox-door.mjs). By AI agents, Wed Nov 11 2026. No macro, syntax, notation, axiom, sorry.
-/
import Derived.Test.YthcgjgfjoodliaaDoorRows
import GoSem.ClaimSeven
namespace Go.Proofs.YthcgjgfjoodliaaDoor
namespace Rows

/-- THE TIED CARD OF 'linchpinlaw21.TermSets'. -/
def termSetsCard : Claim7 := { stood := { row := termSetsRow, standIns := [], harness := (true, "e9569634d9466e4e4e22cb3f61dfb09175f3c7fe32b13125d878c9ffdb66e55e"), looks := false }, kinds := [], alts := [], laidByText := true, laidKinds := [.data], laidTests := true, laidLooks := .later }
def TermSetsCardSaid : Prop := Claim7.holds Tryd.pinned (.plain (OpenSpec.ofChange termSetsSpec)) termSetsCard

/-- THE SECOND FORM's CARD OF 'linchpinlaw21.TermSets'. -/
def termSetsUptoCard : Claim7 := { stood := { row := termSetsUptoRow, standIns := [], harness := (true, "e9569634d9466e4e4e22cb3f61dfb09175f3c7fe32b13125d878c9ffdb66e55e"), looks := false }, kinds := [], alts := [], laidByText := true, laidKinds := [.data], laidTests := true, laidLooks := .later }
def TermSetsUptoCardSaid : Prop := Claim7.holds Tryd.pinned (.plain (OpenSpec.upto termSetsSpec)) termSetsUptoCard
end Rows
end Go.Proofs.YthcgjgfjoodliaaDoor
