/-
  DERIVED. GIVEN WITH THE SEED: THE CARDS: each row of YtiamdlnhojodjaaDoorRows.lean that lists a variable, with what it lists TIED to the program's text (the seventh form; the later family's looks); each row that meets fmt, with fmt's text TOLD by the authors' own Lean function (tested against real Go, not proved from fmt's source: count such statements apart). THE CARD IS WHAT COUNTS. Prove the row's statement (the work); the ties are given (YtiamdlnhojodjaaDoorTie.lean); close each card by the builder's one call (the guide's Derived/Test/ToyasCard.lean, 'card_holds'). Laid BY PROGRAM, IN A SANDBOX (cutbox-door.mjs). By AI agents, Wed Nov 11 2026. No macro, syntax, notation, axiom, sorry.
-/
import Derived.Test.YtiamdlnhojodjaaDoorRows
import GoSem.ClaimSeven
namespace Go.Proofs.YtiamdlnhojodjaaDoor
namespace Rows

/-- THE TIED CARD OF 'linchpinlaw19.ChoiceRaw'. -/
def choiceRawCard : Claim7 := { stood := { row := choiceRawRow, standIns := [], harness := (true, "e5b1882801091d3755c248d82cc0533fa7ac2b49b93d8b8d572a8c89c24215aa"), looks := false }, kinds := [], alts := [], laidByText := true, laidKinds := [.data], laidTests := true, laidLooks := .later }
def ChoiceRawCardSaid : Prop := Claim7.holds Tryd.pinned (.plain (OpenSpec.ofChange choiceRawSpec)) choiceRawCard

/-- THE SECOND FORM's CARD OF 'linchpinlaw19.ChoiceRaw'. -/
def choiceRawUptoCard : Claim7 := { stood := { row := choiceRawUptoRow, standIns := [], harness := (true, "e5b1882801091d3755c248d82cc0533fa7ac2b49b93d8b8d572a8c89c24215aa"), looks := false }, kinds := [], alts := [], laidByText := true, laidKinds := [.data], laidTests := true, laidLooks := .later }
def ChoiceRawUptoCardSaid : Prop := Claim7.holds Tryd.pinned (.plain (OpenSpec.upto choiceRawSpec)) choiceRawUptoCard
end Rows
end Go.Proofs.YtiamdlnhojodjaaDoor
