/-
  DERIVED. GIVEN WITH THE SEED: THE CARDS: each row of YtblkbmcmgfpgkaaDoorRows.lean that lists a variable, with what it lists TIED to the program's text (the seventh form; the later family's looks); each row that meets fmt, with fmt's text TOLD by the authors' own Lean function (tested against real Go, not proved from fmt's source: count such statements apart). THE CARD IS WHAT COUNTS. Prove the row's statement (the work); the ties are given (YtblkbmcmgfpgkaaDoorTie.lean); close each card by the builder's one call (the guide's Derived/Test/ToyasCard.lean, 'card_holds'). Laid BY PROGRAM, IN A SANDBOX (cutbox-door.mjs). By AI agents, Wed Nov 11 2026. No macro, syntax, notation, axiom, sorry.
-/
import Derived.Test.YtblkbmcmgfpgkaaDoorRows
import GoSem.ClaimSeven
namespace Go.Proofs.YtblkbmcmgfpgkaaDoor
namespace Rows

/-- THE TIED CARD OF 'linchpinlaw20.TallySizes'. -/
def tallySizesCard : Claim7 := { stood := { row := tallySizesRow, standIns := [], harness := (true, "38986b50d1fe7abd51f43060357de0c96f2b8db015d3d8a8d2b4ce0d62037c68"), looks := false }, kinds := [], alts := [], laidByText := true, laidKinds := [.data], laidTests := true, laidLooks := .later }
def TallySizesCardSaid : Prop := Claim7.holds Tryd.pinned (.plain (OpenSpec.ofChange tallySizesSpec)) tallySizesCard

/-- THE TIED CARD OF 'linchpinlaw20.TallyRaw'. -/
def tallyRawCard : Claim7 := { stood := { row := tallyRawRow, standIns := [], harness := (true, "38986b50d1fe7abd51f43060357de0c96f2b8db015d3d8a8d2b4ce0d62037c68"), looks := false }, kinds := [], alts := [], laidByText := true, laidKinds := [.data], laidTests := true, laidLooks := .later }
def TallyRawCardSaid : Prop := Claim7.holds Tryd.pinned (.plain (OpenSpec.ofChange tallyRawSpec)) tallyRawCard

/-- THE SECOND FORM's CARD OF 'linchpinlaw20.TallySizes'. -/
def tallySizesUptoCard : Claim7 := { stood := { row := tallySizesUptoRow, standIns := [], harness := (true, "38986b50d1fe7abd51f43060357de0c96f2b8db015d3d8a8d2b4ce0d62037c68"), looks := false }, kinds := [], alts := [], laidByText := true, laidKinds := [.data], laidTests := true, laidLooks := .later }
def TallySizesUptoCardSaid : Prop := Claim7.holds Tryd.pinned (.plain (OpenSpec.upto tallySizesSpec)) tallySizesUptoCard

/-- THE SECOND FORM's CARD OF 'linchpinlaw20.TallyRaw'. -/
def tallyRawUptoCard : Claim7 := { stood := { row := tallyRawUptoRow, standIns := [], harness := (true, "38986b50d1fe7abd51f43060357de0c96f2b8db015d3d8a8d2b4ce0d62037c68"), looks := false }, kinds := [], alts := [], laidByText := true, laidKinds := [.data], laidTests := true, laidLooks := .later }
def TallyRawUptoCardSaid : Prop := Claim7.holds Tryd.pinned (.plain (OpenSpec.upto tallyRawSpec)) tallyRawUptoCard
end Rows
end Go.Proofs.YtblkbmcmgfpgkaaDoor
