/-
  DERIVED. GIVEN WITH THE SEED: THE CARDS: each row of YtmjaepaakpaadaaDoorRows.lean that lists a variable, with what it lists TIED to the program's text (the seventh form; the later family's looks); each row that meets fmt, with fmt's text TOLD by the authors' own Lean function (tested against real Go, not proved from fmt's source: count such statements apart). THE CARD IS WHAT COUNTS. Prove the row's statement (the work); the ties are given (YtmjaepaakpaadaaDoorTie.lean); close each card by the builder's one call (the guide's Derived/Test/ToyasCard.lean, 'card_holds'). Laid BY PROGRAM, IN A SANDBOX (cutbox-door.mjs). By AI agents, Wed Nov 11 2026. No macro, syntax, notation, axiom, sorry.
-/
import Derived.Test.YtmjaepaakpaadaaDoorRows
import GoSem.ClaimSeven
namespace Go.Proofs.YtmjaepaakpaadaaDoor
namespace Rows

/-- THE TIED CARD OF 'diapauselaw11.SlotsPlays'. -/
def slotsPlaysCard : Claim7 := { stood := { row := slotsPlaysRow, standIns := [], harness := (true, "7c9f99aa70753daab0d9692618d7ec35510746ac44101bdd3e5089f705c6e8ac"), looks := false }, kinds := [], alts := [], laidByText := true, laidKinds := [.data], laidTests := true, laidLooks := .later }
def SlotsPlaysCardSaid : Prop := Claim7.holds Tryd.pinned (.plain (OpenSpec.ofChange slotsPlaysSpec)) slotsPlaysCard

/-- THE SECOND FORM's CARD OF 'diapauselaw11.SlotsPlays'. -/
def slotsPlaysUptoCard : Claim7 := { stood := { row := slotsPlaysUptoRow, standIns := [], harness := (true, "7c9f99aa70753daab0d9692618d7ec35510746ac44101bdd3e5089f705c6e8ac"), looks := false }, kinds := [], alts := [], laidByText := true, laidKinds := [.data], laidTests := true, laidLooks := .later }
def SlotsPlaysUptoCardSaid : Prop := Claim7.holds Tryd.pinned (.plain (OpenSpec.upto slotsPlaysSpec)) slotsPlaysUptoCard
end Rows
end Go.Proofs.YtmjaepaakpaadaaDoor
