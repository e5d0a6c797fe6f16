/-
  DERIVED. GIVEN WITH THE SEED: THE CARDS: each row of YtomebajfpcjoeaaGreatDoorRows.lean that lists a variable, with what it lists TIED to the program's text (the seventh form; the later family's looks); each row that meets fmt, with fmt's text TOLD by the authors' own Lean function (tested against real Go, not proved from fmt's source: count such statements apart). THE CARD IS WHAT COUNTS. Prove the row's statement (the work); the ties are given (YtomebajfpcjoeaaGreatDoorTie.lean); close each card by the builder's one call (the guide's Derived/Test/ToyasCard.lean, 'card_holds'). Laid BY PROGRAM, IN A SANDBOX (cutbox-door.mjs). By AI agents, Wed Nov 11 2026. No macro, syntax, notation, axiom, sorry.
-/
import Derived.Test.YtomebajfpcjoeaaGreatDoorRows
import GoSem.ClaimSeven
namespace Go.Proofs.YtomebajfpcjoeaaGreatDoor
namespace Rows

/-- THE TIED CARD OF 'obeluslaw31.BlockmatchFlows'. -/
def blockmatchFlowsCard : Claim7 := { stood := { row := blockmatchFlowsRow, standIns := [], harness := (true, "d84398bde13f6a029befae8666de5362b0782213991a7dd102a7f03b55bc181e"), looks := false }, kinds := [], alts := [], laidByText := true, laidKinds := [.data, .pinned], laidTests := true, laidLooks := .later }
def BlockmatchFlowsCardSaid : Prop := Claim7.holds Tryz.pinned (.plain (OpenSpec.ofChange blockmatchFlowsSpec)) blockmatchFlowsCard

/-- THE SECOND FORM's CARD OF 'obeluslaw31.BlockmatchFlows'. -/
def blockmatchFlowsUptoCard : Claim7 := { stood := { row := blockmatchFlowsUptoRow, standIns := [], harness := (true, "d84398bde13f6a029befae8666de5362b0782213991a7dd102a7f03b55bc181e"), looks := false }, kinds := [], alts := [], laidByText := true, laidKinds := [.data, .pinned], laidTests := true, laidLooks := .later }
def BlockmatchFlowsUptoCardSaid : Prop := Claim7.holds Tryz.pinned (.plain (OpenSpec.upto blockmatchFlowsSpec)) blockmatchFlowsUptoCard
end Rows
end Go.Proofs.YtomebajfpcjoeaaGreatDoor
