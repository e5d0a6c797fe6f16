/-
  DERIVED. GIVEN WITH THE SEED: THE CARDS: each row of YtomebajfpcjoeaaDoorRows.lean that lists a variable, with what it lists TIED to the program's text (the seventh form; the later family's looks); each row that meets fmt, with fmt's text TOLD by the authors' own Lean function (tested against real Go, not proved from fmt's source: count such statements apart). THE CARD IS WHAT COUNTS. Prove the row's statement (the work); the ties are given (YtomebajfpcjoeaaDoorTie.lean); close each card by the builder's one call (the guide's Derived/Test/ToyasCard.lean, 'card_holds'). Laid BY PROGRAM, IN A SANDBOX (cutbox-door.mjs). By AI agents, Wed Nov 11 2026. No macro, syntax, notation, axiom, sorry.
-/
import Derived.Test.YtomebajfpcjoeaaDoorRows
import GoSem.ClaimSeven
namespace Go.Proofs.YtomebajfpcjoeaaDoor
namespace Rows

/-- THE TIED CARD OF 'obeluslaw31.BlockmatchRows'. -/
def blockmatchRowsCard : Claim7 := { stood := { row := blockmatchRowsRow, standIns := [], harness := (true, "7c919584ac82d003816ac5611bd71409ab31d6035162e2489c4f84a0d8ad4010"), looks := false }, kinds := [], alts := [], laidByText := true, laidKinds := [.data, .pinned], laidTests := true, laidLooks := .later }
def BlockmatchRowsCardSaid : Prop := Claim7.holds Tryd.pinned (.plain (OpenSpec.ofChange blockmatchRowsSpec)) blockmatchRowsCard

/-- THE SECOND FORM's CARD OF 'obeluslaw31.BlockmatchRows'. -/
def blockmatchRowsUptoCard : Claim7 := { stood := { row := blockmatchRowsUptoRow, standIns := [], harness := (true, "7c919584ac82d003816ac5611bd71409ab31d6035162e2489c4f84a0d8ad4010"), looks := false }, kinds := [], alts := [], laidByText := true, laidKinds := [.data, .pinned], laidTests := true, laidLooks := .later }
def BlockmatchRowsUptoCardSaid : Prop := Claim7.holds Tryd.pinned (.plain (OpenSpec.upto blockmatchRowsSpec)) blockmatchRowsUptoCard
end Rows
end Go.Proofs.YtomebajfpcjoeaaDoor
