/-
  DERIVED. GIVEN WITH THE SEED: THE CARDS: each row of YtpmcdlhhfbobfaaDoorRows.lean that lists a variable, with what it lists TIED to the program's text (the seventh form; the later family's looks); each row that meets fmt, with fmt's text TOLD by the authors' own Lean function (tested against real Go, not proved from fmt's source: count such statements apart). THE CARD IS WHAT COUNTS. Prove the row's statement (the work); the ties are given (YtpmcdlhhfbobfaaDoorTie.lean); close each card by the builder's one call (the guide's Derived/Test/ToyasCard.lean, 'card_holds'). Laid BY PROGRAM, IN A SANDBOX (cutbox-door.mjs). By AI agents, Wed Nov 11 2026. No macro, syntax, notation, axiom, sorry.
-/
import Derived.Test.YtpmcdlhhfbobfaaDoorRows
import GoSem.ClaimSeven
namespace Go.Proofs.YtpmcdlhhfbobfaaDoor
namespace Rows

/-- THE TIED CARD OF 'obeluslaw31.BlockmatchOptimal'. -/
def blockmatchOptimalCard : Claim7 := { stood := { row := blockmatchOptimalRow, standIns := [], harness := (true, "9c54f2ef3546ec90fc7d8fb54556130278ecaa58e33d91c4886ca3059a3c8ff0"), looks := false }, kinds := [], alts := [], laidByText := true, laidKinds := [.data, .pinned], laidTests := true, laidLooks := .later }
def BlockmatchOptimalCardSaid : Prop := Claim7.holds Tryd.pinned (.plain (OpenSpec.ofChange blockmatchOptimalSpec)) blockmatchOptimalCard

/-- THE TIED CARD OF 'obeluslaw31.BlockmatchCanonical'. -/
def blockmatchCanonicalCard : Claim7 := { stood := { row := blockmatchCanonicalRow, standIns := [], harness := (true, "9c54f2ef3546ec90fc7d8fb54556130278ecaa58e33d91c4886ca3059a3c8ff0"), looks := false }, kinds := [], alts := [], laidByText := true, laidKinds := [.data, .pinned], laidTests := true, laidLooks := .later }
def BlockmatchCanonicalCardSaid : Prop := Claim7.holds Tryd.pinned (.plain (OpenSpec.ofChange blockmatchCanonicalSpec)) blockmatchCanonicalCard

/-- THE TIED CARD OF 'obeluslaw31.BlockmatchMirrors'. -/
def blockmatchMirrorsCard : Claim7 := { stood := { row := blockmatchMirrorsRow, standIns := [], harness := (true, "9c54f2ef3546ec90fc7d8fb54556130278ecaa58e33d91c4886ca3059a3c8ff0"), looks := false }, kinds := [], alts := [], laidByText := true, laidKinds := [.data, .pinned], laidTests := true, laidLooks := .later }
def BlockmatchMirrorsCardSaid : Prop := Claim7.holds Tryd.pinned (.plain (OpenSpec.ofChange blockmatchMirrorsSpec)) blockmatchMirrorsCard

/-- THE TIED CARD OF 'obeluslaw31.BlockmatchLimits'. -/
def blockmatchLimitsCard : Claim7 := { stood := { row := blockmatchLimitsRow, standIns := [], harness := (true, "9c54f2ef3546ec90fc7d8fb54556130278ecaa58e33d91c4886ca3059a3c8ff0"), looks := false }, kinds := [], alts := [], laidByText := true, laidKinds := [.data, .pinned], laidTests := true, laidLooks := .later }
def BlockmatchLimitsCardSaid : Prop := Claim7.holds Tryd.pinned (.plain (OpenSpec.ofChange blockmatchLimitsSpec)) blockmatchLimitsCard

/-- THE TIED CARD OF 'obeluslaw31.BlockmatchTokens'. -/
def blockmatchTokensCard : Claim7 := { stood := { row := blockmatchTokensRow, standIns := [], harness := (true, "9c54f2ef3546ec90fc7d8fb54556130278ecaa58e33d91c4886ca3059a3c8ff0"), looks := false }, kinds := [], alts := [], laidByText := true, laidKinds := [.data, .pinned], laidTests := true, laidLooks := .later }
def BlockmatchTokensCardSaid : Prop := Claim7.holds Tryd.pinned (.plain (OpenSpec.ofChange blockmatchTokensSpec)) blockmatchTokensCard

/-- THE TIED CARD OF 'obeluslaw31.BlockmatchSimilar'. -/
def blockmatchSimilarCard : Claim7 := { stood := { row := blockmatchSimilarRow, standIns := [], harness := (true, "9c54f2ef3546ec90fc7d8fb54556130278ecaa58e33d91c4886ca3059a3c8ff0"), looks := false }, kinds := [], alts := [], laidByText := true, laidKinds := [.data, .pinned], laidTests := true, laidLooks := .later }
def BlockmatchSimilarCardSaid : Prop := Claim7.holds Tryd.pinned (.plain (OpenSpec.ofChange blockmatchSimilarSpec)) blockmatchSimilarCard

/-- THE SECOND FORM's CARD OF 'obeluslaw31.BlockmatchOptimal'. -/
def blockmatchOptimalUptoCard : Claim7 := { stood := { row := blockmatchOptimalUptoRow, standIns := [], harness := (true, "9c54f2ef3546ec90fc7d8fb54556130278ecaa58e33d91c4886ca3059a3c8ff0"), looks := false }, kinds := [], alts := [], laidByText := true, laidKinds := [.data, .pinned], laidTests := true, laidLooks := .later }
def BlockmatchOptimalUptoCardSaid : Prop := Claim7.holds Tryd.pinned (.plain (OpenSpec.upto blockmatchOptimalSpec)) blockmatchOptimalUptoCard

/-- THE SECOND FORM's CARD OF 'obeluslaw31.BlockmatchCanonical'. -/
def blockmatchCanonicalUptoCard : Claim7 := { stood := { row := blockmatchCanonicalUptoRow, standIns := [], harness := (true, "9c54f2ef3546ec90fc7d8fb54556130278ecaa58e33d91c4886ca3059a3c8ff0"), looks := false }, kinds := [], alts := [], laidByText := true, laidKinds := [.data, .pinned], laidTests := true, laidLooks := .later }
def BlockmatchCanonicalUptoCardSaid : Prop := Claim7.holds Tryd.pinned (.plain (OpenSpec.upto blockmatchCanonicalSpec)) blockmatchCanonicalUptoCard

/-- THE SECOND FORM's CARD OF 'obeluslaw31.BlockmatchMirrors'. -/
def blockmatchMirrorsUptoCard : Claim7 := { stood := { row := blockmatchMirrorsUptoRow, standIns := [], harness := (true, "9c54f2ef3546ec90fc7d8fb54556130278ecaa58e33d91c4886ca3059a3c8ff0"), looks := false }, kinds := [], alts := [], laidByText := true, laidKinds := [.data, .pinned], laidTests := true, laidLooks := .later }
def BlockmatchMirrorsUptoCardSaid : Prop := Claim7.holds Tryd.pinned (.plain (OpenSpec.upto blockmatchMirrorsSpec)) blockmatchMirrorsUptoCard

/-- THE SECOND FORM's CARD OF 'obeluslaw31.BlockmatchLimits'. -/
def blockmatchLimitsUptoCard : Claim7 := { stood := { row := blockmatchLimitsUptoRow, standIns := [], harness := (true, "9c54f2ef3546ec90fc7d8fb54556130278ecaa58e33d91c4886ca3059a3c8ff0"), looks := false }, kinds := [], alts := [], laidByText := true, laidKinds := [.data, .pinned], laidTests := true, laidLooks := .later }
def BlockmatchLimitsUptoCardSaid : Prop := Claim7.holds Tryd.pinned (.plain (OpenSpec.upto blockmatchLimitsSpec)) blockmatchLimitsUptoCard

/-- THE SECOND FORM's CARD OF 'obeluslaw31.BlockmatchTokens'. -/
def blockmatchTokensUptoCard : Claim7 := { stood := { row := blockmatchTokensUptoRow, standIns := [], harness := (true, "9c54f2ef3546ec90fc7d8fb54556130278ecaa58e33d91c4886ca3059a3c8ff0"), looks := false }, kinds := [], alts := [], laidByText := true, laidKinds := [.data, .pinned], laidTests := true, laidLooks := .later }
def BlockmatchTokensUptoCardSaid : Prop := Claim7.holds Tryd.pinned (.plain (OpenSpec.upto blockmatchTokensSpec)) blockmatchTokensUptoCard

/-- THE SECOND FORM's CARD OF 'obeluslaw31.BlockmatchSimilar'. -/
def blockmatchSimilarUptoCard : Claim7 := { stood := { row := blockmatchSimilarUptoRow, standIns := [], harness := (true, "9c54f2ef3546ec90fc7d8fb54556130278ecaa58e33d91c4886ca3059a3c8ff0"), looks := false }, kinds := [], alts := [], laidByText := true, laidKinds := [.data, .pinned], laidTests := true, laidLooks := .later }
def BlockmatchSimilarUptoCardSaid : Prop := Claim7.holds Tryd.pinned (.plain (OpenSpec.upto blockmatchSimilarSpec)) blockmatchSimilarUptoCard
end Rows
end Go.Proofs.YtpmcdlhhfbobfaaDoor
