/-
  NARROWER THAN 'FOR EVERY INPUT', by the rows' own cells (each row's printed sentence says how): BlockmatchOptimal: laid · BlockmatchCanonical: laid · BlockmatchMirrors: laid · BlockmatchLimits: laid · BlockmatchTokens: laid · BlockmatchSimilar: laid.
  DERIVED. THE GIVEN ROWS OF THIS SEAT. 6 by the template 'for every input the law returns true; each argument reads behind the call as it read before'; 0 by the template 'total and deterministic' (their statements: YtpmcdlhhfbobfaaDoorTotals.lean).
  GIVEN WITH THE SEED: the statements are not yours to turn. If you find one false, say at which input.
  Laid BY PROGRAM, IN A SANDBOX (cutbox-rows.mjs): the forced cells as the released guide's own fill.sh prints them over the translation f9ddc78b4f2561ea… (all of the seat's roots in one cut). By AI agents, Wed Nov 11 2026. No macro, syntax, notation, axiom, sorry.
-/
import Derived.Test.YtpmcdlhhfbobfaaDoorChecked
import GoSem.PinnedTables
import GoSem.Claim
import GoSem.ClaimJoined
import GoSem.ClaimMapViews
import Derived.JoinedTies
import Derived.KernelRfl
namespace Go.Proofs.YtpmcdlhhfbobfaaDoor
/- THE CELL 'sum', in the pinned program and in every row, IS THE sha256 OF THE DUMP (.gsa) THAT YtpmcdlhhfbobfaaDoorProg.lean LOADS. Nothing in Lean hashes anything: it is a label: what it is worth is what the hold of that sum in a sandbox is worth. -/
noncomputable def Tryd.pinned : Pinned := { name := "ytpmcdlhhfbobfaadoor", sum := "f9ddc78b4f2561ea9404b97b3e7b4a93dd3e7e8bdb50b1994d7ad416dc17a955", checked := Tryd.checked }
namespace Rows
def none {H : Type} : Left H := { results := [], args := [] }

/- WHAT THE LISTED PACKAGE-LEVEL VARIABLES READ AS WHEN THE CALL BEGINS. Each datum BY PROGRAM (the guide's laid-datum.mjs) off the statement by which the dump's own 'gosem.cut.vars' lays the variable. In a bare row this is a premise. The card (YtpmcdlhhfbobfaaDoorCards.lean) ties it to the program's text. -/
def laid_unicode_utf8_acceptRanges {H : Type} : DataW H := .agg [.agg [.lit (.int .u8 128), .lit (.int .u8 191)], .agg [.lit (.int .u8 160), .lit (.int .u8 191)], .agg [.lit (.int .u8 128), .lit (.int .u8 159)], .agg [.lit (.int .u8 144), .lit (.int .u8 191)], .agg [.lit (.int .u8 128), .lit (.int .u8 143)], .agg [.lit (.int .u8 0), .lit (.int .u8 0)], .agg [.lit (.int .u8 0), .lit (.int .u8 0)], .agg [.lit (.int .u8 0), .lit (.int .u8 0)], .agg [.lit (.int .u8 0), .lit (.int .u8 0)], .agg [.lit (.int .u8 0), .lit (.int .u8 0)], .agg [.lit (.int .u8 0), .lit (.int .u8 0)], .agg [.lit (.int .u8 0), .lit (.int .u8 0)], .agg [.lit (.int .u8 0), .lit (.int .u8 0)], .agg [.lit (.int .u8 0), .lit (.int .u8 0)], .agg [.lit (.int .u8 0), .lit (.int .u8 0)], .agg [.lit (.int .u8 0), .lit (.int .u8 0)]]
/-- One of Go's own tables, pinned by name: the form's constant. -/
def laid_unicode_utf8_first : DataW Unit := Go.Pinned.utf8First

/-- 'obeluslaw31.BlockmatchOptimal': WHATEVER THE INPUT: true; the input reads as it did. -/
def blockmatchOptimalSpec : ChangeSpec := { name := "blockmatchOptimal", fn := fun _ => fun
  | [d1, d2, d3] => { results := [.lit (.bool true)], args := [d1, d2, d3] }
  | _ => none }
def blockmatchOptimalRow : OpenClaim := { program := "ytpmcdlhhfbobfaadoor", sum := "f9ddc78b4f2561ea9404b97b3e7b4a93dd3e7e8bdb50b1994d7ad416dc17a955", func := "obelus/obeluslaw31.BlockmatchOptimal", spec := "blockmatchOptimal", unfollowed := true, recurses := true, named := ["unicode/utf8.first", "unicode/utf8.acceptRanges"], apart := false, laid := [("unicode/utf8.acceptRanges", laid_unicode_utf8_acceptRanges), ("unicode/utf8.first", laid_unicode_utf8_first)] }
def BlockmatchOptimalSaid : Prop := blockmatchOptimalRow.holds Tryd.pinned (OpenSpec.ofChange blockmatchOptimalSpec)

/-- ITS FALSE NEIGHBOUR: 'it returns false'. Refute it at one input. -/
def blockmatchOptimalWrong : ChangeSpec := { name := "blockmatchOptimal", fn := fun _ => fun
  | [d1, d2, d3] => { results := [.lit (.bool false)], args := [d1, d2, d3] }
  | _ => none }
def BlockmatchOptimalWrongFalsely : Prop := blockmatchOptimalRow.holds Tryd.pinned (OpenSpec.ofChange blockmatchOptimalWrong)

/-- 'obeluslaw31.BlockmatchCanonical': WHATEVER THE INPUT: true; the input reads as it did. -/
def blockmatchCanonicalSpec : ChangeSpec := { name := "blockmatchCanonical", fn := fun _ => fun
  | [d] => { results := [.lit (.bool true)], args := [d] }
  | _ => none }
def blockmatchCanonicalRow : OpenClaim := { program := "ytpmcdlhhfbobfaadoor", sum := "f9ddc78b4f2561ea9404b97b3e7b4a93dd3e7e8bdb50b1994d7ad416dc17a955", func := "obelus/obeluslaw31.BlockmatchCanonical", spec := "blockmatchCanonical", unfollowed := true, recurses := true, named := ["unicode/utf8.first", "unicode/utf8.acceptRanges"], apart := false, laid := [("unicode/utf8.acceptRanges", laid_unicode_utf8_acceptRanges), ("unicode/utf8.first", laid_unicode_utf8_first)] }
def BlockmatchCanonicalSaid : Prop := blockmatchCanonicalRow.holds Tryd.pinned (OpenSpec.ofChange blockmatchCanonicalSpec)

/-- ITS FALSE NEIGHBOUR: 'it returns false'. Refute it at one input. -/
def blockmatchCanonicalWrong : ChangeSpec := { name := "blockmatchCanonical", fn := fun _ => fun
  | [d] => { results := [.lit (.bool false)], args := [d] }
  | _ => none }
def BlockmatchCanonicalWrongFalsely : Prop := blockmatchCanonicalRow.holds Tryd.pinned (OpenSpec.ofChange blockmatchCanonicalWrong)

/-- 'obeluslaw31.BlockmatchMirrors': WHATEVER THE INPUT: true; the input reads as it did. -/
def blockmatchMirrorsSpec : ChangeSpec := { name := "blockmatchMirrors", fn := fun _ => fun
  | [d1, d2, d3] => { results := [.lit (.bool true)], args := [d1, d2, d3] }
  | _ => none }
def blockmatchMirrorsRow : OpenClaim := { program := "ytpmcdlhhfbobfaadoor", sum := "f9ddc78b4f2561ea9404b97b3e7b4a93dd3e7e8bdb50b1994d7ad416dc17a955", func := "obelus/obeluslaw31.BlockmatchMirrors", spec := "blockmatchMirrors", unfollowed := true, recurses := true, named := ["unicode/utf8.first", "unicode/utf8.acceptRanges"], apart := false, laid := [("unicode/utf8.acceptRanges", laid_unicode_utf8_acceptRanges), ("unicode/utf8.first", laid_unicode_utf8_first)] }
def BlockmatchMirrorsSaid : Prop := blockmatchMirrorsRow.holds Tryd.pinned (OpenSpec.ofChange blockmatchMirrorsSpec)

/-- ITS FALSE NEIGHBOUR: 'it returns false'. Refute it at one input. -/
def blockmatchMirrorsWrong : ChangeSpec := { name := "blockmatchMirrors", fn := fun _ => fun
  | [d1, d2, d3] => { results := [.lit (.bool false)], args := [d1, d2, d3] }
  | _ => none }
def BlockmatchMirrorsWrongFalsely : Prop := blockmatchMirrorsRow.holds Tryd.pinned (OpenSpec.ofChange blockmatchMirrorsWrong)

/-- 'obeluslaw31.BlockmatchLimits': WHATEVER THE INPUT: true; the input reads as it did. -/
def blockmatchLimitsSpec : ChangeSpec := { name := "blockmatchLimits", fn := fun _ => fun
  | [d1, d2] => { results := [.lit (.bool true)], args := [d1, d2] }
  | _ => none }
def blockmatchLimitsRow : OpenClaim := { program := "ytpmcdlhhfbobfaadoor", sum := "f9ddc78b4f2561ea9404b97b3e7b4a93dd3e7e8bdb50b1994d7ad416dc17a955", func := "obelus/obeluslaw31.BlockmatchLimits", spec := "blockmatchLimits", unfollowed := true, recurses := true, named := ["unicode/utf8.first", "unicode/utf8.acceptRanges"], apart := false, laid := [("unicode/utf8.acceptRanges", laid_unicode_utf8_acceptRanges), ("unicode/utf8.first", laid_unicode_utf8_first)] }
def BlockmatchLimitsSaid : Prop := blockmatchLimitsRow.holds Tryd.pinned (OpenSpec.ofChange blockmatchLimitsSpec)

/-- ITS FALSE NEIGHBOUR: 'it returns false'. Refute it at one input. -/
def blockmatchLimitsWrong : ChangeSpec := { name := "blockmatchLimits", fn := fun _ => fun
  | [d1, d2] => { results := [.lit (.bool false)], args := [d1, d2] }
  | _ => none }
def BlockmatchLimitsWrongFalsely : Prop := blockmatchLimitsRow.holds Tryd.pinned (OpenSpec.ofChange blockmatchLimitsWrong)

/-- 'obeluslaw31.BlockmatchTokens': WHATEVER THE INPUT: true; the input reads as it did. -/
def blockmatchTokensSpec : ChangeSpec := { name := "blockmatchTokens", fn := fun _ => fun
  | [d1, d2] => { results := [.lit (.bool true)], args := [d1, d2] }
  | _ => none }
def blockmatchTokensRow : OpenClaim := { program := "ytpmcdlhhfbobfaadoor", sum := "f9ddc78b4f2561ea9404b97b3e7b4a93dd3e7e8bdb50b1994d7ad416dc17a955", func := "obelus/obeluslaw31.BlockmatchTokens", spec := "blockmatchTokens", unfollowed := true, recurses := true, named := ["unicode/utf8.first", "unicode/utf8.acceptRanges"], apart := false, laid := [("unicode/utf8.acceptRanges", laid_unicode_utf8_acceptRanges), ("unicode/utf8.first", laid_unicode_utf8_first)] }
def BlockmatchTokensSaid : Prop := blockmatchTokensRow.holds Tryd.pinned (OpenSpec.ofChange blockmatchTokensSpec)

/-- ITS FALSE NEIGHBOUR: 'it returns false'. Refute it at one input. -/
def blockmatchTokensWrong : ChangeSpec := { name := "blockmatchTokens", fn := fun _ => fun
  | [d1, d2] => { results := [.lit (.bool false)], args := [d1, d2] }
  | _ => none }
def BlockmatchTokensWrongFalsely : Prop := blockmatchTokensRow.holds Tryd.pinned (OpenSpec.ofChange blockmatchTokensWrong)

/-- 'obeluslaw31.BlockmatchSimilar': WHATEVER THE INPUT: true; the input reads as it did. -/
def blockmatchSimilarSpec : ChangeSpec := { name := "blockmatchSimilar", fn := fun _ => fun
  | [d1, d2] => { results := [.lit (.bool true)], args := [d1, d2] }
  | _ => none }
def blockmatchSimilarRow : OpenClaim := { program := "ytpmcdlhhfbobfaadoor", sum := "f9ddc78b4f2561ea9404b97b3e7b4a93dd3e7e8bdb50b1994d7ad416dc17a955", func := "obelus/obeluslaw31.BlockmatchSimilar", spec := "blockmatchSimilar", unfollowed := true, recurses := true, named := ["unicode/utf8.first", "unicode/utf8.acceptRanges"], apart := false, laid := [("unicode/utf8.acceptRanges", laid_unicode_utf8_acceptRanges), ("unicode/utf8.first", laid_unicode_utf8_first)] }
def BlockmatchSimilarSaid : Prop := blockmatchSimilarRow.holds Tryd.pinned (OpenSpec.ofChange blockmatchSimilarSpec)

/-- ITS FALSE NEIGHBOUR: 'it returns false'. Refute it at one input. -/
def blockmatchSimilarWrong : ChangeSpec := { name := "blockmatchSimilar", fn := fun _ => fun
  | [d1, d2] => { results := [.lit (.bool false)], args := [d1, d2] }
  | _ => none }
def BlockmatchSimilarWrongFalsely : Prop := blockmatchSimilarRow.holds Tryd.pinned (OpenSpec.ofChange blockmatchSimilarWrong)

/- THE SECOND FORM. 'bulk': how many values and letters a reading holds, each counted each time it is reached (what is shared counts as often as it is met; a slice's spare places count too). A statement '..UptoSaid' is the law's where the arguments, and the package variables that the reading takes, are together of bulk at most 1048576: NARROWER than '..Said'. Prove '..Said' where nothing that the law and all that it calls make is longer than what came in: it says more and counts as full. Else prove '..UptoSaid'. A law counts once. -/
mutual
def uptoBulk {H : Type} : DataW H → Nat
  | .lit (.string bytes) => bytes.length + 1
  | .lit _ => 1
  | .nil => 1
  | .ptr d => uptoBulk d + 1
  | .slice elems spare => uptoBulkAll elems + uptoBulkAll spare + 1
  | .agg parts => uptoBulkAll parts + 1
  | .iface _ d => uptoBulk d + 1
  | .map entries => uptoBulkEntries entries + 1
  | .held _ => 1
def uptoBulkAll {H : Type} : List (DataW H) → Nat
  | [] => 0
  | d :: r => uptoBulk d + uptoBulkAll r
def uptoBulkEntries {H : Type} : List (Lit × DataW H) → Nat
  | [] => 0
  | x :: r => uptoBulkEntry x + uptoBulkEntries r
def uptoBulkEntry {H : Type} : Lit × DataW H → Nat
  | (.string bytes, d) => bytes.length + uptoBulk d + 1
  | (_, d) => uptoBulk d + 1
 end
def uptoSmall : (H : Type) → List (DataW H) → Bool := fun _ ds => decide (uptoBulkAll ds ≤ 1048576)
def OpenSpec.upto (s : _root_.Go.ChangeSpec) : _root_.Go.OpenSpec := { _root_.Go.OpenSpec.ofChange s with cond := some uptoSmall }

/-- 'obeluslaw31.BlockmatchOptimal', WHERE WHAT IT READS IS OF BULK AT MOST 1048576: true; the input reads as it did. -/
def blockmatchOptimalUptoRow : OpenClaim := { program := "ytpmcdlhhfbobfaadoor", sum := "f9ddc78b4f2561ea9404b97b3e7b4a93dd3e7e8bdb50b1994d7ad416dc17a955", func := "obelus/obeluslaw31.BlockmatchOptimal", spec := "blockmatchOptimal", unfollowed := true, recurses := true, named := ["unicode/utf8.first", "unicode/utf8.acceptRanges"], apart := false, laid := [("unicode/utf8.acceptRanges", laid_unicode_utf8_acceptRanges), ("unicode/utf8.first", laid_unicode_utf8_first)], narrowed := true }
def BlockmatchOptimalUptoSaid : Prop := blockmatchOptimalUptoRow.holds Tryd.pinned (OpenSpec.upto blockmatchOptimalSpec)

/-- 'obeluslaw31.BlockmatchCanonical', WHERE WHAT IT READS IS OF BULK AT MOST 1048576: true; the input reads as it did. -/
def blockmatchCanonicalUptoRow : OpenClaim := { program := "ytpmcdlhhfbobfaadoor", sum := "f9ddc78b4f2561ea9404b97b3e7b4a93dd3e7e8bdb50b1994d7ad416dc17a955", func := "obelus/obeluslaw31.BlockmatchCanonical", spec := "blockmatchCanonical", unfollowed := true, recurses := true, named := ["unicode/utf8.first", "unicode/utf8.acceptRanges"], apart := false, laid := [("unicode/utf8.acceptRanges", laid_unicode_utf8_acceptRanges), ("unicode/utf8.first", laid_unicode_utf8_first)], narrowed := true }
def BlockmatchCanonicalUptoSaid : Prop := blockmatchCanonicalUptoRow.holds Tryd.pinned (OpenSpec.upto blockmatchCanonicalSpec)

/-- 'obeluslaw31.BlockmatchMirrors', WHERE WHAT IT READS IS OF BULK AT MOST 1048576: true; the input reads as it did. -/
def blockmatchMirrorsUptoRow : OpenClaim := { program := "ytpmcdlhhfbobfaadoor", sum := "f9ddc78b4f2561ea9404b97b3e7b4a93dd3e7e8bdb50b1994d7ad416dc17a955", func := "obelus/obeluslaw31.BlockmatchMirrors", spec := "blockmatchMirrors", unfollowed := true, recurses := true, named := ["unicode/utf8.first", "unicode/utf8.acceptRanges"], apart := false, laid := [("unicode/utf8.acceptRanges", laid_unicode_utf8_acceptRanges), ("unicode/utf8.first", laid_unicode_utf8_first)], narrowed := true }
def BlockmatchMirrorsUptoSaid : Prop := blockmatchMirrorsUptoRow.holds Tryd.pinned (OpenSpec.upto blockmatchMirrorsSpec)

/-- 'obeluslaw31.BlockmatchLimits', WHERE WHAT IT READS IS OF BULK AT MOST 1048576: true; the input reads as it did. -/
def blockmatchLimitsUptoRow : OpenClaim := { program := "ytpmcdlhhfbobfaadoor", sum := "f9ddc78b4f2561ea9404b97b3e7b4a93dd3e7e8bdb50b1994d7ad416dc17a955", func := "obelus/obeluslaw31.BlockmatchLimits", spec := "blockmatchLimits", unfollowed := true, recurses := true, named := ["unicode/utf8.first", "unicode/utf8.acceptRanges"], apart := false, laid := [("unicode/utf8.acceptRanges", laid_unicode_utf8_acceptRanges), ("unicode/utf8.first", laid_unicode_utf8_first)], narrowed := true }
def BlockmatchLimitsUptoSaid : Prop := blockmatchLimitsUptoRow.holds Tryd.pinned (OpenSpec.upto blockmatchLimitsSpec)

/-- 'obeluslaw31.BlockmatchTokens', WHERE WHAT IT READS IS OF BULK AT MOST 1048576: true; the input reads as it did. -/
def blockmatchTokensUptoRow : OpenClaim := { program := "ytpmcdlhhfbobfaadoor", sum := "f9ddc78b4f2561ea9404b97b3e7b4a93dd3e7e8bdb50b1994d7ad416dc17a955", func := "obelus/obeluslaw31.BlockmatchTokens", spec := "blockmatchTokens", unfollowed := true, recurses := true, named := ["unicode/utf8.first", "unicode/utf8.acceptRanges"], apart := false, laid := [("unicode/utf8.acceptRanges", laid_unicode_utf8_acceptRanges), ("unicode/utf8.first", laid_unicode_utf8_first)], narrowed := true }
def BlockmatchTokensUptoSaid : Prop := blockmatchTokensUptoRow.holds Tryd.pinned (OpenSpec.upto blockmatchTokensSpec)

/-- 'obeluslaw31.BlockmatchSimilar', WHERE WHAT IT READS IS OF BULK AT MOST 1048576: true; the input reads as it did. -/
def blockmatchSimilarUptoRow : OpenClaim := { program := "ytpmcdlhhfbobfaadoor", sum := "f9ddc78b4f2561ea9404b97b3e7b4a93dd3e7e8bdb50b1994d7ad416dc17a955", func := "obelus/obeluslaw31.BlockmatchSimilar", spec := "blockmatchSimilar", unfollowed := true, recurses := true, named := ["unicode/utf8.first", "unicode/utf8.acceptRanges"], apart := false, laid := [("unicode/utf8.acceptRanges", laid_unicode_utf8_acceptRanges), ("unicode/utf8.first", laid_unicode_utf8_first)], narrowed := true }
def BlockmatchSimilarUptoSaid : Prop := blockmatchSimilarUptoRow.holds Tryd.pinned (OpenSpec.upto blockmatchSimilarSpec)

end Rows
end Go.Proofs.YtpmcdlhhfbobfaaDoor
