/-
  NARROWER THAN 'FOR EVERY INPUT', by the rows' own cells (each row's printed sentence says how): DocumentChecks: loops · DocumentEquals: loops · DocumentFlows: loops.
  DERIVED. THE GIVEN ROWS OF THIS SEAT. 5 by the template 'for every input the law returns true; each argument reads behind the call as it read before'; 0 by the template 'total and deterministic' (their statements: YtlnhhlighgaapaaGreatTotals.lean).
  GIVEN WITH THE SEED: the statements are not yours to turn. If you find one false, say at which input.
  Laid BY PROGRAM, IN A SANDBOX (cutbox-rows.mjs): the forced cells as the released guide's own fill.sh prints them over the translation 09fdd11b3999a449… (all of the seat's roots in one cut). By AI agents, Wed Nov 11 2026. No macro, syntax, notation, axiom, sorry.
-/
import Derived.Test.YtlnhhlighgaapaaGreatChecked
import GoSem.Claim
import GoSem.ClaimJoined
import GoSem.ClaimMapViews
import Derived.JoinedTies
import Derived.KernelRfl
namespace Go.Proofs.YtlnhhlighgaapaaGreat
/- THE CELL 'sum', in the pinned program and in every row, IS THE sha256 OF THE DUMP (.gsa) THAT YtlnhhlighgaapaaGreatProg.lean LOADS. Nothing in Lean hashes anything: it is a label: what it is worth is what the hold of that sum in a sandbox is worth. -/
noncomputable def Tryz.pinned : Pinned := { name := "ytlnhhlighgaapaagreat", sum := "09fdd11b3999a449415b11c9d42feb48cb0e7f05ecb610c36cb949249864bbc1", checked := Tryz.checked }
namespace Rows
def none {H : Type} : Left H := { results := [], args := [] }

/-- 'obeluslaw14.ParagraphStyles': WHATEVER THE INPUT: true; the input reads as it did. -/
def paragraphStylesSpec : ChangeSpec := { name := "paragraphStyles", fn := fun _ => fun
  | [d1, d2, d3] => { results := [.lit (.bool true)], args := [d1, d2, d3] }
  | _ => none }
def paragraphStylesRow : OpenClaim := { program := "ytlnhhlighgaapaagreat", sum := "09fdd11b3999a449415b11c9d42feb48cb0e7f05ecb610c36cb949249864bbc1", func := "obelus/obeluslaw14.ParagraphStyles", spec := "paragraphStyles", inPlace := ["internal/abi.NoEscape"], unfollowed := true, recurses := true, apart := false }
def ParagraphStylesSaid : Prop := paragraphStylesRow.holds Tryz.pinned (OpenSpec.ofChange paragraphStylesSpec)

/-- ITS FALSE NEIGHBOUR: 'it returns false'. Refute it at one input. -/
def paragraphStylesWrong : ChangeSpec := { name := "paragraphStyles", fn := fun _ => fun
  | [d1, d2, d3] => { results := [.lit (.bool false)], args := [d1, d2, d3] }
  | _ => none }
def ParagraphStylesWrongFalsely : Prop := paragraphStylesRow.holds Tryz.pinned (OpenSpec.ofChange paragraphStylesWrong)

/-- 'obeluslaw13.DocumentSettings': WHATEVER THE INPUT: true; the input reads as it did. -/
def documentSettingsSpec : ChangeSpec := { name := "documentSettings", fn := fun _ => fun
  | [d] => { results := [.lit (.bool true)], args := [d] }
  | _ => none }
def documentSettingsRow : OpenClaim := { program := "ytlnhhlighgaapaagreat", sum := "09fdd11b3999a449415b11c9d42feb48cb0e7f05ecb610c36cb949249864bbc1", func := "obelus/obeluslaw13.DocumentSettings", spec := "documentSettings", inPlace := ["internal/abi.NoEscape"], unfollowed := true, recurses := true, apart := false }
def DocumentSettingsSaid : Prop := documentSettingsRow.holds Tryz.pinned (OpenSpec.ofChange documentSettingsSpec)

/-- ITS FALSE NEIGHBOUR: 'it returns false'. Refute it at one input. -/
def documentSettingsWrong : ChangeSpec := { name := "documentSettings", fn := fun _ => fun
  | [d] => { results := [.lit (.bool false)], args := [d] }
  | _ => none }
def DocumentSettingsWrongFalsely : Prop := documentSettingsRow.holds Tryz.pinned (OpenSpec.ofChange documentSettingsWrong)

/-- 'obeluslaw13.DocumentChecks': WHATEVER THE INPUT: true; the input reads as it did. -/
def documentChecksSpec : ChangeSpec := { name := "documentChecks", fn := fun _ => fun
  | [d] => { results := [.lit (.bool true)], args := [d] }
  | _ => none }
def documentChecksRow : OpenClaim := { program := "ytlnhhlighgaapaagreat", sum := "09fdd11b3999a449415b11c9d42feb48cb0e7f05ecb610c36cb949249864bbc1", func := "obelus/obeluslaw13.DocumentChecks", spec := "documentChecks", inPlace := ["internal/abi.NoEscape"], unfollowed := true, recurses := true, loops := true, apart := false }
def DocumentChecksSaid : Prop := documentChecksRow.holds Tryz.pinned (OpenSpec.ofChange documentChecksSpec)

/-- ITS FALSE NEIGHBOUR: 'it returns false'. Refute it at one input. -/
def documentChecksWrong : ChangeSpec := { name := "documentChecks", fn := fun _ => fun
  | [d] => { results := [.lit (.bool false)], args := [d] }
  | _ => none }
def DocumentChecksWrongFalsely : Prop := documentChecksRow.holds Tryz.pinned (OpenSpec.ofChange documentChecksWrong)

/-- 'obeluslaw13.DocumentEquals': WHATEVER THE INPUT: true; the input reads as it did. -/
def documentEqualsSpec : ChangeSpec := { name := "documentEquals", fn := fun _ => fun
  | [d1, d2] => { results := [.lit (.bool true)], args := [d1, d2] }
  | _ => none }
def documentEqualsRow : OpenClaim := { program := "ytlnhhlighgaapaagreat", sum := "09fdd11b3999a449415b11c9d42feb48cb0e7f05ecb610c36cb949249864bbc1", func := "obelus/obeluslaw13.DocumentEquals", spec := "documentEquals", inPlace := ["internal/abi.NoEscape"], unfollowed := true, recurses := true, loops := true, apart := false }
def DocumentEqualsSaid : Prop := documentEqualsRow.holds Tryz.pinned (OpenSpec.ofChange documentEqualsSpec)

/-- ITS FALSE NEIGHBOUR: 'it returns false'. Refute it at one input. -/
def documentEqualsWrong : ChangeSpec := { name := "documentEquals", fn := fun _ => fun
  | [d1, d2] => { results := [.lit (.bool false)], args := [d1, d2] }
  | _ => none }
def DocumentEqualsWrongFalsely : Prop := documentEqualsRow.holds Tryz.pinned (OpenSpec.ofChange documentEqualsWrong)

/-- 'obeluslaw13.DocumentFlows': WHATEVER THE INPUT: true; the input reads as it did. -/
def documentFlowsSpec : ChangeSpec := { name := "documentFlows", fn := fun _ => fun
  | [d1, d2] => { results := [.lit (.bool true)], args := [d1, d2] }
  | _ => none }
def documentFlowsRow : OpenClaim := { program := "ytlnhhlighgaapaagreat", sum := "09fdd11b3999a449415b11c9d42feb48cb0e7f05ecb610c36cb949249864bbc1", func := "obelus/obeluslaw13.DocumentFlows", spec := "documentFlows", inPlace := ["internal/abi.NoEscape"], unfollowed := true, recurses := true, loops := true, apart := false }
def DocumentFlowsSaid : Prop := documentFlowsRow.holds Tryz.pinned (OpenSpec.ofChange documentFlowsSpec)

/-- ITS FALSE NEIGHBOUR: 'it returns false'. Refute it at one input. -/
def documentFlowsWrong : ChangeSpec := { name := "documentFlows", fn := fun _ => fun
  | [d1, d2] => { results := [.lit (.bool false)], args := [d1, d2] }
  | _ => none }
def DocumentFlowsWrongFalsely : Prop := documentFlowsRow.holds Tryz.pinned (OpenSpec.ofChange documentFlowsWrong)

/- THE SECOND FORM. 'bulk': how many values and letters a reading holds, each counted each time it is reached (what is shared counts as often as it is met; a slice's spare places count too). A statement '..UptoSaid' is the law's where the arguments, and the package variables that the reading takes, are together of bulk at most 1048576: NARROWER than '..Said'. Prove '..Said' where nothing that the law and all that it calls make is longer than what came in: it says more and counts as full. Else prove '..UptoSaid'. A law counts once. -/
mutual
def uptoBulk {H : Type} : DataW H → Nat
  | .lit (.string bytes) => bytes.length + 1
  | .lit _ => 1
  | .nil => 1
  | .ptr d => uptoBulk d + 1
  | .slice elems spare => uptoBulkAll elems + uptoBulkAll spare + 1
  | .agg parts => uptoBulkAll parts + 1
  | .iface _ d => uptoBulk d + 1
  | .map entries => uptoBulkEntries entries + 1
  | .held _ => 1
def uptoBulkAll {H : Type} : List (DataW H) → Nat
  | [] => 0
  | d :: r => uptoBulk d + uptoBulkAll r
def uptoBulkEntries {H : Type} : List (Lit × DataW H) → Nat
  | [] => 0
  | x :: r => uptoBulkEntry x + uptoBulkEntries r
def uptoBulkEntry {H : Type} : Lit × DataW H → Nat
  | (.string bytes, d) => bytes.length + uptoBulk d + 1
  | (_, d) => uptoBulk d + 1
 end
def uptoSmall : (H : Type) → List (DataW H) → Bool := fun _ ds => decide (uptoBulkAll ds ≤ 1048576)
def OpenSpec.upto (s : _root_.Go.ChangeSpec) : _root_.Go.OpenSpec := { _root_.Go.OpenSpec.ofChange s with cond := some uptoSmall }

/-- 'obeluslaw14.ParagraphStyles', WHERE WHAT IT READS IS OF BULK AT MOST 1048576: true; the input reads as it did. -/
def paragraphStylesUptoRow : OpenClaim := { program := "ytlnhhlighgaapaagreat", sum := "09fdd11b3999a449415b11c9d42feb48cb0e7f05ecb610c36cb949249864bbc1", func := "obelus/obeluslaw14.ParagraphStyles", spec := "paragraphStyles", inPlace := ["internal/abi.NoEscape"], unfollowed := true, recurses := true, apart := false, narrowed := true }
def ParagraphStylesUptoSaid : Prop := paragraphStylesUptoRow.holds Tryz.pinned (OpenSpec.upto paragraphStylesSpec)

/-- 'obeluslaw13.DocumentSettings', WHERE WHAT IT READS IS OF BULK AT MOST 1048576: true; the input reads as it did. -/
def documentSettingsUptoRow : OpenClaim := { program := "ytlnhhlighgaapaagreat", sum := "09fdd11b3999a449415b11c9d42feb48cb0e7f05ecb610c36cb949249864bbc1", func := "obelus/obeluslaw13.DocumentSettings", spec := "documentSettings", inPlace := ["internal/abi.NoEscape"], unfollowed := true, recurses := true, apart := false, narrowed := true }
def DocumentSettingsUptoSaid : Prop := documentSettingsUptoRow.holds Tryz.pinned (OpenSpec.upto documentSettingsSpec)

/-- 'obeluslaw13.DocumentChecks', WHERE WHAT IT READS IS OF BULK AT MOST 1048576: true; the input reads as it did. -/
def documentChecksUptoRow : OpenClaim := { program := "ytlnhhlighgaapaagreat", sum := "09fdd11b3999a449415b11c9d42feb48cb0e7f05ecb610c36cb949249864bbc1", func := "obelus/obeluslaw13.DocumentChecks", spec := "documentChecks", inPlace := ["internal/abi.NoEscape"], unfollowed := true, recurses := true, loops := true, apart := false, narrowed := true }
def DocumentChecksUptoSaid : Prop := documentChecksUptoRow.holds Tryz.pinned (OpenSpec.upto documentChecksSpec)

/-- 'obeluslaw13.DocumentEquals', WHERE WHAT IT READS IS OF BULK AT MOST 1048576: true; the input reads as it did. -/
def documentEqualsUptoRow : OpenClaim := { program := "ytlnhhlighgaapaagreat", sum := "09fdd11b3999a449415b11c9d42feb48cb0e7f05ecb610c36cb949249864bbc1", func := "obelus/obeluslaw13.DocumentEquals", spec := "documentEquals", inPlace := ["internal/abi.NoEscape"], unfollowed := true, recurses := true, loops := true, apart := false, narrowed := true }
def DocumentEqualsUptoSaid : Prop := documentEqualsUptoRow.holds Tryz.pinned (OpenSpec.upto documentEqualsSpec)

/-- 'obeluslaw13.DocumentFlows', WHERE WHAT IT READS IS OF BULK AT MOST 1048576: true; the input reads as it did. -/
def documentFlowsUptoRow : OpenClaim := { program := "ytlnhhlighgaapaagreat", sum := "09fdd11b3999a449415b11c9d42feb48cb0e7f05ecb610c36cb949249864bbc1", func := "obelus/obeluslaw13.DocumentFlows", spec := "documentFlows", inPlace := ["internal/abi.NoEscape"], unfollowed := true, recurses := true, loops := true, apart := false, narrowed := true }
def DocumentFlowsUptoSaid : Prop := documentFlowsUptoRow.holds Tryz.pinned (OpenSpec.upto documentFlowsSpec)

end Rows
end Go.Proofs.YtlnhhlighgaapaaGreat
