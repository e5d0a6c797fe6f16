/-
  NARROWER THAN 'FOR EVERY INPUT', by the rows' own cells (each row's printed sentence says how): ParagraphParts: loops · ParagraphBlocks: loops.
  DERIVED. THE GIVEN ROWS OF THIS SEAT. 3 by the template 'for every input the law returns true; each argument reads behind the call as it read before'; 0 by the template 'total and deterministic' (their statements: YtbfdhlakbdadhaaTotals.lean).
  GIVEN WITH THE SEED: the statements are not yours to turn. If you find one false, say at which input.
  Laid BY PROGRAM, IN A SANDBOX (cutbox-rows.mjs): the forced cells as the released guide's own fill.sh prints them over the translation 37570e77f3be3c6b… (all of the seat's roots in one cut). By AI agents, Wed Nov 11 2026. No macro, syntax, notation, axiom, sorry.
-/
import Derived.Test.YtbfdhlakbdadhaaChecked
import GoSem.Claim
import GoSem.ClaimJoined
import GoSem.ClaimMapViews
import Derived.JoinedTies
import Derived.KernelRfl
namespace Go.Proofs.Ytbfdhlakbdadhaa
/- THE CELL 'sum', in the pinned program and in every row, IS THE sha256 OF THE DUMP (.gsa) THAT YtbfdhlakbdadhaaProg.lean LOADS. Nothing in Lean hashes anything: it is a label: what it is worth is what the hold of that sum in a sandbox is worth. -/
noncomputable def Try.pinned : Pinned := { name := "ytbfdhlakbdadhaa", sum := "37570e77f3be3c6b769114031480a716d6fc67fd6d2360215a609e6fca119467", checked := Try.checked }
namespace Rows
def none {H : Type} : Left H := { results := [], args := [] }

/-- 'obeluslaw15.PositionRanges': WHATEVER THE INPUT: true; the input reads as it did. -/
def positionRangesSpec : ChangeSpec := { name := "positionRanges", fn := fun _ => fun
  | [d1, d2] => { results := [.lit (.bool true)], args := [d1, d2] }
  | _ => none }
def positionRangesRow : OpenClaim := { program := "ytbfdhlakbdadhaa", sum := "37570e77f3be3c6b769114031480a716d6fc67fd6d2360215a609e6fca119467", func := "obelus/obeluslaw15.PositionRanges", spec := "positionRanges", unfollowed := true, recurses := true, apart := false }
def PositionRangesSaid : Prop := positionRangesRow.holds Try.pinned (OpenSpec.ofChange positionRangesSpec)

/-- ITS FALSE NEIGHBOUR: 'it returns false'. Refute it at one input. -/
def positionRangesWrong : ChangeSpec := { name := "positionRanges", fn := fun _ => fun
  | [d1, d2] => { results := [.lit (.bool false)], args := [d1, d2] }
  | _ => none }
def PositionRangesWrongFalsely : Prop := positionRangesRow.holds Try.pinned (OpenSpec.ofChange positionRangesWrong)

/-- 'obeluslaw14.ParagraphParts': WHATEVER THE INPUT: true; the input reads as it did. -/
def paragraphPartsSpec : ChangeSpec := { name := "paragraphParts", fn := fun _ => fun
  | [d] => { results := [.lit (.bool true)], args := [d] }
  | _ => none }
def paragraphPartsRow : OpenClaim := { program := "ytbfdhlakbdadhaa", sum := "37570e77f3be3c6b769114031480a716d6fc67fd6d2360215a609e6fca119467", func := "obelus/obeluslaw14.ParagraphParts", spec := "paragraphParts", inPlace := ["internal/abi.NoEscape"], unfollowed := true, recurses := true, loops := true, apart := false }
def ParagraphPartsSaid : Prop := paragraphPartsRow.holds Try.pinned (OpenSpec.ofChange paragraphPartsSpec)

/-- ITS FALSE NEIGHBOUR: 'it returns false'. Refute it at one input. -/
def paragraphPartsWrong : ChangeSpec := { name := "paragraphParts", fn := fun _ => fun
  | [d] => { results := [.lit (.bool false)], args := [d] }
  | _ => none }
def ParagraphPartsWrongFalsely : Prop := paragraphPartsRow.holds Try.pinned (OpenSpec.ofChange paragraphPartsWrong)

/-- 'obeluslaw14.ParagraphBlocks': WHATEVER THE INPUT: true; the input reads as it did. -/
def paragraphBlocksSpec : ChangeSpec := { name := "paragraphBlocks", fn := fun _ => fun
  | [d1, d2] => { results := [.lit (.bool true)], args := [d1, d2] }
  | _ => none }
def paragraphBlocksRow : OpenClaim := { program := "ytbfdhlakbdadhaa", sum := "37570e77f3be3c6b769114031480a716d6fc67fd6d2360215a609e6fca119467", func := "obelus/obeluslaw14.ParagraphBlocks", spec := "paragraphBlocks", inPlace := ["internal/abi.NoEscape"], unfollowed := true, recurses := true, loops := true, apart := false }
def ParagraphBlocksSaid : Prop := paragraphBlocksRow.holds Try.pinned (OpenSpec.ofChange paragraphBlocksSpec)

/-- ITS FALSE NEIGHBOUR: 'it returns false'. Refute it at one input. -/
def paragraphBlocksWrong : ChangeSpec := { name := "paragraphBlocks", fn := fun _ => fun
  | [d1, d2] => { results := [.lit (.bool false)], args := [d1, d2] }
  | _ => none }
def ParagraphBlocksWrongFalsely : Prop := paragraphBlocksRow.holds Try.pinned (OpenSpec.ofChange paragraphBlocksWrong)

/- THE SECOND FORM. 'bulk': how many values and letters a reading holds, each counted each time it is reached (what is shared counts as often as it is met; a slice's spare places count too). A statement '..UptoSaid' is the law's where the arguments, and the package variables that the reading takes, are together of bulk at most 1048576: NARROWER than '..Said'. Prove '..Said' where nothing that the law and all that it calls make is longer than what came in: it says more and counts as full. Else prove '..UptoSaid'. A law counts once. -/
mutual
def uptoBulk {H : Type} : DataW H → Nat
  | .lit (.string bytes) => bytes.length + 1
  | .lit _ => 1
  | .nil => 1
  | .ptr d => uptoBulk d + 1
  | .slice elems spare => uptoBulkAll elems + uptoBulkAll spare + 1
  | .agg parts => uptoBulkAll parts + 1
  | .iface _ d => uptoBulk d + 1
  | .map entries => uptoBulkEntries entries + 1
  | .held _ => 1
def uptoBulkAll {H : Type} : List (DataW H) → Nat
  | [] => 0
  | d :: r => uptoBulk d + uptoBulkAll r
def uptoBulkEntries {H : Type} : List (Lit × DataW H) → Nat
  | [] => 0
  | x :: r => uptoBulkEntry x + uptoBulkEntries r
def uptoBulkEntry {H : Type} : Lit × DataW H → Nat
  | (.string bytes, d) => bytes.length + uptoBulk d + 1
  | (_, d) => uptoBulk d + 1
 end
def uptoSmall : (H : Type) → List (DataW H) → Bool := fun _ ds => decide (uptoBulkAll ds ≤ 1048576)
def OpenSpec.upto (s : _root_.Go.ChangeSpec) : _root_.Go.OpenSpec := { _root_.Go.OpenSpec.ofChange s with cond := some uptoSmall }

/-- 'obeluslaw15.PositionRanges', WHERE WHAT IT READS IS OF BULK AT MOST 1048576: true; the input reads as it did. -/
def positionRangesUptoRow : OpenClaim := { program := "ytbfdhlakbdadhaa", sum := "37570e77f3be3c6b769114031480a716d6fc67fd6d2360215a609e6fca119467", func := "obelus/obeluslaw15.PositionRanges", spec := "positionRanges", unfollowed := true, recurses := true, apart := false, narrowed := true }
def PositionRangesUptoSaid : Prop := positionRangesUptoRow.holds Try.pinned (OpenSpec.upto positionRangesSpec)

/-- 'obeluslaw14.ParagraphParts', WHERE WHAT IT READS IS OF BULK AT MOST 1048576: true; the input reads as it did. -/
def paragraphPartsUptoRow : OpenClaim := { program := "ytbfdhlakbdadhaa", sum := "37570e77f3be3c6b769114031480a716d6fc67fd6d2360215a609e6fca119467", func := "obelus/obeluslaw14.ParagraphParts", spec := "paragraphParts", inPlace := ["internal/abi.NoEscape"], unfollowed := true, recurses := true, loops := true, apart := false, narrowed := true }
def ParagraphPartsUptoSaid : Prop := paragraphPartsUptoRow.holds Try.pinned (OpenSpec.upto paragraphPartsSpec)

/-- 'obeluslaw14.ParagraphBlocks', WHERE WHAT IT READS IS OF BULK AT MOST 1048576: true; the input reads as it did. -/
def paragraphBlocksUptoRow : OpenClaim := { program := "ytbfdhlakbdadhaa", sum := "37570e77f3be3c6b769114031480a716d6fc67fd6d2360215a609e6fca119467", func := "obelus/obeluslaw14.ParagraphBlocks", spec := "paragraphBlocks", inPlace := ["internal/abi.NoEscape"], unfollowed := true, recurses := true, loops := true, apart := false, narrowed := true }
def ParagraphBlocksUptoSaid : Prop := paragraphBlocksUptoRow.holds Try.pinned (OpenSpec.upto paragraphBlocksSpec)

end Rows
end Go.Proofs.Ytbfdhlakbdadhaa
