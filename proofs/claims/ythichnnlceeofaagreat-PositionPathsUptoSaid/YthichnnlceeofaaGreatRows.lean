/-
  NARROWER THAN 'FOR EVERY INPUT', by the rows' own cells (each row's printed sentence says how): PositionIndexes: loops · PositionErrors: loops · PositionPaths: loops · PositionFollows: loops · PositionCompares: loops.
  DERIVED. THE GIVEN ROWS OF THIS SEAT. 5 by the template 'for every input the law returns true; each argument reads behind the call as it read before'; 0 by the template 'total and deterministic' (their statements: YthichnnlceeofaaGreatTotals.lean).
  GIVEN WITH THE SEED: the statements are not yours to turn. If you find one false, say at which input.
  Laid BY PROGRAM, IN A SANDBOX (cutbox-rows.mjs): the forced cells as the released guide's own fill.sh prints them over the translation 6e524d3b626c0269… (all of the seat's roots in one cut). By AI agents, Wed Nov 11 2026. No macro, syntax, notation, axiom, sorry.
-/
import Derived.Test.YthichnnlceeofaaGreatChecked
import GoSem.Claim
import GoSem.ClaimJoined
import GoSem.ClaimMapViews
import Derived.JoinedTies
import Derived.KernelRfl
namespace Go.Proofs.YthichnnlceeofaaGreat
/- THE CELL 'sum', in the pinned program and in every row, IS THE sha256 OF THE DUMP (.gsa) THAT YthichnnlceeofaaGreatProg.lean LOADS. Nothing in Lean hashes anything: it is a label: what it is worth is what the hold of that sum in a sandbox is worth. -/
noncomputable def Tryz.pinned : Pinned := { name := "ythichnnlceeofaagreat", sum := "6e524d3b626c02693b4df868f0b26a3d9612d44021c70f11ac95a8037066c662", checked := Tryz.checked }
namespace Rows
def none {H : Type} : Left H := { results := [], args := [] }

/-- 'obeluslaw15.PositionIndexes': WHATEVER THE INPUT: true; the input reads as it did. -/
def positionIndexesSpec : ChangeSpec := { name := "positionIndexes", fn := fun _ => fun
  | [d] => { results := [.lit (.bool true)], args := [d] }
  | _ => none }
def positionIndexesRow : OpenClaim := { program := "ythichnnlceeofaagreat", sum := "6e524d3b626c02693b4df868f0b26a3d9612d44021c70f11ac95a8037066c662", func := "obelus/obeluslaw15.PositionIndexes", spec := "positionIndexes", inPlace := ["internal/abi.NoEscape"], unfollowed := true, recurses := true, loops := true, apart := false }
def PositionIndexesSaid : Prop := positionIndexesRow.holds Tryz.pinned (OpenSpec.ofChange positionIndexesSpec)

/-- ITS FALSE NEIGHBOUR: 'it returns false'. Refute it at one input. -/
def positionIndexesWrong : ChangeSpec := { name := "positionIndexes", fn := fun _ => fun
  | [d] => { results := [.lit (.bool false)], args := [d] }
  | _ => none }
def PositionIndexesWrongFalsely : Prop := positionIndexesRow.holds Tryz.pinned (OpenSpec.ofChange positionIndexesWrong)

/-- 'obeluslaw15.PositionErrors': WHATEVER THE INPUT: true; the input reads as it did. -/
def positionErrorsSpec : ChangeSpec := { name := "positionErrors", fn := fun _ => fun
  | [d1, d2, d3] => { results := [.lit (.bool true)], args := [d1, d2, d3] }
  | _ => none }
def positionErrorsRow : OpenClaim := { program := "ythichnnlceeofaagreat", sum := "6e524d3b626c02693b4df868f0b26a3d9612d44021c70f11ac95a8037066c662", func := "obelus/obeluslaw15.PositionErrors", spec := "positionErrors", inPlace := ["internal/abi.NoEscape"], unfollowed := true, recurses := true, loops := true, apart := false }
def PositionErrorsSaid : Prop := positionErrorsRow.holds Tryz.pinned (OpenSpec.ofChange positionErrorsSpec)

/-- ITS FALSE NEIGHBOUR: 'it returns false'. Refute it at one input. -/
def positionErrorsWrong : ChangeSpec := { name := "positionErrors", fn := fun _ => fun
  | [d1, d2, d3] => { results := [.lit (.bool false)], args := [d1, d2, d3] }
  | _ => none }
def PositionErrorsWrongFalsely : Prop := positionErrorsRow.holds Tryz.pinned (OpenSpec.ofChange positionErrorsWrong)

/-- 'obeluslaw15.PositionPaths': WHATEVER THE INPUT: true; the input reads as it did. -/
def positionPathsSpec : ChangeSpec := { name := "positionPaths", fn := fun _ => fun
  | [d1, d2, d3] => { results := [.lit (.bool true)], args := [d1, d2, d3] }
  | _ => none }
def positionPathsRow : OpenClaim := { program := "ythichnnlceeofaagreat", sum := "6e524d3b626c02693b4df868f0b26a3d9612d44021c70f11ac95a8037066c662", func := "obelus/obeluslaw15.PositionPaths", spec := "positionPaths", inPlace := ["internal/abi.NoEscape"], unfollowed := true, recurses := true, loops := true, apart := false }
def PositionPathsSaid : Prop := positionPathsRow.holds Tryz.pinned (OpenSpec.ofChange positionPathsSpec)

/-- ITS FALSE NEIGHBOUR: 'it returns false'. Refute it at one input. -/
def positionPathsWrong : ChangeSpec := { name := "positionPaths", fn := fun _ => fun
  | [d1, d2, d3] => { results := [.lit (.bool false)], args := [d1, d2, d3] }
  | _ => none }
def PositionPathsWrongFalsely : Prop := positionPathsRow.holds Tryz.pinned (OpenSpec.ofChange positionPathsWrong)

/-- 'obeluslaw15.PositionFollows': WHATEVER THE INPUT: true; the input reads as it did. -/
def positionFollowsSpec : ChangeSpec := { name := "positionFollows", fn := fun _ => fun
  | [d1, d2] => { results := [.lit (.bool true)], args := [d1, d2] }
  | _ => none }
def positionFollowsRow : OpenClaim := { program := "ythichnnlceeofaagreat", sum := "6e524d3b626c02693b4df868f0b26a3d9612d44021c70f11ac95a8037066c662", func := "obelus/obeluslaw15.PositionFollows", spec := "positionFollows", inPlace := ["internal/abi.NoEscape"], unfollowed := true, recurses := true, loops := true, apart := false }
def PositionFollowsSaid : Prop := positionFollowsRow.holds Tryz.pinned (OpenSpec.ofChange positionFollowsSpec)

/-- ITS FALSE NEIGHBOUR: 'it returns false'. Refute it at one input. -/
def positionFollowsWrong : ChangeSpec := { name := "positionFollows", fn := fun _ => fun
  | [d1, d2] => { results := [.lit (.bool false)], args := [d1, d2] }
  | _ => none }
def PositionFollowsWrongFalsely : Prop := positionFollowsRow.holds Tryz.pinned (OpenSpec.ofChange positionFollowsWrong)

/-- 'obeluslaw15.PositionCompares': WHATEVER THE INPUT: true; the input reads as it did. -/
def positionComparesSpec : ChangeSpec := { name := "positionCompares", fn := fun _ => fun
  | [d1, d2, d3] => { results := [.lit (.bool true)], args := [d1, d2, d3] }
  | _ => none }
def positionComparesRow : OpenClaim := { program := "ythichnnlceeofaagreat", sum := "6e524d3b626c02693b4df868f0b26a3d9612d44021c70f11ac95a8037066c662", func := "obelus/obeluslaw15.PositionCompares", spec := "positionCompares", inPlace := ["internal/abi.NoEscape"], unfollowed := true, recurses := true, loops := true, apart := false }
def PositionComparesSaid : Prop := positionComparesRow.holds Tryz.pinned (OpenSpec.ofChange positionComparesSpec)

/-- ITS FALSE NEIGHBOUR: 'it returns false'. Refute it at one input. -/
def positionComparesWrong : ChangeSpec := { name := "positionCompares", fn := fun _ => fun
  | [d1, d2, d3] => { results := [.lit (.bool false)], args := [d1, d2, d3] }
  | _ => none }
def PositionComparesWrongFalsely : Prop := positionComparesRow.holds Tryz.pinned (OpenSpec.ofChange positionComparesWrong)

/- THE SECOND FORM. 'bulk': how many values and letters a reading holds, each counted each time it is reached (what is shared counts as often as it is met; a slice's spare places count too). A statement '..UptoSaid' is the law's where the arguments, and the package variables that the reading takes, are together of bulk at most 1048576: NARROWER than '..Said'. Prove '..Said' where nothing that the law and all that it calls make is longer than what came in: it says more and counts as full. Else prove '..UptoSaid'. A law counts once. -/
mutual
def uptoBulk {H : Type} : DataW H → Nat
  | .lit (.string bytes) => bytes.length + 1
  | .lit _ => 1
  | .nil => 1
  | .ptr d => uptoBulk d + 1
  | .slice elems spare => uptoBulkAll elems + uptoBulkAll spare + 1
  | .agg parts => uptoBulkAll parts + 1
  | .iface _ d => uptoBulk d + 1
  | .map entries => uptoBulkEntries entries + 1
  | .held _ => 1
def uptoBulkAll {H : Type} : List (DataW H) → Nat
  | [] => 0
  | d :: r => uptoBulk d + uptoBulkAll r
def uptoBulkEntries {H : Type} : List (Lit × DataW H) → Nat
  | [] => 0
  | x :: r => uptoBulkEntry x + uptoBulkEntries r
def uptoBulkEntry {H : Type} : Lit × DataW H → Nat
  | (.string bytes, d) => bytes.length + uptoBulk d + 1
  | (_, d) => uptoBulk d + 1
 end
def uptoSmall : (H : Type) → List (DataW H) → Bool := fun _ ds => decide (uptoBulkAll ds ≤ 1048576)
def OpenSpec.upto (s : _root_.Go.ChangeSpec) : _root_.Go.OpenSpec := { _root_.Go.OpenSpec.ofChange s with cond := some uptoSmall }

/-- 'obeluslaw15.PositionIndexes', WHERE WHAT IT READS IS OF BULK AT MOST 1048576: true; the input reads as it did. -/
def positionIndexesUptoRow : OpenClaim := { program := "ythichnnlceeofaagreat", sum := "6e524d3b626c02693b4df868f0b26a3d9612d44021c70f11ac95a8037066c662", func := "obelus/obeluslaw15.PositionIndexes", spec := "positionIndexes", inPlace := ["internal/abi.NoEscape"], unfollowed := true, recurses := true, loops := true, apart := false, narrowed := true }
def PositionIndexesUptoSaid : Prop := positionIndexesUptoRow.holds Tryz.pinned (OpenSpec.upto positionIndexesSpec)

/-- 'obeluslaw15.PositionErrors', WHERE WHAT IT READS IS OF BULK AT MOST 1048576: true; the input reads as it did. -/
def positionErrorsUptoRow : OpenClaim := { program := "ythichnnlceeofaagreat", sum := "6e524d3b626c02693b4df868f0b26a3d9612d44021c70f11ac95a8037066c662", func := "obelus/obeluslaw15.PositionErrors", spec := "positionErrors", inPlace := ["internal/abi.NoEscape"], unfollowed := true, recurses := true, loops := true, apart := false, narrowed := true }
def PositionErrorsUptoSaid : Prop := positionErrorsUptoRow.holds Tryz.pinned (OpenSpec.upto positionErrorsSpec)

/-- 'obeluslaw15.PositionPaths', WHERE WHAT IT READS IS OF BULK AT MOST 1048576: true; the input reads as it did. -/
def positionPathsUptoRow : OpenClaim := { program := "ythichnnlceeofaagreat", sum := "6e524d3b626c02693b4df868f0b26a3d9612d44021c70f11ac95a8037066c662", func := "obelus/obeluslaw15.PositionPaths", spec := "positionPaths", inPlace := ["internal/abi.NoEscape"], unfollowed := true, recurses := true, loops := true, apart := false, narrowed := true }
def PositionPathsUptoSaid : Prop := positionPathsUptoRow.holds Tryz.pinned (OpenSpec.upto positionPathsSpec)

/-- 'obeluslaw15.PositionFollows', WHERE WHAT IT READS IS OF BULK AT MOST 1048576: true; the input reads as it did. -/
def positionFollowsUptoRow : OpenClaim := { program := "ythichnnlceeofaagreat", sum := "6e524d3b626c02693b4df868f0b26a3d9612d44021c70f11ac95a8037066c662", func := "obelus/obeluslaw15.PositionFollows", spec := "positionFollows", inPlace := ["internal/abi.NoEscape"], unfollowed := true, recurses := true, loops := true, apart := false, narrowed := true }
def PositionFollowsUptoSaid : Prop := positionFollowsUptoRow.holds Tryz.pinned (OpenSpec.upto positionFollowsSpec)

/-- 'obeluslaw15.PositionCompares', WHERE WHAT IT READS IS OF BULK AT MOST 1048576: true; the input reads as it did. -/
def positionComparesUptoRow : OpenClaim := { program := "ythichnnlceeofaagreat", sum := "6e524d3b626c02693b4df868f0b26a3d9612d44021c70f11ac95a8037066c662", func := "obelus/obeluslaw15.PositionCompares", spec := "positionCompares", inPlace := ["internal/abi.NoEscape"], unfollowed := true, recurses := true, loops := true, apart := false, narrowed := true }
def PositionComparesUptoSaid : Prop := positionComparesUptoRow.holds Tryz.pinned (OpenSpec.upto positionComparesSpec)

end Rows
end Go.Proofs.YthichnnlceeofaaGreat
