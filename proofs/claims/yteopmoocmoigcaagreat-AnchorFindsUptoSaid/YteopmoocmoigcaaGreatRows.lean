/-
  NARROWER THAN 'FOR EVERY INPUT', by the rows' own cells (each row's printed sentence says how): AnchorLists: loops · AnchorRanges: loops · AnchorThreads: loops · AnchorPositions: loops · AnchorFinds: loops · AnchorProblems: loops.
  DERIVED. THE GIVEN ROWS OF THIS SEAT. 6 by the template 'for every input the law returns true; each argument reads behind the call as it read before'; 0 by the template 'total and deterministic' (their statements: YteopmoocmoigcaaGreatTotals.lean).
  GIVEN WITH THE SEED: the statements are not yours to turn. If you find one false, say at which input.
  Laid BY PROGRAM, IN A SANDBOX (cutbox-rows.mjs): the forced cells as the released guide's own fill.sh prints them over the translation aeb52b08fcfa3f96… (all of the seat's roots in one cut). By AI agents, Wed Nov 11 2026. No macro, syntax, notation, axiom, sorry.
-/
import Derived.Test.YteopmoocmoigcaaGreatChecked
import GoSem.Claim
import GoSem.ClaimJoined
import GoSem.ClaimMapViews
import Derived.JoinedTies
import Derived.KernelRfl
namespace Go.Proofs.YteopmoocmoigcaaGreat
/- THE CELL 'sum', in the pinned program and in every row, IS THE sha256 OF THE DUMP (.gsa) THAT YteopmoocmoigcaaGreatProg.lean LOADS. Nothing in Lean hashes anything: it is a label: what it is worth is what the hold of that sum in a sandbox is worth. -/
noncomputable def Tryz.pinned : Pinned := { name := "yteopmoocmoigcaagreat", sum := "aeb52b08fcfa3f96d1aae8b497bb9a940d59d674a5711e3d9b021168d40e24ea", checked := Tryz.checked }
namespace Rows
def none {H : Type} : Left H := { results := [], args := [] }

/-- 'obeluslaw16.AnchorLists': WHATEVER THE INPUT: true; the input reads as it did. -/
def anchorListsSpec : ChangeSpec := { name := "anchorLists", fn := fun _ => fun
  | [d] => { results := [.lit (.bool true)], args := [d] }
  | _ => none }
def anchorListsRow : OpenClaim := { program := "yteopmoocmoigcaagreat", sum := "aeb52b08fcfa3f96d1aae8b497bb9a940d59d674a5711e3d9b021168d40e24ea", func := "obelus/obeluslaw16.AnchorLists", spec := "anchorLists", inPlace := ["internal/abi.NoEscape"], unfollowed := true, recurses := true, loops := true, plainKeys := false, apart := false }
def AnchorListsSaid : Prop := anchorListsRow.holds Tryz.pinned (OpenSpec.ofChange anchorListsSpec)

/-- ITS FALSE NEIGHBOUR: 'it returns false'. Refute it at one input. -/
def anchorListsWrong : ChangeSpec := { name := "anchorLists", fn := fun _ => fun
  | [d] => { results := [.lit (.bool false)], args := [d] }
  | _ => none }
def AnchorListsWrongFalsely : Prop := anchorListsRow.holds Tryz.pinned (OpenSpec.ofChange anchorListsWrong)

/-- 'obeluslaw16.AnchorRanges': WHATEVER THE INPUT: true; the input reads as it did. -/
def anchorRangesSpec : ChangeSpec := { name := "anchorRanges", fn := fun _ => fun
  | [d] => { results := [.lit (.bool true)], args := [d] }
  | _ => none }
def anchorRangesRow : OpenClaim := { program := "yteopmoocmoigcaagreat", sum := "aeb52b08fcfa3f96d1aae8b497bb9a940d59d674a5711e3d9b021168d40e24ea", func := "obelus/obeluslaw16.AnchorRanges", spec := "anchorRanges", inPlace := ["internal/abi.NoEscape"], unfollowed := true, recurses := true, loops := true, plainKeys := false, apart := false }
def AnchorRangesSaid : Prop := anchorRangesRow.holds Tryz.pinned (OpenSpec.ofChange anchorRangesSpec)

/-- ITS FALSE NEIGHBOUR: 'it returns false'. Refute it at one input. -/
def anchorRangesWrong : ChangeSpec := { name := "anchorRanges", fn := fun _ => fun
  | [d] => { results := [.lit (.bool false)], args := [d] }
  | _ => none }
def AnchorRangesWrongFalsely : Prop := anchorRangesRow.holds Tryz.pinned (OpenSpec.ofChange anchorRangesWrong)

/-- 'obeluslaw16.AnchorThreads': WHATEVER THE INPUT: true; the input reads as it did. -/
def anchorThreadsSpec : ChangeSpec := { name := "anchorThreads", fn := fun _ => fun
  | [d] => { results := [.lit (.bool true)], args := [d] }
  | _ => none }
def anchorThreadsRow : OpenClaim := { program := "yteopmoocmoigcaagreat", sum := "aeb52b08fcfa3f96d1aae8b497bb9a940d59d674a5711e3d9b021168d40e24ea", func := "obelus/obeluslaw16.AnchorThreads", spec := "anchorThreads", inPlace := ["internal/abi.NoEscape"], unfollowed := true, recurses := true, loops := true, plainKeys := false, apart := false }
def AnchorThreadsSaid : Prop := anchorThreadsRow.holds Tryz.pinned (OpenSpec.ofChange anchorThreadsSpec)

/-- ITS FALSE NEIGHBOUR: 'it returns false'. Refute it at one input. -/
def anchorThreadsWrong : ChangeSpec := { name := "anchorThreads", fn := fun _ => fun
  | [d] => { results := [.lit (.bool false)], args := [d] }
  | _ => none }
def AnchorThreadsWrongFalsely : Prop := anchorThreadsRow.holds Tryz.pinned (OpenSpec.ofChange anchorThreadsWrong)

/-- 'obeluslaw16.AnchorPositions': WHATEVER THE INPUT: true; the input reads as it did. -/
def anchorPositionsSpec : ChangeSpec := { name := "anchorPositions", fn := fun _ => fun
  | [d1, d2] => { results := [.lit (.bool true)], args := [d1, d2] }
  | _ => none }
def anchorPositionsRow : OpenClaim := { program := "yteopmoocmoigcaagreat", sum := "aeb52b08fcfa3f96d1aae8b497bb9a940d59d674a5711e3d9b021168d40e24ea", func := "obelus/obeluslaw16.AnchorPositions", spec := "anchorPositions", inPlace := ["internal/abi.NoEscape"], unfollowed := true, recurses := true, loops := true, plainKeys := false, apart := false }
def AnchorPositionsSaid : Prop := anchorPositionsRow.holds Tryz.pinned (OpenSpec.ofChange anchorPositionsSpec)

/-- ITS FALSE NEIGHBOUR: 'it returns false'. Refute it at one input. -/
def anchorPositionsWrong : ChangeSpec := { name := "anchorPositions", fn := fun _ => fun
  | [d1, d2] => { results := [.lit (.bool false)], args := [d1, d2] }
  | _ => none }
def AnchorPositionsWrongFalsely : Prop := anchorPositionsRow.holds Tryz.pinned (OpenSpec.ofChange anchorPositionsWrong)

/-- 'obeluslaw16.AnchorFinds': WHATEVER THE INPUT: true; the input reads as it did. -/
def anchorFindsSpec : ChangeSpec := { name := "anchorFinds", fn := fun _ => fun
  | [d1, d2] => { results := [.lit (.bool true)], args := [d1, d2] }
  | _ => none }
def anchorFindsRow : OpenClaim := { program := "yteopmoocmoigcaagreat", sum := "aeb52b08fcfa3f96d1aae8b497bb9a940d59d674a5711e3d9b021168d40e24ea", func := "obelus/obeluslaw16.AnchorFinds", spec := "anchorFinds", inPlace := ["internal/abi.NoEscape"], unfollowed := true, recurses := true, loops := true, plainKeys := false, apart := false }
def AnchorFindsSaid : Prop := anchorFindsRow.holds Tryz.pinned (OpenSpec.ofChange anchorFindsSpec)

/-- ITS FALSE NEIGHBOUR: 'it returns false'. Refute it at one input. -/
def anchorFindsWrong : ChangeSpec := { name := "anchorFinds", fn := fun _ => fun
  | [d1, d2] => { results := [.lit (.bool false)], args := [d1, d2] }
  | _ => none }
def AnchorFindsWrongFalsely : Prop := anchorFindsRow.holds Tryz.pinned (OpenSpec.ofChange anchorFindsWrong)

/-- 'obeluslaw16.AnchorProblems': WHATEVER THE INPUT: true; the input reads as it did. -/
def anchorProblemsSpec : ChangeSpec := { name := "anchorProblems", fn := fun _ => fun
  | [d] => { results := [.lit (.bool true)], args := [d] }
  | _ => none }
def anchorProblemsRow : OpenClaim := { program := "yteopmoocmoigcaagreat", sum := "aeb52b08fcfa3f96d1aae8b497bb9a940d59d674a5711e3d9b021168d40e24ea", func := "obelus/obeluslaw16.AnchorProblems", spec := "anchorProblems", inPlace := ["internal/abi.NoEscape"], unfollowed := true, recurses := true, loops := true, plainKeys := false, apart := false }
def AnchorProblemsSaid : Prop := anchorProblemsRow.holds Tryz.pinned (OpenSpec.ofChange anchorProblemsSpec)

/-- ITS FALSE NEIGHBOUR: 'it returns false'. Refute it at one input. -/
def anchorProblemsWrong : ChangeSpec := { name := "anchorProblems", fn := fun _ => fun
  | [d] => { results := [.lit (.bool false)], args := [d] }
  | _ => none }
def AnchorProblemsWrongFalsely : Prop := anchorProblemsRow.holds Tryz.pinned (OpenSpec.ofChange anchorProblemsWrong)

/- THE SECOND FORM. 'bulk': how many values and letters a reading holds, each counted each time it is reached (what is shared counts as often as it is met; a slice's spare places count too). A statement '..UptoSaid' is the law's where the arguments, and the package variables that the reading takes, are together of bulk at most 1048576: NARROWER than '..Said'. Prove '..Said' where nothing that the law and all that it calls make is longer than what came in: it says more and counts as full. Else prove '..UptoSaid'. A law counts once. -/
mutual
def uptoBulk {H : Type} : DataW H → Nat
  | .lit (.string bytes) => bytes.length + 1
  | .lit _ => 1
  | .nil => 1
  | .ptr d => uptoBulk d + 1
  | .slice elems spare => uptoBulkAll elems + uptoBulkAll spare + 1
  | .agg parts => uptoBulkAll parts + 1
  | .iface _ d => uptoBulk d + 1
  | .map entries => uptoBulkEntries entries + 1
  | .held _ => 1
def uptoBulkAll {H : Type} : List (DataW H) → Nat
  | [] => 0
  | d :: r => uptoBulk d + uptoBulkAll r
def uptoBulkEntries {H : Type} : List (Lit × DataW H) → Nat
  | [] => 0
  | x :: r => uptoBulkEntry x + uptoBulkEntries r
def uptoBulkEntry {H : Type} : Lit × DataW H → Nat
  | (.string bytes, d) => bytes.length + uptoBulk d + 1
  | (_, d) => uptoBulk d + 1
 end
def uptoSmall : (H : Type) → List (DataW H) → Bool := fun _ ds => decide (uptoBulkAll ds ≤ 1048576)
def OpenSpec.upto (s : _root_.Go.ChangeSpec) : _root_.Go.OpenSpec := { _root_.Go.OpenSpec.ofChange s with cond := some uptoSmall }

/-- 'obeluslaw16.AnchorLists', WHERE WHAT IT READS IS OF BULK AT MOST 1048576: true; the input reads as it did. -/
def anchorListsUptoRow : OpenClaim := { program := "yteopmoocmoigcaagreat", sum := "aeb52b08fcfa3f96d1aae8b497bb9a940d59d674a5711e3d9b021168d40e24ea", func := "obelus/obeluslaw16.AnchorLists", spec := "anchorLists", inPlace := ["internal/abi.NoEscape"], unfollowed := true, recurses := true, loops := true, plainKeys := false, apart := false, narrowed := true }
def AnchorListsUptoSaid : Prop := anchorListsUptoRow.holds Tryz.pinned (OpenSpec.upto anchorListsSpec)

/-- 'obeluslaw16.AnchorRanges', WHERE WHAT IT READS IS OF BULK AT MOST 1048576: true; the input reads as it did. -/
def anchorRangesUptoRow : OpenClaim := { program := "yteopmoocmoigcaagreat", sum := "aeb52b08fcfa3f96d1aae8b497bb9a940d59d674a5711e3d9b021168d40e24ea", func := "obelus/obeluslaw16.AnchorRanges", spec := "anchorRanges", inPlace := ["internal/abi.NoEscape"], unfollowed := true, recurses := true, loops := true, plainKeys := false, apart := false, narrowed := true }
def AnchorRangesUptoSaid : Prop := anchorRangesUptoRow.holds Tryz.pinned (OpenSpec.upto anchorRangesSpec)

/-- 'obeluslaw16.AnchorThreads', WHERE WHAT IT READS IS OF BULK AT MOST 1048576: true; the input reads as it did. -/
def anchorThreadsUptoRow : OpenClaim := { program := "yteopmoocmoigcaagreat", sum := "aeb52b08fcfa3f96d1aae8b497bb9a940d59d674a5711e3d9b021168d40e24ea", func := "obelus/obeluslaw16.AnchorThreads", spec := "anchorThreads", inPlace := ["internal/abi.NoEscape"], unfollowed := true, recurses := true, loops := true, plainKeys := false, apart := false, narrowed := true }
def AnchorThreadsUptoSaid : Prop := anchorThreadsUptoRow.holds Tryz.pinned (OpenSpec.upto anchorThreadsSpec)

/-- 'obeluslaw16.AnchorPositions', WHERE WHAT IT READS IS OF BULK AT MOST 1048576: true; the input reads as it did. -/
def anchorPositionsUptoRow : OpenClaim := { program := "yteopmoocmoigcaagreat", sum := "aeb52b08fcfa3f96d1aae8b497bb9a940d59d674a5711e3d9b021168d40e24ea", func := "obelus/obeluslaw16.AnchorPositions", spec := "anchorPositions", inPlace := ["internal/abi.NoEscape"], unfollowed := true, recurses := true, loops := true, plainKeys := false, apart := false, narrowed := true }
def AnchorPositionsUptoSaid : Prop := anchorPositionsUptoRow.holds Tryz.pinned (OpenSpec.upto anchorPositionsSpec)

/-- 'obeluslaw16.AnchorFinds', WHERE WHAT IT READS IS OF BULK AT MOST 1048576: true; the input reads as it did. -/
def anchorFindsUptoRow : OpenClaim := { program := "yteopmoocmoigcaagreat", sum := "aeb52b08fcfa3f96d1aae8b497bb9a940d59d674a5711e3d9b021168d40e24ea", func := "obelus/obeluslaw16.AnchorFinds", spec := "anchorFinds", inPlace := ["internal/abi.NoEscape"], unfollowed := true, recurses := true, loops := true, plainKeys := false, apart := false, narrowed := true }
def AnchorFindsUptoSaid : Prop := anchorFindsUptoRow.holds Tryz.pinned (OpenSpec.upto anchorFindsSpec)

/-- 'obeluslaw16.AnchorProblems', WHERE WHAT IT READS IS OF BULK AT MOST 1048576: true; the input reads as it did. -/
def anchorProblemsUptoRow : OpenClaim := { program := "yteopmoocmoigcaagreat", sum := "aeb52b08fcfa3f96d1aae8b497bb9a940d59d674a5711e3d9b021168d40e24ea", func := "obelus/obeluslaw16.AnchorProblems", spec := "anchorProblems", inPlace := ["internal/abi.NoEscape"], unfollowed := true, recurses := true, loops := true, plainKeys := false, apart := false, narrowed := true }
def AnchorProblemsUptoSaid : Prop := anchorProblemsUptoRow.holds Tryz.pinned (OpenSpec.upto anchorProblemsSpec)

end Rows
end Go.Proofs.YteopmoocmoigcaaGreat
