/-
  NARROWER THAN 'FOR EVERY INPUT', by the rows' own cells (each row's printed sentence says how): ResolveViews: loops · ResolveDecides: loops · ResolveLists: loops · ResolveProjects: loops · ResolveVisible: loops · ResolveRows: loops · ResolveCommutes: loops · ResolveValid: loops · ResolveShown: loops.
  DERIVED. THE GIVEN ROWS OF THIS SEAT. 9 by the template 'for every input the law returns true; each argument reads behind the call as it read before'; 0 by the template 'total and deterministic' (their statements: YtdiflmikikiedaaGreatTotals.lean).
  GIVEN WITH THE SEED: the statements are not yours to turn. If you find one false, say at which input.
  Laid BY PROGRAM, IN A SANDBOX (cutbox-rows.mjs): the forced cells as the released guide's own fill.sh prints them over the translation 95756525929f70a7… (all of the seat's roots in one cut). By AI agents, Wed Nov 11 2026. No macro, syntax, notation, axiom, sorry.
-/
import Derived.Test.YtdiflmikikiedaaGreatChecked
import GoSem.Claim
import GoSem.ClaimJoined
import GoSem.ClaimMapViews
import Derived.JoinedTies
import Derived.KernelRfl
namespace Go.Proofs.YtdiflmikikiedaaGreat
/- THE CELL 'sum', in the pinned program and in every row, IS THE sha256 OF THE DUMP (.gsa) THAT YtdiflmikikiedaaGreatProg.lean LOADS. Nothing in Lean hashes anything: it is a label: what it is worth is what the hold of that sum in a sandbox is worth. -/
noncomputable def Tryz.pinned : Pinned := { name := "ytdiflmikikiedaagreat", sum := "95756525929f70a70c2310f3802c091d38aac683af75238ebdbc6109b3d07ee1", checked := Tryz.checked }
namespace Rows
def none {H : Type} : Left H := { results := [], args := [] }

/-- 'obeluslaw24.ResolveViews': WHATEVER THE INPUT: true; the input reads as it did. -/
def resolveViewsSpec : ChangeSpec := { name := "resolveViews", fn := fun _ => fun
  | [d] => { results := [.lit (.bool true)], args := [d] }
  | _ => none }
def resolveViewsRow : OpenClaim := { program := "ytdiflmikikiedaagreat", sum := "95756525929f70a70c2310f3802c091d38aac683af75238ebdbc6109b3d07ee1", func := "obelus/obeluslaw24.ResolveViews", spec := "resolveViews", inPlace := ["slices.overlaps[obelus/api.Prop]", "internal/abi.NoEscape"], unfollowed := true, recurses := true, loops := true, apart := false }
def ResolveViewsSaid : Prop := resolveViewsRow.holds Tryz.pinned (OpenSpec.ofChange resolveViewsSpec)

/-- ITS FALSE NEIGHBOUR: 'it returns false'. Refute it at one input. -/
def resolveViewsWrong : ChangeSpec := { name := "resolveViews", fn := fun _ => fun
  | [d] => { results := [.lit (.bool false)], args := [d] }
  | _ => none }
def ResolveViewsWrongFalsely : Prop := resolveViewsRow.holds Tryz.pinned (OpenSpec.ofChange resolveViewsWrong)

/-- 'obeluslaw24.ResolveDecides': WHATEVER THE INPUT: true; the input reads as it did. -/
def resolveDecidesSpec : ChangeSpec := { name := "resolveDecides", fn := fun _ => fun
  | [d1, d2] => { results := [.lit (.bool true)], args := [d1, d2] }
  | _ => none }
def resolveDecidesRow : OpenClaim := { program := "ytdiflmikikiedaagreat", sum := "95756525929f70a70c2310f3802c091d38aac683af75238ebdbc6109b3d07ee1", func := "obelus/obeluslaw24.ResolveDecides", spec := "resolveDecides", inPlace := ["slices.overlaps[obelus/api.Prop]", "internal/abi.NoEscape"], unfollowed := true, recurses := true, loops := true, apart := false }
def ResolveDecidesSaid : Prop := resolveDecidesRow.holds Tryz.pinned (OpenSpec.ofChange resolveDecidesSpec)

/-- ITS FALSE NEIGHBOUR: 'it returns false'. Refute it at one input. -/
def resolveDecidesWrong : ChangeSpec := { name := "resolveDecides", fn := fun _ => fun
  | [d1, d2] => { results := [.lit (.bool false)], args := [d1, d2] }
  | _ => none }
def ResolveDecidesWrongFalsely : Prop := resolveDecidesRow.holds Tryz.pinned (OpenSpec.ofChange resolveDecidesWrong)

/-- 'obeluslaw24.ResolveLists': WHATEVER THE INPUT: true; the input reads as it did. -/
def resolveListsSpec : ChangeSpec := { name := "resolveLists", fn := fun _ => fun
  | [d1, d2] => { results := [.lit (.bool true)], args := [d1, d2] }
  | _ => none }
def resolveListsRow : OpenClaim := { program := "ytdiflmikikiedaagreat", sum := "95756525929f70a70c2310f3802c091d38aac683af75238ebdbc6109b3d07ee1", func := "obelus/obeluslaw24.ResolveLists", spec := "resolveLists", inPlace := ["slices.overlaps[obelus/api.Prop]", "internal/abi.NoEscape"], unfollowed := true, recurses := true, loops := true, apart := false }
def ResolveListsSaid : Prop := resolveListsRow.holds Tryz.pinned (OpenSpec.ofChange resolveListsSpec)

/-- ITS FALSE NEIGHBOUR: 'it returns false'. Refute it at one input. -/
def resolveListsWrong : ChangeSpec := { name := "resolveLists", fn := fun _ => fun
  | [d1, d2] => { results := [.lit (.bool false)], args := [d1, d2] }
  | _ => none }
def ResolveListsWrongFalsely : Prop := resolveListsRow.holds Tryz.pinned (OpenSpec.ofChange resolveListsWrong)

/-- 'obeluslaw24.ResolveProjects': WHATEVER THE INPUT: true; the input reads as it did. -/
def resolveProjectsSpec : ChangeSpec := { name := "resolveProjects", fn := fun _ => fun
  | [d1, d2] => { results := [.lit (.bool true)], args := [d1, d2] }
  | _ => none }
def resolveProjectsRow : OpenClaim := { program := "ytdiflmikikiedaagreat", sum := "95756525929f70a70c2310f3802c091d38aac683af75238ebdbc6109b3d07ee1", func := "obelus/obeluslaw24.ResolveProjects", spec := "resolveProjects", inPlace := ["slices.overlaps[obelus/api.Prop]", "internal/abi.NoEscape"], unfollowed := true, recurses := true, loops := true, apart := false }
def ResolveProjectsSaid : Prop := resolveProjectsRow.holds Tryz.pinned (OpenSpec.ofChange resolveProjectsSpec)

/-- ITS FALSE NEIGHBOUR: 'it returns false'. Refute it at one input. -/
def resolveProjectsWrong : ChangeSpec := { name := "resolveProjects", fn := fun _ => fun
  | [d1, d2] => { results := [.lit (.bool false)], args := [d1, d2] }
  | _ => none }
def ResolveProjectsWrongFalsely : Prop := resolveProjectsRow.holds Tryz.pinned (OpenSpec.ofChange resolveProjectsWrong)

/-- 'obeluslaw24.ResolveVisible': WHATEVER THE INPUT: true; the input reads as it did. -/
def resolveVisibleSpec : ChangeSpec := { name := "resolveVisible", fn := fun _ => fun
  | [d1, d2] => { results := [.lit (.bool true)], args := [d1, d2] }
  | _ => none }
def resolveVisibleRow : OpenClaim := { program := "ytdiflmikikiedaagreat", sum := "95756525929f70a70c2310f3802c091d38aac683af75238ebdbc6109b3d07ee1", func := "obelus/obeluslaw24.ResolveVisible", spec := "resolveVisible", inPlace := ["slices.overlaps[obelus/api.Prop]", "internal/abi.NoEscape"], unfollowed := true, recurses := true, loops := true, apart := false }
def ResolveVisibleSaid : Prop := resolveVisibleRow.holds Tryz.pinned (OpenSpec.ofChange resolveVisibleSpec)

/-- ITS FALSE NEIGHBOUR: 'it returns false'. Refute it at one input. -/
def resolveVisibleWrong : ChangeSpec := { name := "resolveVisible", fn := fun _ => fun
  | [d1, d2] => { results := [.lit (.bool false)], args := [d1, d2] }
  | _ => none }
def ResolveVisibleWrongFalsely : Prop := resolveVisibleRow.holds Tryz.pinned (OpenSpec.ofChange resolveVisibleWrong)

/-- 'obeluslaw24.ResolveRows': WHATEVER THE INPUT: true; the input reads as it did. -/
def resolveRowsSpec : ChangeSpec := { name := "resolveRows", fn := fun _ => fun
  | [d1, d2, d3] => { results := [.lit (.bool true)], args := [d1, d2, d3] }
  | _ => none }
def resolveRowsRow : OpenClaim := { program := "ytdiflmikikiedaagreat", sum := "95756525929f70a70c2310f3802c091d38aac683af75238ebdbc6109b3d07ee1", func := "obelus/obeluslaw24.ResolveRows", spec := "resolveRows", inPlace := ["slices.overlaps[obelus/api.Prop]", "internal/abi.NoEscape"], unfollowed := true, recurses := true, loops := true, apart := false }
def ResolveRowsSaid : Prop := resolveRowsRow.holds Tryz.pinned (OpenSpec.ofChange resolveRowsSpec)

/-- ITS FALSE NEIGHBOUR: 'it returns false'. Refute it at one input. -/
def resolveRowsWrong : ChangeSpec := { name := "resolveRows", fn := fun _ => fun
  | [d1, d2, d3] => { results := [.lit (.bool false)], args := [d1, d2, d3] }
  | _ => none }
def ResolveRowsWrongFalsely : Prop := resolveRowsRow.holds Tryz.pinned (OpenSpec.ofChange resolveRowsWrong)

/-- 'obeluslaw24.ResolveCommutes': WHATEVER THE INPUT: true; the input reads as it did. -/
def resolveCommutesSpec : ChangeSpec := { name := "resolveCommutes", fn := fun _ => fun
  | [d1, d2] => { results := [.lit (.bool true)], args := [d1, d2] }
  | _ => none }
def resolveCommutesRow : OpenClaim := { program := "ytdiflmikikiedaagreat", sum := "95756525929f70a70c2310f3802c091d38aac683af75238ebdbc6109b3d07ee1", func := "obelus/obeluslaw24.ResolveCommutes", spec := "resolveCommutes", inPlace := ["slices.overlaps[obelus/api.Prop]", "internal/abi.NoEscape"], unfollowed := true, recurses := true, loops := true, apart := false }
def ResolveCommutesSaid : Prop := resolveCommutesRow.holds Tryz.pinned (OpenSpec.ofChange resolveCommutesSpec)

/-- ITS FALSE NEIGHBOUR: 'it returns false'. Refute it at one input. -/
def resolveCommutesWrong : ChangeSpec := { name := "resolveCommutes", fn := fun _ => fun
  | [d1, d2] => { results := [.lit (.bool false)], args := [d1, d2] }
  | _ => none }
def ResolveCommutesWrongFalsely : Prop := resolveCommutesRow.holds Tryz.pinned (OpenSpec.ofChange resolveCommutesWrong)

/-- 'obeluslaw24.ResolveValid': WHATEVER THE INPUT: true; the input reads as it did. -/
def resolveValidSpec : ChangeSpec := { name := "resolveValid", fn := fun _ => fun
  | [d1, d2] => { results := [.lit (.bool true)], args := [d1, d2] }
  | _ => none }
def resolveValidRow : OpenClaim := { program := "ytdiflmikikiedaagreat", sum := "95756525929f70a70c2310f3802c091d38aac683af75238ebdbc6109b3d07ee1", func := "obelus/obeluslaw24.ResolveValid", spec := "resolveValid", inPlace := ["slices.overlaps[obelus/api.Prop]", "internal/abi.NoEscape"], unfollowed := true, recurses := true, loops := true, apart := false }
def ResolveValidSaid : Prop := resolveValidRow.holds Tryz.pinned (OpenSpec.ofChange resolveValidSpec)

/-- ITS FALSE NEIGHBOUR: 'it returns false'. Refute it at one input. -/
def resolveValidWrong : ChangeSpec := { name := "resolveValid", fn := fun _ => fun
  | [d1, d2] => { results := [.lit (.bool false)], args := [d1, d2] }
  | _ => none }
def ResolveValidWrongFalsely : Prop := resolveValidRow.holds Tryz.pinned (OpenSpec.ofChange resolveValidWrong)

/-- 'obeluslaw24.ResolveShown': WHATEVER THE INPUT: true; the input reads as it did. -/
def resolveShownSpec : ChangeSpec := { name := "resolveShown", fn := fun _ => fun
  | [d] => { results := [.lit (.bool true)], args := [d] }
  | _ => none }
def resolveShownRow : OpenClaim := { program := "ytdiflmikikiedaagreat", sum := "95756525929f70a70c2310f3802c091d38aac683af75238ebdbc6109b3d07ee1", func := "obelus/obeluslaw24.ResolveShown", spec := "resolveShown", inPlace := ["slices.overlaps[obelus/api.Prop]", "internal/abi.NoEscape"], unfollowed := true, recurses := true, loops := true, apart := false }
def ResolveShownSaid : Prop := resolveShownRow.holds Tryz.pinned (OpenSpec.ofChange resolveShownSpec)

/-- ITS FALSE NEIGHBOUR: 'it returns false'. Refute it at one input. -/
def resolveShownWrong : ChangeSpec := { name := "resolveShown", fn := fun _ => fun
  | [d] => { results := [.lit (.bool false)], args := [d] }
  | _ => none }
def ResolveShownWrongFalsely : Prop := resolveShownRow.holds Tryz.pinned (OpenSpec.ofChange resolveShownWrong)

/- THE SECOND FORM. 'bulk': how many values and letters a reading holds, each counted each time it is reached (what is shared counts as often as it is met; a slice's spare places count too). A statement '..UptoSaid' is the law's where the arguments, and the package variables that the reading takes, are together of bulk at most 1048576: NARROWER than '..Said'. Prove '..Said' where nothing that the law and all that it calls make is longer than what came in: it says more and counts as full. Else prove '..UptoSaid'. A law counts once. -/
mutual
def uptoBulk {H : Type} : DataW H → Nat
  | .lit (.string bytes) => bytes.length + 1
  | .lit _ => 1
  | .nil => 1
  | .ptr d => uptoBulk d + 1
  | .slice elems spare => uptoBulkAll elems + uptoBulkAll spare + 1
  | .agg parts => uptoBulkAll parts + 1
  | .iface _ d => uptoBulk d + 1
  | .map entries => uptoBulkEntries entries + 1
  | .held _ => 1
def uptoBulkAll {H : Type} : List (DataW H) → Nat
  | [] => 0
  | d :: r => uptoBulk d + uptoBulkAll r
def uptoBulkEntries {H : Type} : List (Lit × DataW H) → Nat
  | [] => 0
  | x :: r => uptoBulkEntry x + uptoBulkEntries r
def uptoBulkEntry {H : Type} : Lit × DataW H → Nat
  | (.string bytes, d) => bytes.length + uptoBulk d + 1
  | (_, d) => uptoBulk d + 1
 end
def uptoSmall : (H : Type) → List (DataW H) → Bool := fun _ ds => decide (uptoBulkAll ds ≤ 1048576)
def OpenSpec.upto (s : _root_.Go.ChangeSpec) : _root_.Go.OpenSpec := { _root_.Go.OpenSpec.ofChange s with cond := some uptoSmall }

/-- 'obeluslaw24.ResolveViews', WHERE WHAT IT READS IS OF BULK AT MOST 1048576: true; the input reads as it did. -/
def resolveViewsUptoRow : OpenClaim := { program := "ytdiflmikikiedaagreat", sum := "95756525929f70a70c2310f3802c091d38aac683af75238ebdbc6109b3d07ee1", func := "obelus/obeluslaw24.ResolveViews", spec := "resolveViews", inPlace := ["slices.overlaps[obelus/api.Prop]", "internal/abi.NoEscape"], unfollowed := true, recurses := true, loops := true, apart := false, narrowed := true }
def ResolveViewsUptoSaid : Prop := resolveViewsUptoRow.holds Tryz.pinned (OpenSpec.upto resolveViewsSpec)

/-- 'obeluslaw24.ResolveDecides', WHERE WHAT IT READS IS OF BULK AT MOST 1048576: true; the input reads as it did. -/
def resolveDecidesUptoRow : OpenClaim := { program := "ytdiflmikikiedaagreat", sum := "95756525929f70a70c2310f3802c091d38aac683af75238ebdbc6109b3d07ee1", func := "obelus/obeluslaw24.ResolveDecides", spec := "resolveDecides", inPlace := ["slices.overlaps[obelus/api.Prop]", "internal/abi.NoEscape"], unfollowed := true, recurses := true, loops := true, apart := false, narrowed := true }
def ResolveDecidesUptoSaid : Prop := resolveDecidesUptoRow.holds Tryz.pinned (OpenSpec.upto resolveDecidesSpec)

/-- 'obeluslaw24.ResolveLists', WHERE WHAT IT READS IS OF BULK AT MOST 1048576: true; the input reads as it did. -/
def resolveListsUptoRow : OpenClaim := { program := "ytdiflmikikiedaagreat", sum := "95756525929f70a70c2310f3802c091d38aac683af75238ebdbc6109b3d07ee1", func := "obelus/obeluslaw24.ResolveLists", spec := "resolveLists", inPlace := ["slices.overlaps[obelus/api.Prop]", "internal/abi.NoEscape"], unfollowed := true, recurses := true, loops := true, apart := false, narrowed := true }
def ResolveListsUptoSaid : Prop := resolveListsUptoRow.holds Tryz.pinned (OpenSpec.upto resolveListsSpec)

/-- 'obeluslaw24.ResolveProjects', WHERE WHAT IT READS IS OF BULK AT MOST 1048576: true; the input reads as it did. -/
def resolveProjectsUptoRow : OpenClaim := { program := "ytdiflmikikiedaagreat", sum := "95756525929f70a70c2310f3802c091d38aac683af75238ebdbc6109b3d07ee1", func := "obelus/obeluslaw24.ResolveProjects", spec := "resolveProjects", inPlace := ["slices.overlaps[obelus/api.Prop]", "internal/abi.NoEscape"], unfollowed := true, recurses := true, loops := true, apart := false, narrowed := true }
def ResolveProjectsUptoSaid : Prop := resolveProjectsUptoRow.holds Tryz.pinned (OpenSpec.upto resolveProjectsSpec)

/-- 'obeluslaw24.ResolveVisible', WHERE WHAT IT READS IS OF BULK AT MOST 1048576: true; the input reads as it did. -/
def resolveVisibleUptoRow : OpenClaim := { program := "ytdiflmikikiedaagreat", sum := "95756525929f70a70c2310f3802c091d38aac683af75238ebdbc6109b3d07ee1", func := "obelus/obeluslaw24.ResolveVisible", spec := "resolveVisible", inPlace := ["slices.overlaps[obelus/api.Prop]", "internal/abi.NoEscape"], unfollowed := true, recurses := true, loops := true, apart := false, narrowed := true }
def ResolveVisibleUptoSaid : Prop := resolveVisibleUptoRow.holds Tryz.pinned (OpenSpec.upto resolveVisibleSpec)

/-- 'obeluslaw24.ResolveRows', WHERE WHAT IT READS IS OF BULK AT MOST 1048576: true; the input reads as it did. -/
def resolveRowsUptoRow : OpenClaim := { program := "ytdiflmikikiedaagreat", sum := "95756525929f70a70c2310f3802c091d38aac683af75238ebdbc6109b3d07ee1", func := "obelus/obeluslaw24.ResolveRows", spec := "resolveRows", inPlace := ["slices.overlaps[obelus/api.Prop]", "internal/abi.NoEscape"], unfollowed := true, recurses := true, loops := true, apart := false, narrowed := true }
def ResolveRowsUptoSaid : Prop := resolveRowsUptoRow.holds Tryz.pinned (OpenSpec.upto resolveRowsSpec)

/-- 'obeluslaw24.ResolveCommutes', WHERE WHAT IT READS IS OF BULK AT MOST 1048576: true; the input reads as it did. -/
def resolveCommutesUptoRow : OpenClaim := { program := "ytdiflmikikiedaagreat", sum := "95756525929f70a70c2310f3802c091d38aac683af75238ebdbc6109b3d07ee1", func := "obelus/obeluslaw24.ResolveCommutes", spec := "resolveCommutes", inPlace := ["slices.overlaps[obelus/api.Prop]", "internal/abi.NoEscape"], unfollowed := true, recurses := true, loops := true, apart := false, narrowed := true }
def ResolveCommutesUptoSaid : Prop := resolveCommutesUptoRow.holds Tryz.pinned (OpenSpec.upto resolveCommutesSpec)

/-- 'obeluslaw24.ResolveValid', WHERE WHAT IT READS IS OF BULK AT MOST 1048576: true; the input reads as it did. -/
def resolveValidUptoRow : OpenClaim := { program := "ytdiflmikikiedaagreat", sum := "95756525929f70a70c2310f3802c091d38aac683af75238ebdbc6109b3d07ee1", func := "obelus/obeluslaw24.ResolveValid", spec := "resolveValid", inPlace := ["slices.overlaps[obelus/api.Prop]", "internal/abi.NoEscape"], unfollowed := true, recurses := true, loops := true, apart := false, narrowed := true }
def ResolveValidUptoSaid : Prop := resolveValidUptoRow.holds Tryz.pinned (OpenSpec.upto resolveValidSpec)

/-- 'obeluslaw24.ResolveShown', WHERE WHAT IT READS IS OF BULK AT MOST 1048576: true; the input reads as it did. -/
def resolveShownUptoRow : OpenClaim := { program := "ytdiflmikikiedaagreat", sum := "95756525929f70a70c2310f3802c091d38aac683af75238ebdbc6109b3d07ee1", func := "obelus/obeluslaw24.ResolveShown", spec := "resolveShown", inPlace := ["slices.overlaps[obelus/api.Prop]", "internal/abi.NoEscape"], unfollowed := true, recurses := true, loops := true, apart := false, narrowed := true }
def ResolveShownUptoSaid : Prop := resolveShownUptoRow.holds Tryz.pinned (OpenSpec.upto resolveShownSpec)

end Rows
end Go.Proofs.YtdiflmikikiedaaGreat
