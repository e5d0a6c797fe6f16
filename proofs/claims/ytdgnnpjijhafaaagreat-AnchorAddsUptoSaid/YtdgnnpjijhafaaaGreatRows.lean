/-
  NARROWER THAN 'FOR EVERY INPUT', by the rows' own cells (each row's printed sentence says how): DocumentRenumbers: loops · AnchorAdds: loops.
  DERIVED. THE GIVEN ROWS OF THIS SEAT. 2 by the template 'for every input the law returns true; each argument reads behind the call as it read before'; 0 by the template 'total and deterministic' (their statements: YtdgnnpjijhafaaaGreatTotals.lean).
  GIVEN WITH THE SEED: the statements are not yours to turn. If you find one false, say at which input.
  Laid BY PROGRAM, IN A SANDBOX (cutbox-rows.mjs): the forced cells as the released guide's own fill.sh prints them over the translation cfc3b2f7bcf6557b… (all of the seat's roots in one cut). By AI agents, Wed Nov 11 2026. No macro, syntax, notation, axiom, sorry.
-/
import Derived.Test.YtdgnnpjijhafaaaGreatChecked
import GoSem.Claim
import GoSem.ClaimJoined
import GoSem.ClaimMapViews
import Derived.JoinedTies
import Derived.KernelRfl
namespace Go.Proofs.YtdgnnpjijhafaaaGreat
/- THE CELL 'sum', in the pinned program and in every row, IS THE sha256 OF THE DUMP (.gsa) THAT YtdgnnpjijhafaaaGreatProg.lean LOADS. Nothing in Lean hashes anything: it is a label: what it is worth is what the hold of that sum in a sandbox is worth. -/
noncomputable def Tryz.pinned : Pinned := { name := "ytdgnnpjijhafaaagreat", sum := "cfc3b2f7bcf6557b5aebe7754b8c655d5ab784f7b25ab0bff12c7e652c12c687", checked := Tryz.checked }
namespace Rows
def none {H : Type} : Left H := { results := [], args := [] }

/-- 'obeluslaw13.DocumentRenumbers': WHATEVER THE INPUT: true; the input reads as it did. -/
def documentRenumbersSpec : ChangeSpec := { name := "documentRenumbers", fn := fun _ => fun
  | [d1, d2] => { results := [.lit (.bool true)], args := [d1, d2] }
  | _ => none }
def documentRenumbersRow : OpenClaim := { program := "ytdgnnpjijhafaaagreat", sum := "cfc3b2f7bcf6557b5aebe7754b8c655d5ab784f7b25ab0bff12c7e652c12c687", func := "obelus/obeluslaw13.DocumentRenumbers", spec := "documentRenumbers", inPlace := ["internal/abi.NoEscape"], unfollowed := true, recurses := true, loops := true, plainKeys := false, apart := false }
def DocumentRenumbersSaid : Prop := documentRenumbersRow.holds Tryz.pinned (OpenSpec.ofChange documentRenumbersSpec)

/-- ITS FALSE NEIGHBOUR: 'it returns false'. Refute it at one input. -/
def documentRenumbersWrong : ChangeSpec := { name := "documentRenumbers", fn := fun _ => fun
  | [d1, d2] => { results := [.lit (.bool false)], args := [d1, d2] }
  | _ => none }
def DocumentRenumbersWrongFalsely : Prop := documentRenumbersRow.holds Tryz.pinned (OpenSpec.ofChange documentRenumbersWrong)

/-- 'obeluslaw16.AnchorAdds': WHATEVER THE INPUT: true; the input reads as it did. -/
def anchorAddsSpec : ChangeSpec := { name := "anchorAdds", fn := fun _ => fun
  | [d1, d2, d3] => { results := [.lit (.bool true)], args := [d1, d2, d3] }
  | _ => none }
def anchorAddsRow : OpenClaim := { program := "ytdgnnpjijhafaaagreat", sum := "cfc3b2f7bcf6557b5aebe7754b8c655d5ab784f7b25ab0bff12c7e652c12c687", func := "obelus/obeluslaw16.AnchorAdds", spec := "anchorAdds", inPlace := ["internal/abi.NoEscape"], unfollowed := true, recurses := true, loops := true, plainKeys := false, apart := false }
def AnchorAddsSaid : Prop := anchorAddsRow.holds Tryz.pinned (OpenSpec.ofChange anchorAddsSpec)

/-- ITS FALSE NEIGHBOUR: 'it returns false'. Refute it at one input. -/
def anchorAddsWrong : ChangeSpec := { name := "anchorAdds", fn := fun _ => fun
  | [d1, d2, d3] => { results := [.lit (.bool false)], args := [d1, d2, d3] }
  | _ => none }
def AnchorAddsWrongFalsely : Prop := anchorAddsRow.holds Tryz.pinned (OpenSpec.ofChange anchorAddsWrong)

/- THE SECOND FORM. 'bulk': how many values and letters a reading holds, each counted each time it is reached (what is shared counts as often as it is met; a slice's spare places count too). A statement '..UptoSaid' is the law's where the arguments, and the package variables that the reading takes, are together of bulk at most 1048576: NARROWER than '..Said'. Prove '..Said' where nothing that the law and all that it calls make is longer than what came in: it says more and counts as full. Else prove '..UptoSaid'. A law counts once. -/
mutual
def uptoBulk {H : Type} : DataW H → Nat
  | .lit (.string bytes) => bytes.length + 1
  | .lit _ => 1
  | .nil => 1
  | .ptr d => uptoBulk d + 1
  | .slice elems spare => uptoBulkAll elems + uptoBulkAll spare + 1
  | .agg parts => uptoBulkAll parts + 1
  | .iface _ d => uptoBulk d + 1
  | .map entries => uptoBulkEntries entries + 1
  | .held _ => 1
def uptoBulkAll {H : Type} : List (DataW H) → Nat
  | [] => 0
  | d :: r => uptoBulk d + uptoBulkAll r
def uptoBulkEntries {H : Type} : List (Lit × DataW H) → Nat
  | [] => 0
  | x :: r => uptoBulkEntry x + uptoBulkEntries r
def uptoBulkEntry {H : Type} : Lit × DataW H → Nat
  | (.string bytes, d) => bytes.length + uptoBulk d + 1
  | (_, d) => uptoBulk d + 1
 end
def uptoSmall : (H : Type) → List (DataW H) → Bool := fun _ ds => decide (uptoBulkAll ds ≤ 1048576)
def OpenSpec.upto (s : _root_.Go.ChangeSpec) : _root_.Go.OpenSpec := { _root_.Go.OpenSpec.ofChange s with cond := some uptoSmall }

/-- 'obeluslaw13.DocumentRenumbers', WHERE WHAT IT READS IS OF BULK AT MOST 1048576: true; the input reads as it did. -/
def documentRenumbersUptoRow : OpenClaim := { program := "ytdgnnpjijhafaaagreat", sum := "cfc3b2f7bcf6557b5aebe7754b8c655d5ab784f7b25ab0bff12c7e652c12c687", func := "obelus/obeluslaw13.DocumentRenumbers", spec := "documentRenumbers", inPlace := ["internal/abi.NoEscape"], unfollowed := true, recurses := true, loops := true, plainKeys := false, apart := false, narrowed := true }
def DocumentRenumbersUptoSaid : Prop := documentRenumbersUptoRow.holds Tryz.pinned (OpenSpec.upto documentRenumbersSpec)

/-- 'obeluslaw16.AnchorAdds', WHERE WHAT IT READS IS OF BULK AT MOST 1048576: true; the input reads as it did. -/
def anchorAddsUptoRow : OpenClaim := { program := "ytdgnnpjijhafaaagreat", sum := "cfc3b2f7bcf6557b5aebe7754b8c655d5ab784f7b25ab0bff12c7e652c12c687", func := "obelus/obeluslaw16.AnchorAdds", spec := "anchorAdds", inPlace := ["internal/abi.NoEscape"], unfollowed := true, recurses := true, loops := true, plainKeys := false, apart := false, narrowed := true }
def AnchorAddsUptoSaid : Prop := anchorAddsUptoRow.holds Tryz.pinned (OpenSpec.upto anchorAddsSpec)

end Rows
end Go.Proofs.YtdgnnpjijhafaaaGreat
