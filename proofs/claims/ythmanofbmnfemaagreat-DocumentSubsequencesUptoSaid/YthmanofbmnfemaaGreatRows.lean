/-
  NARROWER THAN 'FOR EVERY INPUT', by the rows' own cells (each row's printed sentence says how): DocumentInserts: loops · DocumentIds: loops · DocumentNormal: loops · DocumentSubsequences: loops · DocumentRenumbers: loops.
  DERIVED. THE GIVEN ROWS OF THIS SEAT. 5 by the template 'for every input the law returns true; each argument reads behind the call as it read before'; 0 by the template 'total and deterministic' (their statements: YthmanofbmnfemaaGreatTotals.lean).
  GIVEN WITH THE SEED: the statements are not yours to turn. If you find one false, say at which input.
  Laid BY PROGRAM, IN A SANDBOX (cutbox-rows.mjs): the forced cells as the released guide's own fill.sh prints them over the translation feb09a6cb1d9a7ff… (all of the seat's roots in one cut). By AI agents, Wed Nov 11 2026. No macro, syntax, notation, axiom, sorry.
-/
import Derived.Test.YthmanofbmnfemaaGreatChecked
import GoSem.Claim
import GoSem.ClaimJoined
import GoSem.ClaimMapViews
import Derived.JoinedTies
import Derived.KernelRfl
namespace Go.Proofs.YthmanofbmnfemaaGreat
/- THE CELL 'sum', in the pinned program and in every row, IS THE sha256 OF THE DUMP (.gsa) THAT YthmanofbmnfemaaGreatProg.lean LOADS. Nothing in Lean hashes anything: it is a label: what it is worth is what the hold of that sum in a sandbox is worth. -/
noncomputable def Tryz.pinned : Pinned := { name := "ythmanofbmnfemaagreat", sum := "feb09a6cb1d9a7ff8c2c3a2e341f53cf1ca016e26a69f45b915d689781e51f76", checked := Tryz.checked }
namespace Rows
def none {H : Type} : Left H := { results := [], args := [] }

/-- 'obeluslaw13.DocumentInserts': WHATEVER THE INPUT: true; the input reads as it did. -/
def documentInsertsSpec : ChangeSpec := { name := "documentInserts", fn := fun _ => fun
  | [d1, d2, d3] => { results := [.lit (.bool true)], args := [d1, d2, d3] }
  | _ => none }
def documentInsertsRow : OpenClaim := { program := "ythmanofbmnfemaagreat", sum := "feb09a6cb1d9a7ff8c2c3a2e341f53cf1ca016e26a69f45b915d689781e51f76", func := "obelus/obeluslaw13.DocumentInserts", spec := "documentInserts", inPlace := ["internal/abi.NoEscape"], unfollowed := true, recurses := true, loops := true, apart := false }
def DocumentInsertsSaid : Prop := documentInsertsRow.holds Tryz.pinned (OpenSpec.ofChange documentInsertsSpec)

/-- ITS FALSE NEIGHBOUR: 'it returns false'. Refute it at one input. -/
def documentInsertsWrong : ChangeSpec := { name := "documentInserts", fn := fun _ => fun
  | [d1, d2, d3] => { results := [.lit (.bool false)], args := [d1, d2, d3] }
  | _ => none }
def DocumentInsertsWrongFalsely : Prop := documentInsertsRow.holds Tryz.pinned (OpenSpec.ofChange documentInsertsWrong)

/-- 'obeluslaw13.DocumentIds': WHATEVER THE INPUT: true; the input reads as it did. -/
def documentIdsSpec : ChangeSpec := { name := "documentIds", fn := fun _ => fun
  | [d] => { results := [.lit (.bool true)], args := [d] }
  | _ => none }
def documentIdsRow : OpenClaim := { program := "ythmanofbmnfemaagreat", sum := "feb09a6cb1d9a7ff8c2c3a2e341f53cf1ca016e26a69f45b915d689781e51f76", func := "obelus/obeluslaw13.DocumentIds", spec := "documentIds", inPlace := ["internal/abi.NoEscape"], unfollowed := true, recurses := true, loops := true, apart := false }
def DocumentIdsSaid : Prop := documentIdsRow.holds Tryz.pinned (OpenSpec.ofChange documentIdsSpec)

/-- ITS FALSE NEIGHBOUR: 'it returns false'. Refute it at one input. -/
def documentIdsWrong : ChangeSpec := { name := "documentIds", fn := fun _ => fun
  | [d] => { results := [.lit (.bool false)], args := [d] }
  | _ => none }
def DocumentIdsWrongFalsely : Prop := documentIdsRow.holds Tryz.pinned (OpenSpec.ofChange documentIdsWrong)

/-- 'obeluslaw13.DocumentNormal': WHATEVER THE INPUT: true; the input reads as it did. -/
def documentNormalSpec : ChangeSpec := { name := "documentNormal", fn := fun _ => fun
  | [d] => { results := [.lit (.bool true)], args := [d] }
  | _ => none }
def documentNormalRow : OpenClaim := { program := "ythmanofbmnfemaagreat", sum := "feb09a6cb1d9a7ff8c2c3a2e341f53cf1ca016e26a69f45b915d689781e51f76", func := "obelus/obeluslaw13.DocumentNormal", spec := "documentNormal", inPlace := ["internal/abi.NoEscape"], unfollowed := true, recurses := true, loops := true, apart := false }
def DocumentNormalSaid : Prop := documentNormalRow.holds Tryz.pinned (OpenSpec.ofChange documentNormalSpec)

/-- ITS FALSE NEIGHBOUR: 'it returns false'. Refute it at one input. -/
def documentNormalWrong : ChangeSpec := { name := "documentNormal", fn := fun _ => fun
  | [d] => { results := [.lit (.bool false)], args := [d] }
  | _ => none }
def DocumentNormalWrongFalsely : Prop := documentNormalRow.holds Tryz.pinned (OpenSpec.ofChange documentNormalWrong)

/-- 'obeluslaw13.DocumentSubsequences': WHATEVER THE INPUT: true; the input reads as it did. -/
def documentSubsequencesSpec : ChangeSpec := { name := "documentSubsequences", fn := fun _ => fun
  | [d1, d2, d3] => { results := [.lit (.bool true)], args := [d1, d2, d3] }
  | _ => none }
def documentSubsequencesRow : OpenClaim := { program := "ythmanofbmnfemaagreat", sum := "feb09a6cb1d9a7ff8c2c3a2e341f53cf1ca016e26a69f45b915d689781e51f76", func := "obelus/obeluslaw13.DocumentSubsequences", spec := "documentSubsequences", inPlace := ["internal/abi.NoEscape"], unfollowed := true, recurses := true, loops := true, apart := false }
def DocumentSubsequencesSaid : Prop := documentSubsequencesRow.holds Tryz.pinned (OpenSpec.ofChange documentSubsequencesSpec)

/-- ITS FALSE NEIGHBOUR: 'it returns false'. Refute it at one input. -/
def documentSubsequencesWrong : ChangeSpec := { name := "documentSubsequences", fn := fun _ => fun
  | [d1, d2, d3] => { results := [.lit (.bool false)], args := [d1, d2, d3] }
  | _ => none }
def DocumentSubsequencesWrongFalsely : Prop := documentSubsequencesRow.holds Tryz.pinned (OpenSpec.ofChange documentSubsequencesWrong)

/-- 'obeluslaw13.DocumentRenumbers': WHATEVER THE INPUT: true; the input reads as it did. -/
def documentRenumbersSpec : ChangeSpec := { name := "documentRenumbers", fn := fun _ => fun
  | [d1, d2] => { results := [.lit (.bool true)], args := [d1, d2] }
  | _ => none }
def documentRenumbersRow : OpenClaim := { program := "ythmanofbmnfemaagreat", sum := "feb09a6cb1d9a7ff8c2c3a2e341f53cf1ca016e26a69f45b915d689781e51f76", func := "obelus/obeluslaw13.DocumentRenumbers", spec := "documentRenumbers", inPlace := ["internal/abi.NoEscape"], unfollowed := true, recurses := true, loops := true, apart := false }
def DocumentRenumbersSaid : Prop := documentRenumbersRow.holds Tryz.pinned (OpenSpec.ofChange documentRenumbersSpec)

/-- ITS FALSE NEIGHBOUR: 'it returns false'. Refute it at one input. -/
def documentRenumbersWrong : ChangeSpec := { name := "documentRenumbers", fn := fun _ => fun
  | [d1, d2] => { results := [.lit (.bool false)], args := [d1, d2] }
  | _ => none }
def DocumentRenumbersWrongFalsely : Prop := documentRenumbersRow.holds Tryz.pinned (OpenSpec.ofChange documentRenumbersWrong)

/- THE SECOND FORM. 'bulk': how many values and letters a reading holds, each counted each time it is reached (what is shared counts as often as it is met; a slice's spare places count too). A statement '..UptoSaid' is the law's where the arguments, and the package variables that the reading takes, are together of bulk at most 1048576: NARROWER than '..Said'. Prove '..Said' where nothing that the law and all that it calls make is longer than what came in: it says more and counts as full. Else prove '..UptoSaid'. A law counts once. -/
mutual
def uptoBulk {H : Type} : DataW H → Nat
  | .lit (.string bytes) => bytes.length + 1
  | .lit _ => 1
  | .nil => 1
  | .ptr d => uptoBulk d + 1
  | .slice elems spare => uptoBulkAll elems + uptoBulkAll spare + 1
  | .agg parts => uptoBulkAll parts + 1
  | .iface _ d => uptoBulk d + 1
  | .map entries => uptoBulkEntries entries + 1
  | .held _ => 1
def uptoBulkAll {H : Type} : List (DataW H) → Nat
  | [] => 0
  | d :: r => uptoBulk d + uptoBulkAll r
def uptoBulkEntries {H : Type} : List (Lit × DataW H) → Nat
  | [] => 0
  | x :: r => uptoBulkEntry x + uptoBulkEntries r
def uptoBulkEntry {H : Type} : Lit × DataW H → Nat
  | (.string bytes, d) => bytes.length + uptoBulk d + 1
  | (_, d) => uptoBulk d + 1
 end
def uptoSmall : (H : Type) → List (DataW H) → Bool := fun _ ds => decide (uptoBulkAll ds ≤ 1048576)
def OpenSpec.upto (s : _root_.Go.ChangeSpec) : _root_.Go.OpenSpec := { _root_.Go.OpenSpec.ofChange s with cond := some uptoSmall }

/-- 'obeluslaw13.DocumentInserts', WHERE WHAT IT READS IS OF BULK AT MOST 1048576: true; the input reads as it did. -/
def documentInsertsUptoRow : OpenClaim := { program := "ythmanofbmnfemaagreat", sum := "feb09a6cb1d9a7ff8c2c3a2e341f53cf1ca016e26a69f45b915d689781e51f76", func := "obelus/obeluslaw13.DocumentInserts", spec := "documentInserts", inPlace := ["internal/abi.NoEscape"], unfollowed := true, recurses := true, loops := true, apart := false, narrowed := true }
def DocumentInsertsUptoSaid : Prop := documentInsertsUptoRow.holds Tryz.pinned (OpenSpec.upto documentInsertsSpec)

/-- 'obeluslaw13.DocumentIds', WHERE WHAT IT READS IS OF BULK AT MOST 1048576: true; the input reads as it did. -/
def documentIdsUptoRow : OpenClaim := { program := "ythmanofbmnfemaagreat", sum := "feb09a6cb1d9a7ff8c2c3a2e341f53cf1ca016e26a69f45b915d689781e51f76", func := "obelus/obeluslaw13.DocumentIds", spec := "documentIds", inPlace := ["internal/abi.NoEscape"], unfollowed := true, recurses := true, loops := true, apart := false, narrowed := true }
def DocumentIdsUptoSaid : Prop := documentIdsUptoRow.holds Tryz.pinned (OpenSpec.upto documentIdsSpec)

/-- 'obeluslaw13.DocumentNormal', WHERE WHAT IT READS IS OF BULK AT MOST 1048576: true; the input reads as it did. -/
def documentNormalUptoRow : OpenClaim := { program := "ythmanofbmnfemaagreat", sum := "feb09a6cb1d9a7ff8c2c3a2e341f53cf1ca016e26a69f45b915d689781e51f76", func := "obelus/obeluslaw13.DocumentNormal", spec := "documentNormal", inPlace := ["internal/abi.NoEscape"], unfollowed := true, recurses := true, loops := true, apart := false, narrowed := true }
def DocumentNormalUptoSaid : Prop := documentNormalUptoRow.holds Tryz.pinned (OpenSpec.upto documentNormalSpec)

/-- 'obeluslaw13.DocumentSubsequences', WHERE WHAT IT READS IS OF BULK AT MOST 1048576: true; the input reads as it did. -/
def documentSubsequencesUptoRow : OpenClaim := { program := "ythmanofbmnfemaagreat", sum := "feb09a6cb1d9a7ff8c2c3a2e341f53cf1ca016e26a69f45b915d689781e51f76", func := "obelus/obeluslaw13.DocumentSubsequences", spec := "documentSubsequences", inPlace := ["internal/abi.NoEscape"], unfollowed := true, recurses := true, loops := true, apart := false, narrowed := true }
def DocumentSubsequencesUptoSaid : Prop := documentSubsequencesUptoRow.holds Tryz.pinned (OpenSpec.upto documentSubsequencesSpec)

/-- 'obeluslaw13.DocumentRenumbers', WHERE WHAT IT READS IS OF BULK AT MOST 1048576: true; the input reads as it did. -/
def documentRenumbersUptoRow : OpenClaim := { program := "ythmanofbmnfemaagreat", sum := "feb09a6cb1d9a7ff8c2c3a2e341f53cf1ca016e26a69f45b915d689781e51f76", func := "obelus/obeluslaw13.DocumentRenumbers", spec := "documentRenumbers", inPlace := ["internal/abi.NoEscape"], unfollowed := true, recurses := true, loops := true, apart := false, narrowed := true }
def DocumentRenumbersUptoSaid : Prop := documentRenumbersUptoRow.holds Tryz.pinned (OpenSpec.upto documentRenumbersSpec)

end Rows
end Go.Proofs.YthmanofbmnfemaaGreat
