/-
  In a paragraph with any of the styles of worlds, a text without properties has the character properties of the style, and one with any size from 2 to 257 this size: the statement ParagraphStyles, proved for every input.
-/
import Derived.Test.YtlnhhlighgaapaaGreatPf
import Derived.ProofKit
import Derived.Lib.SmallJoins
import Derived.ChangeMaps5
namespace Go.Proofs.YtlnhhlighgaapaaGreat
open Go.ChangeShapes Go.WideShapes Go.ChangeAt Go.RowKit Go.Joins Go.ChangeMaps
theorem psOwn : ownKnob Tryz.prog.godebug = none := by kernel_rfl
set_option maxRecDepth 100000 in
theorem paragraphStyles_lifted (os : Os) (started : os.Started) (H : Type) (enc : TypeId × Value → H) :
    ReturnsInHanded {} Tryz.checked os 3 .any (Rows.paragraphStylesSpec.pre6 enc Tryz.prog Tryz.f3 Rows.paragraphStylesRow.domain false) (Rows.paragraphStylesSpec.post enc Tryz.prog Tryz.f3 false true false false) := by
  refine returnsInHanded_of_change (C := Tryz.checked) psOwn started (by kernel_rfl) Tryz.func3
    (ChangeSpec.witness6 (enc := enc) (C := Tryz.checked) false ⟨#[], #[.int .u8 0, .int .u8 0, .string ⟨#[]⟩], []⟩ 8 (by kernel_rfl) (by kernel_rfl) (by kernel_rfl) (by kernel_rfl)) ?_
  intro W base args ds gs before hval0 hW hcnd _; have hval : ∀ (j : Nat) t v, Tryz.f3.params[j]? = some t → args[j]? = some v → Value.okWide Tryz.prog W .any base t v := hval0; have hW' := hW; obtain ⟨p, q, hA0, hV, rfl, hfz, hnd⟩ := hW; have hA : DataW.TrodAll enc Tryz.prog W 0 (fun _ => true) true Tryz.f3.params.toList args.toList ds p := hA0; rw [Tryz.params3] at hA hval; obtain ⟨v0, v1, v2, d0, d1, d2, p0, p1, p2, rfl, rfl, rfl, h0, h1, h2⟩ := trodAll_three hA; obtain ⟨rfl, rfl⟩ := trodVars_none hV; obtain ⟨x, rfl, rfl, rfl, wx⟩ := open_string Tryz.underlying9 (hval 2 9 v2 rfl rfl) h2; obtain ⟨a, rfl, rfl, rfl, wa⟩ := open_int Tryz.underlying5 (hval 0 5 v0 rfl rfl) h0; obtain ⟨b, rfl, rfl, rfl, wb⟩ := open_int Tryz.underlying5 (hval 1 5 v1 rfl rfl) h1; clear hA0 hval0
  simp only [List.append_nil] at hW'
  have hml : maxLen = 9223372036854775807 := rfl
  have u8 : ∀ {z : Int}, (Lit.int .u8 z).wf = true → 0 ≤ z ∧ z ≤ 255 := fun h => by simpa [Lit.wf, IntKind.min, IntKind.max, IntKind.signed, IntKind.bits] using h
  refine (paragraphStyles_spec (fun _ => none) W (fun _ _ h => by cases h) a b x (u8 wa) (u8 wb) (by omega)).mono ?_; rintro e W' ⟨v, G', rfl, hb, -, rfl⟩; refine ⟨_, rfl, _, _, _, [], [], [], hW', ?_, ?_, ?_, hb.frame _, fun h => by cases h⟩
  · exact trodAll_mk1 (shut_bool Tryz.underlying4 _)
  · exact trodAll_mk3 (shut_int Tryz.underlying5 wa) (shut_int Tryz.underlying5 wb) (shut_string Tryz.underlying9 wx)
  rfl
theorem paragraphStyles_holds : Rows.ParagraphStylesSaid :=
  OpenClaim.holds_of_wide 3 Tryz.f3 rfl rfl rfl rfl rfl rfl rfl ⟨rfl, rfl, rfl, rfl, rfl⟩ rfl rfl rfl rfl rfl (by kernel_rfl) Tryz.func3 (by kernel_rfl)
    (of_decide_eq_true (by kernel_rfl)) (by unfold Func.isWrapper; first | (rw [if_pos (by decide +kernel)]; kernel_rfl) | (rw [if_neg (by decide +kernel)]; exact ⟨rfl, rfl⟩))
    (fun os started H enc _ => paragraphStyles_lifted os started H enc)
end Go.Proofs.YtlnhhlighgaapaaGreat
