/-
  For any two ranges, Intersect returns the units that both have, and Contains reports whether one contains the other one: the statement PositionRanges, proved for every input.
-/
import Derived.Test.YtbfdhlakbdadhaaPr
import Derived.ProofKit
import Derived.Lib.SmallJoins
namespace Go.Proofs.Ytbfdhlakbdadhaa
open Go.ChangeShapes Go.WideShapes Go.ChangeAt Go.RowKit Go.Joins
theorem own1 : ownKnob Try.prog.godebug = none := by kernel_rfl
theorem cellsRange : Try.prog.cellsOf 23 = 3 := by kernel_rfl
set_option maxRecDepth 100000 in
theorem positionRanges_lifted (os : Os) (started : os.Started) (H : Type) (enc : TypeId × Value → H) :
    ReturnsInHanded {} Try.checked os 3 .any (Rows.positionRangesSpec.pre6 enc Try.prog Try.f3 Rows.positionRangesRow.domain false) (Rows.positionRangesSpec.post enc Try.prog Try.f3 false true false false) := by
  refine returnsInHanded_of_change (C := Try.checked) own1 started (by kernel_rfl) Try.func3
    (ChangeSpec.witness6 (enc := enc) (C := Try.checked) false ⟨#[], #[.agg #[.int .i64 0, .int .i64 0, .int .i64 0], .agg #[.int .i64 0, .int .i64 0, .int .i64 0]], []⟩ 8 (by kernel_rfl) (by kernel_rfl) (by kernel_rfl) (by kernel_rfl)) ?_
  intro W base args ds gs before hval0 hW hcnd _
  have hval : ∀ (j : Nat) t v, Try.f3.params[j]? = some t → args[j]? = some v → Value.okWide Try.prog W .any base t v := hval0
  have hW' := hW
  obtain ⟨p, q, hA0, hV, rfl, hfz, hnd⟩ := hW
  have hA : DataW.TrodAll enc Try.prog W 0 (fun _ => true) true Try.f3.params.toList args.toList ds p := hA0
  rw [Try.params3] at hA hval
  obtain ⟨v0, v1, d0, d1, p0, p1, rfl, rfl, rfl, h0, h1⟩ := trodAll_two hA
  obtain ⟨rfl, rfl⟩ := trodVars_none hV
  obtain ⟨c0, c1, c2, y0, y1, y2, m, rfl, rfl, rfl, hy0, hy1, hy2⟩ := open_agg3 Try.underlying23 (by kernel_rfl) cellsRange (hval 0 23 v0 rfl rfl) h0
  obtain ⟨a0, e0, rfl, wa0⟩ := DataW.trod_int Try.underlying3 hy0
  obtain ⟨a1, e1, rfl, wa1⟩ := DataW.trod_int Try.underlying3 hy1
  obtain ⟨a2, e2, rfl, wa2⟩ := DataW.trod_int Try.underlying3 hy2
  simp at e0 e1 e2
  subst e0 e1 e2
  obtain ⟨c3, c4, c5, y3, y4, y5, m2, rfl, rfl, rfl, hy3, hy4, hy5⟩ := open_agg3 Try.underlying23 (by kernel_rfl) cellsRange (hval 1 23 v1 rfl rfl) h1
  obtain ⟨b0, e3, rfl, wb0⟩ := DataW.trod_int Try.underlying3 hy3
  obtain ⟨b1, e4, rfl, wb1⟩ := DataW.trod_int Try.underlying3 hy4
  obtain ⟨b2, e5, rfl, wb2⟩ := DataW.trod_int Try.underlying3 hy5
  simp at e3 e4 e5
  subst e3 e4 e5
  clear hA0 hval0
  simp only [List.append_nil] at hW'
  refine (ranges_true (fun _ => none) W (fun _ _ h => by cases h) a0 a1 a2 b0 b1 b2).mono ?_
  rintro e W' ⟨v, G', rfl, hb, -, rfl⟩
  have reads : ∀ (x y z : Int), (Lit.int .i64 x).wf = true → (Lit.int .i64 y).wf = true → (Lit.int .i64 z).wf = true → ∀ (B : Nat) (sp : Nat → Bool) (hd : Bool), DataW.Trod enc Try.prog W' B sp hd 23 (.agg #[.int .i64 x, .int .i64 y, .int .i64 z]) (.agg [.lit (.int .i64 x), .lit (.int .i64 y), .lit (.int .i64 z)]) [] := fun x y z hx hy hz B sp hd =>
    shut_agg3 (y0 := (.lit (.int .i64 x), [])) (y1 := (.lit (.int .i64 y), [])) (y2 := (.lit (.int .i64 z), [])) Try.underlying23 (by kernel_rfl) cellsRange ⟨1, by simp [DataW.trod, Try.underlying3, hx]⟩ ⟨1, by simp [DataW.trod, Try.underlying3, hy]⟩ ⟨1, by simp [DataW.trod, Try.underlying3, hz]⟩
  refine ⟨_, rfl, _, _, _, [], [], [], hW', ?_, ?_, ?_, hb.frame _, fun h => by cases h⟩
  · exact trodAll_mk1 (shut_bool Try.underlying4 _)
  · exact trodAll_mk2 (reads _ _ _ wa0 wa1 wa2 _ _ _) (reads _ _ _ wb0 wb1 wb2 _ _ _)
  · rfl
theorem positionRanges_holds : Rows.PositionRangesSaid :=
  OpenClaim.holds_of_wide 3 Try.f3 rfl rfl rfl rfl rfl rfl rfl ⟨rfl, rfl, rfl, rfl, rfl⟩ rfl rfl rfl rfl rfl (by kernel_rfl) Try.func3 (by kernel_rfl)
    (of_decide_eq_true (by kernel_rfl)) (by unfold Func.isWrapper; first | (rw [if_pos (by decide +kernel)]; kernel_rfl) | (rw [if_neg (by decide +kernel)]; exact ⟨rfl, rfl⟩))
    (fun os started H enc _ => positionRanges_lifted os started H enc)
end Go.Proofs.Ytbfdhlakbdadhaa
