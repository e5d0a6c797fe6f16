/-
  For any two strings of at most 200 bytes, Similarity returns the similarity of their tokens, in any order of both, and 1000 for equal ones, or ErrUTF8: the statement BlockmatchSimilar, proved for every input; its card is tied.
-/
import Derived.Test.YtpmcdlhhfbobfaaDoorBsi
import Derived.Test.YtpmcdlhhfbobfaaDoorRdg
import Derived.Lib.LaidU8T
import Derived.ChangeMaps5
import Derived.OpenShut
import Derived.Carry
import Derived.Test.YtpmcdlhhfbobfaaDoorCards
import Derived.Test.YtpmcdlhhfbobfaaDoorTie
import Derived.ProofKit
import Derived.Lay
import Derived.SevenTiedAt
import Derived.Lib.SmallJoins
namespace Go.Proofs.YtpmcdlhhfbobfaaDoor
open Go.ChangeShapes Go.WideShapes Go.ChangeAt Go.ChangeMaps Go.RowKit Go.Joins
abbrev bsLaid : List (String × DataW Unit) := [("unicode/utf8.acceptRanges", Rows.laid_unicode_utf8_acceptRanges), ("unicode/utf8.first", Rows.laid_unicode_utf8_first)]
theorem first_eq : Rows.laid_unicode_utf8_first = Go.Lib.firstData := by kernel_rfl
theorem accept_eq : (Rows.laid_unicode_utf8_acceptRanges : DataW Unit) = Go.Lib.acceptData := by kernel_rfl
theorem bsOwn : ownKnob Tryd.prog.godebug = none := by kernel_rfl
set_option maxRecDepth 100000 in
theorem bsLifted (os : Os) (started : os.Started) (H : Type) (enc : TypeId × Value → H) :
    ReturnsInHanded {} Tryd.checked os 8 .any (fun w args => (Rows.blockmatchSimilarSpec.pre enc Tryd.prog Tryd.f8 [] false w args ∧ laidMetH Tryd.prog bsLaid w) ∧ sizedMet enc Tryd.prog Tryd.f8 (OpenSpec.ofChange Rows.blockmatchSimilarSpec) false w args)
      (Rows.blockmatchSimilarSpec.post enc Tryd.prog Tryd.f8 false true false false) := by
  refine returnsInHanded_of_change_and (C := Tryd.checked) (X := fun w _ => laidMetH Tryd.prog bsLaid w) (fun _ _ _ hh h => h.of_heap hh) bsOwn started (by kernel_rfl) Tryd.func8
    (ChangeSpec.witness_shaped (enc := enc) (C := Tryd.checked) (os := os) (X := fun w _ => laidMetH Tryd.prog bsLaid w) false (World.laidAll Tryd.prog os bsLaid) #[.string ⟨#[]⟩, .string ⟨#[]⟩] 8 (World.laidAll_os _ _ _)
      (World.shaped_of_ZipB (by kernel_rfl) (by kernel_rfl)) (by kernel_rfl) (by kernel_rfl) (by kernel_rfl)
      (by rw [MakeChecks.laidMetH_plain _ _ _ (by kernel_rfl)]; exact laidMet_laidAll _ (by kernel_rfl) (by kernel_rfl))) ?_
  intro W base args ds gs before hval0 hW _ _ hL _; have hval : ∀ (j : Nat) t v, Tryd.f8.params[j]? = some t → args[j]? = some v → Value.okWide Tryd.prog W .any base t v := hval0; have hW' := hW; obtain ⟨p, q, hA0, hV, rfl, _, _⟩ := hW; have hA : DataW.TrodAll enc Tryd.prog W 0 (fun _ => true) true Tryd.f8.params.toList args.toList ds p := hA0; rw [Tryd.params8] at hA hval; obtain ⟨v0, v1, d0, d1, p0, p1, rfl, rfl, rfl, h0, h1⟩ := trodAll_two hA; obtain ⟨rfl, rfl⟩ := trodVars_none hV; obtain ⟨x, rfl, rfl, rfl, wx⟩ := open_string Tryd.underlying9 (hval 0 9 v0 rfl rfl) h0; obtain ⟨y, rfl, rfl, rfl, wy⟩ := open_string Tryd.underlying9 (hval 1 9 v1 rfl rfl) h1; rw [MakeChecks.laidMetH_plain _ _ _ (by kernel_rfl)] at hL; have hU : Go.Lib.Utf8Tabs 0 1 W := utf8Tabs_of_readsT (ρ := u8Ren) (U8Types.of196 u8Lays) ⟨by kernel_rfl, by kernel_rfl, by kernel_rfl, by kernel_rfl, by kernel_rfl, by kernel_rfl, by kernel_rfl⟩ (first_eq ▸ Lib.laidMet.reads hL (.tail _ (.head _))) (accept_eq ▸ Lib.laidMet.reads hL (.head _)); have hT : TabsG (heapG W) := ⟨fun c hc => gcell_heap (hU.1 c hc), fun i hi => ⟨gcell_heap (hU.2 i hi).1, gcell_heap (hU.2 i hi).2⟩⟩; clear hA0 hval0
  simp only [List.append_nil] at hW'
  have hml : maxLen = 9223372036854775807 := rfl; refine (bsimilar_true (heapG W) W (fun _ _ h => h) hT x y (by omega) (by omega)).mono ?_; rintro e W' ⟨v, G', rfl, hb, -, rfl⟩; refine ⟨_, rfl, _, _, _, [], [], [], hW', ?_, ?_, ?_, hb.frame _, fun h => by cases h⟩
  · exact trodAll_mk1 (shut_bool Tryd.underlying4 _)
  · exact trodAll_mk2 (shut_string Tryd.underlying9 wx) (shut_string Tryd.underlying9 wy)
  rfl
theorem bs_row : Rows.BlockmatchSimilarSaid :=
  OpenClaim.holds_of_wide 8 Tryd.f8 rfl rfl rfl rfl rfl rfl rfl ⟨rfl, rfl, rfl, rfl, rfl⟩ rfl rfl rfl rfl rfl (by kernel_rfl) Tryd.func8 (by kernel_rfl)
    (of_decide_eq_true (by kernel_rfl)) (by unfold Func.isWrapper; first | (rw [if_pos (by decide +kernel)]; kernel_rfl) | (rw [if_neg (by decide +kernel)]; exact ⟨rfl, rfl⟩))
    (fun os started H enc _ => bsLifted os started H enc)
theorem blockmatchSimilar_holds : Rows.BlockmatchSimilarCardSaid :=
  Claim7.holds_tied_plain_at .later [] [.data, .pinned] true (true, "9c54f2ef3546ec90fc7d8fb54556130278ecaa58e33d91c4886ca3059a3c8ff0") false
    bs_row (fun _ h => by cases h) (by kernel_rfl) (fun _ h => by cases h) blockmatchSimilar_row_tie rfl ⟨rfl, rfl⟩ (by kernel_rfl) rfl
    (fun f fn hf hfn => by
      obtain rfl : f = 8 := Option.some.inj ((show Tryd.prog.funcNamed "obelus/obeluslaw31.BlockmatchSimilar" = some 8 by kernel_rfl).symm.trans hf) |>.symm; obtain rfl : fn = Tryd.f8 := (Option.some.inj (Tryd.func8.symm.trans hfn)).symm
      exact ⟨by kernel_rfl, fun j t ht => by
        rw [Tryd.params8] at ht
        have hm : t ∈ [9, 9] := by simpa using Array.mem_of_getElem? ht
        have hall : ([9, 9].all fun u => !Tryd.prog.wantsStandIn u) = true := by kernel_rfl
        exact (show Tryd.prog.wantsStandIn t = false by simpa using List.all_eq_true.1 hall t hm)⟩)
    (by kernel_rfl)
end Go.Proofs.YtpmcdlhhfbobfaaDoor
