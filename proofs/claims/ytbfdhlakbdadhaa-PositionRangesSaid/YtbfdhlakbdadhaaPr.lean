/-
  The statement's function PositionRanges gives true.
-/
import Derived.Test.YtbfdhlakbdadhaaKn
import Derived.Test.YtbfdhlakbdadhaaW1
namespace Go.Proofs.Ytbfdhlakbdadhaa
open Go.RowKit
theorem ty23pr : Ty Try.prog 23 3 24 [.int .i64 0, .int .i64 0, .int .i64 0] true := ⟨by kernel_rfl, by kernel_rfl⟩
theorem en6pr : ∀ args w, (callFunc 6 args).run Try.prog w = .ok (.enter 6 args) w := enters Try.func6 rfl (by kernel_rfl)
theorem fd23_1pr : Fld Try.prog 23 1 1 := ⟨by kernel_rfl⟩
theorem ty3pr : Ty Try.prog 3 1 8 [.int .i64 0] false := ⟨by kernel_rfl, by kernel_rfl⟩
theorem fd23_2pr : Fld Try.prog 23 2 2 := ⟨by kernel_rfl⟩
theorem en7pr : ∀ args w, (callFunc 7 args).run Try.prog w = .ok (.enter 7 args) w := enters Try.func7 rfl (by kernel_rfl)
theorem en8pr : ∀ args w, (callFunc 8 args).run Try.prog w = .ok (.enter 8 args) w := enters Try.func8 rfl (by kernel_rfl)
theorem fd23_0pr : Fld Try.prog 23 0 0 := ⟨by kernel_rfl⟩
theorem un4pr : Try.prog.underlying 4 = some .bool := by kernel_rfl
theorem sr23pr : Srt Try.prog 23 [(0, 1), (1, 1), (2, 1)] [.int .i64 0, .int .i64 0, .int .i64 0] := ⟨by kernel_rfl, by kernel_rfl⟩
theorem eqi23pr : EqI Try.prog 23 [0, 1, 2] := ⟨by kernel_rfl, by kernel_rfl, by kernel_rfl, by kernel_rfl, by kernel_rfl⟩
set_option maxHeartbeats 1000000 in
theorem ranges_true (G : GH) (w0 : World) (hG : Hold G w0) (af afr ato bf bfr bto : Int) :
    Calls Try.prog 3 #[.agg #[vi af, vi afr, vi ato], .agg #[vi bf, vi bfr, vi bto]] w0 (Ret w0 G fun u G' => u = .bool true) := by
  refine enter (N := 86) (T := [(0, _), (1, _)]) (F := fun k => k < w0.heap.size) (L := []) Try.func3 rfl Try.ntmps3 rfl rfl hG (fun _ h => h) (fun _ h => by cases h) (fun _ h => by cases h) (fun _ h => by cases h) List.Pairwise.nil ?_
  intro a H
  refine c_seq (fun _ hK1 => ?_)
  refine c_region ?_
  refine s_box (cs := [_, _, _]) H wn rfl rfl rfl ?_; clear H; intro b2 a w hb2 H
  refine s_box (cs := [_, _, _]) H wn rfl rfl rfl ?_; clear H; intro b3 a w hb3 H
  refine s_assign H wn rfl rfl ?_; clear H; intro a H
  refine wl_nil ?_
  refine hK1 _ _ ?_; clear hK1
  refine c_seq (fun _ hK2 => ?_)
  refine c_region ?_
  refine s_loada ty23pr (cs := [_, _, _]) H wn rfl rfl (H.hp.ocells 1 rfl rfl) rfl ?_; clear H; intro a H
  refine s_loada ty23pr (cs := [_, _, _]) H wn rfl rfl (H.hp.ocells 0 rfl rfl) rfl ?_; clear H; intro a H
  refine s_call en6pr H wn rfl (intersect_spec _ _ H.hp.ro af afr ato bf bfr bto) rfl ?_; clear H
  rintro v12 _ a w ⟨rfl, rfl⟩ - H
  refine s_move H wn rfl rfl ?_; clear H; intro a H
  refine s_extract H wn rfl rfl rfl ?_; clear H; intro a H
  refine s_extract H wn rfl rfl rfl ?_; clear H; intro a H
  refine s_alloc ty23pr H wn rfl ?_; clear H; intro b5 a w hb5 H
  refine s_store ty23pr 0 (vs := [_, _, _]) _ H wn rfl rfl rfl rfl rfl rfl rfl rfl ?_; clear H; intro w H; dsimp only [List.set, setRow] at H
  refine s_assign H wn rfl rfl ?_; clear H; intro a H
  refine wl_nil ?_
  refine hK2 _ _ ?_; clear hK2
  refine c_seq (fun _ hK3 => ?_)
  have hprm2 : ∀ (i : Nat) (v : Value) (G G' : GH), (∀ k o, G k = some o → G' k = some o) → (fun (i : Nat) (v : Value) (G : GH) => match i with | 0 => v = .pointer (some ⟨b2, 1, none⟩) | 1 => v = vi afr | 2 => v = .pointer (some ⟨b3, 1, none⟩) | 3 => v = vi bfr | 4 => v = vi (max afr bfr) | 5 => v = .pointer (some ⟨b2, 2, none⟩) | 6 => v = vi ato | 7 => v = .pointer (some ⟨b3, 2, none⟩) | 8 => v = vi bto | 9 => v = vi (min ato bto) | 10 => v = vi (max afr bfr) | 11 => v = vi (min ato bto) | _ => True) i v G → (fun (i : Nat) (v : Value) (G : GH) => match i with | 0 => v = .pointer (some ⟨b2, 1, none⟩) | 1 => v = vi afr | 2 => v = .pointer (some ⟨b3, 1, none⟩) | 3 => v = vi bfr | 4 => v = vi (max afr bfr) | 5 => v = .pointer (some ⟨b2, 2, none⟩) | 6 => v = vi ato | 7 => v = .pointer (some ⟨b3, 2, none⟩) | 8 => v = vi bto | 9 => v = vi (min ato bto) | 10 => v = vi (max afr bfr) | 11 => v = vi (min ato bto) | _ => True) i v G' := by
    intro i v G G' hm h
    match i, h with
    | 0, h => exact h
    | 1, h => exact h
    | 2, h => exact h
    | 3, h => exact h
    | 4, h => exact h
    | 5, h => exact h
    | 6, h => exact h
    | 7, h => exact h
    | 8, h => exact h
    | 9, h => exact h
    | 10, h => exact h
    | 11, h => exact h
    | _ + 12, h => exact trivial
  refine c_drawI (hmx) [[], [0], [], [2], [0, 1, 2, 3], [], [5], [], [7], [5, 6, 7, 8], [0, 1, 2, 3, 4], [0, 1, 2, 3, 4, 5, 6, 7, 8, 9, 10]] [] (by kernel_rfl) (by kernel_rfl) (fun (i : Nat) (v : Value) (G : GH) => match i with | 0 => v = .pointer (some ⟨b2, 1, none⟩) | 1 => v = vi afr | 2 => v = .pointer (some ⟨b3, 1, none⟩) | 3 => v = vi bfr | 4 => v = vi (max afr bfr) | 5 => v = .pointer (some ⟨b2, 2, none⟩) | 6 => v = vi ato | 7 => v = .pointer (some ⟨b3, 2, none⟩) | 8 => v = vi bto | 9 => v = vi (min ato bto) | 10 => v = vi (max afr bfr) | 11 => v = vi (min ato bto) | _ => True) hprm2 H ?_ ?_
  · clear H; refine (allI_cons ?_ (allI_cons ?_ (allI_cons ?_ (allI_cons ?_ (allI_cons ?_ (allI_cons ?_ (allI_cons ?_ (allI_cons ?_ (allI_cons ?_ (allI_cons ?_ (allI_cons ?_ (allI_cons ?_ allI_nil))))))))))))
    · intro S a w G1 _ hSi hc hG HT hv; have H := HT; clear hSi
      have Hb := H.full; have H := Hb; clear hc
      refine s_field fd23_1pr H wn rfl rfl ?_; clear H; intro a H
      refine wl_nil ⟨rfl, ?_⟩
      exact draw_val (by kernel_rfl) hprm2 rfl rfl HT Hb hG hv (fun _ _ h => h) (rfl) H
    · intro S a w G1 _ hSi hc hG HT hv; have H := HT; clear hSi
      obtain ⟨u15, hu15, hp15⟩ := hv 0 15 (hc 0 (by decide)) rfl
      obtain rfl : u15 = .pointer (some ⟨b2, 1, none⟩) := hp15
      have H := H.addS hu15
      have Hb := H.full; have H := Hb; clear hc
      refine s_load ty3pr H wn rfl (H.hp.ocell 2 rfl rfl) rfl ?_; clear H; intro a H
      refine wl_nil ⟨rfl, ?_⟩
      exact draw_val (by kernel_rfl) hprm2 rfl rfl HT Hb hG hv (fun _ _ h => h) (rfl) H
    · intro S a w G1 _ hSi hc hG HT hv; have H := HT; clear hSi
      have Hb := H.full; have H := Hb; clear hc
      refine s_field fd23_1pr H wn rfl rfl ?_; clear H; intro a H
      refine wl_nil ⟨rfl, ?_⟩
      exact draw_val (by kernel_rfl) hprm2 rfl rfl HT Hb hG hv (fun _ _ h => h) (rfl) H
    · intro S a w G1 _ hSi hc hG HT hv; have H := HT; clear hSi
      obtain ⟨u17, hu17, hp17⟩ := hv 2 17 (hc 2 (by decide)) rfl
      obtain rfl : u17 = .pointer (some ⟨b3, 1, none⟩) := hp17
      have H := H.addS hu17
      have Hb := H.full; have H := Hb; clear hc
      refine s_load ty3pr H wn rfl (H.hp.ocell 1 rfl rfl) rfl ?_; clear H; intro a H
      refine wl_nil ⟨rfl, ?_⟩
      exact draw_val (by kernel_rfl) hprm2 rfl rfl HT Hb hG hv (fun _ _ h => h) (rfl) H
    · intro S a w G1 _ hSi hc hG HT hv; have H := HT; clear hSi
      obtain ⟨u16, hu16, hp16⟩ := hv 1 16 (hc 1 (by decide)) rfl
      obtain rfl : u16 = vi afr := hp16
      have H := H.addS hu16
      obtain ⟨u18, hu18, hp18⟩ := hv 3 18 (hc 3 (by decide)) rfl
      obtain rfl : u18 = vi bfr := hp18
      have H := H.addS hu18
      have Hb := H.full; have H := Hb; clear hc
      refine s_max H wn rfl rfl rfl ?_; clear H; intro a H
      refine wl_nil ⟨rfl, ?_⟩
      exact draw_val (by kernel_rfl) hprm2 rfl rfl HT Hb hG hv (fun _ _ h => h) (rfl) H
    · intro S a w G1 _ hSi hc hG HT hv; have H := HT; clear hSi
      have Hb := H.full; have H := Hb; clear hc
      refine s_field fd23_2pr H wn rfl rfl ?_; clear H; intro a H
      refine wl_nil ⟨rfl, ?_⟩
      exact draw_val (by kernel_rfl) hprm2 rfl rfl HT Hb hG hv (fun _ _ h => h) (rfl) H
    · intro S a w G1 _ hSi hc hG HT hv; have H := HT; clear hSi
      obtain ⟨u20, hu20, hp20⟩ := hv 5 20 (hc 5 (by decide)) rfl
      obtain rfl : u20 = .pointer (some ⟨b2, 2, none⟩) := hp20
      have H := H.addS hu20
      have Hb := H.full; have H := Hb; clear hc
      refine s_load ty3pr H wn rfl (H.hp.ocell 2 rfl rfl) rfl ?_; clear H; intro a H
      refine wl_nil ⟨rfl, ?_⟩
      exact draw_val (by kernel_rfl) hprm2 rfl rfl HT Hb hG hv (fun _ _ h => h) (rfl) H
    · intro S a w G1 _ hSi hc hG HT hv; have H := HT; clear hSi
      have Hb := H.full; have H := Hb; clear hc
      refine s_field fd23_2pr H wn rfl rfl ?_; clear H; intro a H
      refine wl_nil ⟨rfl, ?_⟩
      exact draw_val (by kernel_rfl) hprm2 rfl rfl HT Hb hG hv (fun _ _ h => h) (rfl) H
    · intro S a w G1 _ hSi hc hG HT hv; have H := HT; clear hSi
      obtain ⟨u22, hu22, hp22⟩ := hv 7 22 (hc 7 (by decide)) rfl
      obtain rfl : u22 = .pointer (some ⟨b3, 2, none⟩) := hp22
      have H := H.addS hu22
      have Hb := H.full; have H := Hb; clear hc
      refine s_load ty3pr H wn rfl (H.hp.ocell 1 rfl rfl) rfl ?_; clear H; intro a H
      refine wl_nil ⟨rfl, ?_⟩
      exact draw_val (by kernel_rfl) hprm2 rfl rfl HT Hb hG hv (fun _ _ h => h) (rfl) H
    · intro S a w G1 _ hSi hc hG HT hv; have H := HT; clear hSi
      obtain ⟨u21, hu21, hp21⟩ := hv 6 21 (hc 6 (by decide)) rfl
      obtain rfl : u21 = vi ato := hp21
      have H := H.addS hu21
      obtain ⟨u23, hu23, hp23⟩ := hv 8 23 (hc 8 (by decide)) rfl
      obtain rfl : u23 = vi bto := hp23
      have H := H.addS hu23
      have Hb := H.full; have H := Hb; clear hc
      refine s_min H wn rfl rfl rfl ?_; clear H; intro a H
      refine wl_nil ⟨rfl, ?_⟩
      exact draw_val (by kernel_rfl) hprm2 rfl rfl HT Hb hG hv (fun _ _ h => h) (rfl) H
    · intro S a w G1 _ hSi hc hG HT hv; have H := HT; clear hSi
      obtain ⟨u19, hu19, hp19⟩ := hv 4 19 (hc 4 (by decide)) rfl
      obtain rfl : u19 = vi (max afr bfr) := hp19
      have H := H.addS hu19
      have Hb := H.full; have H := Hb; clear hc
      refine s_assign H wn rfl rfl ?_; clear H; intro a H
      refine wl_nil ⟨rfl, ?_⟩
      exact draw_val (by kernel_rfl) hprm2 rfl rfl HT Hb hG hv (fun _ _ h => h) (rfl) H
    · intro S a w G1 _ hSi hc hG HT hv; have H := HT; clear hSi
      obtain ⟨u24, hu24, hp24⟩ := hv 9 24 (hc 9 (by decide)) rfl
      obtain rfl : u24 = vi (min ato bto) := hp24
      have H := H.addS hu24
      have Hb := H.full; have H := Hb; clear hc
      refine s_assign H wn rfl rfl ?_; clear H; intro a H
      refine wl_nil ⟨rfl, ?_⟩
      exact draw_val (by kernel_rfl) hprm2 rfl rfl HT Hb hG hv (fun _ _ h => h) (rfl) H
  · clear H; intro a w G hGm2 H hv
    obtain ⟨u7, hu7, hp7⟩ := hv 10 7 (by decide) rfl
    obtain rfl : u7 = vi (max afr bfr) := hp7
    have H := H.addS hu7
    obtain ⟨u8, hu8, hp8⟩ := hv 11 8 (by decide) rfl
    obtain rfl : u8 = vi (min ato bto) := hp8
    have H := H.addS hu8
    clear hv
    refine wl_nil ⟨rfl, ?_⟩
    refine hK3 _ _ ?_; clear hK3
    refine c_seq (fun _ hK4 => ?_)
    refine c_seq (fun _ hK5 => ?_)
    by_cases c1 : af = bf
    · skip
      by_cases c2 : afr ≤ bfr
      · skip
        by_cases c3 : bfr ≤ bto
        · skip
          have hprm3 : ∀ (i : Nat) (v : Value) (G G' : GH), (∀ k o, G k = some o → G' k = some o) → (fun (i : Nat) (v : Value) (G : GH) => match i with | 0 => v = .bool true | 1 => v = .bool false | 2 => v = .bool false | 3 => v = .agg #[vi af, vi afr, vi ato] | 4 => v = .agg #[vi bf, vi bfr, vi bto] | 5 => v = .bool (decide (af = bf ∧ afr ≤ bfr ∧ bfr ≤ bto ∧ bto ≤ ato)) | 6 => v = .pointer (some ⟨b2, 0, none⟩) | 7 => v = vi af | 8 => v = .pointer (some ⟨b3, 0, none⟩) | 9 => v = vi bf | 10 => v = .bool (decide (af = bf)) | 11 => v = .bool (decide (af = bf)) | 12 => v = .pointer (some ⟨b2, 1, none⟩) | 13 => v = vi afr | 14 => v = .pointer (some ⟨b3, 1, none⟩) | 15 => v = vi bfr | 16 => v = .bool (decide (afr ≤ bfr)) | 17 => v = .bool (decide (afr ≤ bfr)) | 18 => v = .bool (decide (afr ≤ bfr)) | 19 => v = .pointer (some ⟨b3, 1, none⟩) | 20 => v = vi bfr | 21 => v = .pointer (some ⟨b3, 2, none⟩) | 22 => v = vi bto | 23 => v = .bool (decide (bfr ≤ bto)) | 24 => v = .bool (decide (bfr ≤ bto)) | 25 => v = .bool (decide (bfr ≤ bto)) | 26 => v = .pointer (some ⟨b3, 2, none⟩) | 27 => v = vi bto | 28 => v = .pointer (some ⟨b2, 2, none⟩) | 29 => v = vi ato | 30 => v = .bool (decide (bto ≤ ato)) | 31 => v = .bool (decide (bto ≤ ato)) | 32 => v = .bool false | 33 => v = .bool false | _ => True) i v G → (fun (i : Nat) (v : Value) (G : GH) => match i with | 0 => v = .bool true | 1 => v = .bool false | 2 => v = .bool false | 3 => v = .agg #[vi af, vi afr, vi ato] | 4 => v = .agg #[vi bf, vi bfr, vi bto] | 5 => v = .bool (decide (af = bf ∧ afr ≤ bfr ∧ bfr ≤ bto ∧ bto ≤ ato)) | 6 => v = .pointer (some ⟨b2, 0, none⟩) | 7 => v = vi af | 8 => v = .pointer (some ⟨b3, 0, none⟩) | 9 => v = vi bf | 10 => v = .bool (decide (af = bf)) | 11 => v = .bool (decide (af = bf)) | 12 => v = .pointer (some ⟨b2, 1, none⟩) | 13 => v = vi afr | 14 => v = .pointer (some ⟨b3, 1, none⟩) | 15 => v = vi bfr | 16 => v = .bool (decide (afr ≤ bfr)) | 17 => v = .bool (decide (afr ≤ bfr)) | 18 => v = .bool (decide (afr ≤ bfr)) | 19 => v = .pointer (some ⟨b3, 1, none⟩) | 20 => v = vi bfr | 21 => v = .pointer (some ⟨b3, 2, none⟩) | 22 => v = vi bto | 23 => v = .bool (decide (bfr ≤ bto)) | 24 => v = .bool (decide (bfr ≤ bto)) | 25 => v = .bool (decide (bfr ≤ bto)) | 26 => v = .pointer (some ⟨b3, 2, none⟩) | 27 => v = vi bto | 28 => v = .pointer (some ⟨b2, 2, none⟩) | 29 => v = vi ato | 30 => v = .bool (decide (bto ≤ ato)) | 31 => v = .bool (decide (bto ≤ ato)) | 32 => v = .bool false | 33 => v = .bool false | _ => True) i v G' := by
            intro i v G G' hm h
            match i, h with
            | 0, h => exact h
            | 1, h => exact h
            | 2, h => exact h
            | 3, h => exact h
            | 4, h => exact h
            | 5, h => exact h
            | 6, h => exact h
            | 7, h => exact h
            | 8, h => exact h
            | 9, h => exact h
            | 10, h => exact h
            | 11, h => exact h
            | 12, h => exact h
            | 13, h => exact h
            | 14, h => exact h
            | 15, h => exact h
            | 16, h => exact h
            | 17, h => exact h
            | 18, h => exact h
            | 19, h => exact h
            | 20, h => exact h
            | 21, h => exact h
            | 22, h => exact h
            | 23, h => exact h
            | 24, h => exact h
            | 25, h => exact h
            | 26, h => exact h
            | 27, h => exact h
            | 28, h => exact h
            | 29, h => exact h
            | 30, h => exact h
            | 31, h => exact h
            | 32, h => exact h
            | 33, h => exact h
            | _ + 34, h => exact trivial
          refine c_drawI (hmx) [[], [0], [0, 1], [0, 1, 2], [0, 1, 2], [0, 1, 2, 3, 4], [0, 1, 2], [0, 1, 2, 6], [0, 1, 2], [0, 1, 2, 8], [0, 1, 2, 6, 7, 8, 9], [0, 1, 2, 3, 4, 5, 6, 7, 8, 9, 10], [0, 1, 2, 3, 4, 5, 6, 7, 8, 9, 10, 11], [0, 1, 2, 3, 4, 5, 6, 7, 8, 9, 10, 11, 12], [0, 1, 2, 3, 4, 5, 6, 7, 8, 9, 10, 11], [0, 1, 2, 3, 4, 5, 6, 7, 8, 9, 10, 11, 14], [0, 1, 2, 3, 4, 5, 6, 7, 8, 9, 10, 11, 12, 13, 14, 15], [0, 1, 2, 3, 4, 5, 6, 7, 8, 9, 10, 11, 12, 13, 14, 15, 16], [0, 1, 2, 3, 4, 5, 6, 7, 8, 9, 10, 11, 12, 13, 14, 15, 16, 17], [0, 1, 2, 3, 4, 5, 6, 7, 8, 9, 10, 11, 12, 13, 14, 15, 16, 17, 18], [0, 1, 2, 3, 4, 5, 6, 7, 8, 9, 10, 11, 12, 13, 14, 15, 16, 17, 18, 19], [0, 1, 2, 3, 4, 5, 6, 7, 8, 9, 10, 11, 12, 13, 14, 15, 16, 17, 18], [0, 1, 2, 3, 4, 5, 6, 7, 8, 9, 10, 11, 12, 13, 14, 15, 16, 17, 18, 21], [0, 1, 2, 3, 4, 5, 6, 7, 8, 9, 10, 11, 12, 13, 14, 15, 16, 17, 18, 19, 20, 21, 22], [0, 1, 2, 3, 4, 5, 6, 7, 8, 9, 10, 11, 12, 13, 14, 15, 16, 17, 18, 19, 20, 21, 22, 23], [0, 1, 2, 3, 4, 5, 6, 7, 8, 9, 10, 11, 12, 13, 14, 15, 16, 17, 18, 19, 20, 21, 22, 23, 24], [0, 1, 2, 3, 4, 5, 6, 7, 8, 9, 10, 11, 12, 13, 14, 15, 16, 17, 18, 19, 20, 21, 22, 23, 24, 25], [0, 1, 2, 3, 4, 5, 6, 7, 8, 9, 10, 11, 12, 13, 14, 15, 16, 17, 18, 19, 20, 21, 22, 23, 24, 25, 26], [0, 1, 2, 3, 4, 5, 6, 7, 8, 9, 10, 11, 12, 13, 14, 15, 16, 17, 18, 19, 20, 21, 22, 23, 24, 25], [0, 1, 2, 3, 4, 5, 6, 7, 8, 9, 10, 11, 12, 13, 14, 15, 16, 17, 18, 19, 20, 21, 22, 23, 24, 25, 28], [0, 1, 2, 3, 4, 5, 6, 7, 8, 9, 10, 11, 12, 13, 14, 15, 16, 17, 18, 19, 20, 21, 22, 23, 24, 25, 26, 27, 28, 29], [0, 1, 2, 3, 4, 5, 6, 7, 8, 9, 10, 11, 12, 13, 14, 15, 16, 17, 18, 19, 20, 21, 22, 23, 24, 25, 26, 27, 28, 29, 30], [0, 1, 2, 3, 4, 5, 6, 7, 8, 9, 10, 11, 12, 13, 14, 15, 16, 17, 18, 19, 20, 21, 22, 23, 24, 25, 26, 27, 28, 29, 30, 31], [0, 1, 2, 3, 4, 5, 6, 7, 8, 9, 10, 11, 12, 13, 14, 15, 16, 17, 18, 19, 20, 21, 22, 23, 24, 25, 26, 27, 28, 29, 30, 31, 32]] [] (by kernel_rfl) (by kernel_rfl) (fun (i : Nat) (v : Value) (G : GH) => match i with | 0 => v = .bool true | 1 => v = .bool false | 2 => v = .bool false | 3 => v = .agg #[vi af, vi afr, vi ato] | 4 => v = .agg #[vi bf, vi bfr, vi bto] | 5 => v = .bool (decide (af = bf ∧ afr ≤ bfr ∧ bfr ≤ bto ∧ bto ≤ ato)) | 6 => v = .pointer (some ⟨b2, 0, none⟩) | 7 => v = vi af | 8 => v = .pointer (some ⟨b3, 0, none⟩) | 9 => v = vi bf | 10 => v = .bool (decide (af = bf)) | 11 => v = .bool (decide (af = bf)) | 12 => v = .pointer (some ⟨b2, 1, none⟩) | 13 => v = vi afr | 14 => v = .pointer (some ⟨b3, 1, none⟩) | 15 => v = vi bfr | 16 => v = .bool (decide (afr ≤ bfr)) | 17 => v = .bool (decide (afr ≤ bfr)) | 18 => v = .bool (decide (afr ≤ bfr)) | 19 => v = .pointer (some ⟨b3, 1, none⟩) | 20 => v = vi bfr | 21 => v = .pointer (some ⟨b3, 2, none⟩) | 22 => v = vi bto | 23 => v = .bool (decide (bfr ≤ bto)) | 24 => v = .bool (decide (bfr ≤ bto)) | 25 => v = .bool (decide (bfr ≤ bto)) | 26 => v = .pointer (some ⟨b3, 2, none⟩) | 27 => v = vi bto | 28 => v = .pointer (some ⟨b2, 2, none⟩) | 29 => v = vi ato | 30 => v = .bool (decide (bto ≤ ato)) | 31 => v = .bool (decide (bto ≤ ato)) | 32 => v = .bool false | 33 => v = .bool false | _ => True) hprm3 H ?_ ?_
          · clear H; refine (allI_cons ?_ (allI_cons ?_ (allI_cons ?_ (allI_cons ?_ (allI_cons ?_ (allI_cons ?_ (allI_cons ?_ (allI_cons ?_ (allI_cons ?_ (allI_cons ?_ (allI_cons ?_ (allI_cons ?_ (allI_cons ?_ (allI_cons ?_ (allI_cons ?_ (allI_cons ?_ (allI_cons ?_ (allI_cons ?_ (allI_cons ?_ (allI_cons ?_ (allI_cons ?_ (allI_cons ?_ (allI_cons ?_ (allI_cons ?_ (allI_cons ?_ (allI_cons ?_ (allI_cons ?_ (allI_cons ?_ (allI_cons ?_ (allI_cons ?_ (allI_cons ?_ (allI_cons ?_ (allI_cons ?_ (allI_cons ?_ allI_nil))))))))))))))))))))))))))))))))))
            · intro S a w G1 _ hSi hc hG HT hv; have H := HT; clear hSi
              have Hb := H.full; have H := Hb; clear hc
              refine s_call en7pr H wn rfl (known15 _ _ H.hp.ro) rfl ?_; clear H
              rintro v25 G25 a w rfl hGm25 H
              refine wl_nil ⟨rfl, ?_⟩
              exact draw_val (by kernel_rfl) hprm3 rfl rfl HT Hb hG hv hGm25 (rfl) H
            · intro S a w G1 _ hSi hc hG HT hv; have H := HT; clear hSi
              obtain ⟨u25, hu25, hp25⟩ := hv 0 25 (hc 0 (by decide)) rfl
              obtain rfl : u25 = .bool true := hp25
              have H := H.addS hu25
              have Hb := H.full; have H := Hb; clear hc
              refine s_not H wn rfl rfl ?_; clear H; intro a H
              refine wl_nil ⟨rfl, ?_⟩
              exact draw_val (by kernel_rfl) hprm3 rfl rfl HT Hb hG hv (fun _ _ h => h) (rfl) H
            · intro S a w G1 _ hSi hc hG HT hv; have H := HT; clear hSi
              obtain ⟨u26, hu26, hp26⟩ := hv 1 26 (hc 1 (by decide)) rfl
              obtain rfl : u26 = .bool false := hp26
              have H := H.addS hu26
              have Hb := H.full; have H := Hb; clear hc
              refine s_move H wn rfl rfl ?_; clear H; intro a H
              refine wl_nil ⟨rfl, ?_⟩
              exact draw_val (by kernel_rfl) hprm3 rfl rfl HT Hb hG hv (fun _ _ h => h) (rfl) H
            · intro S a w G1 _ hSi hc hG HT hv; have H := HT; clear hSi
              obtain ⟨u27, hu27, hp27⟩ := hv 2 27 (hc 2 (by decide)) rfl
              obtain rfl : u27 = .bool false := hp27
              have H := H.addS hu27
              have Hb := H.full; have H := Hb; clear hc
              refine s_loada ty23pr (cs := [_, _, _]) H (wg H rfl rfl rfl) rfl rfl (H.hp.ocells 2 rfl rfl) rfl ?_; clear H; intro a H
              refine wl_nil ⟨rfl, ?_⟩
              exact draw_val (by kernel_rfl) hprm3 rfl rfl HT Hb hG hv (fun _ _ h => h) (rfl) H
            · intro S a w G1 _ hSi hc hG HT hv; have H := HT; clear hSi
              obtain ⟨u27, hu27, hp27⟩ := hv 2 27 (hc 2 (by decide)) rfl
              obtain rfl : u27 = .bool false := hp27
              have H := H.addS hu27
              have Hb := H.full; have H := Hb; clear hc
              refine s_loada ty23pr (cs := [_, _, _]) H (wg H rfl rfl rfl) rfl rfl (H.hp.ocells 1 rfl rfl) rfl ?_; clear H; intro a H
              refine wl_nil ⟨rfl, ?_⟩
              exact draw_val (by kernel_rfl) hprm3 rfl rfl HT Hb hG hv (fun _ _ h => h) (rfl) H
            · intro S a w G1 _ hSi hc hG HT hv; have H := HT; clear hSi
              obtain ⟨u28, hu28, hp28⟩ := hv 3 28 (hc 3 (by decide)) rfl
              obtain rfl : u28 = .agg #[vi af, vi afr, vi ato] := hp28
              have H := H.addS hu28
              obtain ⟨u29, hu29, hp29⟩ := hv 4 29 (hc 4 (by decide)) rfl
              obtain rfl : u29 = .agg #[vi bf, vi bfr, vi bto] := hp29
              have H := H.addS hu29
              obtain ⟨u27, hu27, hp27⟩ := hv 2 27 (hc 2 (by decide)) rfl
              obtain rfl : u27 = .bool false := hp27
              have H := H.addS hu27
              have Hb := H.full; have H := Hb; clear hc
              refine s_call en8pr H (wg H rfl rfl rfl) rfl (contains_spec _ _ H.hp.ro af afr ato bf bfr bto) rfl ?_; clear H
              rintro v30 G30 a w ⟨rfl, -⟩ hGm30 H
              refine wl_nil ⟨rfl, ?_⟩
              exact draw_val (by kernel_rfl) hprm3 rfl rfl HT Hb hG hv hGm30 (rfl) H
            · intro S a w G1 _ hSi hc hG HT hv; have H := HT; clear hSi
              obtain ⟨u27, hu27, hp27⟩ := hv 2 27 (hc 2 (by decide)) rfl
              obtain rfl : u27 = .bool false := hp27
              have H := H.addS hu27
              have Hb := H.full; have H := Hb; clear hc
              refine s_field fd23_0pr H (wg H rfl rfl rfl) rfl rfl ?_; clear H; intro a H
              refine wl_nil ⟨rfl, ?_⟩
              exact draw_val (by kernel_rfl) hprm3 rfl rfl HT Hb hG hv (fun _ _ h => h) (rfl) H
            · intro S a w G1 _ hSi hc hG HT hv; have H := HT; clear hSi
              obtain ⟨u31, hu31, hp31⟩ := hv 6 31 (hc 6 (by decide)) rfl
              obtain rfl : u31 = .pointer (some ⟨b2, 0, none⟩) := hp31
              have H := H.addS hu31
              obtain ⟨u27, hu27, hp27⟩ := hv 2 27 (hc 2 (by decide)) rfl
              obtain rfl : u27 = .bool false := hp27
              have H := H.addS hu27
              have Hb := H.full; have H := Hb; clear hc
              refine s_load ty3pr H (wg H rfl rfl rfl) rfl (H.hp.ocell 2 rfl rfl) rfl ?_; clear H; intro a H
              refine wl_nil ⟨rfl, ?_⟩
              exact draw_val (by kernel_rfl) hprm3 rfl rfl HT Hb hG hv (fun _ _ h => h) (rfl) H
            · intro S a w G1 _ hSi hc hG HT hv; have H := HT; clear hSi
              obtain ⟨u27, hu27, hp27⟩ := hv 2 27 (hc 2 (by decide)) rfl
              obtain rfl : u27 = .bool false := hp27
              have H := H.addS hu27
              have Hb := H.full; have H := Hb; clear hc
              refine s_field fd23_0pr H (wg H rfl rfl rfl) rfl rfl ?_; clear H; intro a H
              refine wl_nil ⟨rfl, ?_⟩
              exact draw_val (by kernel_rfl) hprm3 rfl rfl HT Hb hG hv (fun _ _ h => h) (rfl) H
            · intro S a w G1 _ hSi hc hG HT hv; have H := HT; clear hSi
              obtain ⟨u33, hu33, hp33⟩ := hv 8 33 (hc 8 (by decide)) rfl
              obtain rfl : u33 = .pointer (some ⟨b3, 0, none⟩) := hp33
              have H := H.addS hu33
              obtain ⟨u27, hu27, hp27⟩ := hv 2 27 (hc 2 (by decide)) rfl
              obtain rfl : u27 = .bool false := hp27
              have H := H.addS hu27
              have Hb := H.full; have H := Hb; clear hc
              refine s_load ty3pr H (wg H rfl rfl rfl) rfl (H.hp.ocell 1 rfl rfl) rfl ?_; clear H; intro a H
              refine wl_nil ⟨rfl, ?_⟩
              exact draw_val (by kernel_rfl) hprm3 rfl rfl HT Hb hG hv (fun _ _ h => h) (rfl) H
            · intro S a w G1 _ hSi hc hG HT hv; have H := HT; clear hSi
              obtain ⟨u32, hu32, hp32⟩ := hv 7 32 (hc 7 (by decide)) rfl
              obtain rfl : u32 = vi af := hp32
              have H := H.addS hu32
              obtain ⟨u34, hu34, hp34⟩ := hv 9 34 (hc 9 (by decide)) rfl
              obtain rfl : u34 = vi bf := hp34
              have H := H.addS hu34
              obtain ⟨u27, hu27, hp27⟩ := hv 2 27 (hc 2 (by decide)) rfl
              obtain rfl : u27 = .bool false := hp27
              have H := H.addS hu27
              have Hb := H.full; have H := Hb; clear hc
              refine s_cmp H (wg H rfl rfl rfl) rfl rfl rfl rfl ?_; clear H; intro a H
              refine wl_nil ⟨rfl, ?_⟩
              exact draw_val (by kernel_rfl) hprm3 rfl rfl HT Hb hG hv (fun _ _ h => h) (rfl) H
            · intro S a w G1 _ hSi hc hG HT hv; have H := HT; clear hSi
              obtain ⟨u35, hu35, hp35⟩ := hv 10 35 (hc 10 (by decide)) rfl
              obtain rfl : u35 = .bool (decide (af = bf)) := hp35
              have H := H.addS hu35
              obtain ⟨u27, hu27, hp27⟩ := hv 2 27 (hc 2 (by decide)) rfl
              obtain rfl : u27 = .bool false := hp27
              have H := H.addS hu27
              have Hb := H.full; have H := Hb; clear hc
              refine s_move H (wg H rfl rfl rfl) rfl rfl ?_; clear H; intro a H
              refine wl_nil ⟨rfl, ?_⟩
              exact draw_val (by kernel_rfl) hprm3 rfl rfl HT Hb hG hv (fun _ _ h => h) (rfl) H
            · intro S a w G1 _ hSi hc hG HT hv; have H := HT; clear hSi
              obtain ⟨u36, hu36, hp36⟩ := hv 11 36 (hc 11 (by decide)) rfl
              obtain rfl : u36 = .bool (decide (af = bf)) := hp36
              have H := H.addS hu36
              have Hb := H.full; have H := Hb; clear hc
              refine s_field fd23_1pr H (wg H rfl rfl (decide_eq_true c1)) rfl rfl ?_; clear H; intro a H
              refine wl_nil ⟨rfl, ?_⟩
              exact draw_val (by kernel_rfl) hprm3 rfl rfl HT Hb hG hv (fun _ _ h => h) (rfl) H
            · intro S a w G1 _ hSi hc hG HT hv; have H := HT; clear hSi
              obtain ⟨u37, hu37, hp37⟩ := hv 12 37 (hc 12 (by decide)) rfl
              obtain rfl : u37 = .pointer (some ⟨b2, 1, none⟩) := hp37
              have H := H.addS hu37
              obtain ⟨u36, hu36, hp36⟩ := hv 11 36 (hc 11 (by decide)) rfl
              obtain rfl : u36 = .bool (decide (af = bf)) := hp36
              have H := H.addS hu36
              have Hb := H.full; have H := Hb; clear hc
              refine s_load ty3pr H (wg H rfl rfl (decide_eq_true c1)) rfl (H.hp.ocell 2 rfl rfl) rfl ?_; clear H; intro a H
              refine wl_nil ⟨rfl, ?_⟩
              exact draw_val (by kernel_rfl) hprm3 rfl rfl HT Hb hG hv (fun _ _ h => h) (rfl) H
            · intro S a w G1 _ hSi hc hG HT hv; have H := HT; clear hSi
              obtain ⟨u36, hu36, hp36⟩ := hv 11 36 (hc 11 (by decide)) rfl
              obtain rfl : u36 = .bool (decide (af = bf)) := hp36
              have H := H.addS hu36
              have Hb := H.full; have H := Hb; clear hc
              refine s_field fd23_1pr H (wg H rfl rfl (decide_eq_true c1)) rfl rfl ?_; clear H; intro a H
              refine wl_nil ⟨rfl, ?_⟩
              exact draw_val (by kernel_rfl) hprm3 rfl rfl HT Hb hG hv (fun _ _ h => h) (rfl) H
            · intro S a w G1 _ hSi hc hG HT hv; have H := HT; clear hSi
              obtain ⟨u39, hu39, hp39⟩ := hv 14 39 (hc 14 (by decide)) rfl
              obtain rfl : u39 = .pointer (some ⟨b3, 1, none⟩) := hp39
              have H := H.addS hu39
              obtain ⟨u36, hu36, hp36⟩ := hv 11 36 (hc 11 (by decide)) rfl
              obtain rfl : u36 = .bool (decide (af = bf)) := hp36
              have H := H.addS hu36
              have Hb := H.full; have H := Hb; clear hc
              refine s_load ty3pr H (wg H rfl rfl (decide_eq_true c1)) rfl (H.hp.ocell 1 rfl rfl) rfl ?_; clear H; intro a H
              refine wl_nil ⟨rfl, ?_⟩
              exact draw_val (by kernel_rfl) hprm3 rfl rfl HT Hb hG hv (fun _ _ h => h) (rfl) H
            · intro S a w G1 _ hSi hc hG HT hv; have H := HT; clear hSi
              obtain ⟨u38, hu38, hp38⟩ := hv 13 38 (hc 13 (by decide)) rfl
              obtain rfl : u38 = vi afr := hp38
              have H := H.addS hu38
              obtain ⟨u40, hu40, hp40⟩ := hv 15 40 (hc 15 (by decide)) rfl
              obtain rfl : u40 = vi bfr := hp40
              have H := H.addS hu40
              obtain ⟨u36, hu36, hp36⟩ := hv 11 36 (hc 11 (by decide)) rfl
              obtain rfl : u36 = .bool (decide (af = bf)) := hp36
              have H := H.addS hu36
              have Hb := H.full; have H := Hb; clear hc
              refine s_cmp H (wg H rfl rfl (decide_eq_true c1)) rfl rfl rfl rfl ?_; clear H; intro a H
              refine wl_nil ⟨rfl, ?_⟩
              exact draw_val (by kernel_rfl) hprm3 rfl rfl HT Hb hG hv (fun _ _ h => h) (rfl) H
            · intro S a w G1 _ hSi hc hG HT hv; have H := HT; clear hSi
              obtain ⟨u36, hu36, hp36⟩ := hv 11 36 (hc 11 (by decide)) rfl
              obtain rfl : u36 = .bool (decide (af = bf)) := hp36
              have H := H.addS hu36
              obtain ⟨u41, hu41, hp41⟩ := hv 16 41 (hc 16 (by decide)) rfl
              obtain rfl : u41 = .bool (decide (afr ≤ bfr)) := hp41
              have H := H.addS hu41
              obtain ⟨u27, hu27, hp27⟩ := hv 2 27 (hc 2 (by decide)) rfl
              obtain rfl : u27 = .bool false := hp27
              have H := H.addS hu27
              have Hb := H.full; have H := Hb; clear hc
              refine s_pick_t H (wg H rfl rfl rfl) rfl (decide_eq_true c1) rfl rfl ?_; clear H; intro a H
              refine wl_nil ⟨rfl, ?_⟩
              exact draw_val (by kernel_rfl) hprm3 rfl rfl HT Hb hG hv (fun _ _ h => h) (rfl) H
            · intro S a w G1 _ hSi hc hG HT hv; have H := HT; clear hSi
              obtain ⟨u42, hu42, hp42⟩ := hv 17 42 (hc 17 (by decide)) rfl
              obtain rfl : u42 = .bool (decide (afr ≤ bfr)) := hp42
              have H := H.addS hu42
              obtain ⟨u27, hu27, hp27⟩ := hv 2 27 (hc 2 (by decide)) rfl
              obtain rfl : u27 = .bool false := hp27
              have H := H.addS hu27
              have Hb := H.full; have H := Hb; clear hc
              refine s_move H (wg H rfl rfl rfl) rfl rfl ?_; clear H; intro a H
              refine wl_nil ⟨rfl, ?_⟩
              exact draw_val (by kernel_rfl) hprm3 rfl rfl HT Hb hG hv (fun _ _ h => h) (rfl) H
            · intro S a w G1 _ hSi hc hG HT hv; have H := HT; clear hSi
              obtain ⟨u43, hu43, hp43⟩ := hv 18 43 (hc 18 (by decide)) rfl
              obtain rfl : u43 = .bool (decide (afr ≤ bfr)) := hp43
              have H := H.addS hu43
              have Hb := H.full; have H := Hb; clear hc
              refine s_field fd23_1pr H (wg H rfl rfl (decide_eq_true c2)) rfl rfl ?_; clear H; intro a H
              refine wl_nil ⟨rfl, ?_⟩
              exact draw_val (by kernel_rfl) hprm3 rfl rfl HT Hb hG hv (fun _ _ h => h) (rfl) H
            · intro S a w G1 _ hSi hc hG HT hv; have H := HT; clear hSi
              obtain ⟨u44, hu44, hp44⟩ := hv 19 44 (hc 19 (by decide)) rfl
              obtain rfl : u44 = .pointer (some ⟨b3, 1, none⟩) := hp44
              have H := H.addS hu44
              obtain ⟨u43, hu43, hp43⟩ := hv 18 43 (hc 18 (by decide)) rfl
              obtain rfl : u43 = .bool (decide (afr ≤ bfr)) := hp43
              have H := H.addS hu43
              have Hb := H.full; have H := Hb; clear hc
              refine s_load ty3pr H (wg H rfl rfl (decide_eq_true c2)) rfl (H.hp.ocell 1 rfl rfl) rfl ?_; clear H; intro a H
              refine wl_nil ⟨rfl, ?_⟩
              exact draw_val (by kernel_rfl) hprm3 rfl rfl HT Hb hG hv (fun _ _ h => h) (rfl) H
            · intro S a w G1 _ hSi hc hG HT hv; have H := HT; clear hSi
              obtain ⟨u43, hu43, hp43⟩ := hv 18 43 (hc 18 (by decide)) rfl
              obtain rfl : u43 = .bool (decide (afr ≤ bfr)) := hp43
              have H := H.addS hu43
              have Hb := H.full; have H := Hb; clear hc
              refine s_field fd23_2pr H (wg H rfl rfl (decide_eq_true c2)) rfl rfl ?_; clear H; intro a H
              refine wl_nil ⟨rfl, ?_⟩
              exact draw_val (by kernel_rfl) hprm3 rfl rfl HT Hb hG hv (fun _ _ h => h) (rfl) H
            · intro S a w G1 _ hSi hc hG HT hv; have H := HT; clear hSi
              obtain ⟨u46, hu46, hp46⟩ := hv 21 46 (hc 21 (by decide)) rfl
              obtain rfl : u46 = .pointer (some ⟨b3, 2, none⟩) := hp46
              have H := H.addS hu46
              obtain ⟨u43, hu43, hp43⟩ := hv 18 43 (hc 18 (by decide)) rfl
              obtain rfl : u43 = .bool (decide (afr ≤ bfr)) := hp43
              have H := H.addS hu43
              have Hb := H.full; have H := Hb; clear hc
              refine s_load ty3pr H (wg H rfl rfl (decide_eq_true c2)) rfl (H.hp.ocell 1 rfl rfl) rfl ?_; clear H; intro a H
              refine wl_nil ⟨rfl, ?_⟩
              exact draw_val (by kernel_rfl) hprm3 rfl rfl HT Hb hG hv (fun _ _ h => h) (rfl) H
            · intro S a w G1 _ hSi hc hG HT hv; have H := HT; clear hSi
              obtain ⟨u45, hu45, hp45⟩ := hv 20 45 (hc 20 (by decide)) rfl
              obtain rfl : u45 = vi bfr := hp45
              have H := H.addS hu45
              obtain ⟨u47, hu47, hp47⟩ := hv 22 47 (hc 22 (by decide)) rfl
              obtain rfl : u47 = vi bto := hp47
              have H := H.addS hu47
              obtain ⟨u43, hu43, hp43⟩ := hv 18 43 (hc 18 (by decide)) rfl
              obtain rfl : u43 = .bool (decide (afr ≤ bfr)) := hp43
              have H := H.addS hu43
              have Hb := H.full; have H := Hb; clear hc
              refine s_cmp H (wg H rfl rfl (decide_eq_true c2)) rfl rfl rfl rfl ?_; clear H; intro a H
              refine wl_nil ⟨rfl, ?_⟩
              exact draw_val (by kernel_rfl) hprm3 rfl rfl HT Hb hG hv (fun _ _ h => h) (rfl) H
            · intro S a w G1 _ hSi hc hG HT hv; have H := HT; clear hSi
              obtain ⟨u43, hu43, hp43⟩ := hv 18 43 (hc 18 (by decide)) rfl
              obtain rfl : u43 = .bool (decide (afr ≤ bfr)) := hp43
              have H := H.addS hu43
              obtain ⟨u48, hu48, hp48⟩ := hv 23 48 (hc 23 (by decide)) rfl
              obtain rfl : u48 = .bool (decide (bfr ≤ bto)) := hp48
              have H := H.addS hu48
              obtain ⟨u27, hu27, hp27⟩ := hv 2 27 (hc 2 (by decide)) rfl
              obtain rfl : u27 = .bool false := hp27
              have H := H.addS hu27
              have Hb := H.full; have H := Hb; clear hc
              refine s_pick_t H (wg H rfl rfl rfl) rfl (decide_eq_true c2) rfl rfl ?_; clear H; intro a H
              refine wl_nil ⟨rfl, ?_⟩
              exact draw_val (by kernel_rfl) hprm3 rfl rfl HT Hb hG hv (fun _ _ h => h) (rfl) H
            · intro S a w G1 _ hSi hc hG HT hv; have H := HT; clear hSi
              obtain ⟨u49, hu49, hp49⟩ := hv 24 49 (hc 24 (by decide)) rfl
              obtain rfl : u49 = .bool (decide (bfr ≤ bto)) := hp49
              have H := H.addS hu49
              obtain ⟨u27, hu27, hp27⟩ := hv 2 27 (hc 2 (by decide)) rfl
              obtain rfl : u27 = .bool false := hp27
              have H := H.addS hu27
              have Hb := H.full; have H := Hb; clear hc
              refine s_move H (wg H rfl rfl rfl) rfl rfl ?_; clear H; intro a H
              refine wl_nil ⟨rfl, ?_⟩
              exact draw_val (by kernel_rfl) hprm3 rfl rfl HT Hb hG hv (fun _ _ h => h) (rfl) H
            · intro S a w G1 _ hSi hc hG HT hv; have H := HT; clear hSi
              obtain ⟨u50, hu50, hp50⟩ := hv 25 50 (hc 25 (by decide)) rfl
              obtain rfl : u50 = .bool (decide (bfr ≤ bto)) := hp50
              have H := H.addS hu50
              have Hb := H.full; have H := Hb; clear hc
              refine s_field fd23_2pr H (wg H rfl rfl (decide_eq_true c3)) rfl rfl ?_; clear H; intro a H
              refine wl_nil ⟨rfl, ?_⟩
              exact draw_val (by kernel_rfl) hprm3 rfl rfl HT Hb hG hv (fun _ _ h => h) (rfl) H
            · intro S a w G1 _ hSi hc hG HT hv; have H := HT; clear hSi
              obtain ⟨u51, hu51, hp51⟩ := hv 26 51 (hc 26 (by decide)) rfl
              obtain rfl : u51 = .pointer (some ⟨b3, 2, none⟩) := hp51
              have H := H.addS hu51
              obtain ⟨u50, hu50, hp50⟩ := hv 25 50 (hc 25 (by decide)) rfl
              obtain rfl : u50 = .bool (decide (bfr ≤ bto)) := hp50
              have H := H.addS hu50
              have Hb := H.full; have H := Hb; clear hc
              refine s_load ty3pr H (wg H rfl rfl (decide_eq_true c3)) rfl (H.hp.ocell 1 rfl rfl) rfl ?_; clear H; intro a H
              refine wl_nil ⟨rfl, ?_⟩
              exact draw_val (by kernel_rfl) hprm3 rfl rfl HT Hb hG hv (fun _ _ h => h) (rfl) H
            · intro S a w G1 _ hSi hc hG HT hv; have H := HT; clear hSi
              obtain ⟨u50, hu50, hp50⟩ := hv 25 50 (hc 25 (by decide)) rfl
              obtain rfl : u50 = .bool (decide (bfr ≤ bto)) := hp50
              have H := H.addS hu50
              have Hb := H.full; have H := Hb; clear hc
              refine s_field fd23_2pr H (wg H rfl rfl (decide_eq_true c3)) rfl rfl ?_; clear H; intro a H
              refine wl_nil ⟨rfl, ?_⟩
              exact draw_val (by kernel_rfl) hprm3 rfl rfl HT Hb hG hv (fun _ _ h => h) (rfl) H
            · intro S a w G1 _ hSi hc hG HT hv; have H := HT; clear hSi
              obtain ⟨u53, hu53, hp53⟩ := hv 28 53 (hc 28 (by decide)) rfl
              obtain rfl : u53 = .pointer (some ⟨b2, 2, none⟩) := hp53
              have H := H.addS hu53
              obtain ⟨u50, hu50, hp50⟩ := hv 25 50 (hc 25 (by decide)) rfl
              obtain rfl : u50 = .bool (decide (bfr ≤ bto)) := hp50
              have H := H.addS hu50
              have Hb := H.full; have H := Hb; clear hc
              refine s_load ty3pr H (wg H rfl rfl (decide_eq_true c3)) rfl (H.hp.ocell 2 rfl rfl) rfl ?_; clear H; intro a H
              refine wl_nil ⟨rfl, ?_⟩
              exact draw_val (by kernel_rfl) hprm3 rfl rfl HT Hb hG hv (fun _ _ h => h) (rfl) H
            · intro S a w G1 _ hSi hc hG HT hv; have H := HT; clear hSi
              obtain ⟨u52, hu52, hp52⟩ := hv 27 52 (hc 27 (by decide)) rfl
              obtain rfl : u52 = vi bto := hp52
              have H := H.addS hu52
              obtain ⟨u54, hu54, hp54⟩ := hv 29 54 (hc 29 (by decide)) rfl
              obtain rfl : u54 = vi ato := hp54
              have H := H.addS hu54
              obtain ⟨u50, hu50, hp50⟩ := hv 25 50 (hc 25 (by decide)) rfl
              obtain rfl : u50 = .bool (decide (bfr ≤ bto)) := hp50
              have H := H.addS hu50
              have Hb := H.full; have H := Hb; clear hc
              refine s_cmp H (wg H rfl rfl (decide_eq_true c3)) rfl rfl rfl rfl ?_; clear H; intro a H
              refine wl_nil ⟨rfl, ?_⟩
              exact draw_val (by kernel_rfl) hprm3 rfl rfl HT Hb hG hv (fun _ _ h => h) (rfl) H
            · intro S a w G1 _ hSi hc hG HT hv; have H := HT; clear hSi
              obtain ⟨u50, hu50, hp50⟩ := hv 25 50 (hc 25 (by decide)) rfl
              obtain rfl : u50 = .bool (decide (bfr ≤ bto)) := hp50
              have H := H.addS hu50
              obtain ⟨u55, hu55, hp55⟩ := hv 30 55 (hc 30 (by decide)) rfl
              obtain rfl : u55 = .bool (decide (bto ≤ ato)) := hp55
              have H := H.addS hu55
              obtain ⟨u27, hu27, hp27⟩ := hv 2 27 (hc 2 (by decide)) rfl
              obtain rfl : u27 = .bool false := hp27
              have H := H.addS hu27
              have Hb := H.full; have H := Hb; clear hc
              refine s_pick_t H (wg H rfl rfl rfl) rfl (decide_eq_true c3) rfl rfl ?_; clear H; intro a H
              refine wl_nil ⟨rfl, ?_⟩
              exact draw_val (by kernel_rfl) hprm3 rfl rfl HT Hb hG hv (fun _ _ h => h) (rfl) H
            · intro S a w G1 _ hSi hc hG HT hv; have H := HT; clear hSi
              obtain ⟨u30, hu30, hp30⟩ := hv 5 30 (hc 5 (by decide)) rfl
              obtain rfl : u30 = .bool (decide (af = bf ∧ afr ≤ bfr ∧ bfr ≤ bto ∧ bto ≤ ato)) := hp30
              have H := H.addS hu30
              obtain ⟨u56, hu56, hp56⟩ := hv 31 56 (hc 31 (by decide)) rfl
              obtain rfl : u56 = .bool (decide (bto ≤ ato)) := hp56
              have H := H.addS hu56
              obtain ⟨u27, hu27, hp27⟩ := hv 2 27 (hc 2 (by decide)) rfl
              obtain rfl : u27 = .bool false := hp27
              have H := H.addS hu27
              have Hb := H.full; have H := Hb; clear hc
              refine s_neqb un4pr H (wg H rfl rfl rfl) rfl rfl rfl ?_; clear H; intro a H
              refine wl_nil ⟨rfl, ?_⟩
              exact draw_val (by kernel_rfl) hprm3 rfl rfl HT Hb hG hv (fun _ _ h => h) (by first | (simp [c1]; done) | (simp [c1, c2]; done) | (simp [c1, c2, c3]; done)) H
            · intro S a w G1 _ hSi hc hG HT hv; have H := HT; clear hSi
              obtain ⟨u27, hu27, hp27⟩ := hv 2 27 (hc 2 (by decide)) rfl
              obtain rfl : u27 = .bool false := hp27
              have H := H.addS hu27
              obtain ⟨u57, hu57, hp57⟩ := hv 32 57 (hc 32 (by decide)) rfl
              obtain rfl : u57 = .bool false := hp57
              have H := H.addS hu57
              have Hb := H.full; have H := Hb; clear hc
              refine s_pick_f H wn rfl rfl rfl rfl ?_; clear H; intro a H
              refine wl_nil ⟨rfl, ?_⟩
              exact draw_val (by kernel_rfl) hprm3 rfl rfl HT Hb hG hv (fun _ _ h => h) (rfl) H
          · clear H; intro a w G hGm3 H hv
            obtain ⟨u58, hu58, hp58⟩ := hv 33 58 (by decide) rfl
            obtain rfl : u58 = .bool false := hp58
            have H := H.addS hu58
            clear hv
            refine wl_nil ⟨rfl, ?_⟩
            refine hK5 _ _ ?_; clear hK5
            refine c_cond_f H rfl rfl ?_
            refine c_skip ?_
            refine hK4 _ _ ?_; clear hK4
            refine c_seq (fun _ hK6 => ?_)
            refine c_seq (fun _ hK7 => ?_)
            refine c_region ?_
            refine s_field fd23_0pr H wn rfl rfl ?_; clear H; intro a H
            refine s_load ty3pr H wn rfl (H.hp.ocell 2 rfl rfl) rfl ?_; clear H; intro a H
            refine s_field fd23_0pr H wn rfl rfl ?_; clear H; intro a H
            refine s_load ty3pr H wn rfl (H.hp.ocell 1 rfl rfl) rfl ?_; clear H; intro a H
            refine s_cmp H wn rfl rfl rfl rfl ?_; clear H; intro a H
            refine s_move H wn rfl rfl ?_; clear H; intro a H
            refine s_split H 64 rfl ?_ ?_
            · intro h64
              try have p64 := of_decide_eq_true h64
              refine s_skip H rfl rfl h64 rfl ?_; clear H; intro a H
              refine s_skip H rfl rfl h64 rfl ?_; clear H; intro a H
              refine s_skip H rfl rfl h64 rfl ?_; clear H; intro a H
              refine s_pick_t H wn rfl h64 rfl rfl ?_; clear H; intro a H
              refine wl_nil ?_
              refine hK7 _ _ ?_; clear hK7
              refine c_cond_t H rfl rfl ?_
              refine c_seq (fun _ hK8 => ?_)
              have hm : meetS (af, afr, ato) (bf, bfr, bto) = ((0, 0, 0), false) := by
                unfold meetS
                rw [if_pos]
                first
                  | exact .inl p64
                  | exact .inr p68
              rw [hm] at H
              refine c_region ?_
              refine s_move H wn rfl rfl ?_; clear H; intro a H
              refine s_not H wn rfl rfl ?_; clear H; intro a H
              refine s_move H wn rfl rfl ?_; clear H; intro a H
              refine s_split H 71 rfl ?_ ?_
              · intro h71
                try have p71 := of_decide_eq_true h71
                refine s_loada ty23pr (cs := [_, _, _]) H (wg H rfl rfl h71) rfl rfl (H.hp.ocells 0 rfl rfl) rfl ?_; clear H; intro a H
                refine s_build sr23pr [_, _, _] H (wg H rfl rfl h71) rfl rfl rfl rfl ?_; clear H; intro a H
                refine s_eqagg eqi23pr H (wg H rfl rfl h71) rfl rfl rfl rfl ?_; clear H; intro a H
                refine s_pick_t H wn rfl h71 rfl rfl ?_; clear H; intro a H
                refine s_assign H wn rfl rfl ?_; clear H; intro a H
                refine wl_nil ?_
                refine hK8 _ _ ?_; clear hK8
                refine c_ret ?_
                refine (leave1 H Try.results3 (.cons (rv_tmp H rfl) .nil) ?_).1
                exact H.hp.ret (by first | rfl | simp [getI])
              · intro h71
                try have p71 := of_decide_eq_false h71
                exact absurd h71 (by simp)
            · intro h64
              try have p64 := of_decide_eq_false h64
              refine s_move H (wg H rfl rfl h64) rfl rfl ?_; clear H; intro a H
              refine s_move H (wg H rfl rfl h64) rfl rfl ?_; clear H; intro a H
              refine s_cmp H (wg H rfl rfl h64) rfl rfl rfl rfl ?_; clear H; intro a H
              refine s_pick_f H wn rfl h64 rfl rfl ?_; clear H; intro a H
              refine wl_nil ?_
              refine hK7 _ _ ?_; clear hK7
              refine c_cond H rfl ?_ ?_
              · intro h68
                try have p68 := of_decide_eq_true h68
                refine c_seq (fun _ hK9 => ?_)
                have hm : meetS (af, afr, ato) (bf, bfr, bto) = ((0, 0, 0), false) := by
                  unfold meetS
                  rw [if_pos]
                  first
                    | exact .inl p64
                    | exact .inr p68
                rw [hm] at H
                refine c_region ?_
                refine s_move H wn rfl rfl ?_; clear H; intro a H
                refine s_not H wn rfl rfl ?_; clear H; intro a H
                refine s_move H wn rfl rfl ?_; clear H; intro a H
                refine s_split H 71 rfl ?_ ?_
                · intro h71
                  try have p71 := of_decide_eq_true h71
                  refine s_loada ty23pr (cs := [_, _, _]) H (wg H rfl rfl h71) rfl rfl (H.hp.ocells 0 rfl rfl) rfl ?_; clear H; intro a H
                  refine s_build sr23pr [_, _, _] H (wg H rfl rfl h71) rfl rfl rfl rfl ?_; clear H; intro a H
                  refine s_eqagg eqi23pr H (wg H rfl rfl h71) rfl rfl rfl rfl ?_; clear H; intro a H
                  refine s_pick_t H wn rfl h71 rfl rfl ?_; clear H; intro a H
                  refine s_assign H wn rfl rfl ?_; clear H; intro a H
                  refine wl_nil ?_
                  refine hK9 _ _ ?_; clear hK9
                  refine c_ret ?_
                  refine (leave1 H Try.results3 (.cons (rv_tmp H rfl) .nil) ?_).1
                  exact H.hp.ret (by first | rfl | simp [getI])
                · intro h71
                  try have p71 := of_decide_eq_false h71
                  exact absurd h71 (by simp)
              · intro h68
                try have p68 := of_decide_eq_false h68
                refine c_skip ?_
                refine hK6 _ _ ?_; clear hK6
                refine c_seq (fun _ hK10 => ?_)
                have hm : meetS (af, afr, ato) (bf, bfr, bto) = ((af, max afr bfr, min ato bto), true) := by rw [meetS, if_neg (by simp only [not_or]; exact ⟨p64, p68⟩)]
                rw [hm] at H
                refine c_region ?_
                refine s_move H wn rfl rfl ?_; clear H; intro a H
                refine s_move H wn rfl rfl ?_; clear H; intro a H
                refine s_split H 77 rfl ?_ ?_
                · intro h77
                  try have p77 := of_decide_eq_true h77
                  refine s_loada ty23pr (cs := [_, _, _]) H (wg H rfl rfl h77) rfl rfl (H.hp.ocells 0 rfl rfl) rfl ?_; clear H; intro a H
                  refine s_field fd23_0pr H (wg H rfl rfl h77) rfl rfl ?_; clear H; intro a H
                  refine s_load ty3pr H (wg H rfl rfl h77) rfl (H.hp.ocell 2 rfl rfl) rfl ?_; clear H; intro a H
                  refine s_move H (wg H rfl rfl h77) rfl rfl ?_; clear H; intro a H
                  refine s_move H (wg H rfl rfl h77) rfl rfl ?_; clear H; intro a H
                  refine s_build sr23pr [_, _, _] H (wg H rfl rfl h77) rfl rfl rfl rfl ?_; clear H; intro a H
                  refine s_eqagg eqi23pr H (wg H rfl rfl h77) rfl rfl rfl rfl ?_; clear H; intro a H
                  refine s_pick_t H wn rfl h77 rfl rfl ?_; clear H; intro a H
                  refine s_assign H wn rfl rfl ?_; clear H; intro a H
                  refine wl_nil ?_
                  refine hK10 _ _ ?_; clear hK10
                  refine c_ret ?_
                  refine (leave1 H Try.results3 (.cons (rv_tmp H rfl) .nil) ?_).1
                  exact H.hp.ret (by first | rfl | simp [getI])
                · intro h77
                  try have p77 := of_decide_eq_false h77
                  exact absurd h77 (by simp)
        · skip
          have hprm3 : ∀ (i : Nat) (v : Value) (G G' : GH), (∀ k o, G k = some o → G' k = some o) → (fun (i : Nat) (v : Value) (G : GH) => match i with | 0 => v = .bool true | 1 => v = .bool false | 2 => v = .bool false | 3 => v = .agg #[vi af, vi afr, vi ato] | 4 => v = .agg #[vi bf, vi bfr, vi bto] | 5 => v = .bool (decide (af = bf ∧ afr ≤ bfr ∧ bfr ≤ bto ∧ bto ≤ ato)) | 6 => v = .pointer (some ⟨b2, 0, none⟩) | 7 => v = vi af | 8 => v = .pointer (some ⟨b3, 0, none⟩) | 9 => v = vi bf | 10 => v = .bool (decide (af = bf)) | 11 => v = .bool (decide (af = bf)) | 12 => v = .pointer (some ⟨b2, 1, none⟩) | 13 => v = vi afr | 14 => v = .pointer (some ⟨b3, 1, none⟩) | 15 => v = vi bfr | 16 => v = .bool (decide (afr ≤ bfr)) | 17 => v = .bool (decide (afr ≤ bfr)) | 18 => v = .bool (decide (afr ≤ bfr)) | 19 => v = .pointer (some ⟨b3, 1, none⟩) | 20 => v = vi bfr | 21 => v = .pointer (some ⟨b3, 2, none⟩) | 22 => v = vi bto | 23 => v = .bool (decide (bfr ≤ bto)) | 24 => v = .bool (decide (bfr ≤ bto)) | 25 => v = .bool (decide (bfr ≤ bto)) | 26 => v = undef | 27 => v = undef | 28 => v = undef | 29 => v = undef | 30 => v = undef | 31 => v = .bool false | 32 => v = .bool false | 33 => v = .bool false | _ => True) i v G → (fun (i : Nat) (v : Value) (G : GH) => match i with | 0 => v = .bool true | 1 => v = .bool false | 2 => v = .bool false | 3 => v = .agg #[vi af, vi afr, vi ato] | 4 => v = .agg #[vi bf, vi bfr, vi bto] | 5 => v = .bool (decide (af = bf ∧ afr ≤ bfr ∧ bfr ≤ bto ∧ bto ≤ ato)) | 6 => v = .pointer (some ⟨b2, 0, none⟩) | 7 => v = vi af | 8 => v = .pointer (some ⟨b3, 0, none⟩) | 9 => v = vi bf | 10 => v = .bool (decide (af = bf)) | 11 => v = .bool (decide (af = bf)) | 12 => v = .pointer (some ⟨b2, 1, none⟩) | 13 => v = vi afr | 14 => v = .pointer (some ⟨b3, 1, none⟩) | 15 => v = vi bfr | 16 => v = .bool (decide (afr ≤ bfr)) | 17 => v = .bool (decide (afr ≤ bfr)) | 18 => v = .bool (decide (afr ≤ bfr)) | 19 => v = .pointer (some ⟨b3, 1, none⟩) | 20 => v = vi bfr | 21 => v = .pointer (some ⟨b3, 2, none⟩) | 22 => v = vi bto | 23 => v = .bool (decide (bfr ≤ bto)) | 24 => v = .bool (decide (bfr ≤ bto)) | 25 => v = .bool (decide (bfr ≤ bto)) | 26 => v = undef | 27 => v = undef | 28 => v = undef | 29 => v = undef | 30 => v = undef | 31 => v = .bool false | 32 => v = .bool false | 33 => v = .bool false | _ => True) i v G' := by
            intro i v G G' hm h
            match i, h with
            | 0, h => exact h
            | 1, h => exact h
            | 2, h => exact h
            | 3, h => exact h
            | 4, h => exact h
            | 5, h => exact h
            | 6, h => exact h
            | 7, h => exact h
            | 8, h => exact h
            | 9, h => exact h
            | 10, h => exact h
            | 11, h => exact h
            | 12, h => exact h
            | 13, h => exact h
            | 14, h => exact h
            | 15, h => exact h
            | 16, h => exact h
            | 17, h => exact h
            | 18, h => exact h
            | 19, h => exact h
            | 20, h => exact h
            | 21, h => exact h
            | 22, h => exact h
            | 23, h => exact h
            | 24, h => exact h
            | 25, h => exact h
            | 26, h => exact h
            | 27, h => exact h
            | 28, h => exact h
            | 29, h => exact h
            | 30, h => exact h
            | 31, h => exact h
            | 32, h => exact h
            | 33, h => exact h
            | _ + 34, h => exact trivial
          refine c_drawI (hmx) [[], [0], [0, 1], [0, 1, 2], [0, 1, 2], [0, 1, 2, 3, 4], [0, 1, 2], [0, 1, 2, 6], [0, 1, 2], [0, 1, 2, 8], [0, 1, 2, 6, 7, 8, 9], [0, 1, 2, 3, 4, 5, 6, 7, 8, 9, 10], [0, 1, 2, 3, 4, 5, 6, 7, 8, 9, 10, 11], [0, 1, 2, 3, 4, 5, 6, 7, 8, 9, 10, 11, 12], [0, 1, 2, 3, 4, 5, 6, 7, 8, 9, 10, 11], [0, 1, 2, 3, 4, 5, 6, 7, 8, 9, 10, 11, 14], [0, 1, 2, 3, 4, 5, 6, 7, 8, 9, 10, 11, 12, 13, 14, 15], [0, 1, 2, 3, 4, 5, 6, 7, 8, 9, 10, 11, 12, 13, 14, 15, 16], [0, 1, 2, 3, 4, 5, 6, 7, 8, 9, 10, 11, 12, 13, 14, 15, 16, 17], [0, 1, 2, 3, 4, 5, 6, 7, 8, 9, 10, 11, 12, 13, 14, 15, 16, 17, 18], [0, 1, 2, 3, 4, 5, 6, 7, 8, 9, 10, 11, 12, 13, 14, 15, 16, 17, 18, 19], [0, 1, 2, 3, 4, 5, 6, 7, 8, 9, 10, 11, 12, 13, 14, 15, 16, 17, 18], [0, 1, 2, 3, 4, 5, 6, 7, 8, 9, 10, 11, 12, 13, 14, 15, 16, 17, 18, 21], [0, 1, 2, 3, 4, 5, 6, 7, 8, 9, 10, 11, 12, 13, 14, 15, 16, 17, 18, 19, 20, 21, 22], [0, 1, 2, 3, 4, 5, 6, 7, 8, 9, 10, 11, 12, 13, 14, 15, 16, 17, 18, 19, 20, 21, 22, 23], [0, 1, 2, 3, 4, 5, 6, 7, 8, 9, 10, 11, 12, 13, 14, 15, 16, 17, 18, 19, 20, 21, 22, 23, 24], [0, 1, 2, 3, 4, 5, 6, 7, 8, 9, 10, 11, 12, 13, 14, 15, 16, 17, 18, 19, 20, 21, 22, 23, 24, 25], [0, 1, 2, 3, 4, 5, 6, 7, 8, 9, 10, 11, 12, 13, 14, 15, 16, 17, 18, 19, 20, 21, 22, 23, 24, 25, 26], [0, 1, 2, 3, 4, 5, 6, 7, 8, 9, 10, 11, 12, 13, 14, 15, 16, 17, 18, 19, 20, 21, 22, 23, 24, 25], [0, 1, 2, 3, 4, 5, 6, 7, 8, 9, 10, 11, 12, 13, 14, 15, 16, 17, 18, 19, 20, 21, 22, 23, 24, 25, 28], [0, 1, 2, 3, 4, 5, 6, 7, 8, 9, 10, 11, 12, 13, 14, 15, 16, 17, 18, 19, 20, 21, 22, 23, 24, 25, 26, 27, 28, 29], [0, 1, 2, 3, 4, 5, 6, 7, 8, 9, 10, 11, 12, 13, 14, 15, 16, 17, 18, 19, 20, 21, 22, 23, 24, 25, 26, 27, 28, 29, 30], [0, 1, 2, 3, 4, 5, 6, 7, 8, 9, 10, 11, 12, 13, 14, 15, 16, 17, 18, 19, 20, 21, 22, 23, 24, 25, 26, 27, 28, 29, 30, 31], [0, 1, 2, 3, 4, 5, 6, 7, 8, 9, 10, 11, 12, 13, 14, 15, 16, 17, 18, 19, 20, 21, 22, 23, 24, 25, 26, 27, 28, 29, 30, 31, 32]] [] (by kernel_rfl) (by kernel_rfl) (fun (i : Nat) (v : Value) (G : GH) => match i with | 0 => v = .bool true | 1 => v = .bool false | 2 => v = .bool false | 3 => v = .agg #[vi af, vi afr, vi ato] | 4 => v = .agg #[vi bf, vi bfr, vi bto] | 5 => v = .bool (decide (af = bf ∧ afr ≤ bfr ∧ bfr ≤ bto ∧ bto ≤ ato)) | 6 => v = .pointer (some ⟨b2, 0, none⟩) | 7 => v = vi af | 8 => v = .pointer (some ⟨b3, 0, none⟩) | 9 => v = vi bf | 10 => v = .bool (decide (af = bf)) | 11 => v = .bool (decide (af = bf)) | 12 => v = .pointer (some ⟨b2, 1, none⟩) | 13 => v = vi afr | 14 => v = .pointer (some ⟨b3, 1, none⟩) | 15 => v = vi bfr | 16 => v = .bool (decide (afr ≤ bfr)) | 17 => v = .bool (decide (afr ≤ bfr)) | 18 => v = .bool (decide (afr ≤ bfr)) | 19 => v = .pointer (some ⟨b3, 1, none⟩) | 20 => v = vi bfr | 21 => v = .pointer (some ⟨b3, 2, none⟩) | 22 => v = vi bto | 23 => v = .bool (decide (bfr ≤ bto)) | 24 => v = .bool (decide (bfr ≤ bto)) | 25 => v = .bool (decide (bfr ≤ bto)) | 26 => v = undef | 27 => v = undef | 28 => v = undef | 29 => v = undef | 30 => v = undef | 31 => v = .bool false | 32 => v = .bool false | 33 => v = .bool false | _ => True) hprm3 H ?_ ?_
          · clear H; refine (allI_cons ?_ (allI_cons ?_ (allI_cons ?_ (allI_cons ?_ (allI_cons ?_ (allI_cons ?_ (allI_cons ?_ (allI_cons ?_ (allI_cons ?_ (allI_cons ?_ (allI_cons ?_ (allI_cons ?_ (allI_cons ?_ (allI_cons ?_ (allI_cons ?_ (allI_cons ?_ (allI_cons ?_ (allI_cons ?_ (allI_cons ?_ (allI_cons ?_ (allI_cons ?_ (allI_cons ?_ (allI_cons ?_ (allI_cons ?_ (allI_cons ?_ (allI_cons ?_ (allI_cons ?_ (allI_cons ?_ (allI_cons ?_ (allI_cons ?_ (allI_cons ?_ (allI_cons ?_ (allI_cons ?_ (allI_cons ?_ allI_nil))))))))))))))))))))))))))))))))))
            · intro S a w G1 _ hSi hc hG HT hv; have H := HT; clear hSi
              have Hb := H.full; have H := Hb; clear hc
              refine s_call en7pr H wn rfl (known15 _ _ H.hp.ro) rfl ?_; clear H
              rintro v25 G25 a w rfl hGm25 H
              refine wl_nil ⟨rfl, ?_⟩
              exact draw_val (by kernel_rfl) hprm3 rfl rfl HT Hb hG hv hGm25 (rfl) H
            · intro S a w G1 _ hSi hc hG HT hv; have H := HT; clear hSi
              obtain ⟨u25, hu25, hp25⟩ := hv 0 25 (hc 0 (by decide)) rfl
              obtain rfl : u25 = .bool true := hp25
              have H := H.addS hu25
              have Hb := H.full; have H := Hb; clear hc
              refine s_not H wn rfl rfl ?_; clear H; intro a H
              refine wl_nil ⟨rfl, ?_⟩
              exact draw_val (by kernel_rfl) hprm3 rfl rfl HT Hb hG hv (fun _ _ h => h) (rfl) H
            · intro S a w G1 _ hSi hc hG HT hv; have H := HT; clear hSi
              obtain ⟨u26, hu26, hp26⟩ := hv 1 26 (hc 1 (by decide)) rfl
              obtain rfl : u26 = .bool false := hp26
              have H := H.addS hu26
              have Hb := H.full; have H := Hb; clear hc
              refine s_move H wn rfl rfl ?_; clear H; intro a H
              refine wl_nil ⟨rfl, ?_⟩
              exact draw_val (by kernel_rfl) hprm3 rfl rfl HT Hb hG hv (fun _ _ h => h) (rfl) H
            · intro S a w G1 _ hSi hc hG HT hv; have H := HT; clear hSi
              obtain ⟨u27, hu27, hp27⟩ := hv 2 27 (hc 2 (by decide)) rfl
              obtain rfl : u27 = .bool false := hp27
              have H := H.addS hu27
              have Hb := H.full; have H := Hb; clear hc
              refine s_loada ty23pr (cs := [_, _, _]) H (wg H rfl rfl rfl) rfl rfl (H.hp.ocells 2 rfl rfl) rfl ?_; clear H; intro a H
              refine wl_nil ⟨rfl, ?_⟩
              exact draw_val (by kernel_rfl) hprm3 rfl rfl HT Hb hG hv (fun _ _ h => h) (rfl) H
            · intro S a w G1 _ hSi hc hG HT hv; have H := HT; clear hSi
              obtain ⟨u27, hu27, hp27⟩ := hv 2 27 (hc 2 (by decide)) rfl
              obtain rfl : u27 = .bool false := hp27
              have H := H.addS hu27
              have Hb := H.full; have H := Hb; clear hc
              refine s_loada ty23pr (cs := [_, _, _]) H (wg H rfl rfl rfl) rfl rfl (H.hp.ocells 1 rfl rfl) rfl ?_; clear H; intro a H
              refine wl_nil ⟨rfl, ?_⟩
              exact draw_val (by kernel_rfl) hprm3 rfl rfl HT Hb hG hv (fun _ _ h => h) (rfl) H
            · intro S a w G1 _ hSi hc hG HT hv; have H := HT; clear hSi
              obtain ⟨u28, hu28, hp28⟩ := hv 3 28 (hc 3 (by decide)) rfl
              obtain rfl : u28 = .agg #[vi af, vi afr, vi ato] := hp28
              have H := H.addS hu28
              obtain ⟨u29, hu29, hp29⟩ := hv 4 29 (hc 4 (by decide)) rfl
              obtain rfl : u29 = .agg #[vi bf, vi bfr, vi bto] := hp29
              have H := H.addS hu29
              obtain ⟨u27, hu27, hp27⟩ := hv 2 27 (hc 2 (by decide)) rfl
              obtain rfl : u27 = .bool false := hp27
              have H := H.addS hu27
              have Hb := H.full; have H := Hb; clear hc
              refine s_call en8pr H (wg H rfl rfl rfl) rfl (contains_spec _ _ H.hp.ro af afr ato bf bfr bto) rfl ?_; clear H
              rintro v30 G30 a w ⟨rfl, -⟩ hGm30 H
              refine wl_nil ⟨rfl, ?_⟩
              exact draw_val (by kernel_rfl) hprm3 rfl rfl HT Hb hG hv hGm30 (rfl) H
            · intro S a w G1 _ hSi hc hG HT hv; have H := HT; clear hSi
              obtain ⟨u27, hu27, hp27⟩ := hv 2 27 (hc 2 (by decide)) rfl
              obtain rfl : u27 = .bool false := hp27
              have H := H.addS hu27
              have Hb := H.full; have H := Hb; clear hc
              refine s_field fd23_0pr H (wg H rfl rfl rfl) rfl rfl ?_; clear H; intro a H
              refine wl_nil ⟨rfl, ?_⟩
              exact draw_val (by kernel_rfl) hprm3 rfl rfl HT Hb hG hv (fun _ _ h => h) (rfl) H
            · intro S a w G1 _ hSi hc hG HT hv; have H := HT; clear hSi
              obtain ⟨u31, hu31, hp31⟩ := hv 6 31 (hc 6 (by decide)) rfl
              obtain rfl : u31 = .pointer (some ⟨b2, 0, none⟩) := hp31
              have H := H.addS hu31
              obtain ⟨u27, hu27, hp27⟩ := hv 2 27 (hc 2 (by decide)) rfl
              obtain rfl : u27 = .bool false := hp27
              have H := H.addS hu27
              have Hb := H.full; have H := Hb; clear hc
              refine s_load ty3pr H (wg H rfl rfl rfl) rfl (H.hp.ocell 2 rfl rfl) rfl ?_; clear H; intro a H
              refine wl_nil ⟨rfl, ?_⟩
              exact draw_val (by kernel_rfl) hprm3 rfl rfl HT Hb hG hv (fun _ _ h => h) (rfl) H
            · intro S a w G1 _ hSi hc hG HT hv; have H := HT; clear hSi
              obtain ⟨u27, hu27, hp27⟩ := hv 2 27 (hc 2 (by decide)) rfl
              obtain rfl : u27 = .bool false := hp27
              have H := H.addS hu27
              have Hb := H.full; have H := Hb; clear hc
              refine s_field fd23_0pr H (wg H rfl rfl rfl) rfl rfl ?_; clear H; intro a H
              refine wl_nil ⟨rfl, ?_⟩
              exact draw_val (by kernel_rfl) hprm3 rfl rfl HT Hb hG hv (fun _ _ h => h) (rfl) H
            · intro S a w G1 _ hSi hc hG HT hv; have H := HT; clear hSi
              obtain ⟨u33, hu33, hp33⟩ := hv 8 33 (hc 8 (by decide)) rfl
              obtain rfl : u33 = .pointer (some ⟨b3, 0, none⟩) := hp33
              have H := H.addS hu33
              obtain ⟨u27, hu27, hp27⟩ := hv 2 27 (hc 2 (by decide)) rfl
              obtain rfl : u27 = .bool false := hp27
              have H := H.addS hu27
              have Hb := H.full; have H := Hb; clear hc
              refine s_load ty3pr H (wg H rfl rfl rfl) rfl (H.hp.ocell 1 rfl rfl) rfl ?_; clear H; intro a H
              refine wl_nil ⟨rfl, ?_⟩
              exact draw_val (by kernel_rfl) hprm3 rfl rfl HT Hb hG hv (fun _ _ h => h) (rfl) H
            · intro S a w G1 _ hSi hc hG HT hv; have H := HT; clear hSi
              obtain ⟨u32, hu32, hp32⟩ := hv 7 32 (hc 7 (by decide)) rfl
              obtain rfl : u32 = vi af := hp32
              have H := H.addS hu32
              obtain ⟨u34, hu34, hp34⟩ := hv 9 34 (hc 9 (by decide)) rfl
              obtain rfl : u34 = vi bf := hp34
              have H := H.addS hu34
              obtain ⟨u27, hu27, hp27⟩ := hv 2 27 (hc 2 (by decide)) rfl
              obtain rfl : u27 = .bool false := hp27
              have H := H.addS hu27
              have Hb := H.full; have H := Hb; clear hc
              refine s_cmp H (wg H rfl rfl rfl) rfl rfl rfl rfl ?_; clear H; intro a H
              refine wl_nil ⟨rfl, ?_⟩
              exact draw_val (by kernel_rfl) hprm3 rfl rfl HT Hb hG hv (fun _ _ h => h) (rfl) H
            · intro S a w G1 _ hSi hc hG HT hv; have H := HT; clear hSi
              obtain ⟨u35, hu35, hp35⟩ := hv 10 35 (hc 10 (by decide)) rfl
              obtain rfl : u35 = .bool (decide (af = bf)) := hp35
              have H := H.addS hu35
              obtain ⟨u27, hu27, hp27⟩ := hv 2 27 (hc 2 (by decide)) rfl
              obtain rfl : u27 = .bool false := hp27
              have H := H.addS hu27
              have Hb := H.full; have H := Hb; clear hc
              refine s_move H (wg H rfl rfl rfl) rfl rfl ?_; clear H; intro a H
              refine wl_nil ⟨rfl, ?_⟩
              exact draw_val (by kernel_rfl) hprm3 rfl rfl HT Hb hG hv (fun _ _ h => h) (rfl) H
            · intro S a w G1 _ hSi hc hG HT hv; have H := HT; clear hSi
              obtain ⟨u36, hu36, hp36⟩ := hv 11 36 (hc 11 (by decide)) rfl
              obtain rfl : u36 = .bool (decide (af = bf)) := hp36
              have H := H.addS hu36
              have Hb := H.full; have H := Hb; clear hc
              refine s_field fd23_1pr H (wg H rfl rfl (decide_eq_true c1)) rfl rfl ?_; clear H; intro a H
              refine wl_nil ⟨rfl, ?_⟩
              exact draw_val (by kernel_rfl) hprm3 rfl rfl HT Hb hG hv (fun _ _ h => h) (rfl) H
            · intro S a w G1 _ hSi hc hG HT hv; have H := HT; clear hSi
              obtain ⟨u37, hu37, hp37⟩ := hv 12 37 (hc 12 (by decide)) rfl
              obtain rfl : u37 = .pointer (some ⟨b2, 1, none⟩) := hp37
              have H := H.addS hu37
              obtain ⟨u36, hu36, hp36⟩ := hv 11 36 (hc 11 (by decide)) rfl
              obtain rfl : u36 = .bool (decide (af = bf)) := hp36
              have H := H.addS hu36
              have Hb := H.full; have H := Hb; clear hc
              refine s_load ty3pr H (wg H rfl rfl (decide_eq_true c1)) rfl (H.hp.ocell 2 rfl rfl) rfl ?_; clear H; intro a H
              refine wl_nil ⟨rfl, ?_⟩
              exact draw_val (by kernel_rfl) hprm3 rfl rfl HT Hb hG hv (fun _ _ h => h) (rfl) H
            · intro S a w G1 _ hSi hc hG HT hv; have H := HT; clear hSi
              obtain ⟨u36, hu36, hp36⟩ := hv 11 36 (hc 11 (by decide)) rfl
              obtain rfl : u36 = .bool (decide (af = bf)) := hp36
              have H := H.addS hu36
              have Hb := H.full; have H := Hb; clear hc
              refine s_field fd23_1pr H (wg H rfl rfl (decide_eq_true c1)) rfl rfl ?_; clear H; intro a H
              refine wl_nil ⟨rfl, ?_⟩
              exact draw_val (by kernel_rfl) hprm3 rfl rfl HT Hb hG hv (fun _ _ h => h) (rfl) H
            · intro S a w G1 _ hSi hc hG HT hv; have H := HT; clear hSi
              obtain ⟨u39, hu39, hp39⟩ := hv 14 39 (hc 14 (by decide)) rfl
              obtain rfl : u39 = .pointer (some ⟨b3, 1, none⟩) := hp39
              have H := H.addS hu39
              obtain ⟨u36, hu36, hp36⟩ := hv 11 36 (hc 11 (by decide)) rfl
              obtain rfl : u36 = .bool (decide (af = bf)) := hp36
              have H := H.addS hu36
              have Hb := H.full; have H := Hb; clear hc
              refine s_load ty3pr H (wg H rfl rfl (decide_eq_true c1)) rfl (H.hp.ocell 1 rfl rfl) rfl ?_; clear H; intro a H
              refine wl_nil ⟨rfl, ?_⟩
              exact draw_val (by kernel_rfl) hprm3 rfl rfl HT Hb hG hv (fun _ _ h => h) (rfl) H
            · intro S a w G1 _ hSi hc hG HT hv; have H := HT; clear hSi
              obtain ⟨u38, hu38, hp38⟩ := hv 13 38 (hc 13 (by decide)) rfl
              obtain rfl : u38 = vi afr := hp38
              have H := H.addS hu38
              obtain ⟨u40, hu40, hp40⟩ := hv 15 40 (hc 15 (by decide)) rfl
              obtain rfl : u40 = vi bfr := hp40
              have H := H.addS hu40
              obtain ⟨u36, hu36, hp36⟩ := hv 11 36 (hc 11 (by decide)) rfl
              obtain rfl : u36 = .bool (decide (af = bf)) := hp36
              have H := H.addS hu36
              have Hb := H.full; have H := Hb; clear hc
              refine s_cmp H (wg H rfl rfl (decide_eq_true c1)) rfl rfl rfl rfl ?_; clear H; intro a H
              refine wl_nil ⟨rfl, ?_⟩
              exact draw_val (by kernel_rfl) hprm3 rfl rfl HT Hb hG hv (fun _ _ h => h) (rfl) H
            · intro S a w G1 _ hSi hc hG HT hv; have H := HT; clear hSi
              obtain ⟨u36, hu36, hp36⟩ := hv 11 36 (hc 11 (by decide)) rfl
              obtain rfl : u36 = .bool (decide (af = bf)) := hp36
              have H := H.addS hu36
              obtain ⟨u41, hu41, hp41⟩ := hv 16 41 (hc 16 (by decide)) rfl
              obtain rfl : u41 = .bool (decide (afr ≤ bfr)) := hp41
              have H := H.addS hu41
              obtain ⟨u27, hu27, hp27⟩ := hv 2 27 (hc 2 (by decide)) rfl
              obtain rfl : u27 = .bool false := hp27
              have H := H.addS hu27
              have Hb := H.full; have H := Hb; clear hc
              refine s_pick_t H (wg H rfl rfl rfl) rfl (decide_eq_true c1) rfl rfl ?_; clear H; intro a H
              refine wl_nil ⟨rfl, ?_⟩
              exact draw_val (by kernel_rfl) hprm3 rfl rfl HT Hb hG hv (fun _ _ h => h) (rfl) H
            · intro S a w G1 _ hSi hc hG HT hv; have H := HT; clear hSi
              obtain ⟨u42, hu42, hp42⟩ := hv 17 42 (hc 17 (by decide)) rfl
              obtain rfl : u42 = .bool (decide (afr ≤ bfr)) := hp42
              have H := H.addS hu42
              obtain ⟨u27, hu27, hp27⟩ := hv 2 27 (hc 2 (by decide)) rfl
              obtain rfl : u27 = .bool false := hp27
              have H := H.addS hu27
              have Hb := H.full; have H := Hb; clear hc
              refine s_move H (wg H rfl rfl rfl) rfl rfl ?_; clear H; intro a H
              refine wl_nil ⟨rfl, ?_⟩
              exact draw_val (by kernel_rfl) hprm3 rfl rfl HT Hb hG hv (fun _ _ h => h) (rfl) H
            · intro S a w G1 _ hSi hc hG HT hv; have H := HT; clear hSi
              obtain ⟨u43, hu43, hp43⟩ := hv 18 43 (hc 18 (by decide)) rfl
              obtain rfl : u43 = .bool (decide (afr ≤ bfr)) := hp43
              have H := H.addS hu43
              have Hb := H.full; have H := Hb; clear hc
              refine s_field fd23_1pr H (wg H rfl rfl (decide_eq_true c2)) rfl rfl ?_; clear H; intro a H
              refine wl_nil ⟨rfl, ?_⟩
              exact draw_val (by kernel_rfl) hprm3 rfl rfl HT Hb hG hv (fun _ _ h => h) (rfl) H
            · intro S a w G1 _ hSi hc hG HT hv; have H := HT; clear hSi
              obtain ⟨u44, hu44, hp44⟩ := hv 19 44 (hc 19 (by decide)) rfl
              obtain rfl : u44 = .pointer (some ⟨b3, 1, none⟩) := hp44
              have H := H.addS hu44
              obtain ⟨u43, hu43, hp43⟩ := hv 18 43 (hc 18 (by decide)) rfl
              obtain rfl : u43 = .bool (decide (afr ≤ bfr)) := hp43
              have H := H.addS hu43
              have Hb := H.full; have H := Hb; clear hc
              refine s_load ty3pr H (wg H rfl rfl (decide_eq_true c2)) rfl (H.hp.ocell 1 rfl rfl) rfl ?_; clear H; intro a H
              refine wl_nil ⟨rfl, ?_⟩
              exact draw_val (by kernel_rfl) hprm3 rfl rfl HT Hb hG hv (fun _ _ h => h) (rfl) H
            · intro S a w G1 _ hSi hc hG HT hv; have H := HT; clear hSi
              obtain ⟨u43, hu43, hp43⟩ := hv 18 43 (hc 18 (by decide)) rfl
              obtain rfl : u43 = .bool (decide (afr ≤ bfr)) := hp43
              have H := H.addS hu43
              have Hb := H.full; have H := Hb; clear hc
              refine s_field fd23_2pr H (wg H rfl rfl (decide_eq_true c2)) rfl rfl ?_; clear H; intro a H
              refine wl_nil ⟨rfl, ?_⟩
              exact draw_val (by kernel_rfl) hprm3 rfl rfl HT Hb hG hv (fun _ _ h => h) (rfl) H
            · intro S a w G1 _ hSi hc hG HT hv; have H := HT; clear hSi
              obtain ⟨u46, hu46, hp46⟩ := hv 21 46 (hc 21 (by decide)) rfl
              obtain rfl : u46 = .pointer (some ⟨b3, 2, none⟩) := hp46
              have H := H.addS hu46
              obtain ⟨u43, hu43, hp43⟩ := hv 18 43 (hc 18 (by decide)) rfl
              obtain rfl : u43 = .bool (decide (afr ≤ bfr)) := hp43
              have H := H.addS hu43
              have Hb := H.full; have H := Hb; clear hc
              refine s_load ty3pr H (wg H rfl rfl (decide_eq_true c2)) rfl (H.hp.ocell 1 rfl rfl) rfl ?_; clear H; intro a H
              refine wl_nil ⟨rfl, ?_⟩
              exact draw_val (by kernel_rfl) hprm3 rfl rfl HT Hb hG hv (fun _ _ h => h) (rfl) H
            · intro S a w G1 _ hSi hc hG HT hv; have H := HT; clear hSi
              obtain ⟨u45, hu45, hp45⟩ := hv 20 45 (hc 20 (by decide)) rfl
              obtain rfl : u45 = vi bfr := hp45
              have H := H.addS hu45
              obtain ⟨u47, hu47, hp47⟩ := hv 22 47 (hc 22 (by decide)) rfl
              obtain rfl : u47 = vi bto := hp47
              have H := H.addS hu47
              obtain ⟨u43, hu43, hp43⟩ := hv 18 43 (hc 18 (by decide)) rfl
              obtain rfl : u43 = .bool (decide (afr ≤ bfr)) := hp43
              have H := H.addS hu43
              have Hb := H.full; have H := Hb; clear hc
              refine s_cmp H (wg H rfl rfl (decide_eq_true c2)) rfl rfl rfl rfl ?_; clear H; intro a H
              refine wl_nil ⟨rfl, ?_⟩
              exact draw_val (by kernel_rfl) hprm3 rfl rfl HT Hb hG hv (fun _ _ h => h) (rfl) H
            · intro S a w G1 _ hSi hc hG HT hv; have H := HT; clear hSi
              obtain ⟨u43, hu43, hp43⟩ := hv 18 43 (hc 18 (by decide)) rfl
              obtain rfl : u43 = .bool (decide (afr ≤ bfr)) := hp43
              have H := H.addS hu43
              obtain ⟨u48, hu48, hp48⟩ := hv 23 48 (hc 23 (by decide)) rfl
              obtain rfl : u48 = .bool (decide (bfr ≤ bto)) := hp48
              have H := H.addS hu48
              obtain ⟨u27, hu27, hp27⟩ := hv 2 27 (hc 2 (by decide)) rfl
              obtain rfl : u27 = .bool false := hp27
              have H := H.addS hu27
              have Hb := H.full; have H := Hb; clear hc
              refine s_pick_t H (wg H rfl rfl rfl) rfl (decide_eq_true c2) rfl rfl ?_; clear H; intro a H
              refine wl_nil ⟨rfl, ?_⟩
              exact draw_val (by kernel_rfl) hprm3 rfl rfl HT Hb hG hv (fun _ _ h => h) (rfl) H
            · intro S a w G1 _ hSi hc hG HT hv; have H := HT; clear hSi
              obtain ⟨u49, hu49, hp49⟩ := hv 24 49 (hc 24 (by decide)) rfl
              obtain rfl : u49 = .bool (decide (bfr ≤ bto)) := hp49
              have H := H.addS hu49
              obtain ⟨u27, hu27, hp27⟩ := hv 2 27 (hc 2 (by decide)) rfl
              obtain rfl : u27 = .bool false := hp27
              have H := H.addS hu27
              have Hb := H.full; have H := Hb; clear hc
              refine s_move H (wg H rfl rfl rfl) rfl rfl ?_; clear H; intro a H
              refine wl_nil ⟨rfl, ?_⟩
              exact draw_val (by kernel_rfl) hprm3 rfl rfl HT Hb hG hv (fun _ _ h => h) (rfl) H
            · intro S a w G1 _ hSi hc hG HT hv; have H := HT; clear hSi
              obtain ⟨u50, hu50, hp50⟩ := hv 25 50 (hc 25 (by decide)) rfl
              obtain rfl : u50 = .bool (decide (bfr ≤ bto)) := hp50
              have H := H.addS hu50
              have Hb := H.full; have H := Hb; clear hc
              refine s_skip H rfl rfl (decide_eq_false c3) rfl ?_; clear H; intro a H
              refine wl_nil ⟨rfl, ?_⟩
              exact draw_val (by kernel_rfl) hprm3 rfl rfl HT Hb hG hv (fun _ _ h => h) (rfl) H
            · intro S a w G1 _ hSi hc hG HT hv; have H := HT; clear hSi
              obtain ⟨u51, hu51, hp51⟩ := hv 26 51 (hc 26 (by decide)) rfl
              obtain rfl : u51 = undef := hp51
              have H := H.addS hu51
              obtain ⟨u50, hu50, hp50⟩ := hv 25 50 (hc 25 (by decide)) rfl
              obtain rfl : u50 = .bool (decide (bfr ≤ bto)) := hp50
              have H := H.addS hu50
              have Hb := H.full; have H := Hb; clear hc
              refine s_skip H rfl rfl (decide_eq_false c3) rfl ?_; clear H; intro a H
              refine wl_nil ⟨rfl, ?_⟩
              exact draw_val (by kernel_rfl) hprm3 rfl rfl HT Hb hG hv (fun _ _ h => h) (rfl) H
            · intro S a w G1 _ hSi hc hG HT hv; have H := HT; clear hSi
              obtain ⟨u50, hu50, hp50⟩ := hv 25 50 (hc 25 (by decide)) rfl
              obtain rfl : u50 = .bool (decide (bfr ≤ bto)) := hp50
              have H := H.addS hu50
              have Hb := H.full; have H := Hb; clear hc
              refine s_skip H rfl rfl (decide_eq_false c3) rfl ?_; clear H; intro a H
              refine wl_nil ⟨rfl, ?_⟩
              exact draw_val (by kernel_rfl) hprm3 rfl rfl HT Hb hG hv (fun _ _ h => h) (rfl) H
            · intro S a w G1 _ hSi hc hG HT hv; have H := HT; clear hSi
              obtain ⟨u53, hu53, hp53⟩ := hv 28 53 (hc 28 (by decide)) rfl
              obtain rfl : u53 = undef := hp53
              have H := H.addS hu53
              obtain ⟨u50, hu50, hp50⟩ := hv 25 50 (hc 25 (by decide)) rfl
              obtain rfl : u50 = .bool (decide (bfr ≤ bto)) := hp50
              have H := H.addS hu50
              have Hb := H.full; have H := Hb; clear hc
              refine s_skip H rfl rfl (decide_eq_false c3) rfl ?_; clear H; intro a H
              refine wl_nil ⟨rfl, ?_⟩
              exact draw_val (by kernel_rfl) hprm3 rfl rfl HT Hb hG hv (fun _ _ h => h) (rfl) H
            · intro S a w G1 _ hSi hc hG HT hv; have H := HT; clear hSi
              obtain ⟨u52, hu52, hp52⟩ := hv 27 52 (hc 27 (by decide)) rfl
              obtain rfl : u52 = undef := hp52
              have H := H.addS hu52
              obtain ⟨u54, hu54, hp54⟩ := hv 29 54 (hc 29 (by decide)) rfl
              obtain rfl : u54 = undef := hp54
              have H := H.addS hu54
              obtain ⟨u50, hu50, hp50⟩ := hv 25 50 (hc 25 (by decide)) rfl
              obtain rfl : u50 = .bool (decide (bfr ≤ bto)) := hp50
              have H := H.addS hu50
              have Hb := H.full; have H := Hb; clear hc
              refine s_skip H rfl rfl (decide_eq_false c3) rfl ?_; clear H; intro a H
              refine wl_nil ⟨rfl, ?_⟩
              exact draw_val (by kernel_rfl) hprm3 rfl rfl HT Hb hG hv (fun _ _ h => h) (rfl) H
            · intro S a w G1 _ hSi hc hG HT hv; have H := HT; clear hSi
              obtain ⟨u50, hu50, hp50⟩ := hv 25 50 (hc 25 (by decide)) rfl
              obtain rfl : u50 = .bool (decide (bfr ≤ bto)) := hp50
              have H := H.addS hu50
              obtain ⟨u55, hu55, hp55⟩ := hv 30 55 (hc 30 (by decide)) rfl
              obtain rfl : u55 = undef := hp55
              have H := H.addS hu55
              obtain ⟨u27, hu27, hp27⟩ := hv 2 27 (hc 2 (by decide)) rfl
              obtain rfl : u27 = .bool false := hp27
              have H := H.addS hu27
              have Hb := H.full; have H := Hb; clear hc
              refine s_pick_f H (wg H rfl rfl rfl) rfl (decide_eq_false c3) rfl rfl ?_; clear H; intro a H
              refine wl_nil ⟨rfl, ?_⟩
              exact draw_val (by kernel_rfl) hprm3 rfl rfl HT Hb hG hv (fun _ _ h => h) (rfl) H
            · intro S a w G1 _ hSi hc hG HT hv; have H := HT; clear hSi
              obtain ⟨u30, hu30, hp30⟩ := hv 5 30 (hc 5 (by decide)) rfl
              obtain rfl : u30 = .bool (decide (af = bf ∧ afr ≤ bfr ∧ bfr ≤ bto ∧ bto ≤ ato)) := hp30
              have H := H.addS hu30
              obtain ⟨u56, hu56, hp56⟩ := hv 31 56 (hc 31 (by decide)) rfl
              obtain rfl : u56 = .bool false := hp56
              have H := H.addS hu56
              obtain ⟨u27, hu27, hp27⟩ := hv 2 27 (hc 2 (by decide)) rfl
              obtain rfl : u27 = .bool false := hp27
              have H := H.addS hu27
              have Hb := H.full; have H := Hb; clear hc
              refine s_neqb un4pr H (wg H rfl rfl rfl) rfl rfl rfl ?_; clear H; intro a H
              refine wl_nil ⟨rfl, ?_⟩
              exact draw_val (by kernel_rfl) hprm3 rfl rfl HT Hb hG hv (fun _ _ h => h) (by first | (simp [c1]; done) | (simp [c1, c2]; done) | (simp [c1, c2, c3]; done)) H
            · intro S a w G1 _ hSi hc hG HT hv; have H := HT; clear hSi
              obtain ⟨u27, hu27, hp27⟩ := hv 2 27 (hc 2 (by decide)) rfl
              obtain rfl : u27 = .bool false := hp27
              have H := H.addS hu27
              obtain ⟨u57, hu57, hp57⟩ := hv 32 57 (hc 32 (by decide)) rfl
              obtain rfl : u57 = .bool false := hp57
              have H := H.addS hu57
              have Hb := H.full; have H := Hb; clear hc
              refine s_pick_f H wn rfl rfl rfl rfl ?_; clear H; intro a H
              refine wl_nil ⟨rfl, ?_⟩
              exact draw_val (by kernel_rfl) hprm3 rfl rfl HT Hb hG hv (fun _ _ h => h) (rfl) H
          · clear H; intro a w G hGm3 H hv
            obtain ⟨u58, hu58, hp58⟩ := hv 33 58 (by decide) rfl
            obtain rfl : u58 = .bool false := hp58
            have H := H.addS hu58
            clear hv
            refine wl_nil ⟨rfl, ?_⟩
            refine hK5 _ _ ?_; clear hK5
            refine c_cond_f H rfl rfl ?_
            refine c_skip ?_
            refine hK4 _ _ ?_; clear hK4
            refine c_seq (fun _ hK11 => ?_)
            refine c_seq (fun _ hK12 => ?_)
            refine c_region ?_
            refine s_field fd23_0pr H wn rfl rfl ?_; clear H; intro a H
            refine s_load ty3pr H wn rfl (H.hp.ocell 2 rfl rfl) rfl ?_; clear H; intro a H
            refine s_field fd23_0pr H wn rfl rfl ?_; clear H; intro a H
            refine s_load ty3pr H wn rfl (H.hp.ocell 1 rfl rfl) rfl ?_; clear H; intro a H
            refine s_cmp H wn rfl rfl rfl rfl ?_; clear H; intro a H
            refine s_move H wn rfl rfl ?_; clear H; intro a H
            refine s_split H 64 rfl ?_ ?_
            · intro h64
              try have p64 := of_decide_eq_true h64
              refine s_skip H rfl rfl h64 rfl ?_; clear H; intro a H
              refine s_skip H rfl rfl h64 rfl ?_; clear H; intro a H
              refine s_skip H rfl rfl h64 rfl ?_; clear H; intro a H
              refine s_pick_t H wn rfl h64 rfl rfl ?_; clear H; intro a H
              refine wl_nil ?_
              refine hK12 _ _ ?_; clear hK12
              refine c_cond_t H rfl rfl ?_
              refine c_seq (fun _ hK13 => ?_)
              have hm : meetS (af, afr, ato) (bf, bfr, bto) = ((0, 0, 0), false) := by
                unfold meetS
                rw [if_pos]
                first
                  | exact .inl p64
                  | exact .inr p68
              rw [hm] at H
              refine c_region ?_
              refine s_move H wn rfl rfl ?_; clear H; intro a H
              refine s_not H wn rfl rfl ?_; clear H; intro a H
              refine s_move H wn rfl rfl ?_; clear H; intro a H
              refine s_split H 71 rfl ?_ ?_
              · intro h71
                try have p71 := of_decide_eq_true h71
                refine s_loada ty23pr (cs := [_, _, _]) H (wg H rfl rfl h71) rfl rfl (H.hp.ocells 0 rfl rfl) rfl ?_; clear H; intro a H
                refine s_build sr23pr [_, _, _] H (wg H rfl rfl h71) rfl rfl rfl rfl ?_; clear H; intro a H
                refine s_eqagg eqi23pr H (wg H rfl rfl h71) rfl rfl rfl rfl ?_; clear H; intro a H
                refine s_pick_t H wn rfl h71 rfl rfl ?_; clear H; intro a H
                refine s_assign H wn rfl rfl ?_; clear H; intro a H
                refine wl_nil ?_
                refine hK13 _ _ ?_; clear hK13
                refine c_ret ?_
                refine (leave1 H Try.results3 (.cons (rv_tmp H rfl) .nil) ?_).1
                exact H.hp.ret (by first | rfl | simp [getI])
              · intro h71
                try have p71 := of_decide_eq_false h71
                exact absurd h71 (by simp)
            · intro h64
              try have p64 := of_decide_eq_false h64
              refine s_move H (wg H rfl rfl h64) rfl rfl ?_; clear H; intro a H
              refine s_move H (wg H rfl rfl h64) rfl rfl ?_; clear H; intro a H
              refine s_cmp H (wg H rfl rfl h64) rfl rfl rfl rfl ?_; clear H; intro a H
              refine s_pick_f H wn rfl h64 rfl rfl ?_; clear H; intro a H
              refine wl_nil ?_
              refine hK12 _ _ ?_; clear hK12
              refine c_cond H rfl ?_ ?_
              · intro h68
                try have p68 := of_decide_eq_true h68
                refine c_seq (fun _ hK14 => ?_)
                have hm : meetS (af, afr, ato) (bf, bfr, bto) = ((0, 0, 0), false) := by
                  unfold meetS
                  rw [if_pos]
                  first
                    | exact .inl p64
                    | exact .inr p68
                rw [hm] at H
                refine c_region ?_
                refine s_move H wn rfl rfl ?_; clear H; intro a H
                refine s_not H wn rfl rfl ?_; clear H; intro a H
                refine s_move H wn rfl rfl ?_; clear H; intro a H
                refine s_split H 71 rfl ?_ ?_
                · intro h71
                  try have p71 := of_decide_eq_true h71
                  refine s_loada ty23pr (cs := [_, _, _]) H (wg H rfl rfl h71) rfl rfl (H.hp.ocells 0 rfl rfl) rfl ?_; clear H; intro a H
                  refine s_build sr23pr [_, _, _] H (wg H rfl rfl h71) rfl rfl rfl rfl ?_; clear H; intro a H
                  refine s_eqagg eqi23pr H (wg H rfl rfl h71) rfl rfl rfl rfl ?_; clear H; intro a H
                  refine s_pick_t H wn rfl h71 rfl rfl ?_; clear H; intro a H
                  refine s_assign H wn rfl rfl ?_; clear H; intro a H
                  refine wl_nil ?_
                  refine hK14 _ _ ?_; clear hK14
                  refine c_ret ?_
                  refine (leave1 H Try.results3 (.cons (rv_tmp H rfl) .nil) ?_).1
                  exact H.hp.ret (by first | rfl | simp [getI])
                · intro h71
                  try have p71 := of_decide_eq_false h71
                  exact absurd h71 (by simp)
              · intro h68
                try have p68 := of_decide_eq_false h68
                refine c_skip ?_
                refine hK11 _ _ ?_; clear hK11
                refine c_seq (fun _ hK15 => ?_)
                have hm : meetS (af, afr, ato) (bf, bfr, bto) = ((af, max afr bfr, min ato bto), true) := by rw [meetS, if_neg (by simp only [not_or]; exact ⟨p64, p68⟩)]
                rw [hm] at H
                refine c_region ?_
                refine s_move H wn rfl rfl ?_; clear H; intro a H
                refine s_move H wn rfl rfl ?_; clear H; intro a H
                refine s_split H 77 rfl ?_ ?_
                · intro h77
                  try have p77 := of_decide_eq_true h77
                  refine s_loada ty23pr (cs := [_, _, _]) H (wg H rfl rfl h77) rfl rfl (H.hp.ocells 0 rfl rfl) rfl ?_; clear H; intro a H
                  refine s_field fd23_0pr H (wg H rfl rfl h77) rfl rfl ?_; clear H; intro a H
                  refine s_load ty3pr H (wg H rfl rfl h77) rfl (H.hp.ocell 2 rfl rfl) rfl ?_; clear H; intro a H
                  refine s_move H (wg H rfl rfl h77) rfl rfl ?_; clear H; intro a H
                  refine s_move H (wg H rfl rfl h77) rfl rfl ?_; clear H; intro a H
                  refine s_build sr23pr [_, _, _] H (wg H rfl rfl h77) rfl rfl rfl rfl ?_; clear H; intro a H
                  refine s_eqagg eqi23pr H (wg H rfl rfl h77) rfl rfl rfl rfl ?_; clear H; intro a H
                  refine s_pick_t H wn rfl h77 rfl rfl ?_; clear H; intro a H
                  refine s_assign H wn rfl rfl ?_; clear H; intro a H
                  refine wl_nil ?_
                  refine hK15 _ _ ?_; clear hK15
                  refine c_ret ?_
                  refine (leave1 H Try.results3 (.cons (rv_tmp H rfl) .nil) ?_).1
                  exact H.hp.ret (by first | rfl | simp [getI])
                · intro h77
                  try have p77 := of_decide_eq_false h77
                  exact absurd h77 (by simp)
      · skip
        have hprm3 : ∀ (i : Nat) (v : Value) (G G' : GH), (∀ k o, G k = some o → G' k = some o) → (fun (i : Nat) (v : Value) (G : GH) => match i with | 0 => v = .bool true | 1 => v = .bool false | 2 => v = .bool false | 3 => v = .agg #[vi af, vi afr, vi ato] | 4 => v = .agg #[vi bf, vi bfr, vi bto] | 5 => v = .bool (decide (af = bf ∧ afr ≤ bfr ∧ bfr ≤ bto ∧ bto ≤ ato)) | 6 => v = .pointer (some ⟨b2, 0, none⟩) | 7 => v = vi af | 8 => v = .pointer (some ⟨b3, 0, none⟩) | 9 => v = vi bf | 10 => v = .bool (decide (af = bf)) | 11 => v = .bool (decide (af = bf)) | 12 => v = .pointer (some ⟨b2, 1, none⟩) | 13 => v = vi afr | 14 => v = .pointer (some ⟨b3, 1, none⟩) | 15 => v = vi bfr | 16 => v = .bool (decide (afr ≤ bfr)) | 17 => v = .bool (decide (afr ≤ bfr)) | 18 => v = .bool (decide (afr ≤ bfr)) | 19 => v = undef | 20 => v = undef | 21 => v = undef | 22 => v = undef | 23 => v = undef | 24 => v = .bool false | 25 => v = .bool false | 26 => v = undef | 27 => v = undef | 28 => v = undef | 29 => v = undef | 30 => v = undef | 31 => v = .bool false | 32 => v = .bool false | 33 => v = .bool false | _ => True) i v G → (fun (i : Nat) (v : Value) (G : GH) => match i with | 0 => v = .bool true | 1 => v = .bool false | 2 => v = .bool false | 3 => v = .agg #[vi af, vi afr, vi ato] | 4 => v = .agg #[vi bf, vi bfr, vi bto] | 5 => v = .bool (decide (af = bf ∧ afr ≤ bfr ∧ bfr ≤ bto ∧ bto ≤ ato)) | 6 => v = .pointer (some ⟨b2, 0, none⟩) | 7 => v = vi af | 8 => v = .pointer (some ⟨b3, 0, none⟩) | 9 => v = vi bf | 10 => v = .bool (decide (af = bf)) | 11 => v = .bool (decide (af = bf)) | 12 => v = .pointer (some ⟨b2, 1, none⟩) | 13 => v = vi afr | 14 => v = .pointer (some ⟨b3, 1, none⟩) | 15 => v = vi bfr | 16 => v = .bool (decide (afr ≤ bfr)) | 17 => v = .bool (decide (afr ≤ bfr)) | 18 => v = .bool (decide (afr ≤ bfr)) | 19 => v = undef | 20 => v = undef | 21 => v = undef | 22 => v = undef | 23 => v = undef | 24 => v = .bool false | 25 => v = .bool false | 26 => v = undef | 27 => v = undef | 28 => v = undef | 29 => v = undef | 30 => v = undef | 31 => v = .bool false | 32 => v = .bool false | 33 => v = .bool false | _ => True) i v G' := by
          intro i v G G' hm h
          match i, h with
          | 0, h => exact h
          | 1, h => exact h
          | 2, h => exact h
          | 3, h => exact h
          | 4, h => exact h
          | 5, h => exact h
          | 6, h => exact h
          | 7, h => exact h
          | 8, h => exact h
          | 9, h => exact h
          | 10, h => exact h
          | 11, h => exact h
          | 12, h => exact h
          | 13, h => exact h
          | 14, h => exact h
          | 15, h => exact h
          | 16, h => exact h
          | 17, h => exact h
          | 18, h => exact h
          | 19, h => exact h
          | 20, h => exact h
          | 21, h => exact h
          | 22, h => exact h
          | 23, h => exact h
          | 24, h => exact h
          | 25, h => exact h
          | 26, h => exact h
          | 27, h => exact h
          | 28, h => exact h
          | 29, h => exact h
          | 30, h => exact h
          | 31, h => exact h
          | 32, h => exact h
          | 33, h => exact h
          | _ + 34, h => exact trivial
        refine c_drawI (hmx) [[], [0], [0, 1], [0, 1, 2], [0, 1, 2], [0, 1, 2, 3, 4], [0, 1, 2], [0, 1, 2, 6], [0, 1, 2], [0, 1, 2, 8], [0, 1, 2, 6, 7, 8, 9], [0, 1, 2, 3, 4, 5, 6, 7, 8, 9, 10], [0, 1, 2, 3, 4, 5, 6, 7, 8, 9, 10, 11], [0, 1, 2, 3, 4, 5, 6, 7, 8, 9, 10, 11, 12], [0, 1, 2, 3, 4, 5, 6, 7, 8, 9, 10, 11], [0, 1, 2, 3, 4, 5, 6, 7, 8, 9, 10, 11, 14], [0, 1, 2, 3, 4, 5, 6, 7, 8, 9, 10, 11, 12, 13, 14, 15], [0, 1, 2, 3, 4, 5, 6, 7, 8, 9, 10, 11, 12, 13, 14, 15, 16], [0, 1, 2, 3, 4, 5, 6, 7, 8, 9, 10, 11, 12, 13, 14, 15, 16, 17], [0, 1, 2, 3, 4, 5, 6, 7, 8, 9, 10, 11, 12, 13, 14, 15, 16, 17, 18], [0, 1, 2, 3, 4, 5, 6, 7, 8, 9, 10, 11, 12, 13, 14, 15, 16, 17, 18, 19], [0, 1, 2, 3, 4, 5, 6, 7, 8, 9, 10, 11, 12, 13, 14, 15, 16, 17, 18], [0, 1, 2, 3, 4, 5, 6, 7, 8, 9, 10, 11, 12, 13, 14, 15, 16, 17, 18, 21], [0, 1, 2, 3, 4, 5, 6, 7, 8, 9, 10, 11, 12, 13, 14, 15, 16, 17, 18, 19, 20, 21, 22], [0, 1, 2, 3, 4, 5, 6, 7, 8, 9, 10, 11, 12, 13, 14, 15, 16, 17, 18, 19, 20, 21, 22, 23], [0, 1, 2, 3, 4, 5, 6, 7, 8, 9, 10, 11, 12, 13, 14, 15, 16, 17, 18, 19, 20, 21, 22, 23, 24], [0, 1, 2, 3, 4, 5, 6, 7, 8, 9, 10, 11, 12, 13, 14, 15, 16, 17, 18, 19, 20, 21, 22, 23, 24, 25], [0, 1, 2, 3, 4, 5, 6, 7, 8, 9, 10, 11, 12, 13, 14, 15, 16, 17, 18, 19, 20, 21, 22, 23, 24, 25, 26], [0, 1, 2, 3, 4, 5, 6, 7, 8, 9, 10, 11, 12, 13, 14, 15, 16, 17, 18, 19, 20, 21, 22, 23, 24, 25], [0, 1, 2, 3, 4, 5, 6, 7, 8, 9, 10, 11, 12, 13, 14, 15, 16, 17, 18, 19, 20, 21, 22, 23, 24, 25, 28], [0, 1, 2, 3, 4, 5, 6, 7, 8, 9, 10, 11, 12, 13, 14, 15, 16, 17, 18, 19, 20, 21, 22, 23, 24, 25, 26, 27, 28, 29], [0, 1, 2, 3, 4, 5, 6, 7, 8, 9, 10, 11, 12, 13, 14, 15, 16, 17, 18, 19, 20, 21, 22, 23, 24, 25, 26, 27, 28, 29, 30], [0, 1, 2, 3, 4, 5, 6, 7, 8, 9, 10, 11, 12, 13, 14, 15, 16, 17, 18, 19, 20, 21, 22, 23, 24, 25, 26, 27, 28, 29, 30, 31], [0, 1, 2, 3, 4, 5, 6, 7, 8, 9, 10, 11, 12, 13, 14, 15, 16, 17, 18, 19, 20, 21, 22, 23, 24, 25, 26, 27, 28, 29, 30, 31, 32]] [] (by kernel_rfl) (by kernel_rfl) (fun (i : Nat) (v : Value) (G : GH) => match i with | 0 => v = .bool true | 1 => v = .bool false | 2 => v = .bool false | 3 => v = .agg #[vi af, vi afr, vi ato] | 4 => v = .agg #[vi bf, vi bfr, vi bto] | 5 => v = .bool (decide (af = bf ∧ afr ≤ bfr ∧ bfr ≤ bto ∧ bto ≤ ato)) | 6 => v = .pointer (some ⟨b2, 0, none⟩) | 7 => v = vi af | 8 => v = .pointer (some ⟨b3, 0, none⟩) | 9 => v = vi bf | 10 => v = .bool (decide (af = bf)) | 11 => v = .bool (decide (af = bf)) | 12 => v = .pointer (some ⟨b2, 1, none⟩) | 13 => v = vi afr | 14 => v = .pointer (some ⟨b3, 1, none⟩) | 15 => v = vi bfr | 16 => v = .bool (decide (afr ≤ bfr)) | 17 => v = .bool (decide (afr ≤ bfr)) | 18 => v = .bool (decide (afr ≤ bfr)) | 19 => v = undef | 20 => v = undef | 21 => v = undef | 22 => v = undef | 23 => v = undef | 24 => v = .bool false | 25 => v = .bool false | 26 => v = undef | 27 => v = undef | 28 => v = undef | 29 => v = undef | 30 => v = undef | 31 => v = .bool false | 32 => v = .bool false | 33 => v = .bool false | _ => True) hprm3 H ?_ ?_
        · clear H; refine (allI_cons ?_ (allI_cons ?_ (allI_cons ?_ (allI_cons ?_ (allI_cons ?_ (allI_cons ?_ (allI_cons ?_ (allI_cons ?_ (allI_cons ?_ (allI_cons ?_ (allI_cons ?_ (allI_cons ?_ (allI_cons ?_ (allI_cons ?_ (allI_cons ?_ (allI_cons ?_ (allI_cons ?_ (allI_cons ?_ (allI_cons ?_ (allI_cons ?_ (allI_cons ?_ (allI_cons ?_ (allI_cons ?_ (allI_cons ?_ (allI_cons ?_ (allI_cons ?_ (allI_cons ?_ (allI_cons ?_ (allI_cons ?_ (allI_cons ?_ (allI_cons ?_ (allI_cons ?_ (allI_cons ?_ (allI_cons ?_ allI_nil))))))))))))))))))))))))))))))))))
          · intro S a w G1 _ hSi hc hG HT hv; have H := HT; clear hSi
            have Hb := H.full; have H := Hb; clear hc
            refine s_call en7pr H wn rfl (known15 _ _ H.hp.ro) rfl ?_; clear H
            rintro v25 G25 a w rfl hGm25 H
            refine wl_nil ⟨rfl, ?_⟩
            exact draw_val (by kernel_rfl) hprm3 rfl rfl HT Hb hG hv hGm25 (rfl) H
          · intro S a w G1 _ hSi hc hG HT hv; have H := HT; clear hSi
            obtain ⟨u25, hu25, hp25⟩ := hv 0 25 (hc 0 (by decide)) rfl
            obtain rfl : u25 = .bool true := hp25
            have H := H.addS hu25
            have Hb := H.full; have H := Hb; clear hc
            refine s_not H wn rfl rfl ?_; clear H; intro a H
            refine wl_nil ⟨rfl, ?_⟩
            exact draw_val (by kernel_rfl) hprm3 rfl rfl HT Hb hG hv (fun _ _ h => h) (rfl) H
          · intro S a w G1 _ hSi hc hG HT hv; have H := HT; clear hSi
            obtain ⟨u26, hu26, hp26⟩ := hv 1 26 (hc 1 (by decide)) rfl
            obtain rfl : u26 = .bool false := hp26
            have H := H.addS hu26
            have Hb := H.full; have H := Hb; clear hc
            refine s_move H wn rfl rfl ?_; clear H; intro a H
            refine wl_nil ⟨rfl, ?_⟩
            exact draw_val (by kernel_rfl) hprm3 rfl rfl HT Hb hG hv (fun _ _ h => h) (rfl) H
          · intro S a w G1 _ hSi hc hG HT hv; have H := HT; clear hSi
            obtain ⟨u27, hu27, hp27⟩ := hv 2 27 (hc 2 (by decide)) rfl
            obtain rfl : u27 = .bool false := hp27
            have H := H.addS hu27
            have Hb := H.full; have H := Hb; clear hc
            refine s_loada ty23pr (cs := [_, _, _]) H (wg H rfl rfl rfl) rfl rfl (H.hp.ocells 2 rfl rfl) rfl ?_; clear H; intro a H
            refine wl_nil ⟨rfl, ?_⟩
            exact draw_val (by kernel_rfl) hprm3 rfl rfl HT Hb hG hv (fun _ _ h => h) (rfl) H
          · intro S a w G1 _ hSi hc hG HT hv; have H := HT; clear hSi
            obtain ⟨u27, hu27, hp27⟩ := hv 2 27 (hc 2 (by decide)) rfl
            obtain rfl : u27 = .bool false := hp27
            have H := H.addS hu27
            have Hb := H.full; have H := Hb; clear hc
            refine s_loada ty23pr (cs := [_, _, _]) H (wg H rfl rfl rfl) rfl rfl (H.hp.ocells 1 rfl rfl) rfl ?_; clear H; intro a H
            refine wl_nil ⟨rfl, ?_⟩
            exact draw_val (by kernel_rfl) hprm3 rfl rfl HT Hb hG hv (fun _ _ h => h) (rfl) H
          · intro S a w G1 _ hSi hc hG HT hv; have H := HT; clear hSi
            obtain ⟨u28, hu28, hp28⟩ := hv 3 28 (hc 3 (by decide)) rfl
            obtain rfl : u28 = .agg #[vi af, vi afr, vi ato] := hp28
            have H := H.addS hu28
            obtain ⟨u29, hu29, hp29⟩ := hv 4 29 (hc 4 (by decide)) rfl
            obtain rfl : u29 = .agg #[vi bf, vi bfr, vi bto] := hp29
            have H := H.addS hu29
            obtain ⟨u27, hu27, hp27⟩ := hv 2 27 (hc 2 (by decide)) rfl
            obtain rfl : u27 = .bool false := hp27
            have H := H.addS hu27
            have Hb := H.full; have H := Hb; clear hc
            refine s_call en8pr H (wg H rfl rfl rfl) rfl (contains_spec _ _ H.hp.ro af afr ato bf bfr bto) rfl ?_; clear H
            rintro v30 G30 a w ⟨rfl, -⟩ hGm30 H
            refine wl_nil ⟨rfl, ?_⟩
            exact draw_val (by kernel_rfl) hprm3 rfl rfl HT Hb hG hv hGm30 (rfl) H
          · intro S a w G1 _ hSi hc hG HT hv; have H := HT; clear hSi
            obtain ⟨u27, hu27, hp27⟩ := hv 2 27 (hc 2 (by decide)) rfl
            obtain rfl : u27 = .bool false := hp27
            have H := H.addS hu27
            have Hb := H.full; have H := Hb; clear hc
            refine s_field fd23_0pr H (wg H rfl rfl rfl) rfl rfl ?_; clear H; intro a H
            refine wl_nil ⟨rfl, ?_⟩
            exact draw_val (by kernel_rfl) hprm3 rfl rfl HT Hb hG hv (fun _ _ h => h) (rfl) H
          · intro S a w G1 _ hSi hc hG HT hv; have H := HT; clear hSi
            obtain ⟨u31, hu31, hp31⟩ := hv 6 31 (hc 6 (by decide)) rfl
            obtain rfl : u31 = .pointer (some ⟨b2, 0, none⟩) := hp31
            have H := H.addS hu31
            obtain ⟨u27, hu27, hp27⟩ := hv 2 27 (hc 2 (by decide)) rfl
            obtain rfl : u27 = .bool false := hp27
            have H := H.addS hu27
            have Hb := H.full; have H := Hb; clear hc
            refine s_load ty3pr H (wg H rfl rfl rfl) rfl (H.hp.ocell 2 rfl rfl) rfl ?_; clear H; intro a H
            refine wl_nil ⟨rfl, ?_⟩
            exact draw_val (by kernel_rfl) hprm3 rfl rfl HT Hb hG hv (fun _ _ h => h) (rfl) H
          · intro S a w G1 _ hSi hc hG HT hv; have H := HT; clear hSi
            obtain ⟨u27, hu27, hp27⟩ := hv 2 27 (hc 2 (by decide)) rfl
            obtain rfl : u27 = .bool false := hp27
            have H := H.addS hu27
            have Hb := H.full; have H := Hb; clear hc
            refine s_field fd23_0pr H (wg H rfl rfl rfl) rfl rfl ?_; clear H; intro a H
            refine wl_nil ⟨rfl, ?_⟩
            exact draw_val (by kernel_rfl) hprm3 rfl rfl HT Hb hG hv (fun _ _ h => h) (rfl) H
          · intro S a w G1 _ hSi hc hG HT hv; have H := HT; clear hSi
            obtain ⟨u33, hu33, hp33⟩ := hv 8 33 (hc 8 (by decide)) rfl
            obtain rfl : u33 = .pointer (some ⟨b3, 0, none⟩) := hp33
            have H := H.addS hu33
            obtain ⟨u27, hu27, hp27⟩ := hv 2 27 (hc 2 (by decide)) rfl
            obtain rfl : u27 = .bool false := hp27
            have H := H.addS hu27
            have Hb := H.full; have H := Hb; clear hc
            refine s_load ty3pr H (wg H rfl rfl rfl) rfl (H.hp.ocell 1 rfl rfl) rfl ?_; clear H; intro a H
            refine wl_nil ⟨rfl, ?_⟩
            exact draw_val (by kernel_rfl) hprm3 rfl rfl HT Hb hG hv (fun _ _ h => h) (rfl) H
          · intro S a w G1 _ hSi hc hG HT hv; have H := HT; clear hSi
            obtain ⟨u32, hu32, hp32⟩ := hv 7 32 (hc 7 (by decide)) rfl
            obtain rfl : u32 = vi af := hp32
            have H := H.addS hu32
            obtain ⟨u34, hu34, hp34⟩ := hv 9 34 (hc 9 (by decide)) rfl
            obtain rfl : u34 = vi bf := hp34
            have H := H.addS hu34
            obtain ⟨u27, hu27, hp27⟩ := hv 2 27 (hc 2 (by decide)) rfl
            obtain rfl : u27 = .bool false := hp27
            have H := H.addS hu27
            have Hb := H.full; have H := Hb; clear hc
            refine s_cmp H (wg H rfl rfl rfl) rfl rfl rfl rfl ?_; clear H; intro a H
            refine wl_nil ⟨rfl, ?_⟩
            exact draw_val (by kernel_rfl) hprm3 rfl rfl HT Hb hG hv (fun _ _ h => h) (rfl) H
          · intro S a w G1 _ hSi hc hG HT hv; have H := HT; clear hSi
            obtain ⟨u35, hu35, hp35⟩ := hv 10 35 (hc 10 (by decide)) rfl
            obtain rfl : u35 = .bool (decide (af = bf)) := hp35
            have H := H.addS hu35
            obtain ⟨u27, hu27, hp27⟩ := hv 2 27 (hc 2 (by decide)) rfl
            obtain rfl : u27 = .bool false := hp27
            have H := H.addS hu27
            have Hb := H.full; have H := Hb; clear hc
            refine s_move H (wg H rfl rfl rfl) rfl rfl ?_; clear H; intro a H
            refine wl_nil ⟨rfl, ?_⟩
            exact draw_val (by kernel_rfl) hprm3 rfl rfl HT Hb hG hv (fun _ _ h => h) (rfl) H
          · intro S a w G1 _ hSi hc hG HT hv; have H := HT; clear hSi
            obtain ⟨u36, hu36, hp36⟩ := hv 11 36 (hc 11 (by decide)) rfl
            obtain rfl : u36 = .bool (decide (af = bf)) := hp36
            have H := H.addS hu36
            have Hb := H.full; have H := Hb; clear hc
            refine s_field fd23_1pr H (wg H rfl rfl (decide_eq_true c1)) rfl rfl ?_; clear H; intro a H
            refine wl_nil ⟨rfl, ?_⟩
            exact draw_val (by kernel_rfl) hprm3 rfl rfl HT Hb hG hv (fun _ _ h => h) (rfl) H
          · intro S a w G1 _ hSi hc hG HT hv; have H := HT; clear hSi
            obtain ⟨u37, hu37, hp37⟩ := hv 12 37 (hc 12 (by decide)) rfl
            obtain rfl : u37 = .pointer (some ⟨b2, 1, none⟩) := hp37
            have H := H.addS hu37
            obtain ⟨u36, hu36, hp36⟩ := hv 11 36 (hc 11 (by decide)) rfl
            obtain rfl : u36 = .bool (decide (af = bf)) := hp36
            have H := H.addS hu36
            have Hb := H.full; have H := Hb; clear hc
            refine s_load ty3pr H (wg H rfl rfl (decide_eq_true c1)) rfl (H.hp.ocell 2 rfl rfl) rfl ?_; clear H; intro a H
            refine wl_nil ⟨rfl, ?_⟩
            exact draw_val (by kernel_rfl) hprm3 rfl rfl HT Hb hG hv (fun _ _ h => h) (rfl) H
          · intro S a w G1 _ hSi hc hG HT hv; have H := HT; clear hSi
            obtain ⟨u36, hu36, hp36⟩ := hv 11 36 (hc 11 (by decide)) rfl
            obtain rfl : u36 = .bool (decide (af = bf)) := hp36
            have H := H.addS hu36
            have Hb := H.full; have H := Hb; clear hc
            refine s_field fd23_1pr H (wg H rfl rfl (decide_eq_true c1)) rfl rfl ?_; clear H; intro a H
            refine wl_nil ⟨rfl, ?_⟩
            exact draw_val (by kernel_rfl) hprm3 rfl rfl HT Hb hG hv (fun _ _ h => h) (rfl) H
          · intro S a w G1 _ hSi hc hG HT hv; have H := HT; clear hSi
            obtain ⟨u39, hu39, hp39⟩ := hv 14 39 (hc 14 (by decide)) rfl
            obtain rfl : u39 = .pointer (some ⟨b3, 1, none⟩) := hp39
            have H := H.addS hu39
            obtain ⟨u36, hu36, hp36⟩ := hv 11 36 (hc 11 (by decide)) rfl
            obtain rfl : u36 = .bool (decide (af = bf)) := hp36
            have H := H.addS hu36
            have Hb := H.full; have H := Hb; clear hc
            refine s_load ty3pr H (wg H rfl rfl (decide_eq_true c1)) rfl (H.hp.ocell 1 rfl rfl) rfl ?_; clear H; intro a H
            refine wl_nil ⟨rfl, ?_⟩
            exact draw_val (by kernel_rfl) hprm3 rfl rfl HT Hb hG hv (fun _ _ h => h) (rfl) H
          · intro S a w G1 _ hSi hc hG HT hv; have H := HT; clear hSi
            obtain ⟨u38, hu38, hp38⟩ := hv 13 38 (hc 13 (by decide)) rfl
            obtain rfl : u38 = vi afr := hp38
            have H := H.addS hu38
            obtain ⟨u40, hu40, hp40⟩ := hv 15 40 (hc 15 (by decide)) rfl
            obtain rfl : u40 = vi bfr := hp40
            have H := H.addS hu40
            obtain ⟨u36, hu36, hp36⟩ := hv 11 36 (hc 11 (by decide)) rfl
            obtain rfl : u36 = .bool (decide (af = bf)) := hp36
            have H := H.addS hu36
            have Hb := H.full; have H := Hb; clear hc
            refine s_cmp H (wg H rfl rfl (decide_eq_true c1)) rfl rfl rfl rfl ?_; clear H; intro a H
            refine wl_nil ⟨rfl, ?_⟩
            exact draw_val (by kernel_rfl) hprm3 rfl rfl HT Hb hG hv (fun _ _ h => h) (rfl) H
          · intro S a w G1 _ hSi hc hG HT hv; have H := HT; clear hSi
            obtain ⟨u36, hu36, hp36⟩ := hv 11 36 (hc 11 (by decide)) rfl
            obtain rfl : u36 = .bool (decide (af = bf)) := hp36
            have H := H.addS hu36
            obtain ⟨u41, hu41, hp41⟩ := hv 16 41 (hc 16 (by decide)) rfl
            obtain rfl : u41 = .bool (decide (afr ≤ bfr)) := hp41
            have H := H.addS hu41
            obtain ⟨u27, hu27, hp27⟩ := hv 2 27 (hc 2 (by decide)) rfl
            obtain rfl : u27 = .bool false := hp27
            have H := H.addS hu27
            have Hb := H.full; have H := Hb; clear hc
            refine s_pick_t H (wg H rfl rfl rfl) rfl (decide_eq_true c1) rfl rfl ?_; clear H; intro a H
            refine wl_nil ⟨rfl, ?_⟩
            exact draw_val (by kernel_rfl) hprm3 rfl rfl HT Hb hG hv (fun _ _ h => h) (rfl) H
          · intro S a w G1 _ hSi hc hG HT hv; have H := HT; clear hSi
            obtain ⟨u42, hu42, hp42⟩ := hv 17 42 (hc 17 (by decide)) rfl
            obtain rfl : u42 = .bool (decide (afr ≤ bfr)) := hp42
            have H := H.addS hu42
            obtain ⟨u27, hu27, hp27⟩ := hv 2 27 (hc 2 (by decide)) rfl
            obtain rfl : u27 = .bool false := hp27
            have H := H.addS hu27
            have Hb := H.full; have H := Hb; clear hc
            refine s_move H (wg H rfl rfl rfl) rfl rfl ?_; clear H; intro a H
            refine wl_nil ⟨rfl, ?_⟩
            exact draw_val (by kernel_rfl) hprm3 rfl rfl HT Hb hG hv (fun _ _ h => h) (rfl) H
          · intro S a w G1 _ hSi hc hG HT hv; have H := HT; clear hSi
            obtain ⟨u43, hu43, hp43⟩ := hv 18 43 (hc 18 (by decide)) rfl
            obtain rfl : u43 = .bool (decide (afr ≤ bfr)) := hp43
            have H := H.addS hu43
            have Hb := H.full; have H := Hb; clear hc
            refine s_skip H rfl rfl (decide_eq_false c2) rfl ?_; clear H; intro a H
            refine wl_nil ⟨rfl, ?_⟩
            exact draw_val (by kernel_rfl) hprm3 rfl rfl HT Hb hG hv (fun _ _ h => h) (rfl) H
          · intro S a w G1 _ hSi hc hG HT hv; have H := HT; clear hSi
            obtain ⟨u44, hu44, hp44⟩ := hv 19 44 (hc 19 (by decide)) rfl
            obtain rfl : u44 = undef := hp44
            have H := H.addS hu44
            obtain ⟨u43, hu43, hp43⟩ := hv 18 43 (hc 18 (by decide)) rfl
            obtain rfl : u43 = .bool (decide (afr ≤ bfr)) := hp43
            have H := H.addS hu43
            have Hb := H.full; have H := Hb; clear hc
            refine s_skip H rfl rfl (decide_eq_false c2) rfl ?_; clear H; intro a H
            refine wl_nil ⟨rfl, ?_⟩
            exact draw_val (by kernel_rfl) hprm3 rfl rfl HT Hb hG hv (fun _ _ h => h) (rfl) H
          · intro S a w G1 _ hSi hc hG HT hv; have H := HT; clear hSi
            obtain ⟨u43, hu43, hp43⟩ := hv 18 43 (hc 18 (by decide)) rfl
            obtain rfl : u43 = .bool (decide (afr ≤ bfr)) := hp43
            have H := H.addS hu43
            have Hb := H.full; have H := Hb; clear hc
            refine s_skip H rfl rfl (decide_eq_false c2) rfl ?_; clear H; intro a H
            refine wl_nil ⟨rfl, ?_⟩
            exact draw_val (by kernel_rfl) hprm3 rfl rfl HT Hb hG hv (fun _ _ h => h) (rfl) H
          · intro S a w G1 _ hSi hc hG HT hv; have H := HT; clear hSi
            obtain ⟨u46, hu46, hp46⟩ := hv 21 46 (hc 21 (by decide)) rfl
            obtain rfl : u46 = undef := hp46
            have H := H.addS hu46
            obtain ⟨u43, hu43, hp43⟩ := hv 18 43 (hc 18 (by decide)) rfl
            obtain rfl : u43 = .bool (decide (afr ≤ bfr)) := hp43
            have H := H.addS hu43
            have Hb := H.full; have H := Hb; clear hc
            refine s_skip H rfl rfl (decide_eq_false c2) rfl ?_; clear H; intro a H
            refine wl_nil ⟨rfl, ?_⟩
            exact draw_val (by kernel_rfl) hprm3 rfl rfl HT Hb hG hv (fun _ _ h => h) (rfl) H
          · intro S a w G1 _ hSi hc hG HT hv; have H := HT; clear hSi
            obtain ⟨u45, hu45, hp45⟩ := hv 20 45 (hc 20 (by decide)) rfl
            obtain rfl : u45 = undef := hp45
            have H := H.addS hu45
            obtain ⟨u47, hu47, hp47⟩ := hv 22 47 (hc 22 (by decide)) rfl
            obtain rfl : u47 = undef := hp47
            have H := H.addS hu47
            obtain ⟨u43, hu43, hp43⟩ := hv 18 43 (hc 18 (by decide)) rfl
            obtain rfl : u43 = .bool (decide (afr ≤ bfr)) := hp43
            have H := H.addS hu43
            have Hb := H.full; have H := Hb; clear hc
            refine s_skip H rfl rfl (decide_eq_false c2) rfl ?_; clear H; intro a H
            refine wl_nil ⟨rfl, ?_⟩
            exact draw_val (by kernel_rfl) hprm3 rfl rfl HT Hb hG hv (fun _ _ h => h) (rfl) H
          · intro S a w G1 _ hSi hc hG HT hv; have H := HT; clear hSi
            obtain ⟨u43, hu43, hp43⟩ := hv 18 43 (hc 18 (by decide)) rfl
            obtain rfl : u43 = .bool (decide (afr ≤ bfr)) := hp43
            have H := H.addS hu43
            obtain ⟨u48, hu48, hp48⟩ := hv 23 48 (hc 23 (by decide)) rfl
            obtain rfl : u48 = undef := hp48
            have H := H.addS hu48
            obtain ⟨u27, hu27, hp27⟩ := hv 2 27 (hc 2 (by decide)) rfl
            obtain rfl : u27 = .bool false := hp27
            have H := H.addS hu27
            have Hb := H.full; have H := Hb; clear hc
            refine s_pick_f H (wg H rfl rfl rfl) rfl (decide_eq_false c2) rfl rfl ?_; clear H; intro a H
            refine wl_nil ⟨rfl, ?_⟩
            exact draw_val (by kernel_rfl) hprm3 rfl rfl HT Hb hG hv (fun _ _ h => h) (rfl) H
          · intro S a w G1 _ hSi hc hG HT hv; have H := HT; clear hSi
            obtain ⟨u49, hu49, hp49⟩ := hv 24 49 (hc 24 (by decide)) rfl
            obtain rfl : u49 = .bool false := hp49
            have H := H.addS hu49
            obtain ⟨u27, hu27, hp27⟩ := hv 2 27 (hc 2 (by decide)) rfl
            obtain rfl : u27 = .bool false := hp27
            have H := H.addS hu27
            have Hb := H.full; have H := Hb; clear hc
            refine s_move H (wg H rfl rfl rfl) rfl rfl ?_; clear H; intro a H
            refine wl_nil ⟨rfl, ?_⟩
            exact draw_val (by kernel_rfl) hprm3 rfl rfl HT Hb hG hv (fun _ _ h => h) (rfl) H
          · intro S a w G1 _ hSi hc hG HT hv; have H := HT; clear hSi
            obtain ⟨u50, hu50, hp50⟩ := hv 25 50 (hc 25 (by decide)) rfl
            obtain rfl : u50 = .bool false := hp50
            have H := H.addS hu50
            have Hb := H.full; have H := Hb; clear hc
            refine s_skip H rfl rfl rfl rfl ?_; clear H; intro a H
            refine wl_nil ⟨rfl, ?_⟩
            exact draw_val (by kernel_rfl) hprm3 rfl rfl HT Hb hG hv (fun _ _ h => h) (rfl) H
          · intro S a w G1 _ hSi hc hG HT hv; have H := HT; clear hSi
            obtain ⟨u51, hu51, hp51⟩ := hv 26 51 (hc 26 (by decide)) rfl
            obtain rfl : u51 = undef := hp51
            have H := H.addS hu51
            obtain ⟨u50, hu50, hp50⟩ := hv 25 50 (hc 25 (by decide)) rfl
            obtain rfl : u50 = .bool false := hp50
            have H := H.addS hu50
            have Hb := H.full; have H := Hb; clear hc
            refine s_skip H rfl rfl rfl rfl ?_; clear H; intro a H
            refine wl_nil ⟨rfl, ?_⟩
            exact draw_val (by kernel_rfl) hprm3 rfl rfl HT Hb hG hv (fun _ _ h => h) (rfl) H
          · intro S a w G1 _ hSi hc hG HT hv; have H := HT; clear hSi
            obtain ⟨u50, hu50, hp50⟩ := hv 25 50 (hc 25 (by decide)) rfl
            obtain rfl : u50 = .bool false := hp50
            have H := H.addS hu50
            have Hb := H.full; have H := Hb; clear hc
            refine s_skip H rfl rfl rfl rfl ?_; clear H; intro a H
            refine wl_nil ⟨rfl, ?_⟩
            exact draw_val (by kernel_rfl) hprm3 rfl rfl HT Hb hG hv (fun _ _ h => h) (rfl) H
          · intro S a w G1 _ hSi hc hG HT hv; have H := HT; clear hSi
            obtain ⟨u53, hu53, hp53⟩ := hv 28 53 (hc 28 (by decide)) rfl
            obtain rfl : u53 = undef := hp53
            have H := H.addS hu53
            obtain ⟨u50, hu50, hp50⟩ := hv 25 50 (hc 25 (by decide)) rfl
            obtain rfl : u50 = .bool false := hp50
            have H := H.addS hu50
            have Hb := H.full; have H := Hb; clear hc
            refine s_skip H rfl rfl rfl rfl ?_; clear H; intro a H
            refine wl_nil ⟨rfl, ?_⟩
            exact draw_val (by kernel_rfl) hprm3 rfl rfl HT Hb hG hv (fun _ _ h => h) (rfl) H
          · intro S a w G1 _ hSi hc hG HT hv; have H := HT; clear hSi
            obtain ⟨u52, hu52, hp52⟩ := hv 27 52 (hc 27 (by decide)) rfl
            obtain rfl : u52 = undef := hp52
            have H := H.addS hu52
            obtain ⟨u54, hu54, hp54⟩ := hv 29 54 (hc 29 (by decide)) rfl
            obtain rfl : u54 = undef := hp54
            have H := H.addS hu54
            obtain ⟨u50, hu50, hp50⟩ := hv 25 50 (hc 25 (by decide)) rfl
            obtain rfl : u50 = .bool false := hp50
            have H := H.addS hu50
            have Hb := H.full; have H := Hb; clear hc
            refine s_skip H rfl rfl rfl rfl ?_; clear H; intro a H
            refine wl_nil ⟨rfl, ?_⟩
            exact draw_val (by kernel_rfl) hprm3 rfl rfl HT Hb hG hv (fun _ _ h => h) (rfl) H
          · intro S a w G1 _ hSi hc hG HT hv; have H := HT; clear hSi
            obtain ⟨u50, hu50, hp50⟩ := hv 25 50 (hc 25 (by decide)) rfl
            obtain rfl : u50 = .bool false := hp50
            have H := H.addS hu50
            obtain ⟨u55, hu55, hp55⟩ := hv 30 55 (hc 30 (by decide)) rfl
            obtain rfl : u55 = undef := hp55
            have H := H.addS hu55
            obtain ⟨u27, hu27, hp27⟩ := hv 2 27 (hc 2 (by decide)) rfl
            obtain rfl : u27 = .bool false := hp27
            have H := H.addS hu27
            have Hb := H.full; have H := Hb; clear hc
            refine s_pick_f H (wg H rfl rfl rfl) rfl rfl rfl rfl ?_; clear H; intro a H
            refine wl_nil ⟨rfl, ?_⟩
            exact draw_val (by kernel_rfl) hprm3 rfl rfl HT Hb hG hv (fun _ _ h => h) (rfl) H
          · intro S a w G1 _ hSi hc hG HT hv; have H := HT; clear hSi
            obtain ⟨u30, hu30, hp30⟩ := hv 5 30 (hc 5 (by decide)) rfl
            obtain rfl : u30 = .bool (decide (af = bf ∧ afr ≤ bfr ∧ bfr ≤ bto ∧ bto ≤ ato)) := hp30
            have H := H.addS hu30
            obtain ⟨u56, hu56, hp56⟩ := hv 31 56 (hc 31 (by decide)) rfl
            obtain rfl : u56 = .bool false := hp56
            have H := H.addS hu56
            obtain ⟨u27, hu27, hp27⟩ := hv 2 27 (hc 2 (by decide)) rfl
            obtain rfl : u27 = .bool false := hp27
            have H := H.addS hu27
            have Hb := H.full; have H := Hb; clear hc
            refine s_neqb un4pr H (wg H rfl rfl rfl) rfl rfl rfl ?_; clear H; intro a H
            refine wl_nil ⟨rfl, ?_⟩
            exact draw_val (by kernel_rfl) hprm3 rfl rfl HT Hb hG hv (fun _ _ h => h) (by first | (simp [c1]; done) | (simp [c1, c2]; done) | (simp [c1, c2, c3]; done)) H
          · intro S a w G1 _ hSi hc hG HT hv; have H := HT; clear hSi
            obtain ⟨u27, hu27, hp27⟩ := hv 2 27 (hc 2 (by decide)) rfl
            obtain rfl : u27 = .bool false := hp27
            have H := H.addS hu27
            obtain ⟨u57, hu57, hp57⟩ := hv 32 57 (hc 32 (by decide)) rfl
            obtain rfl : u57 = .bool false := hp57
            have H := H.addS hu57
            have Hb := H.full; have H := Hb; clear hc
            refine s_pick_f H wn rfl rfl rfl rfl ?_; clear H; intro a H
            refine wl_nil ⟨rfl, ?_⟩
            exact draw_val (by kernel_rfl) hprm3 rfl rfl HT Hb hG hv (fun _ _ h => h) (rfl) H
        · clear H; intro a w G hGm3 H hv
          obtain ⟨u58, hu58, hp58⟩ := hv 33 58 (by decide) rfl
          obtain rfl : u58 = .bool false := hp58
          have H := H.addS hu58
          clear hv
          refine wl_nil ⟨rfl, ?_⟩
          refine hK5 _ _ ?_; clear hK5
          refine c_cond_f H rfl rfl ?_
          refine c_skip ?_
          refine hK4 _ _ ?_; clear hK4
          refine c_seq (fun _ hK16 => ?_)
          refine c_seq (fun _ hK17 => ?_)
          refine c_region ?_
          refine s_field fd23_0pr H wn rfl rfl ?_; clear H; intro a H
          refine s_load ty3pr H wn rfl (H.hp.ocell 2 rfl rfl) rfl ?_; clear H; intro a H
          refine s_field fd23_0pr H wn rfl rfl ?_; clear H; intro a H
          refine s_load ty3pr H wn rfl (H.hp.ocell 1 rfl rfl) rfl ?_; clear H; intro a H
          refine s_cmp H wn rfl rfl rfl rfl ?_; clear H; intro a H
          refine s_move H wn rfl rfl ?_; clear H; intro a H
          refine s_split H 64 rfl ?_ ?_
          · intro h64
            try have p64 := of_decide_eq_true h64
            refine s_skip H rfl rfl h64 rfl ?_; clear H; intro a H
            refine s_skip H rfl rfl h64 rfl ?_; clear H; intro a H
            refine s_skip H rfl rfl h64 rfl ?_; clear H; intro a H
            refine s_pick_t H wn rfl h64 rfl rfl ?_; clear H; intro a H
            refine wl_nil ?_
            refine hK17 _ _ ?_; clear hK17
            refine c_cond_t H rfl rfl ?_
            refine c_seq (fun _ hK18 => ?_)
            have hm : meetS (af, afr, ato) (bf, bfr, bto) = ((0, 0, 0), false) := by
              unfold meetS
              rw [if_pos]
              first
                | exact .inl p64
                | exact .inr p68
            rw [hm] at H
            refine c_region ?_
            refine s_move H wn rfl rfl ?_; clear H; intro a H
            refine s_not H wn rfl rfl ?_; clear H; intro a H
            refine s_move H wn rfl rfl ?_; clear H; intro a H
            refine s_split H 71 rfl ?_ ?_
            · intro h71
              try have p71 := of_decide_eq_true h71
              refine s_loada ty23pr (cs := [_, _, _]) H (wg H rfl rfl h71) rfl rfl (H.hp.ocells 0 rfl rfl) rfl ?_; clear H; intro a H
              refine s_build sr23pr [_, _, _] H (wg H rfl rfl h71) rfl rfl rfl rfl ?_; clear H; intro a H
              refine s_eqagg eqi23pr H (wg H rfl rfl h71) rfl rfl rfl rfl ?_; clear H; intro a H
              refine s_pick_t H wn rfl h71 rfl rfl ?_; clear H; intro a H
              refine s_assign H wn rfl rfl ?_; clear H; intro a H
              refine wl_nil ?_
              refine hK18 _ _ ?_; clear hK18
              refine c_ret ?_
              refine (leave1 H Try.results3 (.cons (rv_tmp H rfl) .nil) ?_).1
              exact H.hp.ret (by first | rfl | simp [getI])
            · intro h71
              try have p71 := of_decide_eq_false h71
              exact absurd h71 (by simp)
          · intro h64
            try have p64 := of_decide_eq_false h64
            refine s_move H (wg H rfl rfl h64) rfl rfl ?_; clear H; intro a H
            refine s_move H (wg H rfl rfl h64) rfl rfl ?_; clear H; intro a H
            refine s_cmp H (wg H rfl rfl h64) rfl rfl rfl rfl ?_; clear H; intro a H
            refine s_pick_f H wn rfl h64 rfl rfl ?_; clear H; intro a H
            refine wl_nil ?_
            refine hK17 _ _ ?_; clear hK17
            refine c_cond H rfl ?_ ?_
            · intro h68
              try have p68 := of_decide_eq_true h68
              refine c_seq (fun _ hK19 => ?_)
              have hm : meetS (af, afr, ato) (bf, bfr, bto) = ((0, 0, 0), false) := by
                unfold meetS
                rw [if_pos]
                first
                  | exact .inl p64
                  | exact .inr p68
              rw [hm] at H
              refine c_region ?_
              refine s_move H wn rfl rfl ?_; clear H; intro a H
              refine s_not H wn rfl rfl ?_; clear H; intro a H
              refine s_move H wn rfl rfl ?_; clear H; intro a H
              refine s_split H 71 rfl ?_ ?_
              · intro h71
                try have p71 := of_decide_eq_true h71
                refine s_loada ty23pr (cs := [_, _, _]) H (wg H rfl rfl h71) rfl rfl (H.hp.ocells 0 rfl rfl) rfl ?_; clear H; intro a H
                refine s_build sr23pr [_, _, _] H (wg H rfl rfl h71) rfl rfl rfl rfl ?_; clear H; intro a H
                refine s_eqagg eqi23pr H (wg H rfl rfl h71) rfl rfl rfl rfl ?_; clear H; intro a H
                refine s_pick_t H wn rfl h71 rfl rfl ?_; clear H; intro a H
                refine s_assign H wn rfl rfl ?_; clear H; intro a H
                refine wl_nil ?_
                refine hK19 _ _ ?_; clear hK19
                refine c_ret ?_
                refine (leave1 H Try.results3 (.cons (rv_tmp H rfl) .nil) ?_).1
                exact H.hp.ret (by first | rfl | simp [getI])
              · intro h71
                try have p71 := of_decide_eq_false h71
                exact absurd h71 (by simp)
            · intro h68
              try have p68 := of_decide_eq_false h68
              refine c_skip ?_
              refine hK16 _ _ ?_; clear hK16
              refine c_seq (fun _ hK20 => ?_)
              have hm : meetS (af, afr, ato) (bf, bfr, bto) = ((af, max afr bfr, min ato bto), true) := by rw [meetS, if_neg (by simp only [not_or]; exact ⟨p64, p68⟩)]
              rw [hm] at H
              refine c_region ?_
              refine s_move H wn rfl rfl ?_; clear H; intro a H
              refine s_move H wn rfl rfl ?_; clear H; intro a H
              refine s_split H 77 rfl ?_ ?_
              · intro h77
                try have p77 := of_decide_eq_true h77
                refine s_loada ty23pr (cs := [_, _, _]) H (wg H rfl rfl h77) rfl rfl (H.hp.ocells 0 rfl rfl) rfl ?_; clear H; intro a H
                refine s_field fd23_0pr H (wg H rfl rfl h77) rfl rfl ?_; clear H; intro a H
                refine s_load ty3pr H (wg H rfl rfl h77) rfl (H.hp.ocell 2 rfl rfl) rfl ?_; clear H; intro a H
                refine s_move H (wg H rfl rfl h77) rfl rfl ?_; clear H; intro a H
                refine s_move H (wg H rfl rfl h77) rfl rfl ?_; clear H; intro a H
                refine s_build sr23pr [_, _, _] H (wg H rfl rfl h77) rfl rfl rfl rfl ?_; clear H; intro a H
                refine s_eqagg eqi23pr H (wg H rfl rfl h77) rfl rfl rfl rfl ?_; clear H; intro a H
                refine s_pick_t H wn rfl h77 rfl rfl ?_; clear H; intro a H
                refine s_assign H wn rfl rfl ?_; clear H; intro a H
                refine wl_nil ?_
                refine hK20 _ _ ?_; clear hK20
                refine c_ret ?_
                refine (leave1 H Try.results3 (.cons (rv_tmp H rfl) .nil) ?_).1
                exact H.hp.ret (by first | rfl | simp [getI])
              · intro h77
                try have p77 := of_decide_eq_false h77
                exact absurd h77 (by simp)
    · skip
      have hprm3 : ∀ (i : Nat) (v : Value) (G G' : GH), (∀ k o, G k = some o → G' k = some o) → (fun (i : Nat) (v : Value) (G : GH) => match i with | 0 => v = .bool true | 1 => v = .bool false | 2 => v = .bool false | 3 => v = .agg #[vi af, vi afr, vi ato] | 4 => v = .agg #[vi bf, vi bfr, vi bto] | 5 => v = .bool (decide (af = bf ∧ afr ≤ bfr ∧ bfr ≤ bto ∧ bto ≤ ato)) | 6 => v = .pointer (some ⟨b2, 0, none⟩) | 7 => v = vi af | 8 => v = .pointer (some ⟨b3, 0, none⟩) | 9 => v = vi bf | 10 => v = .bool (decide (af = bf)) | 11 => v = .bool (decide (af = bf)) | 12 => v = undef | 13 => v = undef | 14 => v = undef | 15 => v = undef | 16 => v = undef | 17 => v = .bool false | 18 => v = .bool false | 19 => v = undef | 20 => v = undef | 21 => v = undef | 22 => v = undef | 23 => v = undef | 24 => v = .bool false | 25 => v = .bool false | 26 => v = undef | 27 => v = undef | 28 => v = undef | 29 => v = undef | 30 => v = undef | 31 => v = .bool false | 32 => v = .bool false | 33 => v = .bool false | _ => True) i v G → (fun (i : Nat) (v : Value) (G : GH) => match i with | 0 => v = .bool true | 1 => v = .bool false | 2 => v = .bool false | 3 => v = .agg #[vi af, vi afr, vi ato] | 4 => v = .agg #[vi bf, vi bfr, vi bto] | 5 => v = .bool (decide (af = bf ∧ afr ≤ bfr ∧ bfr ≤ bto ∧ bto ≤ ato)) | 6 => v = .pointer (some ⟨b2, 0, none⟩) | 7 => v = vi af | 8 => v = .pointer (some ⟨b3, 0, none⟩) | 9 => v = vi bf | 10 => v = .bool (decide (af = bf)) | 11 => v = .bool (decide (af = bf)) | 12 => v = undef | 13 => v = undef | 14 => v = undef | 15 => v = undef | 16 => v = undef | 17 => v = .bool false | 18 => v = .bool false | 19 => v = undef | 20 => v = undef | 21 => v = undef | 22 => v = undef | 23 => v = undef | 24 => v = .bool false | 25 => v = .bool false | 26 => v = undef | 27 => v = undef | 28 => v = undef | 29 => v = undef | 30 => v = undef | 31 => v = .bool false | 32 => v = .bool false | 33 => v = .bool false | _ => True) i v G' := by
        intro i v G G' hm h
        match i, h with
        | 0, h => exact h
        | 1, h => exact h
        | 2, h => exact h
        | 3, h => exact h
        | 4, h => exact h
        | 5, h => exact h
        | 6, h => exact h
        | 7, h => exact h
        | 8, h => exact h
        | 9, h => exact h
        | 10, h => exact h
        | 11, h => exact h
        | 12, h => exact h
        | 13, h => exact h
        | 14, h => exact h
        | 15, h => exact h
        | 16, h => exact h
        | 17, h => exact h
        | 18, h => exact h
        | 19, h => exact h
        | 20, h => exact h
        | 21, h => exact h
        | 22, h => exact h
        | 23, h => exact h
        | 24, h => exact h
        | 25, h => exact h
        | 26, h => exact h
        | 27, h => exact h
        | 28, h => exact h
        | 29, h => exact h
        | 30, h => exact h
        | 31, h => exact h
        | 32, h => exact h
        | 33, h => exact h
        | _ + 34, h => exact trivial
      refine c_drawI (hmx) [[], [0], [0, 1], [0, 1, 2], [0, 1, 2], [0, 1, 2, 3, 4], [0, 1, 2], [0, 1, 2, 6], [0, 1, 2], [0, 1, 2, 8], [0, 1, 2, 6, 7, 8, 9], [0, 1, 2, 3, 4, 5, 6, 7, 8, 9, 10], [0, 1, 2, 3, 4, 5, 6, 7, 8, 9, 10, 11], [0, 1, 2, 3, 4, 5, 6, 7, 8, 9, 10, 11, 12], [0, 1, 2, 3, 4, 5, 6, 7, 8, 9, 10, 11], [0, 1, 2, 3, 4, 5, 6, 7, 8, 9, 10, 11, 14], [0, 1, 2, 3, 4, 5, 6, 7, 8, 9, 10, 11, 12, 13, 14, 15], [0, 1, 2, 3, 4, 5, 6, 7, 8, 9, 10, 11, 12, 13, 14, 15, 16], [0, 1, 2, 3, 4, 5, 6, 7, 8, 9, 10, 11, 12, 13, 14, 15, 16, 17], [0, 1, 2, 3, 4, 5, 6, 7, 8, 9, 10, 11, 12, 13, 14, 15, 16, 17, 18], [0, 1, 2, 3, 4, 5, 6, 7, 8, 9, 10, 11, 12, 13, 14, 15, 16, 17, 18, 19], [0, 1, 2, 3, 4, 5, 6, 7, 8, 9, 10, 11, 12, 13, 14, 15, 16, 17, 18], [0, 1, 2, 3, 4, 5, 6, 7, 8, 9, 10, 11, 12, 13, 14, 15, 16, 17, 18, 21], [0, 1, 2, 3, 4, 5, 6, 7, 8, 9, 10, 11, 12, 13, 14, 15, 16, 17, 18, 19, 20, 21, 22], [0, 1, 2, 3, 4, 5, 6, 7, 8, 9, 10, 11, 12, 13, 14, 15, 16, 17, 18, 19, 20, 21, 22, 23], [0, 1, 2, 3, 4, 5, 6, 7, 8, 9, 10, 11, 12, 13, 14, 15, 16, 17, 18, 19, 20, 21, 22, 23, 24], [0, 1, 2, 3, 4, 5, 6, 7, 8, 9, 10, 11, 12, 13, 14, 15, 16, 17, 18, 19, 20, 21, 22, 23, 24, 25], [0, 1, 2, 3, 4, 5, 6, 7, 8, 9, 10, 11, 12, 13, 14, 15, 16, 17, 18, 19, 20, 21, 22, 23, 24, 25, 26], [0, 1, 2, 3, 4, 5, 6, 7, 8, 9, 10, 11, 12, 13, 14, 15, 16, 17, 18, 19, 20, 21, 22, 23, 24, 25], [0, 1, 2, 3, 4, 5, 6, 7, 8, 9, 10, 11, 12, 13, 14, 15, 16, 17, 18, 19, 20, 21, 22, 23, 24, 25, 28], [0, 1, 2, 3, 4, 5, 6, 7, 8, 9, 10, 11, 12, 13, 14, 15, 16, 17, 18, 19, 20, 21, 22, 23, 24, 25, 26, 27, 28, 29], [0, 1, 2, 3, 4, 5, 6, 7, 8, 9, 10, 11, 12, 13, 14, 15, 16, 17, 18, 19, 20, 21, 22, 23, 24, 25, 26, 27, 28, 29, 30], [0, 1, 2, 3, 4, 5, 6, 7, 8, 9, 10, 11, 12, 13, 14, 15, 16, 17, 18, 19, 20, 21, 22, 23, 24, 25, 26, 27, 28, 29, 30, 31], [0, 1, 2, 3, 4, 5, 6, 7, 8, 9, 10, 11, 12, 13, 14, 15, 16, 17, 18, 19, 20, 21, 22, 23, 24, 25, 26, 27, 28, 29, 30, 31, 32]] [] (by kernel_rfl) (by kernel_rfl) (fun (i : Nat) (v : Value) (G : GH) => match i with | 0 => v = .bool true | 1 => v = .bool false | 2 => v = .bool false | 3 => v = .agg #[vi af, vi afr, vi ato] | 4 => v = .agg #[vi bf, vi bfr, vi bto] | 5 => v = .bool (decide (af = bf ∧ afr ≤ bfr ∧ bfr ≤ bto ∧ bto ≤ ato)) | 6 => v = .pointer (some ⟨b2, 0, none⟩) | 7 => v = vi af | 8 => v = .pointer (some ⟨b3, 0, none⟩) | 9 => v = vi bf | 10 => v = .bool (decide (af = bf)) | 11 => v = .bool (decide (af = bf)) | 12 => v = undef | 13 => v = undef | 14 => v = undef | 15 => v = undef | 16 => v = undef | 17 => v = .bool false | 18 => v = .bool false | 19 => v = undef | 20 => v = undef | 21 => v = undef | 22 => v = undef | 23 => v = undef | 24 => v = .bool false | 25 => v = .bool false | 26 => v = undef | 27 => v = undef | 28 => v = undef | 29 => v = undef | 30 => v = undef | 31 => v = .bool false | 32 => v = .bool false | 33 => v = .bool false | _ => True) hprm3 H ?_ ?_
      · clear H; refine (allI_cons ?_ (allI_cons ?_ (allI_cons ?_ (allI_cons ?_ (allI_cons ?_ (allI_cons ?_ (allI_cons ?_ (allI_cons ?_ (allI_cons ?_ (allI_cons ?_ (allI_cons ?_ (allI_cons ?_ (allI_cons ?_ (allI_cons ?_ (allI_cons ?_ (allI_cons ?_ (allI_cons ?_ (allI_cons ?_ (allI_cons ?_ (allI_cons ?_ (allI_cons ?_ (allI_cons ?_ (allI_cons ?_ (allI_cons ?_ (allI_cons ?_ (allI_cons ?_ (allI_cons ?_ (allI_cons ?_ (allI_cons ?_ (allI_cons ?_ (allI_cons ?_ (allI_cons ?_ (allI_cons ?_ (allI_cons ?_ allI_nil))))))))))))))))))))))))))))))))))
        · intro S a w G1 _ hSi hc hG HT hv; have H := HT; clear hSi
          have Hb := H.full; have H := Hb; clear hc
          refine s_call en7pr H wn rfl (known15 _ _ H.hp.ro) rfl ?_; clear H
          rintro v25 G25 a w rfl hGm25 H
          refine wl_nil ⟨rfl, ?_⟩
          exact draw_val (by kernel_rfl) hprm3 rfl rfl HT Hb hG hv hGm25 (rfl) H
        · intro S a w G1 _ hSi hc hG HT hv; have H := HT; clear hSi
          obtain ⟨u25, hu25, hp25⟩ := hv 0 25 (hc 0 (by decide)) rfl
          obtain rfl : u25 = .bool true := hp25
          have H := H.addS hu25
          have Hb := H.full; have H := Hb; clear hc
          refine s_not H wn rfl rfl ?_; clear H; intro a H
          refine wl_nil ⟨rfl, ?_⟩
          exact draw_val (by kernel_rfl) hprm3 rfl rfl HT Hb hG hv (fun _ _ h => h) (rfl) H
        · intro S a w G1 _ hSi hc hG HT hv; have H := HT; clear hSi
          obtain ⟨u26, hu26, hp26⟩ := hv 1 26 (hc 1 (by decide)) rfl
          obtain rfl : u26 = .bool false := hp26
          have H := H.addS hu26
          have Hb := H.full; have H := Hb; clear hc
          refine s_move H wn rfl rfl ?_; clear H; intro a H
          refine wl_nil ⟨rfl, ?_⟩
          exact draw_val (by kernel_rfl) hprm3 rfl rfl HT Hb hG hv (fun _ _ h => h) (rfl) H
        · intro S a w G1 _ hSi hc hG HT hv; have H := HT; clear hSi
          obtain ⟨u27, hu27, hp27⟩ := hv 2 27 (hc 2 (by decide)) rfl
          obtain rfl : u27 = .bool false := hp27
          have H := H.addS hu27
          have Hb := H.full; have H := Hb; clear hc
          refine s_loada ty23pr (cs := [_, _, _]) H (wg H rfl rfl rfl) rfl rfl (H.hp.ocells 2 rfl rfl) rfl ?_; clear H; intro a H
          refine wl_nil ⟨rfl, ?_⟩
          exact draw_val (by kernel_rfl) hprm3 rfl rfl HT Hb hG hv (fun _ _ h => h) (rfl) H
        · intro S a w G1 _ hSi hc hG HT hv; have H := HT; clear hSi
          obtain ⟨u27, hu27, hp27⟩ := hv 2 27 (hc 2 (by decide)) rfl
          obtain rfl : u27 = .bool false := hp27
          have H := H.addS hu27
          have Hb := H.full; have H := Hb; clear hc
          refine s_loada ty23pr (cs := [_, _, _]) H (wg H rfl rfl rfl) rfl rfl (H.hp.ocells 1 rfl rfl) rfl ?_; clear H; intro a H
          refine wl_nil ⟨rfl, ?_⟩
          exact draw_val (by kernel_rfl) hprm3 rfl rfl HT Hb hG hv (fun _ _ h => h) (rfl) H
        · intro S a w G1 _ hSi hc hG HT hv; have H := HT; clear hSi
          obtain ⟨u28, hu28, hp28⟩ := hv 3 28 (hc 3 (by decide)) rfl
          obtain rfl : u28 = .agg #[vi af, vi afr, vi ato] := hp28
          have H := H.addS hu28
          obtain ⟨u29, hu29, hp29⟩ := hv 4 29 (hc 4 (by decide)) rfl
          obtain rfl : u29 = .agg #[vi bf, vi bfr, vi bto] := hp29
          have H := H.addS hu29
          obtain ⟨u27, hu27, hp27⟩ := hv 2 27 (hc 2 (by decide)) rfl
          obtain rfl : u27 = .bool false := hp27
          have H := H.addS hu27
          have Hb := H.full; have H := Hb; clear hc
          refine s_call en8pr H (wg H rfl rfl rfl) rfl (contains_spec _ _ H.hp.ro af afr ato bf bfr bto) rfl ?_; clear H
          rintro v30 G30 a w ⟨rfl, -⟩ hGm30 H
          refine wl_nil ⟨rfl, ?_⟩
          exact draw_val (by kernel_rfl) hprm3 rfl rfl HT Hb hG hv hGm30 (rfl) H
        · intro S a w G1 _ hSi hc hG HT hv; have H := HT; clear hSi
          obtain ⟨u27, hu27, hp27⟩ := hv 2 27 (hc 2 (by decide)) rfl
          obtain rfl : u27 = .bool false := hp27
          have H := H.addS hu27
          have Hb := H.full; have H := Hb; clear hc
          refine s_field fd23_0pr H (wg H rfl rfl rfl) rfl rfl ?_; clear H; intro a H
          refine wl_nil ⟨rfl, ?_⟩
          exact draw_val (by kernel_rfl) hprm3 rfl rfl HT Hb hG hv (fun _ _ h => h) (rfl) H
        · intro S a w G1 _ hSi hc hG HT hv; have H := HT; clear hSi
          obtain ⟨u31, hu31, hp31⟩ := hv 6 31 (hc 6 (by decide)) rfl
          obtain rfl : u31 = .pointer (some ⟨b2, 0, none⟩) := hp31
          have H := H.addS hu31
          obtain ⟨u27, hu27, hp27⟩ := hv 2 27 (hc 2 (by decide)) rfl
          obtain rfl : u27 = .bool false := hp27
          have H := H.addS hu27
          have Hb := H.full; have H := Hb; clear hc
          refine s_load ty3pr H (wg H rfl rfl rfl) rfl (H.hp.ocell 2 rfl rfl) rfl ?_; clear H; intro a H
          refine wl_nil ⟨rfl, ?_⟩
          exact draw_val (by kernel_rfl) hprm3 rfl rfl HT Hb hG hv (fun _ _ h => h) (rfl) H
        · intro S a w G1 _ hSi hc hG HT hv; have H := HT; clear hSi
          obtain ⟨u27, hu27, hp27⟩ := hv 2 27 (hc 2 (by decide)) rfl
          obtain rfl : u27 = .bool false := hp27
          have H := H.addS hu27
          have Hb := H.full; have H := Hb; clear hc
          refine s_field fd23_0pr H (wg H rfl rfl rfl) rfl rfl ?_; clear H; intro a H
          refine wl_nil ⟨rfl, ?_⟩
          exact draw_val (by kernel_rfl) hprm3 rfl rfl HT Hb hG hv (fun _ _ h => h) (rfl) H
        · intro S a w G1 _ hSi hc hG HT hv; have H := HT; clear hSi
          obtain ⟨u33, hu33, hp33⟩ := hv 8 33 (hc 8 (by decide)) rfl
          obtain rfl : u33 = .pointer (some ⟨b3, 0, none⟩) := hp33
          have H := H.addS hu33
          obtain ⟨u27, hu27, hp27⟩ := hv 2 27 (hc 2 (by decide)) rfl
          obtain rfl : u27 = .bool false := hp27
          have H := H.addS hu27
          have Hb := H.full; have H := Hb; clear hc
          refine s_load ty3pr H (wg H rfl rfl rfl) rfl (H.hp.ocell 1 rfl rfl) rfl ?_; clear H; intro a H
          refine wl_nil ⟨rfl, ?_⟩
          exact draw_val (by kernel_rfl) hprm3 rfl rfl HT Hb hG hv (fun _ _ h => h) (rfl) H
        · intro S a w G1 _ hSi hc hG HT hv; have H := HT; clear hSi
          obtain ⟨u32, hu32, hp32⟩ := hv 7 32 (hc 7 (by decide)) rfl
          obtain rfl : u32 = vi af := hp32
          have H := H.addS hu32
          obtain ⟨u34, hu34, hp34⟩ := hv 9 34 (hc 9 (by decide)) rfl
          obtain rfl : u34 = vi bf := hp34
          have H := H.addS hu34
          obtain ⟨u27, hu27, hp27⟩ := hv 2 27 (hc 2 (by decide)) rfl
          obtain rfl : u27 = .bool false := hp27
          have H := H.addS hu27
          have Hb := H.full; have H := Hb; clear hc
          refine s_cmp H (wg H rfl rfl rfl) rfl rfl rfl rfl ?_; clear H; intro a H
          refine wl_nil ⟨rfl, ?_⟩
          exact draw_val (by kernel_rfl) hprm3 rfl rfl HT Hb hG hv (fun _ _ h => h) (rfl) H
        · intro S a w G1 _ hSi hc hG HT hv; have H := HT; clear hSi
          obtain ⟨u35, hu35, hp35⟩ := hv 10 35 (hc 10 (by decide)) rfl
          obtain rfl : u35 = .bool (decide (af = bf)) := hp35
          have H := H.addS hu35
          obtain ⟨u27, hu27, hp27⟩ := hv 2 27 (hc 2 (by decide)) rfl
          obtain rfl : u27 = .bool false := hp27
          have H := H.addS hu27
          have Hb := H.full; have H := Hb; clear hc
          refine s_move H (wg H rfl rfl rfl) rfl rfl ?_; clear H; intro a H
          refine wl_nil ⟨rfl, ?_⟩
          exact draw_val (by kernel_rfl) hprm3 rfl rfl HT Hb hG hv (fun _ _ h => h) (rfl) H
        · intro S a w G1 _ hSi hc hG HT hv; have H := HT; clear hSi
          obtain ⟨u36, hu36, hp36⟩ := hv 11 36 (hc 11 (by decide)) rfl
          obtain rfl : u36 = .bool (decide (af = bf)) := hp36
          have H := H.addS hu36
          have Hb := H.full; have H := Hb; clear hc
          refine s_skip H rfl rfl (decide_eq_false c1) rfl ?_; clear H; intro a H
          refine wl_nil ⟨rfl, ?_⟩
          exact draw_val (by kernel_rfl) hprm3 rfl rfl HT Hb hG hv (fun _ _ h => h) (rfl) H
        · intro S a w G1 _ hSi hc hG HT hv; have H := HT; clear hSi
          obtain ⟨u37, hu37, hp37⟩ := hv 12 37 (hc 12 (by decide)) rfl
          obtain rfl : u37 = undef := hp37
          have H := H.addS hu37
          obtain ⟨u36, hu36, hp36⟩ := hv 11 36 (hc 11 (by decide)) rfl
          obtain rfl : u36 = .bool (decide (af = bf)) := hp36
          have H := H.addS hu36
          have Hb := H.full; have H := Hb; clear hc
          refine s_skip H rfl rfl (decide_eq_false c1) rfl ?_; clear H; intro a H
          refine wl_nil ⟨rfl, ?_⟩
          exact draw_val (by kernel_rfl) hprm3 rfl rfl HT Hb hG hv (fun _ _ h => h) (rfl) H
        · intro S a w G1 _ hSi hc hG HT hv; have H := HT; clear hSi
          obtain ⟨u36, hu36, hp36⟩ := hv 11 36 (hc 11 (by decide)) rfl
          obtain rfl : u36 = .bool (decide (af = bf)) := hp36
          have H := H.addS hu36
          have Hb := H.full; have H := Hb; clear hc
          refine s_skip H rfl rfl (decide_eq_false c1) rfl ?_; clear H; intro a H
          refine wl_nil ⟨rfl, ?_⟩
          exact draw_val (by kernel_rfl) hprm3 rfl rfl HT Hb hG hv (fun _ _ h => h) (rfl) H
        · intro S a w G1 _ hSi hc hG HT hv; have H := HT; clear hSi
          obtain ⟨u39, hu39, hp39⟩ := hv 14 39 (hc 14 (by decide)) rfl
          obtain rfl : u39 = undef := hp39
          have H := H.addS hu39
          obtain ⟨u36, hu36, hp36⟩ := hv 11 36 (hc 11 (by decide)) rfl
          obtain rfl : u36 = .bool (decide (af = bf)) := hp36
          have H := H.addS hu36
          have Hb := H.full; have H := Hb; clear hc
          refine s_skip H rfl rfl (decide_eq_false c1) rfl ?_; clear H; intro a H
          refine wl_nil ⟨rfl, ?_⟩
          exact draw_val (by kernel_rfl) hprm3 rfl rfl HT Hb hG hv (fun _ _ h => h) (rfl) H
        · intro S a w G1 _ hSi hc hG HT hv; have H := HT; clear hSi
          obtain ⟨u38, hu38, hp38⟩ := hv 13 38 (hc 13 (by decide)) rfl
          obtain rfl : u38 = undef := hp38
          have H := H.addS hu38
          obtain ⟨u40, hu40, hp40⟩ := hv 15 40 (hc 15 (by decide)) rfl
          obtain rfl : u40 = undef := hp40
          have H := H.addS hu40
          obtain ⟨u36, hu36, hp36⟩ := hv 11 36 (hc 11 (by decide)) rfl
          obtain rfl : u36 = .bool (decide (af = bf)) := hp36
          have H := H.addS hu36
          have Hb := H.full; have H := Hb; clear hc
          refine s_skip H rfl rfl (decide_eq_false c1) rfl ?_; clear H; intro a H
          refine wl_nil ⟨rfl, ?_⟩
          exact draw_val (by kernel_rfl) hprm3 rfl rfl HT Hb hG hv (fun _ _ h => h) (rfl) H
        · intro S a w G1 _ hSi hc hG HT hv; have H := HT; clear hSi
          obtain ⟨u36, hu36, hp36⟩ := hv 11 36 (hc 11 (by decide)) rfl
          obtain rfl : u36 = .bool (decide (af = bf)) := hp36
          have H := H.addS hu36
          obtain ⟨u41, hu41, hp41⟩ := hv 16 41 (hc 16 (by decide)) rfl
          obtain rfl : u41 = undef := hp41
          have H := H.addS hu41
          obtain ⟨u27, hu27, hp27⟩ := hv 2 27 (hc 2 (by decide)) rfl
          obtain rfl : u27 = .bool false := hp27
          have H := H.addS hu27
          have Hb := H.full; have H := Hb; clear hc
          refine s_pick_f H (wg H rfl rfl rfl) rfl (decide_eq_false c1) rfl rfl ?_; clear H; intro a H
          refine wl_nil ⟨rfl, ?_⟩
          exact draw_val (by kernel_rfl) hprm3 rfl rfl HT Hb hG hv (fun _ _ h => h) (rfl) H
        · intro S a w G1 _ hSi hc hG HT hv; have H := HT; clear hSi
          obtain ⟨u42, hu42, hp42⟩ := hv 17 42 (hc 17 (by decide)) rfl
          obtain rfl : u42 = .bool false := hp42
          have H := H.addS hu42
          obtain ⟨u27, hu27, hp27⟩ := hv 2 27 (hc 2 (by decide)) rfl
          obtain rfl : u27 = .bool false := hp27
          have H := H.addS hu27
          have Hb := H.full; have H := Hb; clear hc
          refine s_move H (wg H rfl rfl rfl) rfl rfl ?_; clear H; intro a H
          refine wl_nil ⟨rfl, ?_⟩
          exact draw_val (by kernel_rfl) hprm3 rfl rfl HT Hb hG hv (fun _ _ h => h) (rfl) H
        · intro S a w G1 _ hSi hc hG HT hv; have H := HT; clear hSi
          obtain ⟨u43, hu43, hp43⟩ := hv 18 43 (hc 18 (by decide)) rfl
          obtain rfl : u43 = .bool false := hp43
          have H := H.addS hu43
          have Hb := H.full; have H := Hb; clear hc
          refine s_skip H rfl rfl rfl rfl ?_; clear H; intro a H
          refine wl_nil ⟨rfl, ?_⟩
          exact draw_val (by kernel_rfl) hprm3 rfl rfl HT Hb hG hv (fun _ _ h => h) (rfl) H
        · intro S a w G1 _ hSi hc hG HT hv; have H := HT; clear hSi
          obtain ⟨u44, hu44, hp44⟩ := hv 19 44 (hc 19 (by decide)) rfl
          obtain rfl : u44 = undef := hp44
          have H := H.addS hu44
          obtain ⟨u43, hu43, hp43⟩ := hv 18 43 (hc 18 (by decide)) rfl
          obtain rfl : u43 = .bool false := hp43
          have H := H.addS hu43
          have Hb := H.full; have H := Hb; clear hc
          refine s_skip H rfl rfl rfl rfl ?_; clear H; intro a H
          refine wl_nil ⟨rfl, ?_⟩
          exact draw_val (by kernel_rfl) hprm3 rfl rfl HT Hb hG hv (fun _ _ h => h) (rfl) H
        · intro S a w G1 _ hSi hc hG HT hv; have H := HT; clear hSi
          obtain ⟨u43, hu43, hp43⟩ := hv 18 43 (hc 18 (by decide)) rfl
          obtain rfl : u43 = .bool false := hp43
          have H := H.addS hu43
          have Hb := H.full; have H := Hb; clear hc
          refine s_skip H rfl rfl rfl rfl ?_; clear H; intro a H
          refine wl_nil ⟨rfl, ?_⟩
          exact draw_val (by kernel_rfl) hprm3 rfl rfl HT Hb hG hv (fun _ _ h => h) (rfl) H
        · intro S a w G1 _ hSi hc hG HT hv; have H := HT; clear hSi
          obtain ⟨u46, hu46, hp46⟩ := hv 21 46 (hc 21 (by decide)) rfl
          obtain rfl : u46 = undef := hp46
          have H := H.addS hu46
          obtain ⟨u43, hu43, hp43⟩ := hv 18 43 (hc 18 (by decide)) rfl
          obtain rfl : u43 = .bool false := hp43
          have H := H.addS hu43
          have Hb := H.full; have H := Hb; clear hc
          refine s_skip H rfl rfl rfl rfl ?_; clear H; intro a H
          refine wl_nil ⟨rfl, ?_⟩
          exact draw_val (by kernel_rfl) hprm3 rfl rfl HT Hb hG hv (fun _ _ h => h) (rfl) H
        · intro S a w G1 _ hSi hc hG HT hv; have H := HT; clear hSi
          obtain ⟨u45, hu45, hp45⟩ := hv 20 45 (hc 20 (by decide)) rfl
          obtain rfl : u45 = undef := hp45
          have H := H.addS hu45
          obtain ⟨u47, hu47, hp47⟩ := hv 22 47 (hc 22 (by decide)) rfl
          obtain rfl : u47 = undef := hp47
          have H := H.addS hu47
          obtain ⟨u43, hu43, hp43⟩ := hv 18 43 (hc 18 (by decide)) rfl
          obtain rfl : u43 = .bool false := hp43
          have H := H.addS hu43
          have Hb := H.full; have H := Hb; clear hc
          refine s_skip H rfl rfl rfl rfl ?_; clear H; intro a H
          refine wl_nil ⟨rfl, ?_⟩
          exact draw_val (by kernel_rfl) hprm3 rfl rfl HT Hb hG hv (fun _ _ h => h) (rfl) H
        · intro S a w G1 _ hSi hc hG HT hv; have H := HT; clear hSi
          obtain ⟨u43, hu43, hp43⟩ := hv 18 43 (hc 18 (by decide)) rfl
          obtain rfl : u43 = .bool false := hp43
          have H := H.addS hu43
          obtain ⟨u48, hu48, hp48⟩ := hv 23 48 (hc 23 (by decide)) rfl
          obtain rfl : u48 = undef := hp48
          have H := H.addS hu48
          obtain ⟨u27, hu27, hp27⟩ := hv 2 27 (hc 2 (by decide)) rfl
          obtain rfl : u27 = .bool false := hp27
          have H := H.addS hu27
          have Hb := H.full; have H := Hb; clear hc
          refine s_pick_f H (wg H rfl rfl rfl) rfl rfl rfl rfl ?_; clear H; intro a H
          refine wl_nil ⟨rfl, ?_⟩
          exact draw_val (by kernel_rfl) hprm3 rfl rfl HT Hb hG hv (fun _ _ h => h) (rfl) H
        · intro S a w G1 _ hSi hc hG HT hv; have H := HT; clear hSi
          obtain ⟨u49, hu49, hp49⟩ := hv 24 49 (hc 24 (by decide)) rfl
          obtain rfl : u49 = .bool false := hp49
          have H := H.addS hu49
          obtain ⟨u27, hu27, hp27⟩ := hv 2 27 (hc 2 (by decide)) rfl
          obtain rfl : u27 = .bool false := hp27
          have H := H.addS hu27
          have Hb := H.full; have H := Hb; clear hc
          refine s_move H (wg H rfl rfl rfl) rfl rfl ?_; clear H; intro a H
          refine wl_nil ⟨rfl, ?_⟩
          exact draw_val (by kernel_rfl) hprm3 rfl rfl HT Hb hG hv (fun _ _ h => h) (rfl) H
        · intro S a w G1 _ hSi hc hG HT hv; have H := HT; clear hSi
          obtain ⟨u50, hu50, hp50⟩ := hv 25 50 (hc 25 (by decide)) rfl
          obtain rfl : u50 = .bool false := hp50
          have H := H.addS hu50
          have Hb := H.full; have H := Hb; clear hc
          refine s_skip H rfl rfl rfl rfl ?_; clear H; intro a H
          refine wl_nil ⟨rfl, ?_⟩
          exact draw_val (by kernel_rfl) hprm3 rfl rfl HT Hb hG hv (fun _ _ h => h) (rfl) H
        · intro S a w G1 _ hSi hc hG HT hv; have H := HT; clear hSi
          obtain ⟨u51, hu51, hp51⟩ := hv 26 51 (hc 26 (by decide)) rfl
          obtain rfl : u51 = undef := hp51
          have H := H.addS hu51
          obtain ⟨u50, hu50, hp50⟩ := hv 25 50 (hc 25 (by decide)) rfl
          obtain rfl : u50 = .bool false := hp50
          have H := H.addS hu50
          have Hb := H.full; have H := Hb; clear hc
          refine s_skip H rfl rfl rfl rfl ?_; clear H; intro a H
          refine wl_nil ⟨rfl, ?_⟩
          exact draw_val (by kernel_rfl) hprm3 rfl rfl HT Hb hG hv (fun _ _ h => h) (rfl) H
        · intro S a w G1 _ hSi hc hG HT hv; have H := HT; clear hSi
          obtain ⟨u50, hu50, hp50⟩ := hv 25 50 (hc 25 (by decide)) rfl
          obtain rfl : u50 = .bool false := hp50
          have H := H.addS hu50
          have Hb := H.full; have H := Hb; clear hc
          refine s_skip H rfl rfl rfl rfl ?_; clear H; intro a H
          refine wl_nil ⟨rfl, ?_⟩
          exact draw_val (by kernel_rfl) hprm3 rfl rfl HT Hb hG hv (fun _ _ h => h) (rfl) H
        · intro S a w G1 _ hSi hc hG HT hv; have H := HT; clear hSi
          obtain ⟨u53, hu53, hp53⟩ := hv 28 53 (hc 28 (by decide)) rfl
          obtain rfl : u53 = undef := hp53
          have H := H.addS hu53
          obtain ⟨u50, hu50, hp50⟩ := hv 25 50 (hc 25 (by decide)) rfl
          obtain rfl : u50 = .bool false := hp50
          have H := H.addS hu50
          have Hb := H.full; have H := Hb; clear hc
          refine s_skip H rfl rfl rfl rfl ?_; clear H; intro a H
          refine wl_nil ⟨rfl, ?_⟩
          exact draw_val (by kernel_rfl) hprm3 rfl rfl HT Hb hG hv (fun _ _ h => h) (rfl) H
        · intro S a w G1 _ hSi hc hG HT hv; have H := HT; clear hSi
          obtain ⟨u52, hu52, hp52⟩ := hv 27 52 (hc 27 (by decide)) rfl
          obtain rfl : u52 = undef := hp52
          have H := H.addS hu52
          obtain ⟨u54, hu54, hp54⟩ := hv 29 54 (hc 29 (by decide)) rfl
          obtain rfl : u54 = undef := hp54
          have H := H.addS hu54
          obtain ⟨u50, hu50, hp50⟩ := hv 25 50 (hc 25 (by decide)) rfl
          obtain rfl : u50 = .bool false := hp50
          have H := H.addS hu50
          have Hb := H.full; have H := Hb; clear hc
          refine s_skip H rfl rfl rfl rfl ?_; clear H; intro a H
          refine wl_nil ⟨rfl, ?_⟩
          exact draw_val (by kernel_rfl) hprm3 rfl rfl HT Hb hG hv (fun _ _ h => h) (rfl) H
        · intro S a w G1 _ hSi hc hG HT hv; have H := HT; clear hSi
          obtain ⟨u50, hu50, hp50⟩ := hv 25 50 (hc 25 (by decide)) rfl
          obtain rfl : u50 = .bool false := hp50
          have H := H.addS hu50
          obtain ⟨u55, hu55, hp55⟩ := hv 30 55 (hc 30 (by decide)) rfl
          obtain rfl : u55 = undef := hp55
          have H := H.addS hu55
          obtain ⟨u27, hu27, hp27⟩ := hv 2 27 (hc 2 (by decide)) rfl
          obtain rfl : u27 = .bool false := hp27
          have H := H.addS hu27
          have Hb := H.full; have H := Hb; clear hc
          refine s_pick_f H (wg H rfl rfl rfl) rfl rfl rfl rfl ?_; clear H; intro a H
          refine wl_nil ⟨rfl, ?_⟩
          exact draw_val (by kernel_rfl) hprm3 rfl rfl HT Hb hG hv (fun _ _ h => h) (rfl) H
        · intro S a w G1 _ hSi hc hG HT hv; have H := HT; clear hSi
          obtain ⟨u30, hu30, hp30⟩ := hv 5 30 (hc 5 (by decide)) rfl
          obtain rfl : u30 = .bool (decide (af = bf ∧ afr ≤ bfr ∧ bfr ≤ bto ∧ bto ≤ ato)) := hp30
          have H := H.addS hu30
          obtain ⟨u56, hu56, hp56⟩ := hv 31 56 (hc 31 (by decide)) rfl
          obtain rfl : u56 = .bool false := hp56
          have H := H.addS hu56
          obtain ⟨u27, hu27, hp27⟩ := hv 2 27 (hc 2 (by decide)) rfl
          obtain rfl : u27 = .bool false := hp27
          have H := H.addS hu27
          have Hb := H.full; have H := Hb; clear hc
          refine s_neqb un4pr H (wg H rfl rfl rfl) rfl rfl rfl ?_; clear H; intro a H
          refine wl_nil ⟨rfl, ?_⟩
          exact draw_val (by kernel_rfl) hprm3 rfl rfl HT Hb hG hv (fun _ _ h => h) (by first | (simp [c1]; done) | (simp [c1, c2]; done) | (simp [c1, c2, c3]; done)) H
        · intro S a w G1 _ hSi hc hG HT hv; have H := HT; clear hSi
          obtain ⟨u27, hu27, hp27⟩ := hv 2 27 (hc 2 (by decide)) rfl
          obtain rfl : u27 = .bool false := hp27
          have H := H.addS hu27
          obtain ⟨u57, hu57, hp57⟩ := hv 32 57 (hc 32 (by decide)) rfl
          obtain rfl : u57 = .bool false := hp57
          have H := H.addS hu57
          have Hb := H.full; have H := Hb; clear hc
          refine s_pick_f H wn rfl rfl rfl rfl ?_; clear H; intro a H
          refine wl_nil ⟨rfl, ?_⟩
          exact draw_val (by kernel_rfl) hprm3 rfl rfl HT Hb hG hv (fun _ _ h => h) (rfl) H
      · clear H; intro a w G hGm3 H hv
        obtain ⟨u58, hu58, hp58⟩ := hv 33 58 (by decide) rfl
        obtain rfl : u58 = .bool false := hp58
        have H := H.addS hu58
        clear hv
        refine wl_nil ⟨rfl, ?_⟩
        refine hK5 _ _ ?_; clear hK5
        refine c_cond_f H rfl rfl ?_
        refine c_skip ?_
        refine hK4 _ _ ?_; clear hK4
        refine c_seq (fun _ hK21 => ?_)
        refine c_seq (fun _ hK22 => ?_)
        refine c_region ?_
        refine s_field fd23_0pr H wn rfl rfl ?_; clear H; intro a H
        refine s_load ty3pr H wn rfl (H.hp.ocell 2 rfl rfl) rfl ?_; clear H; intro a H
        refine s_field fd23_0pr H wn rfl rfl ?_; clear H; intro a H
        refine s_load ty3pr H wn rfl (H.hp.ocell 1 rfl rfl) rfl ?_; clear H; intro a H
        refine s_cmp H wn rfl rfl rfl rfl ?_; clear H; intro a H
        refine s_move H wn rfl rfl ?_; clear H; intro a H
        refine s_split H 64 rfl ?_ ?_
        · intro h64
          try have p64 := of_decide_eq_true h64
          refine s_skip H rfl rfl h64 rfl ?_; clear H; intro a H
          refine s_skip H rfl rfl h64 rfl ?_; clear H; intro a H
          refine s_skip H rfl rfl h64 rfl ?_; clear H; intro a H
          refine s_pick_t H wn rfl h64 rfl rfl ?_; clear H; intro a H
          refine wl_nil ?_
          refine hK22 _ _ ?_; clear hK22
          refine c_cond_t H rfl rfl ?_
          refine c_seq (fun _ hK23 => ?_)
          have hm : meetS (af, afr, ato) (bf, bfr, bto) = ((0, 0, 0), false) := by
            unfold meetS
            rw [if_pos]
            first
              | exact .inl p64
              | exact .inr p68
          rw [hm] at H
          refine c_region ?_
          refine s_move H wn rfl rfl ?_; clear H; intro a H
          refine s_not H wn rfl rfl ?_; clear H; intro a H
          refine s_move H wn rfl rfl ?_; clear H; intro a H
          refine s_split H 71 rfl ?_ ?_
          · intro h71
            try have p71 := of_decide_eq_true h71
            refine s_loada ty23pr (cs := [_, _, _]) H (wg H rfl rfl h71) rfl rfl (H.hp.ocells 0 rfl rfl) rfl ?_; clear H; intro a H
            refine s_build sr23pr [_, _, _] H (wg H rfl rfl h71) rfl rfl rfl rfl ?_; clear H; intro a H
            refine s_eqagg eqi23pr H (wg H rfl rfl h71) rfl rfl rfl rfl ?_; clear H; intro a H
            refine s_pick_t H wn rfl h71 rfl rfl ?_; clear H; intro a H
            refine s_assign H wn rfl rfl ?_; clear H; intro a H
            refine wl_nil ?_
            refine hK23 _ _ ?_; clear hK23
            refine c_ret ?_
            refine (leave1 H Try.results3 (.cons (rv_tmp H rfl) .nil) ?_).1
            exact H.hp.ret (by first | rfl | simp [getI])
          · intro h71
            try have p71 := of_decide_eq_false h71
            exact absurd h71 (by simp)
        · intro h64
          try have p64 := of_decide_eq_false h64
          refine s_move H (wg H rfl rfl h64) rfl rfl ?_; clear H; intro a H
          refine s_move H (wg H rfl rfl h64) rfl rfl ?_; clear H; intro a H
          refine s_cmp H (wg H rfl rfl h64) rfl rfl rfl rfl ?_; clear H; intro a H
          refine s_pick_f H wn rfl h64 rfl rfl ?_; clear H; intro a H
          refine wl_nil ?_
          refine hK22 _ _ ?_; clear hK22
          refine c_cond H rfl ?_ ?_
          · intro h68
            try have p68 := of_decide_eq_true h68
            refine c_seq (fun _ hK24 => ?_)
            have hm : meetS (af, afr, ato) (bf, bfr, bto) = ((0, 0, 0), false) := by
              unfold meetS
              rw [if_pos]
              first
                | exact .inl p64
                | exact .inr p68
            rw [hm] at H
            refine c_region ?_
            refine s_move H wn rfl rfl ?_; clear H; intro a H
            refine s_not H wn rfl rfl ?_; clear H; intro a H
            refine s_move H wn rfl rfl ?_; clear H; intro a H
            refine s_split H 71 rfl ?_ ?_
            · intro h71
              try have p71 := of_decide_eq_true h71
              refine s_loada ty23pr (cs := [_, _, _]) H (wg H rfl rfl h71) rfl rfl (H.hp.ocells 0 rfl rfl) rfl ?_; clear H; intro a H
              refine s_build sr23pr [_, _, _] H (wg H rfl rfl h71) rfl rfl rfl rfl ?_; clear H; intro a H
              refine s_eqagg eqi23pr H (wg H rfl rfl h71) rfl rfl rfl rfl ?_; clear H; intro a H
              refine s_pick_t H wn rfl h71 rfl rfl ?_; clear H; intro a H
              refine s_assign H wn rfl rfl ?_; clear H; intro a H
              refine wl_nil ?_
              refine hK24 _ _ ?_; clear hK24
              refine c_ret ?_
              refine (leave1 H Try.results3 (.cons (rv_tmp H rfl) .nil) ?_).1
              exact H.hp.ret (by first | rfl | simp [getI])
            · intro h71
              try have p71 := of_decide_eq_false h71
              exact absurd h71 (by simp)
          · intro h68
            try have p68 := of_decide_eq_false h68
            refine c_skip ?_
            refine hK21 _ _ ?_; clear hK21
            refine c_seq (fun _ hK25 => ?_)
            have hm : meetS (af, afr, ato) (bf, bfr, bto) = ((af, max afr bfr, min ato bto), true) := by rw [meetS, if_neg (by simp only [not_or]; exact ⟨p64, p68⟩)]
            rw [hm] at H
            refine c_region ?_
            refine s_move H wn rfl rfl ?_; clear H; intro a H
            refine s_move H wn rfl rfl ?_; clear H; intro a H
            refine s_split H 77 rfl ?_ ?_
            · intro h77
              try have p77 := of_decide_eq_true h77
              refine s_loada ty23pr (cs := [_, _, _]) H (wg H rfl rfl h77) rfl rfl (H.hp.ocells 0 rfl rfl) rfl ?_; clear H; intro a H
              refine s_field fd23_0pr H (wg H rfl rfl h77) rfl rfl ?_; clear H; intro a H
              refine s_load ty3pr H (wg H rfl rfl h77) rfl (H.hp.ocell 2 rfl rfl) rfl ?_; clear H; intro a H
              refine s_move H (wg H rfl rfl h77) rfl rfl ?_; clear H; intro a H
              refine s_move H (wg H rfl rfl h77) rfl rfl ?_; clear H; intro a H
              refine s_build sr23pr [_, _, _] H (wg H rfl rfl h77) rfl rfl rfl rfl ?_; clear H; intro a H
              refine s_eqagg eqi23pr H (wg H rfl rfl h77) rfl rfl rfl rfl ?_; clear H; intro a H
              refine s_pick_t H wn rfl h77 rfl rfl ?_; clear H; intro a H
              refine s_assign H wn rfl rfl ?_; clear H; intro a H
              refine wl_nil ?_
              refine hK25 _ _ ?_; clear hK25
              refine c_ret ?_
              refine (leave1 H Try.results3 (.cons (rv_tmp H rfl) .nil) ?_).1
              exact H.hp.ret (by first | rfl | simp [getI])
            · intro h77
              try have p77 := of_decide_eq_false h77
              exact absurd h77 (by simp)
end Go.Proofs.Ytbfdhlakbdadhaa
