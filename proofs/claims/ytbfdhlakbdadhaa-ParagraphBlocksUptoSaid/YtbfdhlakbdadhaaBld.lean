/-
  Package strings: the builder, as run.Text uses it.
-/
import Derived.Test.YtbfdhlakbdadhaaBd
import Derived.Test.YtbfdhlakbdadhaaSl
namespace Go.Proofs.Ytbfdhlakbdadhaa
open Go.RowKit
theorem sizB : Siz Try.prog 144 := ⟨by kernel_rfl⟩
theorem u8B : U8 Try.prog 5 := ⟨by kernel_rfl⟩
theorem liesB : liesAt Try.prog Try.prog.depth 144 (2 / Try.prog.cellsOf 144) 0 144 1 = true := by kernel_rfl
theorem cellsU8 : Try.prog.cellsOf 5 = 1 := by kernel_rfl
theorem noEsc (v : Value) (w : World) : (callFunc 94 #[v]).run Try.prog w = .ok (.value v) w := run_noEsc Try.func94 (by kernel_rfl) (by kernel_rfl) (by kernel_rfl) (by kernel_rfl) v w
theorem un141bld : Try.prog.underlying 141 = some (.pointer 144) := by kernel_rfl
theorem un185bld : Try.prog.underlying 185 = some .unsafePointer := by kernel_rfl
theorem fd144_0bld : Fld Try.prog 144 0 0 := ⟨by kernel_rfl⟩
theorem ty141bld : Ty Try.prog 141 1 8 [.pointer none] false := ⟨by kernel_rfl, by kernel_rfl⟩
theorem en79bld : ∀ args w, (callFunc 79 args).run Try.prog w = .ok (.enter 79 args) w := enters Try.func79 rfl (by kernel_rfl)
theorem un142bld : Try.prog.underlying 142 = some (.slice 5) := by kernel_rfl
theorem un9bld : Try.prog.underlying 9 = some .string := by kernel_rfl
theorem fd144_1bld : Fld Try.prog 144 1 1 := ⟨by kernel_rfl⟩
theorem ty142bld : Ty Try.prog 142 1 24 [.slice none 0 0] false := ⟨by kernel_rfl, by kernel_rfl⟩
theorem un167bld : Try.prog.underlying 167 = some (.pointer 5) := by kernel_rfl
/-- A builder's block. -/
abbrev bB (b : Nat) (p v : Value) : Nat × Obj := (b, .cells #[p, v] 144 (0, 0))
theorem copyNil (G : GH) (L : OL) (w0 : World) (b : Nat) (A : Option Addr) (n c : Nat) (hO : Owns G (bB b (.pointer none) (.slice A n c) :: L) w0) :
    Calls Try.prog 79 #[.pointer (some ⟨b, 0, none⟩)] w0 (RetL w0 G (bB b (.pointer none) (.slice A n c) :: L) fun u G' L' => L' = bB b (.pointer (some ⟨b, 0, none⟩)) (.slice A n c) :: L ∧ G' = G) := by
  refine enterL (N := 20) (T := [(0, _)]) Try.func79 rfl Try.ntmps79 rfl rfl hO ?_
  intro a H
  refine c_seq (fun _ hK1 => ?_)
  refine c_region ?_
  refine s_move H wn rfl rfl ?_; clear H; intro a H
  refine s_nilCheck H wn rfl rfl ?_; clear H; intro a H
  refine s_field fd144_0bld H wn rfl rfl ?_; clear H; intro a H
  refine s_load ty141bld H wn rfl (H.hp.ocell 0 rfl rfl) rfl ?_; clear H; intro a H
  refine s_eqnilp un141bld H wn rfl rfl ?_; clear H; intro a H
  refine wl_nil ?_
  refine hK1 _ _ ?_; clear hK1
  refine c_cond H rfl ?_ ?_
  · intro h6
    try have p6 := of_decide_eq_true h6
    refine c_region ?_
    refine s_move H wn rfl rfl ?_; clear H; intro a H
    refine s_move H wn rfl rfl ?_; clear H; intro a H
    refine s_toUnsafe un141bld un185bld sizB H wn rfl 0 rfl rfl rfl ?_; clear H; intro a H
    refine s_noEscape (xs := [.tmp 9]) (noEsc _) H wn rfl rfl ?_; clear H; intro a H
    refine s_fromUnsafe un185bld un141bld sizB H wn rfl 0 rfl liesB rfl ?_; clear H; intro a H
    refine s_nilCheck H wn rfl rfl ?_; clear H; intro a H
    refine s_field fd144_0bld H wn rfl rfl ?_; clear H; intro a H
    refine s_store ty141bld 0 (vs := [_]) _ H wn rfl rfl rfl rfl rfl rfl rfl rfl ?_; clear H; intro w H; dsimp only [List.set, setRow] at H
    refine wl_nil ?_
    refine (leave0 H Try.results79 ?_).2
    exact H.hp.retL ⟨rfl, rfl⟩
  · intro h6
    try have p6 := of_decide_eq_false h6
    exact absurd h6 (by decide)
theorem copySelf (G : GH) (L : OL) (w0 : World) (b : Nat) (A : Option Addr) (n c : Nat) (hO : Owns G (bB b (.pointer (some ⟨b, 0, none⟩)) (.slice A n c) :: L) w0) :
    Calls Try.prog 79 #[.pointer (some ⟨b, 0, none⟩)] w0 (RetL w0 G (bB b (.pointer (some ⟨b, 0, none⟩)) (.slice A n c) :: L) fun u G' L' => L' = bB b (.pointer (some ⟨b, 0, none⟩)) (.slice A n c) :: L ∧ G' = G) := by
  refine enterL (N := 20) (T := [(0, _)]) Try.func79 rfl Try.ntmps79 rfl rfl hO ?_
  intro a H
  refine c_seq (fun _ hK1 => ?_)
  refine c_region ?_
  refine s_move H wn rfl rfl ?_; clear H; intro a H
  refine s_nilCheck H wn rfl rfl ?_; clear H; intro a H
  refine s_field fd144_0bld H wn rfl rfl ?_; clear H; intro a H
  refine s_load ty141bld H wn rfl (H.hp.ocell 0 rfl rfl) rfl ?_; clear H; intro a H
  refine s_eqnilp un141bld H wn rfl rfl ?_; clear H; intro a H
  refine wl_nil ?_
  refine hK1 _ _ ?_; clear hK1
  refine c_cond H rfl ?_ ?_
  · intro h6
    try have p6 := of_decide_eq_true h6
    exact absurd h6 (by simp)
  · intro h6
    try have p6 := of_decide_eq_false h6
    refine c_seq (fun _ hK2 => ?_)
    refine c_region ?_
    refine s_move H wn rfl rfl ?_; clear H; intro a H
    refine s_nilCheck H wn rfl rfl ?_; clear H; intro a H
    refine s_field fd144_0bld H wn rfl rfl ?_; clear H; intro a H
    refine s_load ty141bld H wn rfl (H.hp.ocell 0 rfl rfl) rfl ?_; clear H; intro a H
    refine s_move H wn rfl rfl ?_; clear H; intro a H
    refine s_neqsame un141bld sizB H wn rfl rfl rfl ?_; clear H; intro a H
    refine wl_nil ?_
    refine hK2 _ _ ?_; clear hK2
    refine c_cond H rfl ?_ ?_
    · intro h19
      try have p19 := of_decide_eq_true h19
      exact absurd h19 (by decide)
    · intro h19
      try have p19 := of_decide_eq_false h19
      refine c_skip ?_
      refine (leave0 H Try.results79 ?_).2
      exact H.hp.retL ⟨rfl, rfl⟩
theorem copy_spec (G : GH) (L : OL) (w0 : World) (b : Nat) (p : Value) (A : Option Addr) (n c : Nat) (hp : p = .pointer none ∨ p = .pointer (some ⟨b, 0, none⟩)) (hO : Owns G (bB b p (.slice A n c) :: L) w0) :
    Calls Try.prog 79 #[.pointer (some ⟨b, 0, none⟩)] w0 (RetL w0 G (bB b p (.slice A n c) :: L) fun u G' L' => L' = bB b (.pointer (some ⟨b, 0, none⟩)) (.slice A n c) :: L ∧ G' = G) := by
  rcases hp with rfl | rfl
  · exact copyNil G L w0 b A n c hO
  · exact copySelf G L w0 b A n c hO
theorem wstr_spec (G : GH) (Lo : OL) (w0 : World) (b : Nat) (p v : Value) (n : Nat) (xs : List Value) (s : ByteArray) (hp : p = .pointer none ∨ p = .pointer (some ⟨b, 0, none⟩)) (hO : Owns G (bB b p v :: Lo) w0) (hrow : IsRow 5 1 v n xs Lo) (hn : n + s.size ≤ 140737488355328) :
    Calls Try.prog 60 #[.pointer (some ⟨b, 0, none⟩), .string s] w0 (RetL w0 G (bB b p v :: Lo) fun u G' L' => ∃ v' Lo', L' = bB b (.pointer (some ⟨b, 0, none⟩)) v' :: Lo' ∧ IsRow 5 1 v' (n + s.size) (xs ++ Lib.strCells s) Lo' ∧ G' = G) := by
  obtain ⟨A, c, rfl, -, -⟩ := hrow.shape
  refine enterL (N := 19) (T := [(0, _), (1, _)]) Try.func60 rfl Try.ntmps60 rfl rfl hO ?_
  intro a H
  refine c_seq (fun _ hK1 => ?_)
  refine c_region ?_
  refine s_assign H wn rfl rfl ?_; clear H; intro a H
  refine s_assign H wn rfl rfl ?_; clear H; intro a H
  refine wl_nil ?_
  refine hK1 _ _ ?_; clear hK1
  refine c_seq (fun _ hK2 => ?_)
  refine c_region ?_
  refine s_move H wn rfl rfl ?_; clear H; intro a H
  refine s_callL en79bld (Li := []) (L := bB b p _ :: Lo) H wn rfl (copy_spec _ _ _ b p A n c hp (Hp.owns (Li := []) H.hp)) rfl ?_; clear H
  rintro v7 _ L7 a w ⟨rfl, rfl⟩ hm7 H
  dsimp only [List.nil_append] at H
  refine wl_nil ?_
  refine hK2 _ _ ?_; clear hK2
  refine c_seq (fun _ hK3 => ?_)
  refine c_region ?_
  refine s_move H wn rfl rfl ?_; clear H; intro a H
  refine s_move H wn rfl rfl ?_; clear H; intro a H
  refine s_nilCheck H wn rfl rfl ?_; clear H; intro a H
  refine s_field fd144_1bld H wn rfl rfl ?_; clear H; intro a H
  refine s_load ty142bld H wn rfl (H.hp.ocell 0 rfl rfl) rfl ?_; clear H; intro a H
  refine s_move H wn rfl rfl ?_; clear H; intro a H
  refine s_appendStr (Li := [_]) (Lo := Lo) un142bld un9bld u8B H wn rfl rfl hrow hn rfl ?_; clear H; intro v14 Lo14 a w hrw14 H
  obtain ⟨A14, c14, rfl, -, -⟩ := hrw14.shape
  refine s_nilCheck H wn rfl rfl ?_; clear H; intro a H
  refine s_field fd144_1bld H wn rfl rfl ?_; clear H; intro a H
  refine s_store ty142bld 0 (vs := [_]) _ H wn rfl rfl rfl rfl rfl rfl rfl rfl ?_; clear H; intro w H; dsimp only [List.set, setRow] at H
  refine wl_nil ?_
  refine hK3 _ _ ?_; clear hK3
  refine c_seq (fun _ hK4 => ?_)
  refine c_region ?_
  refine s_move H wn rfl rfl ?_; clear H; intro a H
  refine s_lens un9bld H wn rfl rfl ?_; clear H; intro a H
  refine s_assign H wn rfl rfl ?_; clear H; intro a H
  refine s_assign H wn rfl rfl ?_; clear H; intro a H
  refine wl_nil ?_
  refine hK4 _ _ ?_; clear hK4
  refine c_ret ?_
  refine (leaveT H Try.results60 (.cons (rv_tmp H rfl) (.cons (rv_tmp H rfl) .nil)) ?_).1
  exact H.hp.retL ⟨_, _, rfl, hrw14, rfl⟩
theorem str_spec (G : GH) (Lo : OL) (w0 : World) (b : Nat) (p v : Value) (l : List UInt8) (hO : Owns G (bB b p v :: Lo) w0) (hrow : IsRow 5 1 v l.length (Lib.byteCells l) Lo) (h0 : l ≠ []) :
    Calls Try.prog 62 #[.pointer (some ⟨b, 0, none⟩)] w0 (RetL w0 G (bB b p v :: Lo) fun u G' L' => u = .string ⟨l.toArray⟩) := by
  rcases hrow.2 with ⟨-, h, -⟩ | ⟨b2, cap, cur, rfl, rfl, hc1, hc2, hc3, hc4⟩
  · exact absurd (List.eq_nil_of_length_eq_zero h) h0
  have hl0 : l.length ≠ 0 := fun h => h0 (List.eq_nil_of_length_eq_zero h)
  have hml : maxLen = 9223372036854775807 := rfl
  refine enterL (N := 14) (T := [(0, _)]) Try.func62 rfl Try.ntmps62 rfl rfl hO ?_
  intro a H
  refine c_seq (fun _ hK1 => ?_)
  refine c_region ?_
  refine s_assign H wn rfl rfl ?_; clear H; intro a H
  refine wl_nil ?_
  refine hK1 _ _ ?_; clear hK1
  refine c_seq (fun _ hK2 => ?_)
  have H := H.sub (T' := [(0, _)]) ⟨rfl, trivial⟩
  have hprm1 : ∀ (i : Nat) (v : Value) (G G' : GH), (∀ k o, G k = some o → G' k = some o) → (fun (i : Nat) (v : Value) (G : GH) => match i with | 0 => v = .pointer (some ⟨b, 0, none⟩) | 1 => v = .pointer (some ⟨b, 0, none⟩) | 2 => v = .pointer (some ⟨b, 1, none⟩) | 3 => v = .slice (some ⟨b2, 0, none⟩) l.length cap | 4 => v = .pointer (some ⟨b2, 0, none⟩) | 5 => v = .pointer (some ⟨b, 0, none⟩) | 6 => v = .pointer (some ⟨b, 0, none⟩) | 7 => v = .pointer (some ⟨b, 1, none⟩) | 8 => v = .slice (some ⟨b2, 0, none⟩) l.length cap | 9 => v = vi l.length | _ => True) i v G → (fun (i : Nat) (v : Value) (G : GH) => match i with | 0 => v = .pointer (some ⟨b, 0, none⟩) | 1 => v = .pointer (some ⟨b, 0, none⟩) | 2 => v = .pointer (some ⟨b, 1, none⟩) | 3 => v = .slice (some ⟨b2, 0, none⟩) l.length cap | 4 => v = .pointer (some ⟨b2, 0, none⟩) | 5 => v = .pointer (some ⟨b, 0, none⟩) | 6 => v = .pointer (some ⟨b, 0, none⟩) | 7 => v = .pointer (some ⟨b, 1, none⟩) | 8 => v = .slice (some ⟨b2, 0, none⟩) l.length cap | 9 => v = vi l.length | _ => True) i v G' := by
    intro i v G G' hm h
    match i, h with
    | 0, h => exact h
    | 1, h => exact h
    | 2, h => exact h
    | 3, h => exact h
    | 4, h => exact h
    | 5, h => exact h
    | 6, h => exact h
    | 7, h => exact h
    | 8, h => exact h
    | 9, h => exact h
    | 10, h => exact trivial
    | 11, h => exact trivial
    | _ + 12, h => exact trivial
  refine c_drawI (hmx) [[], [0], [0, 1], [0, 1, 2], [0, 1, 2, 3], [], [5], [5, 6], [5, 6, 7], [5, 6, 7, 8], [0, 1, 2, 3, 4, 5, 6, 7, 8, 9], [0, 1, 2, 3, 4, 5, 6, 7, 8, 9, 10]] [10, 11] (by kernel_rfl) (by kernel_rfl) (fun (i : Nat) (v : Value) (G : GH) => match i with | 0 => v = .pointer (some ⟨b, 0, none⟩) | 1 => v = .pointer (some ⟨b, 0, none⟩) | 2 => v = .pointer (some ⟨b, 1, none⟩) | 3 => v = .slice (some ⟨b2, 0, none⟩) l.length cap | 4 => v = .pointer (some ⟨b2, 0, none⟩) | 5 => v = .pointer (some ⟨b, 0, none⟩) | 6 => v = .pointer (some ⟨b, 0, none⟩) | 7 => v = .pointer (some ⟨b, 1, none⟩) | 8 => v = .slice (some ⟨b2, 0, none⟩) l.length cap | 9 => v = vi l.length | _ => True) hprm1 H ?_ ?_
  · clear H; refine (allI_cons ?_ (allI_cons ?_ (allI_cons ?_ (allI_cons ?_ (allI_cons ?_ (allI_cons ?_ (allI_cons ?_ (allI_cons ?_ (allI_cons ?_ (allI_cons ?_ (allI_cons ?_ (allI_cons ?_ allI_nil))))))))))))
    · intro S a w G1 _ hSi hc hG HT hv; have H := HT; clear hSi
      have Hb := H.full; have H := Hb; clear hc
      refine s_move H wn rfl rfl ?_; clear H; intro a H
      refine wl_nil ⟨rfl, ?_⟩
      exact draw_val (by kernel_rfl) hprm1 rfl rfl HT Hb hG hv (fun _ _ h => h) (rfl) H
    · intro S a w G1 _ hSi hc hG HT hv; have H := HT; clear hSi
      obtain ⟨u3, hu3, hp3⟩ := hv 0 3 (hc 0 (by decide)) rfl
      obtain rfl : u3 = .pointer (some ⟨b, 0, none⟩) := hp3
      have H := H.addS hu3
      have Hb := H.full; have H := Hb; clear hc
      refine s_nilCheck H wn rfl rfl ?_; clear H; intro a H
      refine wl_nil ⟨rfl, ?_⟩
      exact draw_val (by kernel_rfl) hprm1 rfl rfl HT Hb hG hv (fun _ _ h => h) (rfl) H
    · intro S a w G1 _ hSi hc hG HT hv; have H := HT; clear hSi
      obtain ⟨u4, hu4, hp4⟩ := hv 1 4 (hc 1 (by decide)) rfl
      obtain rfl : u4 = .pointer (some ⟨b, 0, none⟩) := hp4
      have H := H.addS hu4
      have Hb := H.full; have H := Hb; clear hc
      refine s_field fd144_1bld H wn rfl rfl ?_; clear H; intro a H
      refine wl_nil ⟨rfl, ?_⟩
      exact draw_val (by kernel_rfl) hprm1 rfl rfl HT Hb hG hv (fun _ _ h => h) (rfl) H
    · intro S a w G1 _ hSi hc hG HT hv; have H := HT; clear hSi
      obtain ⟨u5, hu5, hp5⟩ := hv 2 5 (hc 2 (by decide)) rfl
      obtain rfl : u5 = .pointer (some ⟨b, 1, none⟩) := hp5
      have H := H.addS hu5
      have Hb := H.full; have H := Hb; clear hc
      refine s_load ty142bld H wn rfl (H.hp.ocell 0 rfl rfl) rfl ?_; clear H; intro a H
      refine wl_nil ⟨rfl, ?_⟩
      exact draw_val (by kernel_rfl) hprm1 rfl rfl HT Hb hG hv (fun _ _ h => h) (rfl) H
    · intro S a w G1 _ hSi hc hG HT hv; have H := HT; clear hSi
      obtain ⟨u6, hu6, hp6⟩ := hv 3 6 (hc 3 (by decide)) rfl
      obtain rfl : u6 = .slice (some ⟨b2, 0, none⟩) l.length cap := hp6
      have H := H.addS hu6
      have Hb := H.full; have H := Hb; clear hc
      refine s_sliceData H wn rfl (by omega) rfl ?_; clear H; intro a H
      refine wl_nil ⟨rfl, ?_⟩
      exact draw_val (by kernel_rfl) hprm1 rfl rfl HT Hb hG hv (fun _ _ h => h) (rfl) H
    · intro S a w G1 _ hSi hc hG HT hv; have H := HT; clear hSi
      have Hb := H.full; have H := Hb; clear hc
      refine s_move H wn rfl rfl ?_; clear H; intro a H
      refine wl_nil ⟨rfl, ?_⟩
      exact draw_val (by kernel_rfl) hprm1 rfl rfl HT Hb hG hv (fun _ _ h => h) (rfl) H
    · intro S a w G1 _ hSi hc hG HT hv; have H := HT; clear hSi
      obtain ⟨u8, hu8, hp8⟩ := hv 5 8 (hc 5 (by decide)) rfl
      obtain rfl : u8 = .pointer (some ⟨b, 0, none⟩) := hp8
      have H := H.addS hu8
      have Hb := H.full; have H := Hb; clear hc
      refine s_nilCheck H wn rfl rfl ?_; clear H; intro a H
      refine wl_nil ⟨rfl, ?_⟩
      exact draw_val (by kernel_rfl) hprm1 rfl rfl HT Hb hG hv (fun _ _ h => h) (rfl) H
    · intro S a w G1 _ hSi hc hG HT hv; have H := HT; clear hSi
      obtain ⟨u9, hu9, hp9⟩ := hv 6 9 (hc 6 (by decide)) rfl
      obtain rfl : u9 = .pointer (some ⟨b, 0, none⟩) := hp9
      have H := H.addS hu9
      have Hb := H.full; have H := Hb; clear hc
      refine s_field fd144_1bld H wn rfl rfl ?_; clear H; intro a H
      refine wl_nil ⟨rfl, ?_⟩
      exact draw_val (by kernel_rfl) hprm1 rfl rfl HT Hb hG hv (fun _ _ h => h) (rfl) H
    · intro S a w G1 _ hSi hc hG HT hv; have H := HT; clear hSi
      obtain ⟨u10, hu10, hp10⟩ := hv 7 10 (hc 7 (by decide)) rfl
      obtain rfl : u10 = .pointer (some ⟨b, 1, none⟩) := hp10
      have H := H.addS hu10
      have Hb := H.full; have H := Hb; clear hc
      refine s_load ty142bld H wn rfl (H.hp.ocell 0 rfl rfl) rfl ?_; clear H; intro a H
      refine wl_nil ⟨rfl, ?_⟩
      exact draw_val (by kernel_rfl) hprm1 rfl rfl HT Hb hG hv (fun _ _ h => h) (rfl) H
    · intro S a w G1 _ hSi hc hG HT hv; have H := HT; clear hSi
      obtain ⟨u11, hu11, hp11⟩ := hv 8 11 (hc 8 (by decide)) rfl
      obtain rfl : u11 = .slice (some ⟨b2, 0, none⟩) l.length cap := hp11
      have H := H.addS hu11
      have Hb := H.full; have H := Hb; clear hc
      refine s_len un142bld H wn rfl rfl ?_; clear H; intro a H
      refine wl_nil ⟨rfl, ?_⟩
      exact draw_val (by kernel_rfl) hprm1 rfl rfl HT Hb hG hv (fun _ _ h => h) (rfl) H
    · intro _ _ _ _ hB; exact absurd hB (by decide)
    · intro _ _ _ _ hB; exact absurd hB (by decide)
  · clear H; intro a w G hGm1 H hv
    obtain ⟨u7, hu7, hp7⟩ := hv 4 7 (by decide) rfl
    obtain rfl : u7 = .pointer (some ⟨b2, 0, none⟩) := hp7
    have H := H.addS hu7
    obtain ⟨u12, hu12, hp12⟩ := hv 9 12 (by decide) rfl
    obtain rfl : u12 = vi l.length := hp12
    have H := H.addS hu12
    clear hv
    refine s_unsafeString (i := 1) l un167bld cellsU8 h0 (by omega) H wn rfl rfl rfl (by rw [← hc4, Nat.mul_one]) rfl ?_; clear H; intro fz a w H
    dsimp only [List.set] at H
    refine s_assign H wn rfl rfl ?_; clear H; intro a H
    refine wl_nil ⟨rfl, ?_⟩
    refine hK2 _ _ ?_; clear hK2
    refine c_ret ?_
    refine (leave1 H Try.results62 (.cons (rv_tmp H rfl) .nil) ?_).1
    exact H.hp.retL rfl
end Go.Proofs.Ytbfdhlakbdadhaa
