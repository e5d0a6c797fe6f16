/-
  Package obeluslaw31: known.
-/
import Derived.Test.YtpmcdlhhfbobfaaDoorKb
namespace Go.Proofs.YtpmcdlhhfbobfaaDoor
open Go.RowKit
theorem en17kw : ∀ args w, (callFunc 17 args).run Tryd.prog w = .ok (.enter 17 args) w := enters Tryd.func17 rfl (by kernel_rfl)
theorem en20kw : ∀ args w, (callFunc 20 args).run Tryd.prog w = .ok (.enter 20 args) w := enters Tryd.func20 rfl (by kernel_rfl)
theorem en10kw : ∀ args w, (callFunc 10 args).run Tryd.prog w = .ok (.enter 10 args) w := enters Tryd.func10 rfl (by kernel_rfl)
theorem un41kw : Tryd.prog.underlying 41 = some (.slice 48) := by kernel_rfl
theorem ty48kw : Ty Tryd.prog 48 2 16 [.int .i64 0, .int .i64 0] true := ⟨by kernel_rfl, by kernel_rfl⟩
theorem fd48_0kw : Fld Tryd.prog 48 0 0 := ⟨by kernel_rfl⟩
theorem ty3kw : Ty Tryd.prog 3 1 8 [.int .i64 0] false := ⟨by kernel_rfl, by kernel_rfl⟩
theorem un25kw : Tryd.prog.underlying 25 = some (.slice 31) := by kernel_rfl
theorem ty31kw : Ty Tryd.prog 31 3 24 [.int .i64 0, .int .i64 0, .int .i64 0] true := ⟨by kernel_rfl, by kernel_rfl⟩
theorem un32kw : Tryd.prog.underlying 32 = some (.slice 3) := by kernel_rfl
theorem un23kw : Tryd.prog.underlying 23 = some (.slice 32) := by kernel_rfl
theorem ty32kw : Ty Tryd.prog 32 1 24 [.slice none 0 0] false := ⟨by kernel_rfl, by kernel_rfl⟩
theorem eqi48kw : EqI Tryd.prog 48 [0, 1] := ⟨by kernel_rfl, by kernel_rfl, by kernel_rfl, by kernel_rfl, by kernel_rfl⟩
theorem sr31kw : Srt Tryd.prog 31 [(0, 1), (1, 1), (2, 1)] [.int .i64 0, .int .i64 0, .int .i64 0] := ⟨by kernel_rfl, by kernel_rfl⟩
theorem eqi31kw : EqI Tryd.prog 31 [0, 1, 2] := ⟨by kernel_rfl, by kernel_rfl, by kernel_rfl, by kernel_rfl, by kernel_rfl⟩
theorem two_nums {G : GH} {b : Nat} {x y : Int} (hb : G b = some (.cells #[vi x, vi y] 3 (0, 0))) : RepV G (.sl 1 ([x, y].map numDat)) (.slice (some ⟨b, 0, none⟩) 2 2) :=
  RepV.of_row (xs := [vi x, vi y]) hb rfl (Nat.le_refl _) (by decide) (List.take_of_length_le (Nat.le_refl _)) (nums_cat _ [x, y])
theorem rowd_row {G : GH} {l : List Int} {v : Value} (h : RepV G (.sl 1 (l.map numDat)) v) : RepRow G (rowDat l) [v] := by
  simp only [rowDat, RepRow]
  exact ⟨_, _, rfl, h, rfl⟩
theorem match_at {G : GH} {l : List MatchD} {A : Option Addr} {n c k : Nat} (hv : RepV G (.sl 3 (l.map MatchD.dat)) (.slice A n c)) (hk : k < l.length) : ∃ b o, A = some ⟨b, o, none⟩ ∧ (∀ j u, [vi l[k].a, vi l[k].b, vi l[k].score][j]? = some u → gcell G b (o + k * 3 + j) = some u) := by
  obtain ⟨A', c', he, _, _, hg⟩ := hv.slice
  injection he with e1 e2 e3
  subst e1
  obtain ⟨b, o, cs, h1, h2, h3, h4⟩ := hg k l[k].dat (by simp [hk])
  obtain rfl := match_of h4
  exact ⟨b, o, h1, h3⟩
set_option maxHeartbeats 2000000 in
theorem known_spec (G : GH) (w0 : World) (hG : Hold G w0) : Calls Tryd.prog 11 #[] w0 (Ret w0 G fun u G' => u = .bool true) := by
  refine enter (N := 76) (T := []) (F := fun k => k < w0.heap.size) (L := []) Tryd.func11 rfl Tryd.ntmps11 rfl rfl hG (fun _ h => h) (fun _ h => by cases h) (fun _ h => by cases h) (fun _ h => by cases h) List.Pairwise.nil ?_
  intro a H
  refine c_seq (fun _ hK1 => ?_)
  refine c_region ?_
  refine s_assign H wn rfl rfl ?_; clear H; intro a H
  refine wl_nil ?_
  refine hK1 _ _ ?_; clear hK1
  refine c_seq (fun _ hK2 => ?_)
  refine c_region ?_
  refine s_call en17kw H wn rfl (btwo_spec _ _ H.hp.ro sThe sA the_ok a_ok (by decide) (by decide)) rfl ?_; clear H
  rintro v9 G9 a w ⟨x9, y9, rfl, hx, hy⟩ hm9 H
  rw [the_two] at hx
  rw [a_two] at hy
  obtain ⟨xA, xc, rfl, -, -, -⟩ := hx.slice
  obtain ⟨yA, yc, rfl, -, -, -⟩ := hy.slice
  try dsimp only [List.map_cons, List.map_nil, List.length_cons, List.length_nil] at H
  refine s_move H wn rfl rfl ?_; clear H; intro a H
  refine s_extract H wn rfl rfl rfl ?_; clear H; intro a H
  refine s_extract H wn rfl rfl rfl ?_; clear H; intro a H
  refine s_extract H wn rfl rfl rfl ?_; clear H; intro a H
  refine s_assign H wn rfl rfl ?_; clear H; intro a H
  refine s_assign H wn rfl rfl ?_; clear H; intro a H
  refine s_assign H wn rfl rfl ?_; clear H; intro a H
  refine wl_nil ?_
  refine hK2 _ _ ?_; clear hK2
  refine c_seq (fun _ hK3 => ?_)
  refine c_region ?_
  refine s_call en20kw H wn rfl (bsim_spec _ _ H.hp.ro sThe sA the_ok a_ok (by decide) (by decide)) rfl ?_; clear H
  rintro v14 G14 a w rfl hm14 H
  rw [the_aln] at H
  refine s_move H wn rfl rfl ?_; clear H; intro a H
  refine s_extract H wn rfl rfl rfl ?_; clear H; intro a H
  refine s_extract H wn rfl rfl rfl ?_; clear H; intro a H
  refine s_assign H wn rfl rfl ?_; clear H; intro a H
  refine s_assign H wn rfl rfl ?_; clear H; intro a H
  refine wl_nil ?_
  refine hK3 _ _ ?_; clear hK3
  refine c_seq (fun _ hK4 => ?_)
  refine c_region ?_
  refine s_buildSlice un32kw ty3kw [_, _] [_, _] H wn rfl rfl rfl rfl rfl (by intro i q h; match i, h with | 0, h => exact h | 1, h => exact h | n + 2, h => simp at h) rfl rfl ?_; clear H; intro b18 a w hb18 H
  refine s_buildSlice un32kw ty3kw [_, _] [_, _] H wn rfl rfl rfl rfl rfl (by intro i q h; match i, h with | 0, h => exact h | 1, h => exact h | n + 2, h => simp at h) rfl rfl ?_; clear H; intro b19 a w hb19 H
  refine s_buildSlice un23kw ty32kw [_, _] [_, _] H wn rfl rfl rfl rfl rfl (by intro i q h; match i, h with | 0, h => exact h | 1, h => exact h | n + 2, h => simp at h) rfl rfl ?_; clear H; intro b20 a w hb20 H
  obtain ⟨Ga, hma, hga, H⟩ := H.giveBox
  obtain ⟨Gb, hmb, hgb, H⟩ := H.giveBox
  obtain ⟨Gc, hmc, hgc, H⟩ := H.giveBox
  have ht1 := two_nums (hmc _ _ hgb)
  have ht2 := two_nums hgc
  have ht3 : RepV Gc (.sl 1 ([[500, 900], [1000, 600]].map rowDat)) _ := RepV.of_row (xs := [_, _]) (hmc _ _ (hmb _ _ hga)) rfl (Nat.le_refl _) (by decide) rfl (by simpa using ((RepCat.nil (sz := 1)).snoc (rowd_row ht2) rfl).snoc (rowd_row ht1) rfl)
  refine s_call en10kw H wn rfl (best_spec _ _ H.hp.ro _ _ ht3) rfl ?_; clear H
  rintro v21 G21 a w ⟨z21, rfl, hz⟩ hm21 H
  rw [the_best] at hz
  rw [the_chk] at H
  obtain ⟨zA, zc, rfl, -, -, -⟩ := hz.slice
  try dsimp only [List.map_cons, List.map_nil, List.length_cons, List.length_nil] at H
  refine s_move H wn rfl rfl ?_; clear H; intro a H
  refine s_extract H wn rfl rfl rfl ?_; clear H; intro a H
  refine s_extract H wn rfl rfl rfl ?_; clear H; intro a H
  refine s_assign H wn rfl rfl ?_; clear H; intro a H
  refine s_assign H wn rfl rfl ?_; clear H; intro a H
  refine wl_nil ?_
  refine hK4 _ _ ?_; clear hK4
  refine c_seq (fun _ hK5 => ?_)
  obtain ⟨xb, xo, rfl, hx2⟩ := tok_at (k := 2) ((((((hx.mono hm14).mono hma).mono hmb).mono hmc).mono hm21)) (by decide)
  obtain ⟨yb, yo, rfl, hy2⟩ := tok_at (k := 2) ((((((hy.mono hm14).mono hma).mono hmb).mono hmc).mono hm21)) (by decide)
  obtain ⟨_, _, ey, hy0⟩ := tok_at (k := 0) ((((((hy.mono hm14).mono hma).mono hmb).mono hmc).mono hm21)) (by decide)
  injection ey with ey; injection ey with ey1 ey2; subst ey1; subst ey2
  obtain ⟨zb, zo, rfl, hz1⟩ := match_at (k := 1) hz (by decide)
  have hprm4 : ∀ (ix_ : Nat) (v : Value) (G G' : GH), (∀ k o, G k = some o → G' k = some o) → (fun (ix_ : Nat) (v : Value) (G : GH) => match ix_ with | 0 => v = vi 0 | 1 => v = .bool true | 2 => v = .bool true | 3 => v = .slice (some ⟨xb, xo, none⟩) 3 xc | 4 => v = vi 3 | 5 => v = .bool true | 6 => v = .bool true | 7 => v = .bool true | 8 => v = .slice (some ⟨yb, yo, none⟩) 3 yc | 9 => v = vi 3 | 10 => v = .bool true | 11 => v = .bool true | 12 => v = .bool true | 13 => v = .slice (some ⟨xb, xo, none⟩) 3 xc | 14 => v = .pointer (some ⟨xb, xo + 2 * 2, none⟩) | 15 => v = .agg #[vi 3, vi 3] | 16 => v = .slice (some ⟨yb, yo, none⟩) 3 yc | 17 => v = .pointer (some ⟨yb, yo + 2 * 2, none⟩) | 18 => v = .agg #[vi 3, vi 3] | 19 => v = .bool true | 20 => v = .bool true | 21 => v = .bool true | 22 => v = .slice (some ⟨yb, yo, none⟩) 3 yc | 23 => v = .pointer (some ⟨yb, yo + 0 * 2, none⟩) | 24 => v = .pointer (some ⟨yb, yo + 0 * 2 + 0, none⟩) | 25 => v = vi 4 | 26 => v = .bool true | 27 => v = .bool true | 28 => v = .bool true | 29 => v = vi 666 | 30 => v = .bool true | 31 => v = .bool true | 32 => v = .bool true | 33 => v = vi 0 | 34 => v = .bool true | 35 => v = .bool true | 36 => v = .bool true | 37 => v = vi 0 | 38 => v = .bool true | 39 => v = .bool true | 40 => v = .bool true | 41 => v = .slice (some ⟨zb, zo, none⟩) 2 zc | 42 => v = vi 2 | 43 => v = .bool true | 44 => v = .bool true | 45 => v = .bool true | 46 => v = .slice (some ⟨zb, zo, none⟩) 2 zc | 47 => v = .pointer (some ⟨zb, zo + 1 * 3, none⟩) | 48 => v = .agg #[vi 1, vi 1, vi 600] | 49 => v = .agg #[vi 1, vi 1, vi 600] | 50 => v = .bool true | 51 => v = .bool true | _ => True) ix_ v G → (fun (ix_ : Nat) (v : Value) (G : GH) => match ix_ with | 0 => v = vi 0 | 1 => v = .bool true | 2 => v = .bool true | 3 => v = .slice (some ⟨xb, xo, none⟩) 3 xc | 4 => v = vi 3 | 5 => v = .bool true | 6 => v = .bool true | 7 => v = .bool true | 8 => v = .slice (some ⟨yb, yo, none⟩) 3 yc | 9 => v = vi 3 | 10 => v = .bool true | 11 => v = .bool true | 12 => v = .bool true | 13 => v = .slice (some ⟨xb, xo, none⟩) 3 xc | 14 => v = .pointer (some ⟨xb, xo + 2 * 2, none⟩) | 15 => v = .agg #[vi 3, vi 3] | 16 => v = .slice (some ⟨yb, yo, none⟩) 3 yc | 17 => v = .pointer (some ⟨yb, yo + 2 * 2, none⟩) | 18 => v = .agg #[vi 3, vi 3] | 19 => v = .bool true | 20 => v = .bool true | 21 => v = .bool true | 22 => v = .slice (some ⟨yb, yo, none⟩) 3 yc | 23 => v = .pointer (some ⟨yb, yo + 0 * 2, none⟩) | 24 => v = .pointer (some ⟨yb, yo + 0 * 2 + 0, none⟩) | 25 => v = vi 4 | 26 => v = .bool true | 27 => v = .bool true | 28 => v = .bool true | 29 => v = vi 666 | 30 => v = .bool true | 31 => v = .bool true | 32 => v = .bool true | 33 => v = vi 0 | 34 => v = .bool true | 35 => v = .bool true | 36 => v = .bool true | 37 => v = vi 0 | 38 => v = .bool true | 39 => v = .bool true | 40 => v = .bool true | 41 => v = .slice (some ⟨zb, zo, none⟩) 2 zc | 42 => v = vi 2 | 43 => v = .bool true | 44 => v = .bool true | 45 => v = .bool true | 46 => v = .slice (some ⟨zb, zo, none⟩) 2 zc | 47 => v = .pointer (some ⟨zb, zo + 1 * 3, none⟩) | 48 => v = .agg #[vi 1, vi 1, vi 600] | 49 => v = .agg #[vi 1, vi 1, vi 600] | 50 => v = .bool true | 51 => v = .bool true | _ => True) ix_ v G' := by
    intro ix_ v G G' hm h
    match ix_, h with
    | 0, h => exact h
    | 1, h => exact h
    | 2, h => exact h
    | 3, h => exact h
    | 4, h => exact h
    | 5, h => exact h
    | 6, h => exact h
    | 7, h => exact h
    | 8, h => exact h
    | 9, h => exact h
    | 10, h => exact h
    | 11, h => exact h
    | 12, h => exact h
    | 13, h => exact h
    | 14, h => exact h
    | 15, h => exact h
    | 16, h => exact h
    | 17, h => exact h
    | 18, h => exact h
    | 19, h => exact h
    | 20, h => exact h
    | 21, h => exact h
    | 22, h => exact h
    | 23, h => exact h
    | 24, h => exact h
    | 25, h => exact h
    | 26, h => exact h
    | 27, h => exact h
    | 28, h => exact h
    | 29, h => exact h
    | 30, h => exact h
    | 31, h => exact h
    | 32, h => exact h
    | 33, h => exact h
    | 34, h => exact h
    | 35, h => exact h
    | 36, h => exact h
    | 37, h => exact h
    | 38, h => exact h
    | 39, h => exact h
    | 40, h => exact h
    | 41, h => exact h
    | 42, h => exact h
    | 43, h => exact h
    | 44, h => exact h
    | 45, h => exact h
    | 46, h => exact h
    | 47, h => exact h
    | 48, h => exact h
    | 49, h => exact h
    | 50, h => exact h
    | 51, h => exact h
    | 52, h => exact trivial
    | _ + 53, h => exact trivial
  refine c_drawI (hmxb) [[], [0], [0, 1], [0, 1, 2], [0, 1, 2, 3], [0, 1, 2, 3, 4], [0, 1, 2, 3, 4, 5], [0, 1, 2, 3, 4, 5, 6], [0, 1, 2, 3, 4, 5, 6, 7], [0, 1, 2, 3, 4, 5, 6, 7, 8], [0, 1, 2, 3, 4, 5, 6, 7, 8, 9], [0, 1, 2, 3, 4, 5, 6, 7, 8, 9, 10], [0, 1, 2, 3, 4, 5, 6, 7, 8, 9, 10, 11], [0, 1, 2, 3, 4, 5, 6, 7, 8, 9, 10, 11, 12], [0, 1, 2, 3, 4, 5, 6, 7, 8, 9, 10, 11, 12, 13], [0, 1, 2, 3, 4, 5, 6, 7, 8, 9, 10, 11, 12, 13, 14], [0, 1, 2, 3, 4, 5, 6, 7, 8, 9, 10, 11, 12], [0, 1, 2, 3, 4, 5, 6, 7, 8, 9, 10, 11, 12, 16], [0, 1, 2, 3, 4, 5, 6, 7, 8, 9, 10, 11, 12, 16, 17], [0, 1, 2, 3, 4, 5, 6, 7, 8, 9, 10, 11, 12, 13, 14, 15, 16, 17, 18], [0, 1, 2, 3, 4, 5, 6, 7, 8, 9, 10, 11, 12, 13, 14, 15, 16, 17, 18, 19], [0, 1, 2, 3, 4, 5, 6, 7, 8, 9, 10, 11, 12, 13, 14, 15, 16, 17, 18, 19, 20], [0, 1, 2, 3, 4, 5, 6, 7, 8, 9, 10, 11, 12, 13, 14, 15, 16, 17, 18, 19, 20, 21], [0, 1, 2, 3, 4, 5, 6, 7, 8, 9, 10, 11, 12, 13, 14, 15, 16, 17, 18, 19, 20, 21, 22], [0, 1, 2, 3, 4, 5, 6, 7, 8, 9, 10, 11, 12, 13, 14, 15, 16, 17, 18, 19, 20, 21, 22, 23], [0, 1, 2, 3, 4, 5, 6, 7, 8, 9, 10, 11, 12, 13, 14, 15, 16, 17, 18, 19, 20, 21, 22, 23, 24], [0, 1, 2, 3, 4, 5, 6, 7, 8, 9, 10, 11, 12, 13, 14, 15, 16, 17, 18, 19, 20, 21, 22, 23, 24, 25], [0, 1, 2, 3, 4, 5, 6, 7, 8, 9, 10, 11, 12, 13, 14, 15, 16, 17, 18, 19, 20, 21, 22, 23, 24, 25, 26], [0, 1, 2, 3, 4, 5, 6, 7, 8, 9, 10, 11, 12, 13, 14, 15, 16, 17, 18, 19, 20, 21, 22, 23, 24, 25, 26, 27], [0, 1, 2, 3, 4, 5, 6, 7, 8, 9, 10, 11, 12, 13, 14, 15, 16, 17, 18, 19, 20, 21, 22, 23, 24, 25, 26, 27, 28], [0, 1, 2, 3, 4, 5, 6, 7, 8, 9, 10, 11, 12, 13, 14, 15, 16, 17, 18, 19, 20, 21, 22, 23, 24, 25, 26, 27, 28, 29], [0, 1, 2, 3, 4, 5, 6, 7, 8, 9, 10, 11, 12, 13, 14, 15, 16, 17, 18, 19, 20, 21, 22, 23, 24, 25, 26, 27, 28, 29, 30], [0, 1, 2, 3, 4, 5, 6, 7, 8, 9, 10, 11, 12, 13, 14, 15, 16, 17, 18, 19, 20, 21, 22, 23, 24, 25, 26, 27, 28, 29, 30, 31], [0, 1, 2, 3, 4, 5, 6, 7, 8, 9, 10, 11, 12, 13, 14, 15, 16, 17, 18, 19, 20, 21, 22, 23, 24, 25, 26, 27, 28, 29, 30, 31, 32], [0, 1, 2, 3, 4, 5, 6, 7, 8, 9, 10, 11, 12, 13, 14, 15, 16, 17, 18, 19, 20, 21, 22, 23, 24, 25, 26, 27, 28, 29, 30, 31, 32, 33], [0, 1, 2, 3, 4, 5, 6, 7, 8, 9, 10, 11, 12, 13, 14, 15, 16, 17, 18, 19, 20, 21, 22, 23, 24, 25, 26, 27, 28, 29, 30, 31, 32, 33, 34], [0, 1, 2, 3, 4, 5, 6, 7, 8, 9, 10, 11, 12, 13, 14, 15, 16, 17, 18, 19, 20, 21, 22, 23, 24, 25, 26, 27, 28, 29, 30, 31, 32, 33, 34, 35], [0, 1, 2, 3, 4, 5, 6, 7, 8, 9, 10, 11, 12, 13, 14, 15, 16, 17, 18, 19, 20, 21, 22, 23, 24, 25, 26, 27, 28, 29, 30, 31, 32, 33, 34, 35, 36], [0, 1, 2, 3, 4, 5, 6, 7, 8, 9, 10, 11, 12, 13, 14, 15, 16, 17, 18, 19, 20, 21, 22, 23, 24, 25, 26, 27, 28, 29, 30, 31, 32, 33, 34, 35, 36, 37], [0, 1, 2, 3, 4, 5, 6, 7, 8, 9, 10, 11, 12, 13, 14, 15, 16, 17, 18, 19, 20, 21, 22, 23, 24, 25, 26, 27, 28, 29, 30, 31, 32, 33, 34, 35, 36, 37, 38], [0, 1, 2, 3, 4, 5, 6, 7, 8, 9, 10, 11, 12, 13, 14, 15, 16, 17, 18, 19, 20, 21, 22, 23, 24, 25, 26, 27, 28, 29, 30, 31, 32, 33, 34, 35, 36, 37, 38, 39], [0, 1, 2, 3, 4, 5, 6, 7, 8, 9, 10, 11, 12, 13, 14, 15, 16, 17, 18, 19, 20, 21, 22, 23, 24, 25, 26, 27, 28, 29, 30, 31, 32, 33, 34, 35, 36, 37, 38, 39, 40], [0, 1, 2, 3, 4, 5, 6, 7, 8, 9, 10, 11, 12, 13, 14, 15, 16, 17, 18, 19, 20, 21, 22, 23, 24, 25, 26, 27, 28, 29, 30, 31, 32, 33, 34, 35, 36, 37, 38, 39, 40, 41], [0, 1, 2, 3, 4, 5, 6, 7, 8, 9, 10, 11, 12, 13, 14, 15, 16, 17, 18, 19, 20, 21, 22, 23, 24, 25, 26, 27, 28, 29, 30, 31, 32, 33, 34, 35, 36, 37, 38, 39, 40, 41, 42], [0, 1, 2, 3, 4, 5, 6, 7, 8, 9, 10, 11, 12, 13, 14, 15, 16, 17, 18, 19, 20, 21, 22, 23, 24, 25, 26, 27, 28, 29, 30, 31, 32, 33, 34, 35, 36, 37, 38, 39, 40, 41, 42, 43], [0, 1, 2, 3, 4, 5, 6, 7, 8, 9, 10, 11, 12, 13, 14, 15, 16, 17, 18, 19, 20, 21, 22, 23, 24, 25, 26, 27, 28, 29, 30, 31, 32, 33, 34, 35, 36, 37, 38, 39, 40, 41, 42, 43, 44], [0, 1, 2, 3, 4, 5, 6, 7, 8, 9, 10, 11, 12, 13, 14, 15, 16, 17, 18, 19, 20, 21, 22, 23, 24, 25, 26, 27, 28, 29, 30, 31, 32, 33, 34, 35, 36, 37, 38, 39, 40, 41, 42, 43, 44, 45], [0, 1, 2, 3, 4, 5, 6, 7, 8, 9, 10, 11, 12, 13, 14, 15, 16, 17, 18, 19, 20, 21, 22, 23, 24, 25, 26, 27, 28, 29, 30, 31, 32, 33, 34, 35, 36, 37, 38, 39, 40, 41, 42, 43, 44, 45, 46], [0, 1, 2, 3, 4, 5, 6, 7, 8, 9, 10, 11, 12, 13, 14, 15, 16, 17, 18, 19, 20, 21, 22, 23, 24, 25, 26, 27, 28, 29, 30, 31, 32, 33, 34, 35, 36, 37, 38, 39, 40, 41, 42, 43, 44, 45, 46, 47], [0, 1, 2, 3, 4, 5, 6, 7, 8, 9, 10, 11, 12, 13, 14, 15, 16, 17, 18, 19, 20, 21, 22, 23, 24, 25, 26, 27, 28, 29, 30, 31, 32, 33, 34, 35, 36, 37, 38, 39, 40, 41, 42, 43, 44, 45], [0, 1, 2, 3, 4, 5, 6, 7, 8, 9, 10, 11, 12, 13, 14, 15, 16, 17, 18, 19, 20, 21, 22, 23, 24, 25, 26, 27, 28, 29, 30, 31, 32, 33, 34, 35, 36, 37, 38, 39, 40, 41, 42, 43, 44, 45, 46, 47, 48, 49], [0, 1, 2, 3, 4, 5, 6, 7, 8, 9, 10, 11, 12, 13, 14, 15, 16, 17, 18, 19, 20, 21, 22, 23, 24, 25, 26, 27, 28, 29, 30, 31, 32, 33, 34, 35, 36, 37, 38, 39, 40, 41, 42, 43, 44, 45, 46, 47, 48, 49, 50], [0, 1, 2, 3, 4, 5, 6, 7, 8, 9, 10, 11, 12, 13, 14, 15, 16, 17, 18, 19, 20, 21, 22, 23, 24, 25, 26, 27, 28, 29, 30, 31, 32, 33, 34, 35, 36, 37, 38, 39, 40, 41, 42, 43, 44, 45, 46, 47, 48, 49, 50, 51]] [52] (by kernel_rfl) (by kernel_rfl) (fun (ix_ : Nat) (v : Value) (G : GH) => match ix_ with | 0 => v = vi 0 | 1 => v = .bool true | 2 => v = .bool true | 3 => v = .slice (some ⟨xb, xo, none⟩) 3 xc | 4 => v = vi 3 | 5 => v = .bool true | 6 => v = .bool true | 7 => v = .bool true | 8 => v = .slice (some ⟨yb, yo, none⟩) 3 yc | 9 => v = vi 3 | 10 => v = .bool true | 11 => v = .bool true | 12 => v = .bool true | 13 => v = .slice (some ⟨xb, xo, none⟩) 3 xc | 14 => v = .pointer (some ⟨xb, xo + 2 * 2, none⟩) | 15 => v = .agg #[vi 3, vi 3] | 16 => v = .slice (some ⟨yb, yo, none⟩) 3 yc | 17 => v = .pointer (some ⟨yb, yo + 2 * 2, none⟩) | 18 => v = .agg #[vi 3, vi 3] | 19 => v = .bool true | 20 => v = .bool true | 21 => v = .bool true | 22 => v = .slice (some ⟨yb, yo, none⟩) 3 yc | 23 => v = .pointer (some ⟨yb, yo + 0 * 2, none⟩) | 24 => v = .pointer (some ⟨yb, yo + 0 * 2 + 0, none⟩) | 25 => v = vi 4 | 26 => v = .bool true | 27 => v = .bool true | 28 => v = .bool true | 29 => v = vi 666 | 30 => v = .bool true | 31 => v = .bool true | 32 => v = .bool true | 33 => v = vi 0 | 34 => v = .bool true | 35 => v = .bool true | 36 => v = .bool true | 37 => v = vi 0 | 38 => v = .bool true | 39 => v = .bool true | 40 => v = .bool true | 41 => v = .slice (some ⟨zb, zo, none⟩) 2 zc | 42 => v = vi 2 | 43 => v = .bool true | 44 => v = .bool true | 45 => v = .bool true | 46 => v = .slice (some ⟨zb, zo, none⟩) 2 zc | 47 => v = .pointer (some ⟨zb, zo + 1 * 3, none⟩) | 48 => v = .agg #[vi 1, vi 1, vi 600] | 49 => v = .agg #[vi 1, vi 1, vi 600] | 50 => v = .bool true | 51 => v = .bool true | _ => True) hprm4 H ?_ ?_
  · clear H; refine (allI_cons ?_ (allI_cons ?_ (allI_cons ?_ (allI_cons ?_ (allI_cons ?_ (allI_cons ?_ (allI_cons ?_ (allI_cons ?_ (allI_cons ?_ (allI_cons ?_ (allI_cons ?_ (allI_cons ?_ (allI_cons ?_ (allI_cons ?_ (allI_cons ?_ (allI_cons ?_ (allI_cons ?_ (allI_cons ?_ (allI_cons ?_ (allI_cons ?_ (allI_cons ?_ (allI_cons ?_ (allI_cons ?_ (allI_cons ?_ (allI_cons ?_ (allI_cons ?_ (allI_cons ?_ (allI_cons ?_ (allI_cons ?_ (allI_cons ?_ (allI_cons ?_ (allI_cons ?_ (allI_cons ?_ (allI_cons ?_ (allI_cons ?_ (allI_cons ?_ (allI_cons ?_ (allI_cons ?_ (allI_cons ?_ (allI_cons ?_ (allI_cons ?_ (allI_cons ?_ (allI_cons ?_ (allI_cons ?_ (allI_cons ?_ (allI_cons ?_ (allI_cons ?_ (allI_cons ?_ (allI_cons ?_ (allI_cons ?_ (allI_cons ?_ (allI_cons ?_ (allI_cons ?_ allI_nil)))))))))))))))))))))))))))))))))))))))))))))))))))))
    · intro Sd_ a w G1 _ hSi hc hG HT hv; have H := HT; clear hSi
      have Hb := H.full; have H := Hb; clear hc
      refine s_move H wn rfl rfl ?_; clear H; intro a H
      refine wl_nil ⟨rfl, ?_⟩
      exact draw_val (by kernel_rfl) hprm4 rfl rfl HT Hb hG hv (fun _ _ h => h) (rfl) H
    · intro Sd_ a w G1 _ hSi hc hG HT hv; have H := HT; clear hSi
      obtain ⟨u24, hu24, hp24⟩ := hv 0 24 (hc 0 (by decide)) rfl
      obtain rfl : u24 = vi 0 := hp24
      have H := H.addS hu24
      have Hb := H.full; have H := Hb; clear hc
      refine s_cmp H wn rfl rfl rfl rfl ?_; clear H; intro a H
      refine wl_nil ⟨rfl, ?_⟩
      exact draw_val (by kernel_rfl) hprm4 rfl rfl HT Hb hG hv (fun _ _ h => h) (rfl) H
    · intro Sd_ a w G1 _ hSi hc hG HT hv; have H := HT; clear hSi
      obtain ⟨u25, hu25, hp25⟩ := hv 1 25 (hc 1 (by decide)) rfl
      obtain rfl : u25 = .bool true := hp25
      have H := H.addS hu25
      have Hb := H.full; have H := Hb; clear hc
      refine s_move H wn rfl rfl ?_; clear H; intro a H
      refine wl_nil ⟨rfl, ?_⟩
      exact draw_val (by kernel_rfl) hprm4 rfl rfl HT Hb hG hv (fun _ _ h => h) (rfl) H
    · intro Sd_ a w G1 _ hSi hc hG HT hv; have H := HT; clear hSi
      obtain ⟨u26, hu26, hp26⟩ := hv 2 26 (hc 2 (by decide)) rfl
      obtain rfl : u26 = .bool true := hp26
      have H := H.addS hu26
      have Hb := H.full; have H := Hb; clear hc
      refine s_move H (wg H rfl rfl rfl) rfl rfl ?_; clear H; intro a H
      refine wl_nil ⟨rfl, ?_⟩
      exact draw_val (by kernel_rfl) hprm4 rfl rfl HT Hb hG hv (fun _ _ h => h) (rfl) H
    · intro Sd_ a w G1 _ hSi hc hG HT hv; have H := HT; clear hSi
      obtain ⟨u27, hu27, hp27⟩ := hv 3 27 (hc 3 (by decide)) rfl
      obtain rfl : u27 = .slice (some ⟨xb, xo, none⟩) 3 xc := hp27
      have H := H.addS hu27
      obtain ⟨u26, hu26, hp26⟩ := hv 2 26 (hc 2 (by decide)) rfl
      obtain rfl : u26 = .bool true := hp26
      have H := H.addS hu26
      have Hb := H.full; have H := Hb; clear hc
      refine s_len un41kw H (wg H rfl rfl rfl) rfl rfl ?_; clear H; intro a H
      refine wl_nil ⟨rfl, ?_⟩
      exact draw_val (by kernel_rfl) hprm4 rfl rfl HT Hb hG hv (fun _ _ h => h) (rfl) H
    · intro Sd_ a w G1 _ hSi hc hG HT hv; have H := HT; clear hSi
      obtain ⟨u28, hu28, hp28⟩ := hv 4 28 (hc 4 (by decide)) rfl
      obtain rfl : u28 = vi 3 := hp28
      have H := H.addS hu28
      obtain ⟨u26, hu26, hp26⟩ := hv 2 26 (hc 2 (by decide)) rfl
      obtain rfl : u26 = .bool true := hp26
      have H := H.addS hu26
      have Hb := H.full; have H := Hb; clear hc
      refine s_cmp H (wg H rfl rfl rfl) rfl rfl rfl rfl ?_; clear H; intro a H
      refine wl_nil ⟨rfl, ?_⟩
      exact draw_val (by kernel_rfl) hprm4 rfl rfl HT Hb hG hv (fun _ _ h => h) (rfl) H
    · intro Sd_ a w G1 _ hSi hc hG HT hv; have H := HT; clear hSi
      obtain ⟨u26, hu26, hp26⟩ := hv 2 26 (hc 2 (by decide)) rfl
      obtain rfl : u26 = .bool true := hp26
      have H := H.addS hu26
      obtain ⟨u29, hu29, hp29⟩ := hv 5 29 (hc 5 (by decide)) rfl
      obtain rfl : u29 = .bool true := hp29
      have H := H.addS hu29
      have Hb := H.full; have H := Hb; clear hc
      refine s_pick_t H wn rfl rfl rfl rfl ?_; clear H; intro a H
      refine wl_nil ⟨rfl, ?_⟩
      exact draw_val (by kernel_rfl) hprm4 rfl rfl HT Hb hG hv (fun _ _ h => h) (rfl) H
    · intro Sd_ a w G1 _ hSi hc hG HT hv; have H := HT; clear hSi
      obtain ⟨u30, hu30, hp30⟩ := hv 6 30 (hc 6 (by decide)) rfl
      obtain rfl : u30 = .bool true := hp30
      have H := H.addS hu30
      have Hb := H.full; have H := Hb; clear hc
      refine s_move H wn rfl rfl ?_; clear H; intro a H
      refine wl_nil ⟨rfl, ?_⟩
      exact draw_val (by kernel_rfl) hprm4 rfl rfl HT Hb hG hv (fun _ _ h => h) (rfl) H
    · intro Sd_ a w G1 _ hSi hc hG HT hv; have H := HT; clear hSi
      obtain ⟨u31, hu31, hp31⟩ := hv 7 31 (hc 7 (by decide)) rfl
      obtain rfl : u31 = .bool true := hp31
      have H := H.addS hu31
      have Hb := H.full; have H := Hb; clear hc
      refine s_move H (wg H rfl rfl rfl) rfl rfl ?_; clear H; intro a H
      refine wl_nil ⟨rfl, ?_⟩
      exact draw_val (by kernel_rfl) hprm4 rfl rfl HT Hb hG hv (fun _ _ h => h) (rfl) H
    · intro Sd_ a w G1 _ hSi hc hG HT hv; have H := HT; clear hSi
      obtain ⟨u32, hu32, hp32⟩ := hv 8 32 (hc 8 (by decide)) rfl
      obtain rfl : u32 = .slice (some ⟨yb, yo, none⟩) 3 yc := hp32
      have H := H.addS hu32
      obtain ⟨u31, hu31, hp31⟩ := hv 7 31 (hc 7 (by decide)) rfl
      obtain rfl : u31 = .bool true := hp31
      have H := H.addS hu31
      have Hb := H.full; have H := Hb; clear hc
      refine s_len un41kw H (wg H rfl rfl rfl) rfl rfl ?_; clear H; intro a H
      refine wl_nil ⟨rfl, ?_⟩
      exact draw_val (by kernel_rfl) hprm4 rfl rfl HT Hb hG hv (fun _ _ h => h) (rfl) H
    · intro Sd_ a w G1 _ hSi hc hG HT hv; have H := HT; clear hSi
      obtain ⟨u33, hu33, hp33⟩ := hv 9 33 (hc 9 (by decide)) rfl
      obtain rfl : u33 = vi 3 := hp33
      have H := H.addS hu33
      obtain ⟨u31, hu31, hp31⟩ := hv 7 31 (hc 7 (by decide)) rfl
      obtain rfl : u31 = .bool true := hp31
      have H := H.addS hu31
      have Hb := H.full; have H := Hb; clear hc
      refine s_cmp H (wg H rfl rfl rfl) rfl rfl rfl rfl ?_; clear H; intro a H
      refine wl_nil ⟨rfl, ?_⟩
      exact draw_val (by kernel_rfl) hprm4 rfl rfl HT Hb hG hv (fun _ _ h => h) (rfl) H
    · intro Sd_ a w G1 _ hSi hc hG HT hv; have H := HT; clear hSi
      obtain ⟨u31, hu31, hp31⟩ := hv 7 31 (hc 7 (by decide)) rfl
      obtain rfl : u31 = .bool true := hp31
      have H := H.addS hu31
      obtain ⟨u34, hu34, hp34⟩ := hv 10 34 (hc 10 (by decide)) rfl
      obtain rfl : u34 = .bool true := hp34
      have H := H.addS hu34
      have Hb := H.full; have H := Hb; clear hc
      refine s_pick_t H wn rfl rfl rfl rfl ?_; clear H; intro a H
      refine wl_nil ⟨rfl, ?_⟩
      exact draw_val (by kernel_rfl) hprm4 rfl rfl HT Hb hG hv (fun _ _ h => h) (rfl) H
    · intro Sd_ a w G1 _ hSi hc hG HT hv; have H := HT; clear hSi
      obtain ⟨u35, hu35, hp35⟩ := hv 11 35 (hc 11 (by decide)) rfl
      obtain rfl : u35 = .bool true := hp35
      have H := H.addS hu35
      have Hb := H.full; have H := Hb; clear hc
      refine s_move H wn rfl rfl ?_; clear H; intro a H
      refine wl_nil ⟨rfl, ?_⟩
      exact draw_val (by kernel_rfl) hprm4 rfl rfl HT Hb hG hv (fun _ _ h => h) (rfl) H
    · intro Sd_ a w G1 _ hSi hc hG HT hv; have H := HT; clear hSi
      obtain ⟨u36, hu36, hp36⟩ := hv 12 36 (hc 12 (by decide)) rfl
      obtain rfl : u36 = .bool true := hp36
      have H := H.addS hu36
      have Hb := H.full; have H := Hb; clear hc
      refine s_move H (wg H rfl rfl rfl) rfl rfl ?_; clear H; intro a H
      refine wl_nil ⟨rfl, ?_⟩
      exact draw_val (by kernel_rfl) hprm4 rfl rfl HT Hb hG hv (fun _ _ h => h) (rfl) H
    · intro Sd_ a w G1 _ hSi hc hG HT hv; have H := HT; clear hSi
      obtain ⟨u37, hu37, hp37⟩ := hv 13 37 (hc 13 (by decide)) rfl
      obtain rfl : u37 = .slice (some ⟨xb, xo, none⟩) 3 xc := hp37
      have H := H.addS hu37
      obtain ⟨u36, hu36, hp36⟩ := hv 12 36 (hc 12 (by decide)) rfl
      obtain rfl : u36 = .bool true := hp36
      have H := H.addS hu36
      have Hb := H.full; have H := Hb; clear hc
      refine s_index un41kw ty48kw 2 H (wg H rfl rfl rfl) rfl rfl rfl (by decide) rfl ?_; clear H; intro a H
      refine wl_nil ⟨rfl, ?_⟩
      exact draw_val (by kernel_rfl) hprm4 rfl rfl HT Hb hG hv (fun _ _ h => h) (rfl) H
    · intro Sd_ a w G1 _ hSi hc hG HT hv; have H := HT; clear hSi
      obtain ⟨u38, hu38, hp38⟩ := hv 14 38 (hc 14 (by decide)) rfl
      obtain rfl : u38 = .pointer (some ⟨xb, xo + 2 * 2, none⟩) := hp38
      have H := H.addS hu38
      obtain ⟨u36, hu36, hp36⟩ := hv 12 36 (hc 12 (by decide)) rfl
      obtain rfl : u36 = .bool true := hp36
      have H := H.addS hu36
      have Hb := H.full; have H := Hb; clear hc
      refine s_loada ty48kw (cs := [_, _]) H (wg H rfl rfl rfl) rfl rfl (fun j v hj => H.hp.gcell (gcell_mono hG (hx2 j v hj))) rfl ?_; clear H; intro a H
      refine wl_nil ⟨rfl, ?_⟩
      exact draw_val (by kernel_rfl) hprm4 rfl rfl HT Hb hG hv (fun _ _ h => h) (rfl) H
    · intro Sd_ a w G1 _ hSi hc hG HT hv; have H := HT; clear hSi
      obtain ⟨u36, hu36, hp36⟩ := hv 12 36 (hc 12 (by decide)) rfl
      obtain rfl : u36 = .bool true := hp36
      have H := H.addS hu36
      have Hb := H.full; have H := Hb; clear hc
      refine s_move H (wg H rfl rfl rfl) rfl rfl ?_; clear H; intro a H
      refine wl_nil ⟨rfl, ?_⟩
      exact draw_val (by kernel_rfl) hprm4 rfl rfl HT Hb hG hv (fun _ _ h => h) (rfl) H
    · intro Sd_ a w G1 _ hSi hc hG HT hv; have H := HT; clear hSi
      obtain ⟨u40, hu40, hp40⟩ := hv 16 40 (hc 16 (by decide)) rfl
      obtain rfl : u40 = .slice (some ⟨yb, yo, none⟩) 3 yc := hp40
      have H := H.addS hu40
      obtain ⟨u36, hu36, hp36⟩ := hv 12 36 (hc 12 (by decide)) rfl
      obtain rfl : u36 = .bool true := hp36
      have H := H.addS hu36
      have Hb := H.full; have H := Hb; clear hc
      refine s_index un41kw ty48kw 2 H (wg H rfl rfl rfl) rfl rfl rfl (by decide) rfl ?_; clear H; intro a H
      refine wl_nil ⟨rfl, ?_⟩
      exact draw_val (by kernel_rfl) hprm4 rfl rfl HT Hb hG hv (fun _ _ h => h) (rfl) H
    · intro Sd_ a w G1 _ hSi hc hG HT hv; have H := HT; clear hSi
      obtain ⟨u41, hu41, hp41⟩ := hv 17 41 (hc 17 (by decide)) rfl
      obtain rfl : u41 = .pointer (some ⟨yb, yo + 2 * 2, none⟩) := hp41
      have H := H.addS hu41
      obtain ⟨u36, hu36, hp36⟩ := hv 12 36 (hc 12 (by decide)) rfl
      obtain rfl : u36 = .bool true := hp36
      have H := H.addS hu36
      have Hb := H.full; have H := Hb; clear hc
      refine s_loada ty48kw (cs := [_, _]) H (wg H rfl rfl rfl) rfl rfl (fun j v hj => H.hp.gcell (gcell_mono hG (hy2 j v hj))) rfl ?_; clear H; intro a H
      refine wl_nil ⟨rfl, ?_⟩
      exact draw_val (by kernel_rfl) hprm4 rfl rfl HT Hb hG hv (fun _ _ h => h) (rfl) H
    · intro Sd_ a w G1 _ hSi hc hG HT hv; have H := HT; clear hSi
      obtain ⟨u39, hu39, hp39⟩ := hv 15 39 (hc 15 (by decide)) rfl
      obtain rfl : u39 = .agg #[vi 3, vi 3] := hp39
      have H := H.addS hu39
      obtain ⟨u42, hu42, hp42⟩ := hv 18 42 (hc 18 (by decide)) rfl
      obtain rfl : u42 = .agg #[vi 3, vi 3] := hp42
      have H := H.addS hu42
      obtain ⟨u36, hu36, hp36⟩ := hv 12 36 (hc 12 (by decide)) rfl
      obtain rfl : u36 = .bool true := hp36
      have H := H.addS hu36
      have Hb := H.full; have H := Hb; clear hc
      refine s_eqagg eqi48kw H (wg H rfl rfl rfl) rfl rfl rfl rfl ?_; clear H; intro a H
      refine wl_nil ⟨rfl, ?_⟩
      exact draw_val (by kernel_rfl) hprm4 rfl rfl HT Hb hG hv (fun _ _ h => h) (rfl) H
    · intro Sd_ a w G1 _ hSi hc hG HT hv; have H := HT; clear hSi
      obtain ⟨u36, hu36, hp36⟩ := hv 12 36 (hc 12 (by decide)) rfl
      obtain rfl : u36 = .bool true := hp36
      have H := H.addS hu36
      obtain ⟨u43, hu43, hp43⟩ := hv 19 43 (hc 19 (by decide)) rfl
      obtain rfl : u43 = .bool true := hp43
      have H := H.addS hu43
      have Hb := H.full; have H := Hb; clear hc
      refine s_pick_t H wn rfl rfl rfl rfl ?_; clear H; intro a H
      refine wl_nil ⟨rfl, ?_⟩
      exact draw_val (by kernel_rfl) hprm4 rfl rfl HT Hb hG hv (fun _ _ h => h) (rfl) H
    · intro Sd_ a w G1 _ hSi hc hG HT hv; have H := HT; clear hSi
      obtain ⟨u44, hu44, hp44⟩ := hv 20 44 (hc 20 (by decide)) rfl
      obtain rfl : u44 = .bool true := hp44
      have H := H.addS hu44
      have Hb := H.full; have H := Hb; clear hc
      refine s_move H wn rfl rfl ?_; clear H; intro a H
      refine wl_nil ⟨rfl, ?_⟩
      exact draw_val (by kernel_rfl) hprm4 rfl rfl HT Hb hG hv (fun _ _ h => h) (rfl) H
    · intro Sd_ a w G1 _ hSi hc hG HT hv; have H := HT; clear hSi
      obtain ⟨u45, hu45, hp45⟩ := hv 21 45 (hc 21 (by decide)) rfl
      obtain rfl : u45 = .bool true := hp45
      have H := H.addS hu45
      have Hb := H.full; have H := Hb; clear hc
      refine s_move H (wg H rfl rfl rfl) rfl rfl ?_; clear H; intro a H
      refine wl_nil ⟨rfl, ?_⟩
      exact draw_val (by kernel_rfl) hprm4 rfl rfl HT Hb hG hv (fun _ _ h => h) (rfl) H
    · intro Sd_ a w G1 _ hSi hc hG HT hv; have H := HT; clear hSi
      obtain ⟨u46, hu46, hp46⟩ := hv 22 46 (hc 22 (by decide)) rfl
      obtain rfl : u46 = .slice (some ⟨yb, yo, none⟩) 3 yc := hp46
      have H := H.addS hu46
      obtain ⟨u45, hu45, hp45⟩ := hv 21 45 (hc 21 (by decide)) rfl
      obtain rfl : u45 = .bool true := hp45
      have H := H.addS hu45
      have Hb := H.full; have H := Hb; clear hc
      refine s_index un41kw ty48kw 0 H (wg H rfl rfl rfl) rfl rfl rfl (by decide) rfl ?_; clear H; intro a H
      refine wl_nil ⟨rfl, ?_⟩
      exact draw_val (by kernel_rfl) hprm4 rfl rfl HT Hb hG hv (fun _ _ h => h) (rfl) H
    · intro Sd_ a w G1 _ hSi hc hG HT hv; have H := HT; clear hSi
      obtain ⟨u47, hu47, hp47⟩ := hv 23 47 (hc 23 (by decide)) rfl
      obtain rfl : u47 = .pointer (some ⟨yb, yo + 0 * 2, none⟩) := hp47
      have H := H.addS hu47
      obtain ⟨u45, hu45, hp45⟩ := hv 21 45 (hc 21 (by decide)) rfl
      obtain rfl : u45 = .bool true := hp45
      have H := H.addS hu45
      have Hb := H.full; have H := Hb; clear hc
      refine s_field fd48_0kw H (wg H rfl rfl rfl) rfl rfl ?_; clear H; intro a H
      refine wl_nil ⟨rfl, ?_⟩
      exact draw_val (by kernel_rfl) hprm4 rfl rfl HT Hb hG hv (fun _ _ h => h) (rfl) H
    · intro Sd_ a w G1 _ hSi hc hG HT hv; have H := HT; clear hSi
      obtain ⟨u48, hu48, hp48⟩ := hv 24 48 (hc 24 (by decide)) rfl
      obtain rfl : u48 = .pointer (some ⟨yb, yo + 0 * 2 + 0, none⟩) := hp48
      have H := H.addS hu48
      obtain ⟨u45, hu45, hp45⟩ := hv 21 45 (hc 21 (by decide)) rfl
      obtain rfl : u45 = .bool true := hp45
      have H := H.addS hu45
      have Hb := H.full; have H := Hb; clear hc
      refine s_load ty3kw H (wg H rfl rfl rfl) rfl (H.hp.gcell (gcell_mono hG (hy0 0 _ rfl))) rfl ?_; clear H; intro a H
      refine wl_nil ⟨rfl, ?_⟩
      exact draw_val (by kernel_rfl) hprm4 rfl rfl HT Hb hG hv (fun _ _ h => h) (rfl) H
    · intro Sd_ a w G1 _ hSi hc hG HT hv; have H := HT; clear hSi
      obtain ⟨u49, hu49, hp49⟩ := hv 25 49 (hc 25 (by decide)) rfl
      obtain rfl : u49 = vi 4 := hp49
      have H := H.addS hu49
      obtain ⟨u45, hu45, hp45⟩ := hv 21 45 (hc 21 (by decide)) rfl
      obtain rfl : u45 = .bool true := hp45
      have H := H.addS hu45
      have Hb := H.full; have H := Hb; clear hc
      refine s_cmp H (wg H rfl rfl rfl) rfl rfl rfl rfl ?_; clear H; intro a H
      refine wl_nil ⟨rfl, ?_⟩
      exact draw_val (by kernel_rfl) hprm4 rfl rfl HT Hb hG hv (fun _ _ h => h) (rfl) H
    · intro Sd_ a w G1 _ hSi hc hG HT hv; have H := HT; clear hSi
      obtain ⟨u45, hu45, hp45⟩ := hv 21 45 (hc 21 (by decide)) rfl
      obtain rfl : u45 = .bool true := hp45
      have H := H.addS hu45
      obtain ⟨u50, hu50, hp50⟩ := hv 26 50 (hc 26 (by decide)) rfl
      obtain rfl : u50 = .bool true := hp50
      have H := H.addS hu50
      have Hb := H.full; have H := Hb; clear hc
      refine s_pick_t H wn rfl rfl rfl rfl ?_; clear H; intro a H
      refine wl_nil ⟨rfl, ?_⟩
      exact draw_val (by kernel_rfl) hprm4 rfl rfl HT Hb hG hv (fun _ _ h => h) (rfl) H
    · intro Sd_ a w G1 _ hSi hc hG HT hv; have H := HT; clear hSi
      obtain ⟨u51, hu51, hp51⟩ := hv 27 51 (hc 27 (by decide)) rfl
      obtain rfl : u51 = .bool true := hp51
      have H := H.addS hu51
      have Hb := H.full; have H := Hb; clear hc
      refine s_move H wn rfl rfl ?_; clear H; intro a H
      refine wl_nil ⟨rfl, ?_⟩
      exact draw_val (by kernel_rfl) hprm4 rfl rfl HT Hb hG hv (fun _ _ h => h) (rfl) H
    · intro Sd_ a w G1 _ hSi hc hG HT hv; have H := HT; clear hSi
      obtain ⟨u52, hu52, hp52⟩ := hv 28 52 (hc 28 (by decide)) rfl
      obtain rfl : u52 = .bool true := hp52
      have H := H.addS hu52
      have Hb := H.full; have H := Hb; clear hc
      refine s_move H (wg H rfl rfl rfl) rfl rfl ?_; clear H; intro a H
      refine wl_nil ⟨rfl, ?_⟩
      exact draw_val (by kernel_rfl) hprm4 rfl rfl HT Hb hG hv (fun _ _ h => h) (rfl) H
    · intro Sd_ a w G1 _ hSi hc hG HT hv; have H := HT; clear hSi
      obtain ⟨u53, hu53, hp53⟩ := hv 29 53 (hc 29 (by decide)) rfl
      obtain rfl : u53 = vi 666 := hp53
      have H := H.addS hu53
      obtain ⟨u52, hu52, hp52⟩ := hv 28 52 (hc 28 (by decide)) rfl
      obtain rfl : u52 = .bool true := hp52
      have H := H.addS hu52
      have Hb := H.full; have H := Hb; clear hc
      refine s_cmp H (wg H rfl rfl rfl) rfl rfl rfl rfl ?_; clear H; intro a H
      refine wl_nil ⟨rfl, ?_⟩
      exact draw_val (by kernel_rfl) hprm4 rfl rfl HT Hb hG hv (fun _ _ h => h) (rfl) H
    · intro Sd_ a w G1 _ hSi hc hG HT hv; have H := HT; clear hSi
      obtain ⟨u52, hu52, hp52⟩ := hv 28 52 (hc 28 (by decide)) rfl
      obtain rfl : u52 = .bool true := hp52
      have H := H.addS hu52
      obtain ⟨u54, hu54, hp54⟩ := hv 30 54 (hc 30 (by decide)) rfl
      obtain rfl : u54 = .bool true := hp54
      have H := H.addS hu54
      have Hb := H.full; have H := Hb; clear hc
      refine s_pick_t H wn rfl rfl rfl rfl ?_; clear H; intro a H
      refine wl_nil ⟨rfl, ?_⟩
      exact draw_val (by kernel_rfl) hprm4 rfl rfl HT Hb hG hv (fun _ _ h => h) (rfl) H
    · intro Sd_ a w G1 _ hSi hc hG HT hv; have H := HT; clear hSi
      obtain ⟨u55, hu55, hp55⟩ := hv 31 55 (hc 31 (by decide)) rfl
      obtain rfl : u55 = .bool true := hp55
      have H := H.addS hu55
      have Hb := H.full; have H := Hb; clear hc
      refine s_move H wn rfl rfl ?_; clear H; intro a H
      refine wl_nil ⟨rfl, ?_⟩
      exact draw_val (by kernel_rfl) hprm4 rfl rfl HT Hb hG hv (fun _ _ h => h) (rfl) H
    · intro Sd_ a w G1 _ hSi hc hG HT hv; have H := HT; clear hSi
      obtain ⟨u56, hu56, hp56⟩ := hv 32 56 (hc 32 (by decide)) rfl
      obtain rfl : u56 = .bool true := hp56
      have H := H.addS hu56
      have Hb := H.full; have H := Hb; clear hc
      refine s_move H (wg H rfl rfl rfl) rfl rfl ?_; clear H; intro a H
      refine wl_nil ⟨rfl, ?_⟩
      exact draw_val (by kernel_rfl) hprm4 rfl rfl HT Hb hG hv (fun _ _ h => h) (rfl) H
    · intro Sd_ a w G1 _ hSi hc hG HT hv; have H := HT; clear hSi
      obtain ⟨u57, hu57, hp57⟩ := hv 33 57 (hc 33 (by decide)) rfl
      obtain rfl : u57 = vi 0 := hp57
      have H := H.addS hu57
      obtain ⟨u56, hu56, hp56⟩ := hv 32 56 (hc 32 (by decide)) rfl
      obtain rfl : u56 = .bool true := hp56
      have H := H.addS hu56
      have Hb := H.full; have H := Hb; clear hc
      refine s_cmp H (wg H rfl rfl rfl) rfl rfl rfl rfl ?_; clear H; intro a H
      refine wl_nil ⟨rfl, ?_⟩
      exact draw_val (by kernel_rfl) hprm4 rfl rfl HT Hb hG hv (fun _ _ h => h) (rfl) H
    · intro Sd_ a w G1 _ hSi hc hG HT hv; have H := HT; clear hSi
      obtain ⟨u56, hu56, hp56⟩ := hv 32 56 (hc 32 (by decide)) rfl
      obtain rfl : u56 = .bool true := hp56
      have H := H.addS hu56
      obtain ⟨u58, hu58, hp58⟩ := hv 34 58 (hc 34 (by decide)) rfl
      obtain rfl : u58 = .bool true := hp58
      have H := H.addS hu58
      have Hb := H.full; have H := Hb; clear hc
      refine s_pick_t H wn rfl rfl rfl rfl ?_; clear H; intro a H
      refine wl_nil ⟨rfl, ?_⟩
      exact draw_val (by kernel_rfl) hprm4 rfl rfl HT Hb hG hv (fun _ _ h => h) (rfl) H
    · intro Sd_ a w G1 _ hSi hc hG HT hv; have H := HT; clear hSi
      obtain ⟨u59, hu59, hp59⟩ := hv 35 59 (hc 35 (by decide)) rfl
      obtain rfl : u59 = .bool true := hp59
      have H := H.addS hu59
      have Hb := H.full; have H := Hb; clear hc
      refine s_move H wn rfl rfl ?_; clear H; intro a H
      refine wl_nil ⟨rfl, ?_⟩
      exact draw_val (by kernel_rfl) hprm4 rfl rfl HT Hb hG hv (fun _ _ h => h) (rfl) H
    · intro Sd_ a w G1 _ hSi hc hG HT hv; have H := HT; clear hSi
      obtain ⟨u60, hu60, hp60⟩ := hv 36 60 (hc 36 (by decide)) rfl
      obtain rfl : u60 = .bool true := hp60
      have H := H.addS hu60
      have Hb := H.full; have H := Hb; clear hc
      refine s_move H (wg H rfl rfl rfl) rfl rfl ?_; clear H; intro a H
      refine wl_nil ⟨rfl, ?_⟩
      exact draw_val (by kernel_rfl) hprm4 rfl rfl HT Hb hG hv (fun _ _ h => h) (rfl) H
    · intro Sd_ a w G1 _ hSi hc hG HT hv; have H := HT; clear hSi
      obtain ⟨u61, hu61, hp61⟩ := hv 37 61 (hc 37 (by decide)) rfl
      obtain rfl : u61 = vi 0 := hp61
      have H := H.addS hu61
      obtain ⟨u60, hu60, hp60⟩ := hv 36 60 (hc 36 (by decide)) rfl
      obtain rfl : u60 = .bool true := hp60
      have H := H.addS hu60
      have Hb := H.full; have H := Hb; clear hc
      refine s_cmp H (wg H rfl rfl rfl) rfl rfl rfl rfl ?_; clear H; intro a H
      refine wl_nil ⟨rfl, ?_⟩
      exact draw_val (by kernel_rfl) hprm4 rfl rfl HT Hb hG hv (fun _ _ h => h) (rfl) H
    · intro Sd_ a w G1 _ hSi hc hG HT hv; have H := HT; clear hSi
      obtain ⟨u60, hu60, hp60⟩ := hv 36 60 (hc 36 (by decide)) rfl
      obtain rfl : u60 = .bool true := hp60
      have H := H.addS hu60
      obtain ⟨u62, hu62, hp62⟩ := hv 38 62 (hc 38 (by decide)) rfl
      obtain rfl : u62 = .bool true := hp62
      have H := H.addS hu62
      have Hb := H.full; have H := Hb; clear hc
      refine s_pick_t H wn rfl rfl rfl rfl ?_; clear H; intro a H
      refine wl_nil ⟨rfl, ?_⟩
      exact draw_val (by kernel_rfl) hprm4 rfl rfl HT Hb hG hv (fun _ _ h => h) (rfl) H
    · intro Sd_ a w G1 _ hSi hc hG HT hv; have H := HT; clear hSi
      obtain ⟨u63, hu63, hp63⟩ := hv 39 63 (hc 39 (by decide)) rfl
      obtain rfl : u63 = .bool true := hp63
      have H := H.addS hu63
      have Hb := H.full; have H := Hb; clear hc
      refine s_move H wn rfl rfl ?_; clear H; intro a H
      refine wl_nil ⟨rfl, ?_⟩
      exact draw_val (by kernel_rfl) hprm4 rfl rfl HT Hb hG hv (fun _ _ h => h) (rfl) H
    · intro Sd_ a w G1 _ hSi hc hG HT hv; have H := HT; clear hSi
      obtain ⟨u64, hu64, hp64⟩ := hv 40 64 (hc 40 (by decide)) rfl
      obtain rfl : u64 = .bool true := hp64
      have H := H.addS hu64
      have Hb := H.full; have H := Hb; clear hc
      refine s_move H (wg H rfl rfl rfl) rfl rfl ?_; clear H; intro a H
      refine wl_nil ⟨rfl, ?_⟩
      exact draw_val (by kernel_rfl) hprm4 rfl rfl HT Hb hG hv (fun _ _ h => h) (rfl) H
    · intro Sd_ a w G1 _ hSi hc hG HT hv; have H := HT; clear hSi
      obtain ⟨u65, hu65, hp65⟩ := hv 41 65 (hc 41 (by decide)) rfl
      obtain rfl : u65 = .slice (some ⟨zb, zo, none⟩) 2 zc := hp65
      have H := H.addS hu65
      obtain ⟨u64, hu64, hp64⟩ := hv 40 64 (hc 40 (by decide)) rfl
      obtain rfl : u64 = .bool true := hp64
      have H := H.addS hu64
      have Hb := H.full; have H := Hb; clear hc
      refine s_len un25kw H (wg H rfl rfl rfl) rfl rfl ?_; clear H; intro a H
      refine wl_nil ⟨rfl, ?_⟩
      exact draw_val (by kernel_rfl) hprm4 rfl rfl HT Hb hG hv (fun _ _ h => h) (rfl) H
    · intro Sd_ a w G1 _ hSi hc hG HT hv; have H := HT; clear hSi
      obtain ⟨u66, hu66, hp66⟩ := hv 42 66 (hc 42 (by decide)) rfl
      obtain rfl : u66 = vi 2 := hp66
      have H := H.addS hu66
      obtain ⟨u64, hu64, hp64⟩ := hv 40 64 (hc 40 (by decide)) rfl
      obtain rfl : u64 = .bool true := hp64
      have H := H.addS hu64
      have Hb := H.full; have H := Hb; clear hc
      refine s_cmp H (wg H rfl rfl rfl) rfl rfl rfl rfl ?_; clear H; intro a H
      refine wl_nil ⟨rfl, ?_⟩
      exact draw_val (by kernel_rfl) hprm4 rfl rfl HT Hb hG hv (fun _ _ h => h) (rfl) H
    · intro Sd_ a w G1 _ hSi hc hG HT hv; have H := HT; clear hSi
      obtain ⟨u64, hu64, hp64⟩ := hv 40 64 (hc 40 (by decide)) rfl
      obtain rfl : u64 = .bool true := hp64
      have H := H.addS hu64
      obtain ⟨u67, hu67, hp67⟩ := hv 43 67 (hc 43 (by decide)) rfl
      obtain rfl : u67 = .bool true := hp67
      have H := H.addS hu67
      have Hb := H.full; have H := Hb; clear hc
      refine s_pick_t H wn rfl rfl rfl rfl ?_; clear H; intro a H
      refine wl_nil ⟨rfl, ?_⟩
      exact draw_val (by kernel_rfl) hprm4 rfl rfl HT Hb hG hv (fun _ _ h => h) (rfl) H
    · intro Sd_ a w G1 _ hSi hc hG HT hv; have H := HT; clear hSi
      obtain ⟨u68, hu68, hp68⟩ := hv 44 68 (hc 44 (by decide)) rfl
      obtain rfl : u68 = .bool true := hp68
      have H := H.addS hu68
      have Hb := H.full; have H := Hb; clear hc
      refine s_move H wn rfl rfl ?_; clear H; intro a H
      refine wl_nil ⟨rfl, ?_⟩
      exact draw_val (by kernel_rfl) hprm4 rfl rfl HT Hb hG hv (fun _ _ h => h) (rfl) H
    · intro Sd_ a w G1 _ hSi hc hG HT hv; have H := HT; clear hSi
      obtain ⟨u69, hu69, hp69⟩ := hv 45 69 (hc 45 (by decide)) rfl
      obtain rfl : u69 = .bool true := hp69
      have H := H.addS hu69
      have Hb := H.full; have H := Hb; clear hc
      refine s_move H (wg H rfl rfl rfl) rfl rfl ?_; clear H; intro a H
      refine wl_nil ⟨rfl, ?_⟩
      exact draw_val (by kernel_rfl) hprm4 rfl rfl HT Hb hG hv (fun _ _ h => h) (rfl) H
    · intro Sd_ a w G1 _ hSi hc hG HT hv; have H := HT; clear hSi
      obtain ⟨u70, hu70, hp70⟩ := hv 46 70 (hc 46 (by decide)) rfl
      obtain rfl : u70 = .slice (some ⟨zb, zo, none⟩) 2 zc := hp70
      have H := H.addS hu70
      obtain ⟨u69, hu69, hp69⟩ := hv 45 69 (hc 45 (by decide)) rfl
      obtain rfl : u69 = .bool true := hp69
      have H := H.addS hu69
      have Hb := H.full; have H := Hb; clear hc
      refine s_index un25kw ty31kw 1 H (wg H rfl rfl rfl) rfl rfl rfl (by decide) rfl ?_; clear H; intro a H
      refine wl_nil ⟨rfl, ?_⟩
      exact draw_val (by kernel_rfl) hprm4 rfl rfl HT Hb hG hv (fun _ _ h => h) (rfl) H
    · intro Sd_ a w G1 _ hSi hc hG HT hv; have H := HT; clear hSi
      obtain ⟨u71, hu71, hp71⟩ := hv 47 71 (hc 47 (by decide)) rfl
      obtain rfl : u71 = .pointer (some ⟨zb, zo + 1 * 3, none⟩) := hp71
      have H := H.addS hu71
      obtain ⟨u69, hu69, hp69⟩ := hv 45 69 (hc 45 (by decide)) rfl
      obtain rfl : u69 = .bool true := hp69
      have H := H.addS hu69
      have Hb := H.full; have H := Hb; clear hc
      refine s_loada ty31kw (cs := [_, _, _]) H (wg H rfl rfl rfl) rfl rfl (fun j v hj => H.hp.gcell (gcell_mono hG (hz1 j v hj))) rfl ?_; clear H; intro a H
      refine wl_nil ⟨rfl, ?_⟩
      exact draw_val (by kernel_rfl) hprm4 rfl rfl HT Hb hG hv (fun _ _ h => h) (rfl) H
    · intro Sd_ a w G1 _ hSi hc hG HT hv; have H := HT; clear hSi
      obtain ⟨u69, hu69, hp69⟩ := hv 45 69 (hc 45 (by decide)) rfl
      obtain rfl : u69 = .bool true := hp69
      have H := H.addS hu69
      have Hb := H.full; have H := Hb; clear hc
      refine s_build sr31kw [_, _, _] H (wg H rfl rfl rfl) rfl rfl rfl rfl ?_; clear H; intro a H
      refine wl_nil ⟨rfl, ?_⟩
      exact draw_val (by kernel_rfl) hprm4 rfl rfl HT Hb hG hv (fun _ _ h => h) (rfl) H
    · intro Sd_ a w G1 _ hSi hc hG HT hv; have H := HT; clear hSi
      obtain ⟨u72, hu72, hp72⟩ := hv 48 72 (hc 48 (by decide)) rfl
      obtain rfl : u72 = .agg #[vi 1, vi 1, vi 600] := hp72
      have H := H.addS hu72
      obtain ⟨u73, hu73, hp73⟩ := hv 49 73 (hc 49 (by decide)) rfl
      obtain rfl : u73 = .agg #[vi 1, vi 1, vi 600] := hp73
      have H := H.addS hu73
      obtain ⟨u69, hu69, hp69⟩ := hv 45 69 (hc 45 (by decide)) rfl
      obtain rfl : u69 = .bool true := hp69
      have H := H.addS hu69
      have Hb := H.full; have H := Hb; clear hc
      refine s_eqagg eqi31kw H (wg H rfl rfl rfl) rfl rfl rfl rfl ?_; clear H; intro a H
      refine wl_nil ⟨rfl, ?_⟩
      exact draw_val (by kernel_rfl) hprm4 rfl rfl HT Hb hG hv (fun _ _ h => h) (rfl) H
    · intro Sd_ a w G1 _ hSi hc hG HT hv; have H := HT; clear hSi
      obtain ⟨u69, hu69, hp69⟩ := hv 45 69 (hc 45 (by decide)) rfl
      obtain rfl : u69 = .bool true := hp69
      have H := H.addS hu69
      obtain ⟨u74, hu74, hp74⟩ := hv 50 74 (hc 50 (by decide)) rfl
      obtain rfl : u74 = .bool true := hp74
      have H := H.addS hu74
      have Hb := H.full; have H := Hb; clear hc
      refine s_pick_t H wn rfl rfl rfl rfl ?_; clear H; intro a H
      refine wl_nil ⟨rfl, ?_⟩
      exact draw_val (by kernel_rfl) hprm4 rfl rfl HT Hb hG hv (fun _ _ h => h) (rfl) H
    intro _ _ _ _ hB; exact absurd hB (by decide)
  clear H; intro a w G hGm4 H hv
  obtain ⟨u75, hu75, hp75⟩ := hv 51 75 (by decide) rfl
  obtain rfl : u75 = .bool true := hp75
  have H := H.addS hu75
  clear hv
  refine s_assign H wn rfl rfl ?_; clear H; intro a H
  refine wl_nil ⟨rfl, ?_⟩
  refine hK5 _ _ ?_; clear hK5
  refine c_ret ?_
  refine (leave1 H Tryd.results11 (.cons (rv_tmp H rfl) .nil) ?_).1
  exact H.hp.ret rfl
end Go.Proofs.YtpmcdlhhfbobfaaDoor
