/-
  Package obeluslaw13: SmallItems gives an answer.
-/
import Derived.Test.YtbfdhlakbdadhaaK14b
namespace Go.Proofs.Ytbfdhlakbdadhaa
open Go.RowKit
theorem ty38sml : Ty Try.prog 38 1 24 [.slice none 0 0] false := ⟨by kernel_rfl, by kernel_rfl⟩
theorem ty39sml : Ty Try.prog 39 1 24 [.slice none 0 0] false := ⟨by kernel_rfl, by kernel_rfl⟩
theorem ty40sml : Ty Try.prog 40 1 24 [.slice none 0 0] false := ⟨by kernel_rfl, by kernel_rfl⟩
theorem en28sml : ∀ args w, (callFunc 28 args).run Try.prog w = .ok (.enter 28 args) w := enters Try.func28 rfl (by kernel_rfl)
theorem en42sml : ∀ args w, (callFunc 42 args).run Try.prog w = .ok (.enter 42 args) w := enters Try.func42 rfl (by kernel_rfl)
theorem un28sml : Try.prog.underlying 28 = some (.slice 47) := by kernel_rfl
theorem ty3sml : Ty Try.prog 3 1 8 [.int .i64 0] false := ⟨by kernel_rfl, by kernel_rfl⟩
theorem ty47sml : Ty Try.prog 47 11 176 [.int .i64 0, .int .i64 0, .int .i64 0, .string ⟨#[]⟩, .slice none 0 0, .int .i64 0, .int .i64 0, .slice none 0 0, .slice none 0 0, .slice none 0 0, .slice none 0 0] true := ⟨by kernel_rfl, by kernel_rfl⟩
theorem fd47_4sml : Fld Try.prog 47 4 4 := ⟨by kernel_rfl⟩
theorem fd44_0sml : Fld Try.prog 44 0 0 := ⟨by kernel_rfl⟩
theorem un38sml : Try.prog.underlying 38 = some (.slice 113) := by kernel_rfl
theorem fd44_1sml : Fld Try.prog 44 1 1 := ⟨by kernel_rfl⟩
theorem fd42_2sml : Fld Try.prog 42 2 2 := ⟨by kernel_rfl⟩
theorem un39sml : Try.prog.underlying 39 = some (.slice 173) := by kernel_rfl
theorem fd42_3sml : Fld Try.prog 42 3 3 := ⟨by kernel_rfl⟩
theorem un40sml : Try.prog.underlying 40 = some (.slice 176) := by kernel_rfl
theorem fd47_3sml : Fld Try.prog 47 3 3 := ⟨by kernel_rfl⟩
theorem ty9sml : Ty Try.prog 9 1 16 [.string ⟨#[]⟩] false := ⟨by kernel_rfl, by kernel_rfl⟩
theorem un9sml : Try.prog.underlying 9 = some .string := by kernel_rfl
theorem fd47_5sml : Fld Try.prog 47 5 9 := ⟨by kernel_rfl⟩
theorem ty28sml : Ty Try.prog 28 1 24 [.slice none 0 0] false := ⟨by kernel_rfl, by kernel_rfl⟩
theorem fd47_6sml : Fld Try.prog 47 6 10 := ⟨by kernel_rfl⟩
theorem ty45sml : Ty Try.prog 45 1 24 [.slice none 0 0] false := ⟨by kernel_rfl, by kernel_rfl⟩
theorem ty44sml : Ty Try.prog 44 5 88 [.slice none 0 0, .int .i64 0, .int .i64 0, .slice none 0 0, .slice none 0 0] true := ⟨by kernel_rfl, by kernel_rfl⟩
theorem un45sml : Try.prog.underlying 45 = some (.slice 107) := by kernel_rfl
theorem ty107sml : Ty Try.prog 107 6 112 [.slice none 0 0, .int .i64 0, .int .i64 0, .slice none 0 0, .slice none 0 0, .slice none 0 0] true := ⟨by kernel_rfl, by kernel_rfl⟩
theorem fd107_0sml : Fld Try.prog 107 0 0 := ⟨by kernel_rfl⟩
theorem fd107_1sml : Fld Try.prog 107 1 5 := ⟨by kernel_rfl⟩
theorem ty105sml : Ty Try.prog 105 1 24 [.slice none 0 0] false := ⟨by kernel_rfl, by kernel_rfl⟩
theorem un105sml : Try.prog.underlying 105 = some (.slice 104) := by kernel_rfl
theorem ty104sml : Ty Try.prog 104 7 120 [.int .i64 0, .slice none 0 0, .int .i64 0, .int .i64 0, .slice none 0 0, .slice none 0 0, .slice none 0 0] true := ⟨by kernel_rfl, by kernel_rfl⟩
theorem fd104_1sml : Fld Try.prog 104 1 1 := ⟨by kernel_rfl⟩
theorem fd104_2sml : Fld Try.prog 104 2 6 := ⟨by kernel_rfl⟩
theorem tdiv8 (n : Nat) : 0 ≤ (n : Int).tdiv 8 ∧ (n : Int).tdiv 8 ≤ n := by
  rw [Int.tdiv_eq_ediv_of_nonneg (by omega)]; omega
abbrev bI (b : Nat) (n : Int) : Nat × Obj := (b, .cells #[vi n] 3 (0, 0))
/-- What a test of sizes gives back. -/
def SmQ (bl : Nat) (left : Int) (z : Nat) (u : Value) (_ : GH) (L' : OL) : Prop := ∃ b lf, u = .bool b ∧ L' = [bI bl lf] ∧ left - 4 * (z : Int) ≤ lf ∧ lf ≤ left
def SmallF (n : Nat) : Prop := ∀ (G : GH) (w0 : World) (l : List ItemD) (v : Value) (lev left : Int) (bl : Nat), Owns G [bI bl left] w0 → RepV G (.sl 11 (l.map ItemD.dat)) v → zItems l < n → 0 ≤ lev → lev ≤ 1000 → left ≤ 1000 → -1000000000000 ≤ left - 4 * (zItems l : Int) →
  Calls Try.prog 28 #[v, vi lev, .pointer (some ⟨bl, 0, none⟩)] w0 (RetL w0 G [bI bl left] (SmQ bl left (zItems l)))
theorem zRows_append (l m : List RowD) : zRows (l ++ m) = zRows l + zRows m := by simp [zRows, szRs_append]
theorem zCells_append (l m : List CellD) : zCells (l ++ m) = zCells l + zCells m := by simp [zCells, szRs_append]
theorem zItems_succ {l : List ItemD} {k : Nat} (h : k < l.length) : zItems (l.take (k + 1)) = zItems (l.take k) + (1 + szR l[k].dat) := by rw [List.take_succ_eq_append_getElem h, zItems_append]; simp [zItems, szRs]
theorem zRows_succ {l : List RowD} {k : Nat} (h : k < l.length) : zRows (l.take (k + 1)) = zRows (l.take k) + (1 + szR l[k].dat) := by rw [List.take_succ_eq_append_getElem h, zRows_append]; simp [zRows, szRs]
theorem zCells_succ {l : List CellD} {k : Nat} (h : k < l.length) : zCells (l.take (k + 1)) = zCells (l.take k) + (1 + szR l[k].dat) := by rw [List.take_succ_eq_append_getElem h, zCells_append]; simp [zCells, szRs]
theorem zItems_tk (l : List ItemD) (k : Nat) : zItems (l.take k) ≤ zItems l := zItems_sub (List.take_sublist k l)
theorem zRows_tk (l : List RowD) (k : Nat) : zRows (l.take k) ≤ zRows l := by
  have := zRows_append (l.take k) (l.drop k); rw [List.take_append_drop] at this; omega
theorem zCells_tk (l : List CellD) (k : Nat) : zCells (l.take k) ≤ zCells l := by
  have := zCells_append (l.take k) (l.drop k); rw [List.take_append_drop] at this; omega
theorem head_cells {G : GH} {b o : Nat} {x q1 q2 q3 q4 q5 f : Value} (h : ∀ j u, [x, q1, q2, q3, q4, q5, f][j]? = some u → gcell G b (o + j) = some u) : ∀ j u, [q1, q2, q3, q4, q5][j]? = some u → gcell G b (o + 1 + j) = some u := by
  intro j u hj
  rw [Nat.add_assoc, Nat.add_comm 1 j]
  refine h (j + 1) u ?_
  match j, hj with
  | 0, hj => exact hj
  | 1, hj => exact hj
  | 2, hj => exact hj
  | 3, hj => exact hj
  | 4, hj => exact hj
  | n + 5, hj => simp at hj
set_option maxHeartbeats 1000000 in
theorem smallFlow_step {n : Nat} (ih : SmallF n) (hn : n ≤ 4294967296)
    (hrows : ∀ (G : GH) (w0 : World) (l : List RowD) (v : Value) (lev left : Int) (bl : Nat), Owns G [bI bl left] w0 → RepV G (.sl 6 (l.map RowD.dat)) v → zRows l < n → 0 ≤ lev → lev ≤ 1000 → left ≤ 1000 → -1000000000000 ≤ left - 4 * (zRows l : Int) →
      Calls Try.prog 42 #[v, vi lev, .pointer (some ⟨bl, 0, none⟩)] w0 (RetL w0 G [bI bl left] (SmQ bl left (zRows l)))) : SmallF (n + 1) := by
  intro G w0 l v lev left bl hO hv hz hl0 hl1 hf1 hf0
  obtain ⟨A, c, rfl, hc1, hc2, hg⟩ := hv.slice
  rw [List.length_map] at *
  have hll := zItems_length l
  refine enterL (N := 89) (T := [(0, _), (1, _), (2, _)]) Try.func28 rfl Try.ntmps28 rfl rfl hO ?_
  intro a H
  refine c_seq (fun _ hK1 => ?_)
  refine c_region ?_
  refine s_assign H wn rfl rfl ?_; clear H; intro a H
  refine wl_nil ?_
  refine hK1 _ _ ?_; clear hK1
  refine c_seq (fun _ hK2 => ?_)
  refine c_seq (fun _ hK3 => ?_)
  refine c_region ?_
  refine s_assign H wn rfl rfl ?_; clear H; intro a H
  refine wl_nil ?_
  refine hK3 _ _ ?_; clear hK3
  refine c_block ?_
  skip
  refine c_loopS (ι := Nat × Int × GH) (Tc := [(0, _), (1, _), (2, _)]) (Lc := []) (fun (gh : Nat × Int × GH) => [(7, vi gh.1)]) (fun (gh : Nat × Int × GH) => [bI bl gh.2.1]) (fun (gh : Nat × Int × GH) => gh.2.2) (fun (gh : Nat × Int × GH) => gh.1 ≤ l.length ∧ left - 4 * (zItems (l.take gh.1) : Int) ≤ gh.2.1 ∧ gh.2.1 ≤ left ∧ (∀ b o, G b = some o → gh.2.2 b = some o)) (fun (gh : Nat × Int × GH) => l.length - gh.1) ((0, left, G)) (by exact (H).sub ⟨rfl, rfl, rfl, rfl, trivial⟩) ?_ ?_
  · exact ⟨by omega, by show left - 4 * ((0 : Nat) : Int) ≤ left; omega, Int.le_refl _, fun _ _ h => h⟩
  · clear H; intro gh a w hI H
    obtain ⟨k, lf, g⟩ := gh; dsimp only at hI H
    obtain ⟨hk, hlo, hhi, hgm⟩ := hI
    have hzk := zItems_tk l k
    dsimp only [List.cons_append, List.nil_append, List.append_nil] at H
    refine c_seq (fun _ hK4 => ?_)
    refine c_seq (fun _ hK5 => ?_)
    refine c_region ?_
    refine s_move H wn rfl rfl ?_; clear H; intro a H
    refine s_move H wn rfl rfl ?_; clear H; intro a H
    refine s_len un28sml H wn rfl rfl ?_; clear H; intro a H
    refine s_cmp H wn rfl rfl rfl rfl ?_; clear H; intro a H
    refine wl_nil ?_
    refine hK5 _ _ ?_; clear hK5
    refine c_cond H rfl ?_ ?_
    · intro h11
      try have p11 := of_decide_eq_true h11
      have hk2 : k < l.length := by omega
      obtain ⟨b, o, pA, pn, pc, dA, dn, dc, yA, yn, yc, fA, fn, fc, rA, rn, rc, rfl, hrow, hhd, hfl, hrw⟩ := flow_get hk2 hg
      have r3 : gcell g b (o + k * 11 + 3) = some (.string l[k].text) := gcell_mono hgm (hrow 3 _ rfl)
      have r4 : gcell g b (o + k * 11 + 4 + 0) = some (.slice pA pn pc) := gcell_mono hgm (hrow 4 _ rfl)
      have r7 : gcell g b (o + k * 11 + 4 + 1 + 2) = some (.slice dA dn dc) := gcell_mono hgm (hrow 7 _ rfl)
      have r8 : gcell g b (o + k * 11 + 4 + 1 + 3) = some (.slice yA yn yc) := gcell_mono hgm (hrow 8 _ rfl)
      have r9 : gcell g b (o + k * 11 + 9) = some (.slice fA fn fc) := gcell_mono hgm (hrow 9 _ rfl)
      have r10 : gcell g b (o + k * 11 + 10) = some (.slice rA rn rc) := gcell_mono hgm (hrow 10 _ rfl)
      have q1 := tdiv8 pn; have q2 := tdiv8 dn; have q3 := tdiv8 yn
      have hzi := zItem_eq l[k]
      have hzh := zHead_eq l[k].head
      have l1 := hhd.props.len; have l2 := hhd.dels.len; have l3 := hhd.layers.len
      have m1 := szRs_length (l[k].head.props.map PropD.dat); have m2 := szRs_length (l[k].head.marks.dels.map DelD.dat); have m3 := szRs_length (l[k].head.marks.layers.map LayerD.dat)
      have hzs := zItems_succ hk2
      have hzt := zItems_tk l (k + 1)
      refine c_skip ?_
      refine hK4 _ _ ?_; clear hK4
      refine c_seq (fun _ hK6 => ?_)
      refine c_block ?_
      refine c_seq (fun _ hK7 => ?_)
      have hprm4 : ∀ (i : Nat) (v : Value) (G G' : GH), (∀ k o, G k = some o → G' k = some o) → (fun (i : Nat) (v : Value) (G : GH) => match i with | 0 => v = .pointer (some ⟨bl, 0, none⟩) | 1 => v = .pointer (some ⟨bl, 0, none⟩) | 2 => v = .pointer (some ⟨bl, 0, none⟩) | 3 => v = vi lf | 4 => v = vi (lf - 1) | 5 => v = .slice (some ⟨b, o, none⟩) l.length c | 6 => v = vi k | 7 => v = .pointer (some ⟨b, o + k * 11, none⟩) | 8 => v = .pointer (some ⟨b, o + k * 11 + 4, none⟩) | 9 => v = .pointer (some ⟨b, o + k * 11 + 4 + 0, none⟩) | 10 => v = .slice pA pn pc | 11 => v = vi pn | 12 => v = vi ((pn : Int).tdiv 8) | 13 => v = vi (lf - 1 - (pn : Int).tdiv 8) | 14 => v = .slice (some ⟨b, o, none⟩) l.length c | 15 => v = vi k | 16 => v = .pointer (some ⟨b, o + k * 11, none⟩) | 17 => v = .pointer (some ⟨b, o + k * 11 + 4, none⟩) | 18 => v = .pointer (some ⟨b, o + k * 11 + 4 + 1, none⟩) | 19 => v = .pointer (some ⟨b, o + k * 11 + 4 + 1 + 2, none⟩) | 20 => v = .slice dA dn dc | 21 => v = vi dn | 22 => v = vi ((dn : Int).tdiv 8) | 23 => v = vi (lf - 1 - (pn : Int).tdiv 8 - (dn : Int).tdiv 8) | 24 => v = .slice (some ⟨b, o, none⟩) l.length c | 25 => v = vi k | 26 => v = .pointer (some ⟨b, o + k * 11, none⟩) | 27 => v = .pointer (some ⟨b, o + k * 11 + 4, none⟩) | 28 => v = .pointer (some ⟨b, o + k * 11 + 4 + 1, none⟩) | 29 => v = .pointer (some ⟨b, o + k * 11 + 4 + 1 + 3, none⟩) | 30 => v = .slice yA yn yc | 31 => v = vi yn | 32 => v = vi ((yn : Int).tdiv 8) | 33 => v = vi (lf - 1 - (pn : Int).tdiv 8 - (dn : Int).tdiv 8 - (yn : Int).tdiv 8) | 34 => v = .pointer (some ⟨bl, 0, none⟩) | _ => True) i v G → (fun (i : Nat) (v : Value) (G : GH) => match i with | 0 => v = .pointer (some ⟨bl, 0, none⟩) | 1 => v = .pointer (some ⟨bl, 0, none⟩) | 2 => v = .pointer (some ⟨bl, 0, none⟩) | 3 => v = vi lf | 4 => v = vi (lf - 1) | 5 => v = .slice (some ⟨b, o, none⟩) l.length c | 6 => v = vi k | 7 => v = .pointer (some ⟨b, o + k * 11, none⟩) | 8 => v = .pointer (some ⟨b, o + k * 11 + 4, none⟩) | 9 => v = .pointer (some ⟨b, o + k * 11 + 4 + 0, none⟩) | 10 => v = .slice pA pn pc | 11 => v = vi pn | 12 => v = vi ((pn : Int).tdiv 8) | 13 => v = vi (lf - 1 - (pn : Int).tdiv 8) | 14 => v = .slice (some ⟨b, o, none⟩) l.length c | 15 => v = vi k | 16 => v = .pointer (some ⟨b, o + k * 11, none⟩) | 17 => v = .pointer (some ⟨b, o + k * 11 + 4, none⟩) | 18 => v = .pointer (some ⟨b, o + k * 11 + 4 + 1, none⟩) | 19 => v = .pointer (some ⟨b, o + k * 11 + 4 + 1 + 2, none⟩) | 20 => v = .slice dA dn dc | 21 => v = vi dn | 22 => v = vi ((dn : Int).tdiv 8) | 23 => v = vi (lf - 1 - (pn : Int).tdiv 8 - (dn : Int).tdiv 8) | 24 => v = .slice (some ⟨b, o, none⟩) l.length c | 25 => v = vi k | 26 => v = .pointer (some ⟨b, o + k * 11, none⟩) | 27 => v = .pointer (some ⟨b, o + k * 11 + 4, none⟩) | 28 => v = .pointer (some ⟨b, o + k * 11 + 4 + 1, none⟩) | 29 => v = .pointer (some ⟨b, o + k * 11 + 4 + 1 + 3, none⟩) | 30 => v = .slice yA yn yc | 31 => v = vi yn | 32 => v = vi ((yn : Int).tdiv 8) | 33 => v = vi (lf - 1 - (pn : Int).tdiv 8 - (dn : Int).tdiv 8 - (yn : Int).tdiv 8) | 34 => v = .pointer (some ⟨bl, 0, none⟩) | _ => True) i v G' := by
        intro i v G G' hm h
        match i, h with
        | 0, h => exact h
        | 1, h => exact h
        | 2, h => exact h
        | 3, h => exact h
        | 4, h => exact h
        | 5, h => exact h
        | 6, h => exact h
        | 7, h => exact h
        | 8, h => exact h
        | 9, h => exact h
        | 10, h => exact h
        | 11, h => exact h
        | 12, h => exact h
        | 13, h => exact h
        | 14, h => exact h
        | 15, h => exact h
        | 16, h => exact h
        | 17, h => exact h
        | 18, h => exact h
        | 19, h => exact h
        | 20, h => exact h
        | 21, h => exact h
        | 22, h => exact h
        | 23, h => exact h
        | 24, h => exact h
        | 25, h => exact h
        | 26, h => exact h
        | 27, h => exact h
        | 28, h => exact h
        | 29, h => exact h
        | 30, h => exact h
        | 31, h => exact h
        | 32, h => exact h
        | 33, h => exact h
        | 34, h => exact h
        | 35, h => exact trivial
        | _ + 36, h => exact trivial
      refine c_drawI (hmx) [[], [], [1], [1, 2], [1, 2, 3], [], [], [5, 6], [5, 6, 7], [5, 6, 7, 8], [5, 6, 7, 8, 9], [5, 6, 7, 8, 9, 10], [5, 6, 7, 8, 9, 10, 11], [1, 2, 3, 4, 5, 6, 7, 8, 9, 10, 11, 12], [], [], [14, 15], [14, 15, 16], [14, 15, 16, 17], [14, 15, 16, 17, 18], [14, 15, 16, 17, 18, 19], [14, 15, 16, 17, 18, 19, 20], [14, 15, 16, 17, 18, 19, 20, 21], [1, 2, 3, 4, 5, 6, 7, 8, 9, 10, 11, 12, 13, 14, 15, 16, 17, 18, 19, 20, 21, 22], [], [], [24, 25], [24, 25, 26], [24, 25, 26, 27], [24, 25, 26, 27, 28], [24, 25, 26, 27, 28, 29], [24, 25, 26, 27, 28, 29, 30], [24, 25, 26, 27, 28, 29, 30, 31], [1, 2, 3, 4, 5, 6, 7, 8, 9, 10, 11, 12, 13, 14, 15, 16, 17, 18, 19, 20, 21, 22, 23, 24, 25, 26, 27, 28, 29, 30, 31, 32], [0, 1, 2, 3, 4, 5, 6, 7, 8, 9, 10, 11, 12, 13, 14, 15, 16, 17, 18, 19, 20, 21, 22, 23, 24, 25, 26, 27, 28, 29, 30, 31, 32, 33], [0, 1, 2, 3, 4, 5, 6, 7, 8, 9, 10, 11, 12, 13, 14, 15, 16, 17, 18, 19, 20, 21, 22, 23, 24, 25, 26, 27, 28, 29, 30, 31, 32, 33, 34]] [35] (by kernel_rfl) (by kernel_rfl) (fun (i : Nat) (v : Value) (G : GH) => match i with | 0 => v = .pointer (some ⟨bl, 0, none⟩) | 1 => v = .pointer (some ⟨bl, 0, none⟩) | 2 => v = .pointer (some ⟨bl, 0, none⟩) | 3 => v = vi lf | 4 => v = vi (lf - 1) | 5 => v = .slice (some ⟨b, o, none⟩) l.length c | 6 => v = vi k | 7 => v = .pointer (some ⟨b, o + k * 11, none⟩) | 8 => v = .pointer (some ⟨b, o + k * 11 + 4, none⟩) | 9 => v = .pointer (some ⟨b, o + k * 11 + 4 + 0, none⟩) | 10 => v = .slice pA pn pc | 11 => v = vi pn | 12 => v = vi ((pn : Int).tdiv 8) | 13 => v = vi (lf - 1 - (pn : Int).tdiv 8) | 14 => v = .slice (some ⟨b, o, none⟩) l.length c | 15 => v = vi k | 16 => v = .pointer (some ⟨b, o + k * 11, none⟩) | 17 => v = .pointer (some ⟨b, o + k * 11 + 4, none⟩) | 18 => v = .pointer (some ⟨b, o + k * 11 + 4 + 1, none⟩) | 19 => v = .pointer (some ⟨b, o + k * 11 + 4 + 1 + 2, none⟩) | 20 => v = .slice dA dn dc | 21 => v = vi dn | 22 => v = vi ((dn : Int).tdiv 8) | 23 => v = vi (lf - 1 - (pn : Int).tdiv 8 - (dn : Int).tdiv 8) | 24 => v = .slice (some ⟨b, o, none⟩) l.length c | 25 => v = vi k | 26 => v = .pointer (some ⟨b, o + k * 11, none⟩) | 27 => v = .pointer (some ⟨b, o + k * 11 + 4, none⟩) | 28 => v = .pointer (some ⟨b, o + k * 11 + 4 + 1, none⟩) | 29 => v = .pointer (some ⟨b, o + k * 11 + 4 + 1 + 3, none⟩) | 30 => v = .slice yA yn yc | 31 => v = vi yn | 32 => v = vi ((yn : Int).tdiv 8) | 33 => v = vi (lf - 1 - (pn : Int).tdiv 8 - (dn : Int).tdiv 8 - (yn : Int).tdiv 8) | 34 => v = .pointer (some ⟨bl, 0, none⟩) | _ => True) hprm4 H ?_ ?_
      · clear H; refine (allI_cons ?_ (allI_cons ?_ (allI_cons ?_ (allI_cons ?_ (allI_cons ?_ (allI_cons ?_ (allI_cons ?_ (allI_cons ?_ (allI_cons ?_ (allI_cons ?_ (allI_cons ?_ (allI_cons ?_ (allI_cons ?_ (allI_cons ?_ (allI_cons ?_ (allI_cons ?_ (allI_cons ?_ (allI_cons ?_ (allI_cons ?_ (allI_cons ?_ (allI_cons ?_ (allI_cons ?_ (allI_cons ?_ (allI_cons ?_ (allI_cons ?_ (allI_cons ?_ (allI_cons ?_ (allI_cons ?_ (allI_cons ?_ (allI_cons ?_ (allI_cons ?_ (allI_cons ?_ (allI_cons ?_ (allI_cons ?_ (allI_cons ?_ (allI_cons ?_ allI_nil))))))))))))))))))))))))))))))))))))
        · intro S a w G1 _ hSi hc hG HT hv; have H := HT; clear hSi
          have Hb := H.full; have H := Hb; clear hc
          refine s_move H wn rfl rfl ?_; clear H; intro a H
          refine wl_nil ⟨rfl, ?_⟩
          exact draw_val (by kernel_rfl) hprm4 rfl rfl HT Hb hG hv (fun _ _ h => h) (rfl) H
        · intro S a w G1 _ hSi hc hG HT hv; have H := HT; clear hSi
          have Hb := H.full; have H := Hb; clear hc
          refine s_move H wn rfl rfl ?_; clear H; intro a H
          refine wl_nil ⟨rfl, ?_⟩
          exact draw_val (by kernel_rfl) hprm4 rfl rfl HT Hb hG hv (fun _ _ h => h) (rfl) H
        · intro S a w G1 _ hSi hc hG HT hv; have H := HT; clear hSi
          obtain ⟨u15, hu15, hp15⟩ := hv 1 15 (hc 1 (by decide)) rfl
          obtain rfl : u15 = .pointer (some ⟨bl, 0, none⟩) := hp15
          have H := H.addS hu15
          have Hb := H.full; have H := Hb; clear hc
          refine s_nilCheck H wn rfl rfl ?_; clear H; intro a H
          refine wl_nil ⟨rfl, ?_⟩
          exact draw_val (by kernel_rfl) hprm4 rfl rfl HT Hb hG hv (fun _ _ h => h) (rfl) H
        · intro S a w G1 _ hSi hc hG HT hv; have H := HT; clear hSi
          obtain ⟨u16, hu16, hp16⟩ := hv 2 16 (hc 2 (by decide)) rfl
          obtain rfl : u16 = .pointer (some ⟨bl, 0, none⟩) := hp16
          have H := H.addS hu16
          have Hb := H.full; have H := Hb; clear hc
          refine s_load ty3sml H wn rfl (H.hp.ocell 0 rfl rfl) rfl ?_; clear H; intro a H
          refine wl_nil ⟨rfl, ?_⟩
          exact draw_val (by kernel_rfl) hprm4 rfl rfl HT Hb hG hv (fun _ _ h => h) (rfl) H
        · intro S a w G1 _ hSi hc hG HT hv; have H := HT; clear hSi
          obtain ⟨u17, hu17, hp17⟩ := hv 3 17 (hc 3 (by decide)) rfl
          obtain rfl : u17 = vi lf := hp17
          have H := H.addS hu17
          have Hb := H.full; have H := Hb; clear hc
          refine s_sub _ H wn rfl rfl rfl (by omega) (by omega) rfl ?_; clear H; intro a H
          refine wl_nil ⟨rfl, ?_⟩
          exact draw_val (by kernel_rfl) hprm4 rfl rfl HT Hb hG hv (fun _ _ h => h) (rfl) H
        · intro S a w G1 _ hSi hc hG HT hv; have H := HT; clear hSi
          have Hb := H.full; have H := Hb; clear hc
          refine s_move H wn rfl rfl ?_; clear H; intro a H
          refine wl_nil ⟨rfl, ?_⟩
          exact draw_val (by kernel_rfl) hprm4 rfl rfl HT Hb hG hv (fun _ _ h => h) (rfl) H
        · intro S a w G1 _ hSi hc hG HT hv; have H := HT; clear hSi
          have Hb := H.full; have H := Hb; clear hc
          refine s_move H wn rfl rfl ?_; clear H; intro a H
          refine wl_nil ⟨rfl, ?_⟩
          exact draw_val (by kernel_rfl) hprm4 rfl rfl HT Hb hG hv (fun _ _ h => h) (rfl) H
        · intro S a w G1 _ hSi hc hG HT hv; have H := HT; clear hSi
          obtain ⟨u19, hu19, hp19⟩ := hv 5 19 (hc 5 (by decide)) rfl
          obtain rfl : u19 = .slice (some ⟨b, o, none⟩) l.length c := hp19
          have H := H.addS hu19
          obtain ⟨u20, hu20, hp20⟩ := hv 6 20 (hc 6 (by decide)) rfl
          obtain rfl : u20 = vi k := hp20
          have H := H.addS hu20
          have Hb := H.full; have H := Hb; clear hc
          refine s_index un28sml ty47sml _ H wn rfl rfl rfl (by first | assumption | omega) rfl ?_; clear H; intro a H
          refine wl_nil ⟨rfl, ?_⟩
          exact draw_val (by kernel_rfl) hprm4 rfl rfl HT Hb hG hv (fun _ _ h => h) (rfl) H
        · intro S a w G1 _ hSi hc hG HT hv; have H := HT; clear hSi
          obtain ⟨u21, hu21, hp21⟩ := hv 7 21 (hc 7 (by decide)) rfl
          obtain rfl : u21 = .pointer (some ⟨b, o + k * 11, none⟩) := hp21
          have H := H.addS hu21
          have Hb := H.full; have H := Hb; clear hc
          refine s_field fd47_4sml H wn rfl rfl ?_; clear H; intro a H
          refine wl_nil ⟨rfl, ?_⟩
          exact draw_val (by kernel_rfl) hprm4 rfl rfl HT Hb hG hv (fun _ _ h => h) (rfl) H
        · intro S a w G1 _ hSi hc hG HT hv; have H := HT; clear hSi
          obtain ⟨u22, hu22, hp22⟩ := hv 8 22 (hc 8 (by decide)) rfl
          obtain rfl : u22 = .pointer (some ⟨b, o + k * 11 + 4, none⟩) := hp22
          have H := H.addS hu22
          have Hb := H.full; have H := Hb; clear hc
          refine s_field fd44_0sml H wn rfl rfl ?_; clear H; intro a H
          refine wl_nil ⟨rfl, ?_⟩
          exact draw_val (by kernel_rfl) hprm4 rfl rfl HT Hb hG hv (fun _ _ h => h) (rfl) H
        · intro S a w G1 _ hSi hc hG HT hv; have H := HT; clear hSi
          obtain ⟨u23, hu23, hp23⟩ := hv 9 23 (hc 9 (by decide)) rfl
          obtain rfl : u23 = .pointer (some ⟨b, o + k * 11 + 4 + 0, none⟩) := hp23
          have H := H.addS hu23
          have Hb := H.full; have H := Hb; clear hc
          refine s_load ty38sml H wn rfl (H.hp.gcell (gcell_mono hG r4)) rfl ?_; clear H; intro a H
          refine wl_nil ⟨rfl, ?_⟩
          exact draw_val (by kernel_rfl) hprm4 rfl rfl HT Hb hG hv (fun _ _ h => h) (rfl) H
        · intro S a w G1 _ hSi hc hG HT hv; have H := HT; clear hSi
          obtain ⟨u24, hu24, hp24⟩ := hv 10 24 (hc 10 (by decide)) rfl
          obtain rfl : u24 = .slice pA pn pc := hp24
          have H := H.addS hu24
          have Hb := H.full; have H := Hb; clear hc
          refine s_len un38sml H wn rfl rfl ?_; clear H; intro a H
          refine wl_nil ⟨rfl, ?_⟩
          exact draw_val (by kernel_rfl) hprm4 rfl rfl HT Hb hG hv (fun _ _ h => h) (rfl) H
        · intro S a w G1 _ hSi hc hG HT hv; have H := HT; clear hSi
          obtain ⟨u25, hu25, hp25⟩ := hv 11 25 (hc 11 (by decide)) rfl
          obtain rfl : u25 = vi pn := hp25
          have H := H.addS hu25
          have Hb := H.full; have H := Hb; clear hc
          refine s_quo _ H wn rfl rfl (by omega) rfl (by omega) (by omega) rfl ?_; clear H; intro a H
          refine wl_nil ⟨rfl, ?_⟩
          exact draw_val (by kernel_rfl) hprm4 rfl rfl HT Hb hG hv (fun _ _ h => h) (rfl) H
        · intro S a w G1 _ hSi hc hG HT hv; have H := HT; clear hSi
          obtain ⟨u18, hu18, hp18⟩ := hv 4 18 (hc 4 (by decide)) rfl
          obtain rfl : u18 = vi (lf - 1) := hp18
          have H := H.addS hu18
          obtain ⟨u26, hu26, hp26⟩ := hv 12 26 (hc 12 (by decide)) rfl
          obtain rfl : u26 = vi ((pn : Int).tdiv 8) := hp26
          have H := H.addS hu26
          have Hb := H.full; have H := Hb; clear hc
          refine s_sub _ H wn rfl rfl rfl (by omega) (by omega) rfl ?_; clear H; intro a H
          refine wl_nil ⟨rfl, ?_⟩
          exact draw_val (by kernel_rfl) hprm4 rfl rfl HT Hb hG hv (fun _ _ h => h) (rfl) H
        · intro S a w G1 _ hSi hc hG HT hv; have H := HT; clear hSi
          have Hb := H.full; have H := Hb; clear hc
          refine s_move H wn rfl rfl ?_; clear H; intro a H
          refine wl_nil ⟨rfl, ?_⟩
          exact draw_val (by kernel_rfl) hprm4 rfl rfl HT Hb hG hv (fun _ _ h => h) (rfl) H
        · intro S a w G1 _ hSi hc hG HT hv; have H := HT; clear hSi
          have Hb := H.full; have H := Hb; clear hc
          refine s_move H wn rfl rfl ?_; clear H; intro a H
          refine wl_nil ⟨rfl, ?_⟩
          exact draw_val (by kernel_rfl) hprm4 rfl rfl HT Hb hG hv (fun _ _ h => h) (rfl) H
        · intro S a w G1 _ hSi hc hG HT hv; have H := HT; clear hSi
          obtain ⟨u28, hu28, hp28⟩ := hv 14 28 (hc 14 (by decide)) rfl
          obtain rfl : u28 = .slice (some ⟨b, o, none⟩) l.length c := hp28
          have H := H.addS hu28
          obtain ⟨u29, hu29, hp29⟩ := hv 15 29 (hc 15 (by decide)) rfl
          obtain rfl : u29 = vi k := hp29
          have H := H.addS hu29
          have Hb := H.full; have H := Hb; clear hc
          refine s_index un28sml ty47sml _ H wn rfl rfl rfl (by first | assumption | omega) rfl ?_; clear H; intro a H
          refine wl_nil ⟨rfl, ?_⟩
          exact draw_val (by kernel_rfl) hprm4 rfl rfl HT Hb hG hv (fun _ _ h => h) (rfl) H
        · intro S a w G1 _ hSi hc hG HT hv; have H := HT; clear hSi
          obtain ⟨u30, hu30, hp30⟩ := hv 16 30 (hc 16 (by decide)) rfl
          obtain rfl : u30 = .pointer (some ⟨b, o + k * 11, none⟩) := hp30
          have H := H.addS hu30
          have Hb := H.full; have H := Hb; clear hc
          refine s_field fd47_4sml H wn rfl rfl ?_; clear H; intro a H
          refine wl_nil ⟨rfl, ?_⟩
          exact draw_val (by kernel_rfl) hprm4 rfl rfl HT Hb hG hv (fun _ _ h => h) (rfl) H
        · intro S a w G1 _ hSi hc hG HT hv; have H := HT; clear hSi
          obtain ⟨u31, hu31, hp31⟩ := hv 17 31 (hc 17 (by decide)) rfl
          obtain rfl : u31 = .pointer (some ⟨b, o + k * 11 + 4, none⟩) := hp31
          have H := H.addS hu31
          have Hb := H.full; have H := Hb; clear hc
          refine s_field fd44_1sml H wn rfl rfl ?_; clear H; intro a H
          refine wl_nil ⟨rfl, ?_⟩
          exact draw_val (by kernel_rfl) hprm4 rfl rfl HT Hb hG hv (fun _ _ h => h) (rfl) H
        · intro S a w G1 _ hSi hc hG HT hv; have H := HT; clear hSi
          obtain ⟨u32, hu32, hp32⟩ := hv 18 32 (hc 18 (by decide)) rfl
          obtain rfl : u32 = .pointer (some ⟨b, o + k * 11 + 4 + 1, none⟩) := hp32
          have H := H.addS hu32
          have Hb := H.full; have H := Hb; clear hc
          refine s_field fd42_2sml H wn rfl rfl ?_; clear H; intro a H
          refine wl_nil ⟨rfl, ?_⟩
          exact draw_val (by kernel_rfl) hprm4 rfl rfl HT Hb hG hv (fun _ _ h => h) (rfl) H
        · intro S a w G1 _ hSi hc hG HT hv; have H := HT; clear hSi
          obtain ⟨u33, hu33, hp33⟩ := hv 19 33 (hc 19 (by decide)) rfl
          obtain rfl : u33 = .pointer (some ⟨b, o + k * 11 + 4 + 1 + 2, none⟩) := hp33
          have H := H.addS hu33
          have Hb := H.full; have H := Hb; clear hc
          refine s_load ty39sml H wn rfl (H.hp.gcell (gcell_mono hG r7)) rfl ?_; clear H; intro a H
          refine wl_nil ⟨rfl, ?_⟩
          exact draw_val (by kernel_rfl) hprm4 rfl rfl HT Hb hG hv (fun _ _ h => h) (rfl) H
        · intro S a w G1 _ hSi hc hG HT hv; have H := HT; clear hSi
          obtain ⟨u34, hu34, hp34⟩ := hv 20 34 (hc 20 (by decide)) rfl
          obtain rfl : u34 = .slice dA dn dc := hp34
          have H := H.addS hu34
          have Hb := H.full; have H := Hb; clear hc
          refine s_len un39sml H wn rfl rfl ?_; clear H; intro a H
          refine wl_nil ⟨rfl, ?_⟩
          exact draw_val (by kernel_rfl) hprm4 rfl rfl HT Hb hG hv (fun _ _ h => h) (rfl) H
        · intro S a w G1 _ hSi hc hG HT hv; have H := HT; clear hSi
          obtain ⟨u35, hu35, hp35⟩ := hv 21 35 (hc 21 (by decide)) rfl
          obtain rfl : u35 = vi dn := hp35
          have H := H.addS hu35
          have Hb := H.full; have H := Hb; clear hc
          refine s_quo _ H wn rfl rfl (by omega) rfl (by omega) (by omega) rfl ?_; clear H; intro a H
          refine wl_nil ⟨rfl, ?_⟩
          exact draw_val (by kernel_rfl) hprm4 rfl rfl HT Hb hG hv (fun _ _ h => h) (rfl) H
        · intro S a w G1 _ hSi hc hG HT hv; have H := HT; clear hSi
          obtain ⟨u27, hu27, hp27⟩ := hv 13 27 (hc 13 (by decide)) rfl
          obtain rfl : u27 = vi (lf - 1 - (pn : Int).tdiv 8) := hp27
          have H := H.addS hu27
          obtain ⟨u36, hu36, hp36⟩ := hv 22 36 (hc 22 (by decide)) rfl
          obtain rfl : u36 = vi ((dn : Int).tdiv 8) := hp36
          have H := H.addS hu36
          have Hb := H.full; have H := Hb; clear hc
          refine s_sub _ H wn rfl rfl rfl (by omega) (by omega) rfl ?_; clear H; intro a H
          refine wl_nil ⟨rfl, ?_⟩
          exact draw_val (by kernel_rfl) hprm4 rfl rfl HT Hb hG hv (fun _ _ h => h) (rfl) H
        · intro S a w G1 _ hSi hc hG HT hv; have H := HT; clear hSi
          have Hb := H.full; have H := Hb; clear hc
          refine s_move H wn rfl rfl ?_; clear H; intro a H
          refine wl_nil ⟨rfl, ?_⟩
          exact draw_val (by kernel_rfl) hprm4 rfl rfl HT Hb hG hv (fun _ _ h => h) (rfl) H
        · intro S a w G1 _ hSi hc hG HT hv; have H := HT; clear hSi
          have Hb := H.full; have H := Hb; clear hc
          refine s_move H wn rfl rfl ?_; clear H; intro a H
          refine wl_nil ⟨rfl, ?_⟩
          exact draw_val (by kernel_rfl) hprm4 rfl rfl HT Hb hG hv (fun _ _ h => h) (rfl) H
        · intro S a w G1 _ hSi hc hG HT hv; have H := HT; clear hSi
          obtain ⟨u38, hu38, hp38⟩ := hv 24 38 (hc 24 (by decide)) rfl
          obtain rfl : u38 = .slice (some ⟨b, o, none⟩) l.length c := hp38
          have H := H.addS hu38
          obtain ⟨u39, hu39, hp39⟩ := hv 25 39 (hc 25 (by decide)) rfl
          obtain rfl : u39 = vi k := hp39
          have H := H.addS hu39
          have Hb := H.full; have H := Hb; clear hc
          refine s_index un28sml ty47sml _ H wn rfl rfl rfl (by first | assumption | omega) rfl ?_; clear H; intro a H
          refine wl_nil ⟨rfl, ?_⟩
          exact draw_val (by kernel_rfl) hprm4 rfl rfl HT Hb hG hv (fun _ _ h => h) (rfl) H
        · intro S a w G1 _ hSi hc hG HT hv; have H := HT; clear hSi
          obtain ⟨u40, hu40, hp40⟩ := hv 26 40 (hc 26 (by decide)) rfl
          obtain rfl : u40 = .pointer (some ⟨b, o + k * 11, none⟩) := hp40
          have H := H.addS hu40
          have Hb := H.full; have H := Hb; clear hc
          refine s_field fd47_4sml H wn rfl rfl ?_; clear H; intro a H
          refine wl_nil ⟨rfl, ?_⟩
          exact draw_val (by kernel_rfl) hprm4 rfl rfl HT Hb hG hv (fun _ _ h => h) (rfl) H
        · intro S a w G1 _ hSi hc hG HT hv; have H := HT; clear hSi
          obtain ⟨u41, hu41, hp41⟩ := hv 27 41 (hc 27 (by decide)) rfl
          obtain rfl : u41 = .pointer (some ⟨b, o + k * 11 + 4, none⟩) := hp41
          have H := H.addS hu41
          have Hb := H.full; have H := Hb; clear hc
          refine s_field fd44_1sml H wn rfl rfl ?_; clear H; intro a H
          refine wl_nil ⟨rfl, ?_⟩
          exact draw_val (by kernel_rfl) hprm4 rfl rfl HT Hb hG hv (fun _ _ h => h) (rfl) H
        · intro S a w G1 _ hSi hc hG HT hv; have H := HT; clear hSi
          obtain ⟨u42, hu42, hp42⟩ := hv 28 42 (hc 28 (by decide)) rfl
          obtain rfl : u42 = .pointer (some ⟨b, o + k * 11 + 4 + 1, none⟩) := hp42
          have H := H.addS hu42
          have Hb := H.full; have H := Hb; clear hc
          refine s_field fd42_3sml H wn rfl rfl ?_; clear H; intro a H
          refine wl_nil ⟨rfl, ?_⟩
          exact draw_val (by kernel_rfl) hprm4 rfl rfl HT Hb hG hv (fun _ _ h => h) (rfl) H
        · intro S a w G1 _ hSi hc hG HT hv; have H := HT; clear hSi
          obtain ⟨u43, hu43, hp43⟩ := hv 29 43 (hc 29 (by decide)) rfl
          obtain rfl : u43 = .pointer (some ⟨b, o + k * 11 + 4 + 1 + 3, none⟩) := hp43
          have H := H.addS hu43
          have Hb := H.full; have H := Hb; clear hc
          refine s_load ty40sml H wn rfl (H.hp.gcell (gcell_mono hG r8)) rfl ?_; clear H; intro a H
          refine wl_nil ⟨rfl, ?_⟩
          exact draw_val (by kernel_rfl) hprm4 rfl rfl HT Hb hG hv (fun _ _ h => h) (rfl) H
        · intro S a w G1 _ hSi hc hG HT hv; have H := HT; clear hSi
          obtain ⟨u44, hu44, hp44⟩ := hv 30 44 (hc 30 (by decide)) rfl
          obtain rfl : u44 = .slice yA yn yc := hp44
          have H := H.addS hu44
          have Hb := H.full; have H := Hb; clear hc
          refine s_len un40sml H wn rfl rfl ?_; clear H; intro a H
          refine wl_nil ⟨rfl, ?_⟩
          exact draw_val (by kernel_rfl) hprm4 rfl rfl HT Hb hG hv (fun _ _ h => h) (rfl) H
        · intro S a w G1 _ hSi hc hG HT hv; have H := HT; clear hSi
          obtain ⟨u45, hu45, hp45⟩ := hv 31 45 (hc 31 (by decide)) rfl
          obtain rfl : u45 = vi yn := hp45
          have H := H.addS hu45
          have Hb := H.full; have H := Hb; clear hc
          refine s_quo _ H wn rfl rfl (by omega) rfl (by omega) (by omega) rfl ?_; clear H; intro a H
          refine wl_nil ⟨rfl, ?_⟩
          exact draw_val (by kernel_rfl) hprm4 rfl rfl HT Hb hG hv (fun _ _ h => h) (rfl) H
        · intro S a w G1 _ hSi hc hG HT hv; have H := HT; clear hSi
          obtain ⟨u37, hu37, hp37⟩ := hv 23 37 (hc 23 (by decide)) rfl
          obtain rfl : u37 = vi (lf - 1 - (pn : Int).tdiv 8 - (dn : Int).tdiv 8) := hp37
          have H := H.addS hu37
          obtain ⟨u46, hu46, hp46⟩ := hv 32 46 (hc 32 (by decide)) rfl
          obtain rfl : u46 = vi ((yn : Int).tdiv 8) := hp46
          have H := H.addS hu46
          have Hb := H.full; have H := Hb; clear hc
          refine s_sub _ H wn rfl rfl rfl (by omega) (by omega) rfl ?_; clear H; intro a H
          refine wl_nil ⟨rfl, ?_⟩
          exact draw_val (by kernel_rfl) hprm4 rfl rfl HT Hb hG hv (fun _ _ h => h) (rfl) H
        · intro S a w G1 _ hSi hc hG HT hv; have H := HT; clear hSi
          obtain ⟨u14, hu14, hp14⟩ := hv 0 14 (hc 0 (by decide)) rfl
          obtain rfl : u14 = .pointer (some ⟨bl, 0, none⟩) := hp14
          have H := H.addS hu14
          have Hb := H.full; have H := Hb; clear hc
          refine s_nilCheck H wn rfl rfl ?_; clear H; intro a H
          refine wl_nil ⟨rfl, ?_⟩
          exact draw_val (by kernel_rfl) hprm4 rfl rfl HT Hb hG hv (fun _ _ h => h) (rfl) H
        · intro _ _ _ _ hB; exact absurd hB (by decide)
      · clear H; intro a w G hGm4 H hv
        obtain ⟨u47, hu47, hp47⟩ := hv 33 47 (by decide) rfl
        obtain rfl : u47 = vi (lf - 1 - (pn : Int).tdiv 8 - (dn : Int).tdiv 8 - (yn : Int).tdiv 8) := hp47
        have H := H.addS hu47
        obtain ⟨u48, hu48, hp48⟩ := hv 34 48 (by decide) rfl
        obtain rfl : u48 = .pointer (some ⟨bl, 0, none⟩) := hp48
        have H := H.addS hu48
        clear hv
        refine s_store ty3sml 0 (vs := [_]) _ H wn rfl rfl rfl rfl rfl rfl rfl rfl ?_; clear H; intro w H; dsimp only [List.set, setRow] at H
        refine wl_nil ⟨rfl, ?_⟩
        refine hK7 _ _ ?_; clear hK7
        refine c_seq (fun _ hK8 => ?_)
        refine c_region ?_
        refine s_move H wn rfl rfl ?_; clear H; intro a H
        refine s_nilCheck H wn rfl rfl ?_; clear H; intro a H
        refine s_load ty3sml H wn rfl (H.hp.ocell 0 rfl rfl) rfl ?_; clear H; intro a H
        refine s_cmp H wn rfl rfl rfl rfl ?_; clear H; intro a H
        refine s_move H wn rfl rfl ?_; clear H; intro a H
        refine s_split H 53 rfl ?_ ?_
        · intro h53
          try have p53 := of_decide_eq_true h53
          refine s_skip H rfl rfl h53 rfl ?_; clear H; intro a H
          refine s_skip H rfl rfl h53 rfl ?_; clear H; intro a H
          refine s_pick_t H wn rfl h53 rfl rfl ?_; clear H; intro a H
          refine s_move H wn rfl rfl ?_; clear H; intro a H
          refine s_skip H rfl rfl rfl rfl ?_; clear H; intro a H
          refine s_skip H rfl rfl rfl rfl ?_; clear H; intro a H
          refine s_skip H rfl rfl rfl rfl ?_; clear H; intro a H
          refine s_skip H rfl rfl rfl rfl ?_; clear H; intro a H
          refine s_skip H rfl rfl rfl rfl ?_; clear H; intro a H
          refine s_skip H rfl rfl rfl rfl ?_; clear H; intro a H
          refine s_skip H rfl rfl rfl rfl ?_; clear H; intro a H
          refine s_pick_t H wn rfl rfl rfl rfl ?_; clear H; intro a H
          refine s_move H wn rfl rfl ?_; clear H; intro a H
          refine s_skip H rfl rfl rfl rfl ?_; clear H; intro a H
          refine s_skip H rfl rfl rfl rfl ?_; clear H; intro a H
          refine s_skip H rfl rfl rfl rfl ?_; clear H; intro a H
          refine s_skip H rfl rfl rfl rfl ?_; clear H; intro a H
          refine s_skip H rfl rfl rfl rfl ?_; clear H; intro a H
          refine s_skip H rfl rfl rfl rfl ?_; clear H; intro a H
          refine s_skip H rfl rfl rfl rfl ?_; clear H; intro a H
          refine s_skip H rfl rfl rfl rfl ?_; clear H; intro a H
          refine s_skip H rfl rfl rfl rfl ?_; clear H; intro a H
          refine s_skip H rfl rfl rfl rfl ?_; clear H; intro a H
          refine s_pick_t H wn rfl rfl rfl rfl ?_; clear H; intro a H
          refine s_move H wn rfl rfl ?_; clear H; intro a H
          refine s_skip H rfl rfl rfl rfl ?_; clear H; intro a H
          refine s_skip H rfl rfl rfl rfl ?_; clear H; intro a H
          refine s_skip H rfl rfl rfl rfl ?_; clear H; intro a H
          refine s_skip H rfl rfl rfl rfl ?_; clear H; intro a H
          refine s_skip H rfl rfl rfl rfl ?_; clear H; intro a H
          refine s_skip H rfl rfl rfl rfl ?_; clear H; intro a H
          refine s_skip H rfl rfl rfl rfl ?_; clear H; intro a H
          refine s_skip H rfl rfl rfl rfl ?_; clear H; intro a H
          refine s_skip H rfl rfl rfl rfl ?_; clear H; intro a H
          refine s_pick_t H wn rfl rfl rfl rfl ?_; clear H; intro a H
          refine wl_nil ?_
          refine hK8 _ _ ?_; clear hK8
          refine c_cond_t H rfl rfl ?_
          refine c_seq (fun _ hK9 => ?_)
          refine c_region ?_
          refine s_assign H wn rfl rfl ?_; clear H; intro a H
          refine wl_nil ?_
          refine hK9 _ _ ?_; clear hK9
          refine c_ret ?_
          refine (leave1 H Try.results28 (.cons (rv_tmp H rfl) .nil) ?_).1
          exact H.hp.retL ⟨_, _, rfl, rfl, by omega, by omega⟩
        · intro h53
          try have p53 := of_decide_eq_false h53
          replace r3 := gcell_mono hGm4 r3
          replace r9 := gcell_mono hGm4 r9
          replace r10 := gcell_mono hGm4 r10
          refine s_move H (wg H rfl rfl h53) rfl rfl ?_; clear H; intro a H
          refine s_cmp H (wg H rfl rfl h53) rfl rfl rfl rfl ?_; clear H; intro a H
          refine s_pick_f H wn rfl h53 rfl rfl ?_; clear H; intro a H
          refine s_move H wn rfl rfl ?_; clear H; intro a H
          refine s_split H 57 rfl ?_ ?_
          · intro h57
            try have p57 := of_decide_eq_true h57
            refine s_skip H rfl rfl h57 rfl ?_; clear H; intro a H
            refine s_skip H rfl rfl h57 rfl ?_; clear H; intro a H
            refine s_skip H rfl rfl h57 rfl ?_; clear H; intro a H
            refine s_skip H rfl rfl h57 rfl ?_; clear H; intro a H
            refine s_skip H rfl rfl h57 rfl ?_; clear H; intro a H
            refine s_skip H rfl rfl h57 rfl ?_; clear H; intro a H
            refine s_skip H rfl rfl h57 rfl ?_; clear H; intro a H
            refine s_pick_t H wn rfl h57 rfl rfl ?_; clear H; intro a H
            refine s_move H wn rfl rfl ?_; clear H; intro a H
            refine s_skip H rfl rfl rfl rfl ?_; clear H; intro a H
            refine s_skip H rfl rfl rfl rfl ?_; clear H; intro a H
            refine s_skip H rfl rfl rfl rfl ?_; clear H; intro a H
            refine s_skip H rfl rfl rfl rfl ?_; clear H; intro a H
            refine s_skip H rfl rfl rfl rfl ?_; clear H; intro a H
            refine s_skip H rfl rfl rfl rfl ?_; clear H; intro a H
            refine s_skip H rfl rfl rfl rfl ?_; clear H; intro a H
            refine s_skip H rfl rfl rfl rfl ?_; clear H; intro a H
            refine s_skip H rfl rfl rfl rfl ?_; clear H; intro a H
            refine s_skip H rfl rfl rfl rfl ?_; clear H; intro a H
            refine s_pick_t H wn rfl rfl rfl rfl ?_; clear H; intro a H
            refine s_move H wn rfl rfl ?_; clear H; intro a H
            refine s_skip H rfl rfl rfl rfl ?_; clear H; intro a H
            refine s_skip H rfl rfl rfl rfl ?_; clear H; intro a H
            refine s_skip H rfl rfl rfl rfl ?_; clear H; intro a H
            refine s_skip H rfl rfl rfl rfl ?_; clear H; intro a H
            refine s_skip H rfl rfl rfl rfl ?_; clear H; intro a H
            refine s_skip H rfl rfl rfl rfl ?_; clear H; intro a H
            refine s_skip H rfl rfl rfl rfl ?_; clear H; intro a H
            refine s_skip H rfl rfl rfl rfl ?_; clear H; intro a H
            refine s_skip H rfl rfl rfl rfl ?_; clear H; intro a H
            refine s_pick_t H wn rfl rfl rfl rfl ?_; clear H; intro a H
            refine wl_nil ?_
            refine hK8 _ _ ?_; clear hK8
            refine c_cond_t H rfl rfl ?_
            refine c_seq (fun _ hK10 => ?_)
            refine c_region ?_
            refine s_assign H wn rfl rfl ?_; clear H; intro a H
            refine wl_nil ?_
            refine hK10 _ _ ?_; clear hK10
            refine c_ret ?_
            refine (leave1 H Try.results28 (.cons (rv_tmp H rfl) .nil) ?_).1
            exact H.hp.retL ⟨_, _, rfl, rfl, by omega, by omega⟩
          · intro h57
            try have p57 := of_decide_eq_false h57
            refine s_move H (wg H rfl rfl h57) rfl rfl ?_; clear H; intro a H
            refine s_move H (wg H rfl rfl h57) rfl rfl ?_; clear H; intro a H
            refine s_index un28sml ty47sml _ H (wg H rfl rfl h57) rfl rfl rfl (by first | assumption | omega) rfl ?_; clear H; intro a H
            refine s_field fd47_3sml H (wg H rfl rfl h57) rfl rfl ?_; clear H; intro a H
            refine s_load ty9sml H (wg H rfl rfl h57) rfl (H.hp.gcell (by assumption)) rfl ?_; clear H; intro a H
            refine s_lens un9sml H (wg H rfl rfl h57) rfl rfl ?_; clear H; intro a H
            refine s_cmp H (wg H rfl rfl h57) rfl rfl rfl rfl ?_; clear H; intro a H
            refine s_pick_f H wn rfl h57 rfl rfl ?_; clear H; intro a H
            refine s_move H wn rfl rfl ?_; clear H; intro a H
            refine s_split H 66 rfl ?_ ?_
            · intro h66
              try have p66 := of_decide_eq_true h66
              refine s_skip H rfl rfl h66 rfl ?_; clear H; intro a H
              refine s_skip H rfl rfl h66 rfl ?_; clear H; intro a H
              refine s_skip H rfl rfl h66 rfl ?_; clear H; intro a H
              refine s_skip H rfl rfl h66 rfl ?_; clear H; intro a H
              refine s_skip H rfl rfl h66 rfl ?_; clear H; intro a H
              refine s_skip H rfl rfl h66 rfl ?_; clear H; intro a H
              refine s_skip H rfl rfl h66 rfl ?_; clear H; intro a H
              refine s_skip H rfl rfl h66 rfl ?_; clear H; intro a H
              refine s_skip H rfl rfl h66 rfl ?_; clear H; intro a H
              refine s_skip H rfl rfl h66 rfl ?_; clear H; intro a H
              refine s_pick_t H wn rfl h66 rfl rfl ?_; clear H; intro a H
              refine s_move H wn rfl rfl ?_; clear H; intro a H
              refine s_skip H rfl rfl rfl rfl ?_; clear H; intro a H
              refine s_skip H rfl rfl rfl rfl ?_; clear H; intro a H
              refine s_skip H rfl rfl rfl rfl ?_; clear H; intro a H
              refine s_skip H rfl rfl rfl rfl ?_; clear H; intro a H
              refine s_skip H rfl rfl rfl rfl ?_; clear H; intro a H
              refine s_skip H rfl rfl rfl rfl ?_; clear H; intro a H
              refine s_skip H rfl rfl rfl rfl ?_; clear H; intro a H
              refine s_skip H rfl rfl rfl rfl ?_; clear H; intro a H
              refine s_skip H rfl rfl rfl rfl ?_; clear H; intro a H
              refine s_pick_t H wn rfl rfl rfl rfl ?_; clear H; intro a H
              refine wl_nil ?_
              refine hK8 _ _ ?_; clear hK8
              refine c_cond_t H rfl rfl ?_
              refine c_seq (fun _ hK11 => ?_)
              refine c_region ?_
              refine s_assign H wn rfl rfl ?_; clear H; intro a H
              refine wl_nil ?_
              refine hK11 _ _ ?_; clear hK11
              refine c_ret ?_
              refine (leave1 H Try.results28 (.cons (rv_tmp H rfl) .nil) ?_).1
              exact H.hp.retL ⟨_, _, rfl, rfl, by omega, by omega⟩
            · intro h66
              try have p66 := of_decide_eq_false h66
              refine s_move H (wg H rfl rfl h66) rfl rfl ?_; clear H; intro a H
              refine s_move H (wg H rfl rfl h66) rfl rfl ?_; clear H; intro a H
              refine s_index un28sml ty47sml _ H (wg H rfl rfl h66) rfl rfl rfl (by first | assumption | omega) rfl ?_; clear H; intro a H
              refine s_field fd47_5sml H (wg H rfl rfl h66) rfl rfl ?_; clear H; intro a H
              refine s_load ty28sml H (wg H rfl rfl h66) rfl (H.hp.gcell (by assumption)) rfl ?_; clear H; intro a H
              refine s_move H (wg H rfl rfl h66) rfl rfl ?_; clear H; intro a H
              refine s_sub _ H (wg H rfl rfl h66) rfl rfl rfl (by omega) (by omega) rfl ?_; clear H; intro a H
              refine s_move H (wg H rfl rfl h66) rfl rfl ?_; clear H; intro a H
              refine s_callL en28sml (Li := []) (L := [bI bl _]) H (wg H rfl rfl h66) rfl (ih _ _ l[k].flow _ (lev - 1) _ bl (Hp.owns (Li := []) H.hp) (hfl.mono fun b o h => hGm4 b o (hgm b o h)) (by omega) (by omega) (by omega) (by omega) (by omega)) rfl ?_; clear H
              rintro v75 G75 L75 a w ⟨b75, lf75, rfl, rfl, hlo75, hhi75⟩ hm75 H
              dsimp only [List.nil_append] at H
              replace r10 := gcell_mono hm75 r10
              refine s_not H (wg H rfl rfl h66) rfl rfl ?_; clear H; intro a H
              refine s_pick_f H wn rfl h66 rfl rfl ?_; clear H; intro a H
              refine s_move H wn rfl rfl ?_; clear H; intro a H
              refine s_split H 78 rfl ?_ ?_
              · intro h78
                try have p78 := of_decide_eq_true h78
                refine s_skip H rfl rfl h78 rfl ?_; clear H; intro a H
                refine s_skip H rfl rfl h78 rfl ?_; clear H; intro a H
                refine s_skip H rfl rfl h78 rfl ?_; clear H; intro a H
                refine s_skip H rfl rfl h78 rfl ?_; clear H; intro a H
                refine s_skip H rfl rfl h78 rfl ?_; clear H; intro a H
                refine s_skip H rfl rfl h78 rfl ?_; clear H; intro a H
                refine s_skip H rfl rfl h78 rfl ?_; clear H; intro a H
                refine s_skip H rfl rfl h78 rfl ?_; clear H; intro a H
                refine s_skip H rfl rfl h78 rfl ?_; clear H; intro a H
                refine s_pick_t H wn rfl h78 rfl rfl ?_; clear H; intro a H
                refine wl_nil ?_
                refine hK8 _ _ ?_; clear hK8
                refine c_cond_t H rfl rfl ?_
                refine c_seq (fun _ hK12 => ?_)
                refine c_region ?_
                refine s_assign H wn rfl rfl ?_; clear H; intro a H
                refine wl_nil ?_
                refine hK12 _ _ ?_; clear hK12
                refine c_ret ?_
                refine (leave1 H Try.results28 (.cons (rv_tmp H rfl) .nil) ?_).1
                exact H.hp.retL ⟨_, _, rfl, rfl, by omega, by omega⟩
              · intro h78
                try have p78 := of_decide_eq_false h78
                refine s_move H (wg H rfl rfl h78) rfl rfl ?_; clear H; intro a H
                refine s_move H (wg H rfl rfl h78) rfl rfl ?_; clear H; intro a H
                refine s_index un28sml ty47sml _ H (wg H rfl rfl h78) rfl rfl rfl (by first | assumption | omega) rfl ?_; clear H; intro a H
                refine s_field fd47_6sml H (wg H rfl rfl h78) rfl rfl ?_; clear H; intro a H
                refine s_load ty45sml H (wg H rfl rfl h78) rfl (H.hp.gcell (by assumption)) rfl ?_; clear H; intro a H
                refine s_move H (wg H rfl rfl h78) rfl rfl ?_; clear H; intro a H
                refine s_move H (wg H rfl rfl h78) rfl rfl ?_; clear H; intro a H
                refine s_callL en42sml (Li := []) (L := [bI bl _]) H (wg H rfl rfl h78) rfl (hrows _ _ l[k].rows _ lev _ bl (Hp.owns (Li := []) H.hp) (hrw.mono fun b o h => hm75 b o (hGm4 b o (hgm b o h))) (by omega) (by omega) (by omega) (by omega) (by omega)) rfl ?_; clear H
                rintro v86 G86 L86 a w ⟨b86, lf86, rfl, rfl, hlo86, hhi86⟩ hm86 H
                dsimp only [List.nil_append] at H
                refine s_not H (wg H rfl rfl h78) rfl rfl ?_; clear H; intro a H
                refine s_pick_f H wn rfl h78 rfl rfl ?_; clear H; intro a H
                refine wl_nil ?_
                refine hK8 _ _ ?_; clear hK8
                refine c_cond H rfl ?_ ?_
                · intro h88
                  try have p88 := of_decide_eq_true h88
                  refine c_seq (fun _ hK13 => ?_)
                  refine c_region ?_
                  refine s_assign H wn rfl rfl ?_; clear H; intro a H
                  refine wl_nil ?_
                  refine hK13 _ _ ?_; clear hK13
                  refine c_ret ?_
                  refine (leave1 H Try.results28 (.cons (rv_tmp H rfl) .nil) ?_).1
                  exact H.hp.retL ⟨_, _, rfl, rfl, by omega, by omega⟩
                · intro h88
                  try have p88 := of_decide_eq_false h88
                  refine c_skip ?_
                  refine hK6 _ _ ?_; clear hK6
                  refine c_region ?_
                  refine s_move H wn rfl rfl ?_; clear H; intro a H
                  refine s_add _ H wn rfl rfl rfl (by omega) (by omega) rfl ?_; clear H; intro a H
                  refine s_assign H wn rfl rfl ?_; clear H; intro a H
                  refine wl_nil ?_
                  refine loop_end ((k + 1, lf86, G86)) (by exact (H).sub ⟨rfl, rfl, rfl, rfl, trivial⟩) ?_ ?_
                  · try dsimp only
                    exact ⟨by omega, by omega, by omega, fun b o h => hm86 b o (hm75 b o (hGm4 b o (hgm b o h)))⟩
                  · first | omega | (dsimp only; omega)
    · intro h11
      try have p11 := of_decide_eq_false h11
      refine c_exit ?_
      refine hK2 _ _ ?_; clear hK2
      refine c_seq (fun _ hK14 => ?_)
      refine c_region ?_
      refine s_assign H wn rfl rfl ?_; clear H; intro a H
      refine wl_nil ?_
      refine hK14 _ _ ?_; clear hK14
      refine c_ret ?_
      refine (leave1 H Try.results28 (.cons (rv_tmp H rfl) .nil) ?_).1
      exact H.hp.retL ⟨_, _, rfl, rfl, by omega, by omega⟩
set_option maxHeartbeats 1000000 in
theorem smallRows_step {n : Nat} (ih : SmallF n) (hn : n ≤ 4294967296) (G : GH) (w0 : World) (l : List RowD) (v : Value) (lev left : Int) (bl : Nat) (hO : Owns G [bI bl left] w0) (hv : RepV G (.sl 6 (l.map RowD.dat)) v) (hz : zRows l < n) (hl0 : 0 ≤ lev) (hl1 : lev ≤ 1000) (hf1 : left ≤ 1000) (hf0 : -1000000000000 ≤ left - 4 * (zRows l : Int)) :
    Calls Try.prog 42 #[v, vi lev, .pointer (some ⟨bl, 0, none⟩)] w0 (RetL w0 G [bI bl left] (SmQ bl left (zRows l))) := by
  obtain ⟨A, c, rfl, hc1, hc2, hg⟩ := hv.slice
  rw [List.length_map] at *
  have hll := zRows_length l
  refine enterL (N := 121) (T := [(0, _), (1, _), (2, _)]) Try.func42 rfl Try.ntmps42 rfl rfl hO ?_
  intro a H
  refine c_seq (fun _ hK1 => ?_)
  refine c_region ?_
  refine s_assign H wn rfl rfl ?_; clear H; intro a H
  refine wl_nil ?_
  refine hK1 _ _ ?_; clear hK1
  refine c_seq (fun _ hK2 => ?_)
  refine c_seq (fun _ hK3 => ?_)
  refine c_region ?_
  refine s_assign H wn rfl rfl ?_; clear H; intro a H
  refine wl_nil ?_
  refine hK3 _ _ ?_; clear hK3
  refine c_block ?_
  skip
  refine c_loopS (ι := Nat × Int × GH) (Tc := [(0, _), (1, _), (2, _)]) (Lc := []) (fun (gh : Nat × Int × GH) => [(7, vi gh.1)]) (fun (gh : Nat × Int × GH) => [bI bl gh.2.1]) (fun (gh : Nat × Int × GH) => gh.2.2) (fun (gh : Nat × Int × GH) => gh.1 ≤ l.length ∧ left - 4 * (zRows (l.take gh.1) : Int) ≤ gh.2.1 ∧ gh.2.1 ≤ left ∧ (∀ b o, G b = some o → gh.2.2 b = some o)) (fun (gh : Nat × Int × GH) => l.length - gh.1) ((0, left, G)) (by exact (H).sub ⟨rfl, rfl, rfl, rfl, trivial⟩) ?_ ?_
  · exact ⟨by omega, by show left - 4 * ((0 : Nat) : Int) ≤ left; omega, Int.le_refl _, fun _ _ h => h⟩
  · clear H; intro gh a w hI H
    obtain ⟨k, lf, g⟩ := gh; dsimp only at hI H
    obtain ⟨hk, hlo, hhi, hgm⟩ := hI
    have hzk := zRows_tk l k
    dsimp only [List.cons_append, List.nil_append, List.append_nil] at H
    refine c_seq (fun _ hK4 => ?_)
    refine c_seq (fun _ hK5 => ?_)
    refine c_region ?_
    refine s_move H wn rfl rfl ?_; clear H; intro a H
    refine s_move H wn rfl rfl ?_; clear H; intro a H
    refine s_len un45sml H wn rfl rfl ?_; clear H; intro a H
    refine s_cmp H wn rfl rfl rfl rfl ?_; clear H; intro a H
    refine wl_nil ?_
    refine hK5 _ _ ?_; clear hK5
    refine c_cond H rfl ?_ ?_
    · intro h13
      try have p13 := of_decide_eq_true h13
      have hk2 : k < l.length := by omega
      obtain ⟨b, o, pA, pn, pc, dA, dn, dc, yA, yn, yc, cA, cn, cc, rfl, hrow, hhd, hcl⟩ := row_get hk2 hg
      have r0 : gcell g b (o + k * 6 + 0 + 0) = some (.slice pA pn pc) := gcell_mono hgm (hrow 0 _ rfl)
      have r3 : gcell g b (o + k * 6 + 0 + 1 + 2) = some (.slice dA dn dc) := gcell_mono hgm (hrow 3 _ rfl)
      have r4 : gcell g b (o + k * 6 + 0 + 1 + 3) = some (.slice yA yn yc) := gcell_mono hgm (hrow 4 _ rfl)
      have r5 : gcell g b (o + k * 6 + 5) = some (.slice cA cn cc) := gcell_mono hgm (hrow 5 _ rfl)
      have hcn := hcl.len; rw [List.length_map] at hcn; subst hcn
      have hcc := hcl.slice
      have q1 := tdiv8 pn; have q2 := tdiv8 dn; have q3 := tdiv8 yn
      have hzi := zRow_eq l[k]
      have hzh := zHead_eq l[k].head
      have l1 := hhd.props.len; have l2 := hhd.dels.len; have l3 := hhd.layers.len
      have m1 := szRs_length (l[k].head.props.map PropD.dat); have m2 := szRs_length (l[k].head.marks.dels.map DelD.dat); have m3 := szRs_length (l[k].head.marks.layers.map LayerD.dat)
      have hzs := zRows_succ hk2
      have hzt := zRows_tk l (k + 1)
      have hcll := zCells_length l[k].cells
      refine c_skip ?_
      refine hK4 _ _ ?_; clear hK4
      refine c_seq (fun _ hK6 => ?_)
      refine c_block ?_
      refine c_seq (fun _ hK7 => ?_)
      have hprm4 : ∀ (i : Nat) (v : Value) (G G' : GH), (∀ k o, G k = some o → G' k = some o) → (fun (i : Nat) (v : Value) (G : GH) => match i with | 0 => v = .pointer (some ⟨bl, 0, none⟩) | 1 => v = .pointer (some ⟨bl, 0, none⟩) | 2 => v = .pointer (some ⟨bl, 0, none⟩) | 3 => v = vi lf | 4 => v = vi (lf - 1) | 5 => v = .slice (some ⟨b, o, none⟩) l.length c | 6 => v = vi k | 7 => v = .pointer (some ⟨b, o + k * 6, none⟩) | 8 => v = .pointer (some ⟨b, o + k * 6 + 0, none⟩) | 9 => v = .pointer (some ⟨b, o + k * 6 + 0 + 0, none⟩) | 10 => v = .slice pA pn pc | 11 => v = vi pn | 12 => v = vi ((pn : Int).tdiv 8) | 13 => v = vi (lf - 1 - (pn : Int).tdiv 8) | 14 => v = .slice (some ⟨b, o, none⟩) l.length c | 15 => v = vi k | 16 => v = .pointer (some ⟨b, o + k * 6, none⟩) | 17 => v = .pointer (some ⟨b, o + k * 6 + 0, none⟩) | 18 => v = .pointer (some ⟨b, o + k * 6 + 0 + 1, none⟩) | 19 => v = .pointer (some ⟨b, o + k * 6 + 0 + 1 + 2, none⟩) | 20 => v = .slice dA dn dc | 21 => v = vi dn | 22 => v = vi ((dn : Int).tdiv 8) | 23 => v = vi (lf - 1 - (pn : Int).tdiv 8 - (dn : Int).tdiv 8) | 24 => v = .slice (some ⟨b, o, none⟩) l.length c | 25 => v = vi k | 26 => v = .pointer (some ⟨b, o + k * 6, none⟩) | 27 => v = .pointer (some ⟨b, o + k * 6 + 0, none⟩) | 28 => v = .pointer (some ⟨b, o + k * 6 + 0 + 1, none⟩) | 29 => v = .pointer (some ⟨b, o + k * 6 + 0 + 1 + 3, none⟩) | 30 => v = .slice yA yn yc | 31 => v = vi yn | 32 => v = vi ((yn : Int).tdiv 8) | 33 => v = vi (lf - 1 - (pn : Int).tdiv 8 - (dn : Int).tdiv 8 - (yn : Int).tdiv 8) | 34 => v = .pointer (some ⟨bl, 0, none⟩) | _ => True) i v G → (fun (i : Nat) (v : Value) (G : GH) => match i with | 0 => v = .pointer (some ⟨bl, 0, none⟩) | 1 => v = .pointer (some ⟨bl, 0, none⟩) | 2 => v = .pointer (some ⟨bl, 0, none⟩) | 3 => v = vi lf | 4 => v = vi (lf - 1) | 5 => v = .slice (some ⟨b, o, none⟩) l.length c | 6 => v = vi k | 7 => v = .pointer (some ⟨b, o + k * 6, none⟩) | 8 => v = .pointer (some ⟨b, o + k * 6 + 0, none⟩) | 9 => v = .pointer (some ⟨b, o + k * 6 + 0 + 0, none⟩) | 10 => v = .slice pA pn pc | 11 => v = vi pn | 12 => v = vi ((pn : Int).tdiv 8) | 13 => v = vi (lf - 1 - (pn : Int).tdiv 8) | 14 => v = .slice (some ⟨b, o, none⟩) l.length c | 15 => v = vi k | 16 => v = .pointer (some ⟨b, o + k * 6, none⟩) | 17 => v = .pointer (some ⟨b, o + k * 6 + 0, none⟩) | 18 => v = .pointer (some ⟨b, o + k * 6 + 0 + 1, none⟩) | 19 => v = .pointer (some ⟨b, o + k * 6 + 0 + 1 + 2, none⟩) | 20 => v = .slice dA dn dc | 21 => v = vi dn | 22 => v = vi ((dn : Int).tdiv 8) | 23 => v = vi (lf - 1 - (pn : Int).tdiv 8 - (dn : Int).tdiv 8) | 24 => v = .slice (some ⟨b, o, none⟩) l.length c | 25 => v = vi k | 26 => v = .pointer (some ⟨b, o + k * 6, none⟩) | 27 => v = .pointer (some ⟨b, o + k * 6 + 0, none⟩) | 28 => v = .pointer (some ⟨b, o + k * 6 + 0 + 1, none⟩) | 29 => v = .pointer (some ⟨b, o + k * 6 + 0 + 1 + 3, none⟩) | 30 => v = .slice yA yn yc | 31 => v = vi yn | 32 => v = vi ((yn : Int).tdiv 8) | 33 => v = vi (lf - 1 - (pn : Int).tdiv 8 - (dn : Int).tdiv 8 - (yn : Int).tdiv 8) | 34 => v = .pointer (some ⟨bl, 0, none⟩) | _ => True) i v G' := by
        intro i v G G' hm h
        match i, h with
        | 0, h => exact h
        | 1, h => exact h
        | 2, h => exact h
        | 3, h => exact h
        | 4, h => exact h
        | 5, h => exact h
        | 6, h => exact h
        | 7, h => exact h
        | 8, h => exact h
        | 9, h => exact h
        | 10, h => exact h
        | 11, h => exact h
        | 12, h => exact h
        | 13, h => exact h
        | 14, h => exact h
        | 15, h => exact h
        | 16, h => exact h
        | 17, h => exact h
        | 18, h => exact h
        | 19, h => exact h
        | 20, h => exact h
        | 21, h => exact h
        | 22, h => exact h
        | 23, h => exact h
        | 24, h => exact h
        | 25, h => exact h
        | 26, h => exact h
        | 27, h => exact h
        | 28, h => exact h
        | 29, h => exact h
        | 30, h => exact h
        | 31, h => exact h
        | 32, h => exact h
        | 33, h => exact h
        | 34, h => exact h
        | 35, h => exact trivial
        | _ + 36, h => exact trivial
      refine c_drawI (hmx) [[], [], [1], [1, 2], [1, 2, 3], [], [], [5, 6], [5, 6, 7], [5, 6, 7, 8], [5, 6, 7, 8, 9], [5, 6, 7, 8, 9, 10], [5, 6, 7, 8, 9, 10, 11], [1, 2, 3, 4, 5, 6, 7, 8, 9, 10, 11, 12], [], [], [14, 15], [14, 15, 16], [14, 15, 16, 17], [14, 15, 16, 17, 18], [14, 15, 16, 17, 18, 19], [14, 15, 16, 17, 18, 19, 20], [14, 15, 16, 17, 18, 19, 20, 21], [1, 2, 3, 4, 5, 6, 7, 8, 9, 10, 11, 12, 13, 14, 15, 16, 17, 18, 19, 20, 21, 22], [], [], [24, 25], [24, 25, 26], [24, 25, 26, 27], [24, 25, 26, 27, 28], [24, 25, 26, 27, 28, 29], [24, 25, 26, 27, 28, 29, 30], [24, 25, 26, 27, 28, 29, 30, 31], [1, 2, 3, 4, 5, 6, 7, 8, 9, 10, 11, 12, 13, 14, 15, 16, 17, 18, 19, 20, 21, 22, 23, 24, 25, 26, 27, 28, 29, 30, 31, 32], [0, 1, 2, 3, 4, 5, 6, 7, 8, 9, 10, 11, 12, 13, 14, 15, 16, 17, 18, 19, 20, 21, 22, 23, 24, 25, 26, 27, 28, 29, 30, 31, 32, 33], [0, 1, 2, 3, 4, 5, 6, 7, 8, 9, 10, 11, 12, 13, 14, 15, 16, 17, 18, 19, 20, 21, 22, 23, 24, 25, 26, 27, 28, 29, 30, 31, 32, 33, 34]] [35] (by kernel_rfl) (by kernel_rfl) (fun (i : Nat) (v : Value) (G : GH) => match i with | 0 => v = .pointer (some ⟨bl, 0, none⟩) | 1 => v = .pointer (some ⟨bl, 0, none⟩) | 2 => v = .pointer (some ⟨bl, 0, none⟩) | 3 => v = vi lf | 4 => v = vi (lf - 1) | 5 => v = .slice (some ⟨b, o, none⟩) l.length c | 6 => v = vi k | 7 => v = .pointer (some ⟨b, o + k * 6, none⟩) | 8 => v = .pointer (some ⟨b, o + k * 6 + 0, none⟩) | 9 => v = .pointer (some ⟨b, o + k * 6 + 0 + 0, none⟩) | 10 => v = .slice pA pn pc | 11 => v = vi pn | 12 => v = vi ((pn : Int).tdiv 8) | 13 => v = vi (lf - 1 - (pn : Int).tdiv 8) | 14 => v = .slice (some ⟨b, o, none⟩) l.length c | 15 => v = vi k | 16 => v = .pointer (some ⟨b, o + k * 6, none⟩) | 17 => v = .pointer (some ⟨b, o + k * 6 + 0, none⟩) | 18 => v = .pointer (some ⟨b, o + k * 6 + 0 + 1, none⟩) | 19 => v = .pointer (some ⟨b, o + k * 6 + 0 + 1 + 2, none⟩) | 20 => v = .slice dA dn dc | 21 => v = vi dn | 22 => v = vi ((dn : Int).tdiv 8) | 23 => v = vi (lf - 1 - (pn : Int).tdiv 8 - (dn : Int).tdiv 8) | 24 => v = .slice (some ⟨b, o, none⟩) l.length c | 25 => v = vi k | 26 => v = .pointer (some ⟨b, o + k * 6, none⟩) | 27 => v = .pointer (some ⟨b, o + k * 6 + 0, none⟩) | 28 => v = .pointer (some ⟨b, o + k * 6 + 0 + 1, none⟩) | 29 => v = .pointer (some ⟨b, o + k * 6 + 0 + 1 + 3, none⟩) | 30 => v = .slice yA yn yc | 31 => v = vi yn | 32 => v = vi ((yn : Int).tdiv 8) | 33 => v = vi (lf - 1 - (pn : Int).tdiv 8 - (dn : Int).tdiv 8 - (yn : Int).tdiv 8) | 34 => v = .pointer (some ⟨bl, 0, none⟩) | _ => True) hprm4 H ?_ ?_
      · clear H; refine (allI_cons ?_ (allI_cons ?_ (allI_cons ?_ (allI_cons ?_ (allI_cons ?_ (allI_cons ?_ (allI_cons ?_ (allI_cons ?_ (allI_cons ?_ (allI_cons ?_ (allI_cons ?_ (allI_cons ?_ (allI_cons ?_ (allI_cons ?_ (allI_cons ?_ (allI_cons ?_ (allI_cons ?_ (allI_cons ?_ (allI_cons ?_ (allI_cons ?_ (allI_cons ?_ (allI_cons ?_ (allI_cons ?_ (allI_cons ?_ (allI_cons ?_ (allI_cons ?_ (allI_cons ?_ (allI_cons ?_ (allI_cons ?_ (allI_cons ?_ (allI_cons ?_ (allI_cons ?_ (allI_cons ?_ (allI_cons ?_ (allI_cons ?_ (allI_cons ?_ allI_nil))))))))))))))))))))))))))))))))))))
        · intro S a w G1 _ hSi hc hG HT hv; have H := HT; clear hSi
          have Hb := H.full; have H := Hb; clear hc
          refine s_move H wn rfl rfl ?_; clear H; intro a H
          refine wl_nil ⟨rfl, ?_⟩
          exact draw_val (by kernel_rfl) hprm4 rfl rfl HT Hb hG hv (fun _ _ h => h) (rfl) H
        · intro S a w G1 _ hSi hc hG HT hv; have H := HT; clear hSi
          have Hb := H.full; have H := Hb; clear hc
          refine s_move H wn rfl rfl ?_; clear H; intro a H
          refine wl_nil ⟨rfl, ?_⟩
          exact draw_val (by kernel_rfl) hprm4 rfl rfl HT Hb hG hv (fun _ _ h => h) (rfl) H
        · intro S a w G1 _ hSi hc hG HT hv; have H := HT; clear hSi
          obtain ⟨u17, hu17, hp17⟩ := hv 1 17 (hc 1 (by decide)) rfl
          obtain rfl : u17 = .pointer (some ⟨bl, 0, none⟩) := hp17
          have H := H.addS hu17
          have Hb := H.full; have H := Hb; clear hc
          refine s_nilCheck H wn rfl rfl ?_; clear H; intro a H
          refine wl_nil ⟨rfl, ?_⟩
          exact draw_val (by kernel_rfl) hprm4 rfl rfl HT Hb hG hv (fun _ _ h => h) (rfl) H
        · intro S a w G1 _ hSi hc hG HT hv; have H := HT; clear hSi
          obtain ⟨u18, hu18, hp18⟩ := hv 2 18 (hc 2 (by decide)) rfl
          obtain rfl : u18 = .pointer (some ⟨bl, 0, none⟩) := hp18
          have H := H.addS hu18
          have Hb := H.full; have H := Hb; clear hc
          refine s_load ty3sml H wn rfl (H.hp.ocell 0 rfl rfl) rfl ?_; clear H; intro a H
          refine wl_nil ⟨rfl, ?_⟩
          exact draw_val (by kernel_rfl) hprm4 rfl rfl HT Hb hG hv (fun _ _ h => h) (rfl) H
        · intro S a w G1 _ hSi hc hG HT hv; have H := HT; clear hSi
          obtain ⟨u19, hu19, hp19⟩ := hv 3 19 (hc 3 (by decide)) rfl
          obtain rfl : u19 = vi lf := hp19
          have H := H.addS hu19
          have Hb := H.full; have H := Hb; clear hc
          refine s_sub _ H wn rfl rfl rfl (by omega) (by omega) rfl ?_; clear H; intro a H
          refine wl_nil ⟨rfl, ?_⟩
          exact draw_val (by kernel_rfl) hprm4 rfl rfl HT Hb hG hv (fun _ _ h => h) (rfl) H
        · intro S a w G1 _ hSi hc hG HT hv; have H := HT; clear hSi
          have Hb := H.full; have H := Hb; clear hc
          refine s_move H wn rfl rfl ?_; clear H; intro a H
          refine wl_nil ⟨rfl, ?_⟩
          exact draw_val (by kernel_rfl) hprm4 rfl rfl HT Hb hG hv (fun _ _ h => h) (rfl) H
        · intro S a w G1 _ hSi hc hG HT hv; have H := HT; clear hSi
          have Hb := H.full; have H := Hb; clear hc
          refine s_move H wn rfl rfl ?_; clear H; intro a H
          refine wl_nil ⟨rfl, ?_⟩
          exact draw_val (by kernel_rfl) hprm4 rfl rfl HT Hb hG hv (fun _ _ h => h) (rfl) H
        · intro S a w G1 _ hSi hc hG HT hv; have H := HT; clear hSi
          obtain ⟨u21, hu21, hp21⟩ := hv 5 21 (hc 5 (by decide)) rfl
          obtain rfl : u21 = .slice (some ⟨b, o, none⟩) l.length c := hp21
          have H := H.addS hu21
          obtain ⟨u22, hu22, hp22⟩ := hv 6 22 (hc 6 (by decide)) rfl
          obtain rfl : u22 = vi k := hp22
          have H := H.addS hu22
          have Hb := H.full; have H := Hb; clear hc
          refine s_index un45sml ty107sml _ H wn rfl rfl rfl (by first | assumption | omega) rfl ?_; clear H; intro a H
          refine wl_nil ⟨rfl, ?_⟩
          exact draw_val (by kernel_rfl) hprm4 rfl rfl HT Hb hG hv (fun _ _ h => h) (rfl) H
        · intro S a w G1 _ hSi hc hG HT hv; have H := HT; clear hSi
          obtain ⟨u23, hu23, hp23⟩ := hv 7 23 (hc 7 (by decide)) rfl
          obtain rfl : u23 = .pointer (some ⟨b, o + k * 6, none⟩) := hp23
          have H := H.addS hu23
          have Hb := H.full; have H := Hb; clear hc
          refine s_field fd107_0sml H wn rfl rfl ?_; clear H; intro a H
          refine wl_nil ⟨rfl, ?_⟩
          exact draw_val (by kernel_rfl) hprm4 rfl rfl HT Hb hG hv (fun _ _ h => h) (rfl) H
        · intro S a w G1 _ hSi hc hG HT hv; have H := HT; clear hSi
          obtain ⟨u24, hu24, hp24⟩ := hv 8 24 (hc 8 (by decide)) rfl
          obtain rfl : u24 = .pointer (some ⟨b, o + k * 6 + 0, none⟩) := hp24
          have H := H.addS hu24
          have Hb := H.full; have H := Hb; clear hc
          refine s_field fd44_0sml H wn rfl rfl ?_; clear H; intro a H
          refine wl_nil ⟨rfl, ?_⟩
          exact draw_val (by kernel_rfl) hprm4 rfl rfl HT Hb hG hv (fun _ _ h => h) (rfl) H
        · intro S a w G1 _ hSi hc hG HT hv; have H := HT; clear hSi
          obtain ⟨u25, hu25, hp25⟩ := hv 9 25 (hc 9 (by decide)) rfl
          obtain rfl : u25 = .pointer (some ⟨b, o + k * 6 + 0 + 0, none⟩) := hp25
          have H := H.addS hu25
          have Hb := H.full; have H := Hb; clear hc
          refine s_load ty38sml H wn rfl (H.hp.gcell (gcell_mono hG r0)) rfl ?_; clear H; intro a H
          refine wl_nil ⟨rfl, ?_⟩
          exact draw_val (by kernel_rfl) hprm4 rfl rfl HT Hb hG hv (fun _ _ h => h) (rfl) H
        · intro S a w G1 _ hSi hc hG HT hv; have H := HT; clear hSi
          obtain ⟨u26, hu26, hp26⟩ := hv 10 26 (hc 10 (by decide)) rfl
          obtain rfl : u26 = .slice pA pn pc := hp26
          have H := H.addS hu26
          have Hb := H.full; have H := Hb; clear hc
          refine s_len un38sml H wn rfl rfl ?_; clear H; intro a H
          refine wl_nil ⟨rfl, ?_⟩
          exact draw_val (by kernel_rfl) hprm4 rfl rfl HT Hb hG hv (fun _ _ h => h) (rfl) H
        · intro S a w G1 _ hSi hc hG HT hv; have H := HT; clear hSi
          obtain ⟨u27, hu27, hp27⟩ := hv 11 27 (hc 11 (by decide)) rfl
          obtain rfl : u27 = vi pn := hp27
          have H := H.addS hu27
          have Hb := H.full; have H := Hb; clear hc
          refine s_quo _ H wn rfl rfl (by omega) rfl (by omega) (by omega) rfl ?_; clear H; intro a H
          refine wl_nil ⟨rfl, ?_⟩
          exact draw_val (by kernel_rfl) hprm4 rfl rfl HT Hb hG hv (fun _ _ h => h) (rfl) H
        · intro S a w G1 _ hSi hc hG HT hv; have H := HT; clear hSi
          obtain ⟨u20, hu20, hp20⟩ := hv 4 20 (hc 4 (by decide)) rfl
          obtain rfl : u20 = vi (lf - 1) := hp20
          have H := H.addS hu20
          obtain ⟨u28, hu28, hp28⟩ := hv 12 28 (hc 12 (by decide)) rfl
          obtain rfl : u28 = vi ((pn : Int).tdiv 8) := hp28
          have H := H.addS hu28
          have Hb := H.full; have H := Hb; clear hc
          refine s_sub _ H wn rfl rfl rfl (by omega) (by omega) rfl ?_; clear H; intro a H
          refine wl_nil ⟨rfl, ?_⟩
          exact draw_val (by kernel_rfl) hprm4 rfl rfl HT Hb hG hv (fun _ _ h => h) (rfl) H
        · intro S a w G1 _ hSi hc hG HT hv; have H := HT; clear hSi
          have Hb := H.full; have H := Hb; clear hc
          refine s_move H wn rfl rfl ?_; clear H; intro a H
          refine wl_nil ⟨rfl, ?_⟩
          exact draw_val (by kernel_rfl) hprm4 rfl rfl HT Hb hG hv (fun _ _ h => h) (rfl) H
        · intro S a w G1 _ hSi hc hG HT hv; have H := HT; clear hSi
          have Hb := H.full; have H := Hb; clear hc
          refine s_move H wn rfl rfl ?_; clear H; intro a H
          refine wl_nil ⟨rfl, ?_⟩
          exact draw_val (by kernel_rfl) hprm4 rfl rfl HT Hb hG hv (fun _ _ h => h) (rfl) H
        · intro S a w G1 _ hSi hc hG HT hv; have H := HT; clear hSi
          obtain ⟨u30, hu30, hp30⟩ := hv 14 30 (hc 14 (by decide)) rfl
          obtain rfl : u30 = .slice (some ⟨b, o, none⟩) l.length c := hp30
          have H := H.addS hu30
          obtain ⟨u31, hu31, hp31⟩ := hv 15 31 (hc 15 (by decide)) rfl
          obtain rfl : u31 = vi k := hp31
          have H := H.addS hu31
          have Hb := H.full; have H := Hb; clear hc
          refine s_index un45sml ty107sml _ H wn rfl rfl rfl (by first | assumption | omega) rfl ?_; clear H; intro a H
          refine wl_nil ⟨rfl, ?_⟩
          exact draw_val (by kernel_rfl) hprm4 rfl rfl HT Hb hG hv (fun _ _ h => h) (rfl) H
        · intro S a w G1 _ hSi hc hG HT hv; have H := HT; clear hSi
          obtain ⟨u32, hu32, hp32⟩ := hv 16 32 (hc 16 (by decide)) rfl
          obtain rfl : u32 = .pointer (some ⟨b, o + k * 6, none⟩) := hp32
          have H := H.addS hu32
          have Hb := H.full; have H := Hb; clear hc
          refine s_field fd107_0sml H wn rfl rfl ?_; clear H; intro a H
          refine wl_nil ⟨rfl, ?_⟩
          exact draw_val (by kernel_rfl) hprm4 rfl rfl HT Hb hG hv (fun _ _ h => h) (rfl) H
        · intro S a w G1 _ hSi hc hG HT hv; have H := HT; clear hSi
          obtain ⟨u33, hu33, hp33⟩ := hv 17 33 (hc 17 (by decide)) rfl
          obtain rfl : u33 = .pointer (some ⟨b, o + k * 6 + 0, none⟩) := hp33
          have H := H.addS hu33
          have Hb := H.full; have H := Hb; clear hc
          refine s_field fd44_1sml H wn rfl rfl ?_; clear H; intro a H
          refine wl_nil ⟨rfl, ?_⟩
          exact draw_val (by kernel_rfl) hprm4 rfl rfl HT Hb hG hv (fun _ _ h => h) (rfl) H
        · intro S a w G1 _ hSi hc hG HT hv; have H := HT; clear hSi
          obtain ⟨u34, hu34, hp34⟩ := hv 18 34 (hc 18 (by decide)) rfl
          obtain rfl : u34 = .pointer (some ⟨b, o + k * 6 + 0 + 1, none⟩) := hp34
          have H := H.addS hu34
          have Hb := H.full; have H := Hb; clear hc
          refine s_field fd42_2sml H wn rfl rfl ?_; clear H; intro a H
          refine wl_nil ⟨rfl, ?_⟩
          exact draw_val (by kernel_rfl) hprm4 rfl rfl HT Hb hG hv (fun _ _ h => h) (rfl) H
        · intro S a w G1 _ hSi hc hG HT hv; have H := HT; clear hSi
          obtain ⟨u35, hu35, hp35⟩ := hv 19 35 (hc 19 (by decide)) rfl
          obtain rfl : u35 = .pointer (some ⟨b, o + k * 6 + 0 + 1 + 2, none⟩) := hp35
          have H := H.addS hu35
          have Hb := H.full; have H := Hb; clear hc
          refine s_load ty39sml H wn rfl (H.hp.gcell (gcell_mono hG r3)) rfl ?_; clear H; intro a H
          refine wl_nil ⟨rfl, ?_⟩
          exact draw_val (by kernel_rfl) hprm4 rfl rfl HT Hb hG hv (fun _ _ h => h) (rfl) H
        · intro S a w G1 _ hSi hc hG HT hv; have H := HT; clear hSi
          obtain ⟨u36, hu36, hp36⟩ := hv 20 36 (hc 20 (by decide)) rfl
          obtain rfl : u36 = .slice dA dn dc := hp36
          have H := H.addS hu36
          have Hb := H.full; have H := Hb; clear hc
          refine s_len un39sml H wn rfl rfl ?_; clear H; intro a H
          refine wl_nil ⟨rfl, ?_⟩
          exact draw_val (by kernel_rfl) hprm4 rfl rfl HT Hb hG hv (fun _ _ h => h) (rfl) H
        · intro S a w G1 _ hSi hc hG HT hv; have H := HT; clear hSi
          obtain ⟨u37, hu37, hp37⟩ := hv 21 37 (hc 21 (by decide)) rfl
          obtain rfl : u37 = vi dn := hp37
          have H := H.addS hu37
          have Hb := H.full; have H := Hb; clear hc
          refine s_quo _ H wn rfl rfl (by omega) rfl (by omega) (by omega) rfl ?_; clear H; intro a H
          refine wl_nil ⟨rfl, ?_⟩
          exact draw_val (by kernel_rfl) hprm4 rfl rfl HT Hb hG hv (fun _ _ h => h) (rfl) H
        · intro S a w G1 _ hSi hc hG HT hv; have H := HT; clear hSi
          obtain ⟨u29, hu29, hp29⟩ := hv 13 29 (hc 13 (by decide)) rfl
          obtain rfl : u29 = vi (lf - 1 - (pn : Int).tdiv 8) := hp29
          have H := H.addS hu29
          obtain ⟨u38, hu38, hp38⟩ := hv 22 38 (hc 22 (by decide)) rfl
          obtain rfl : u38 = vi ((dn : Int).tdiv 8) := hp38
          have H := H.addS hu38
          have Hb := H.full; have H := Hb; clear hc
          refine s_sub _ H wn rfl rfl rfl (by omega) (by omega) rfl ?_; clear H; intro a H
          refine wl_nil ⟨rfl, ?_⟩
          exact draw_val (by kernel_rfl) hprm4 rfl rfl HT Hb hG hv (fun _ _ h => h) (rfl) H
        · intro S a w G1 _ hSi hc hG HT hv; have H := HT; clear hSi
          have Hb := H.full; have H := Hb; clear hc
          refine s_move H wn rfl rfl ?_; clear H; intro a H
          refine wl_nil ⟨rfl, ?_⟩
          exact draw_val (by kernel_rfl) hprm4 rfl rfl HT Hb hG hv (fun _ _ h => h) (rfl) H
        · intro S a w G1 _ hSi hc hG HT hv; have H := HT; clear hSi
          have Hb := H.full; have H := Hb; clear hc
          refine s_move H wn rfl rfl ?_; clear H; intro a H
          refine wl_nil ⟨rfl, ?_⟩
          exact draw_val (by kernel_rfl) hprm4 rfl rfl HT Hb hG hv (fun _ _ h => h) (rfl) H
        · intro S a w G1 _ hSi hc hG HT hv; have H := HT; clear hSi
          obtain ⟨u40, hu40, hp40⟩ := hv 24 40 (hc 24 (by decide)) rfl
          obtain rfl : u40 = .slice (some ⟨b, o, none⟩) l.length c := hp40
          have H := H.addS hu40
          obtain ⟨u41, hu41, hp41⟩ := hv 25 41 (hc 25 (by decide)) rfl
          obtain rfl : u41 = vi k := hp41
          have H := H.addS hu41
          have Hb := H.full; have H := Hb; clear hc
          refine s_index un45sml ty107sml _ H wn rfl rfl rfl (by first | assumption | omega) rfl ?_; clear H; intro a H
          refine wl_nil ⟨rfl, ?_⟩
          exact draw_val (by kernel_rfl) hprm4 rfl rfl HT Hb hG hv (fun _ _ h => h) (rfl) H
        · intro S a w G1 _ hSi hc hG HT hv; have H := HT; clear hSi
          obtain ⟨u42, hu42, hp42⟩ := hv 26 42 (hc 26 (by decide)) rfl
          obtain rfl : u42 = .pointer (some ⟨b, o + k * 6, none⟩) := hp42
          have H := H.addS hu42
          have Hb := H.full; have H := Hb; clear hc
          refine s_field fd107_0sml H wn rfl rfl ?_; clear H; intro a H
          refine wl_nil ⟨rfl, ?_⟩
          exact draw_val (by kernel_rfl) hprm4 rfl rfl HT Hb hG hv (fun _ _ h => h) (rfl) H
        · intro S a w G1 _ hSi hc hG HT hv; have H := HT; clear hSi
          obtain ⟨u43, hu43, hp43⟩ := hv 27 43 (hc 27 (by decide)) rfl
          obtain rfl : u43 = .pointer (some ⟨b, o + k * 6 + 0, none⟩) := hp43
          have H := H.addS hu43
          have Hb := H.full; have H := Hb; clear hc
          refine s_field fd44_1sml H wn rfl rfl ?_; clear H; intro a H
          refine wl_nil ⟨rfl, ?_⟩
          exact draw_val (by kernel_rfl) hprm4 rfl rfl HT Hb hG hv (fun _ _ h => h) (rfl) H
        · intro S a w G1 _ hSi hc hG HT hv; have H := HT; clear hSi
          obtain ⟨u44, hu44, hp44⟩ := hv 28 44 (hc 28 (by decide)) rfl
          obtain rfl : u44 = .pointer (some ⟨b, o + k * 6 + 0 + 1, none⟩) := hp44
          have H := H.addS hu44
          have Hb := H.full; have H := Hb; clear hc
          refine s_field fd42_3sml H wn rfl rfl ?_; clear H; intro a H
          refine wl_nil ⟨rfl, ?_⟩
          exact draw_val (by kernel_rfl) hprm4 rfl rfl HT Hb hG hv (fun _ _ h => h) (rfl) H
        · intro S a w G1 _ hSi hc hG HT hv; have H := HT; clear hSi
          obtain ⟨u45, hu45, hp45⟩ := hv 29 45 (hc 29 (by decide)) rfl
          obtain rfl : u45 = .pointer (some ⟨b, o + k * 6 + 0 + 1 + 3, none⟩) := hp45
          have H := H.addS hu45
          have Hb := H.full; have H := Hb; clear hc
          refine s_load ty40sml H wn rfl (H.hp.gcell (gcell_mono hG r4)) rfl ?_; clear H; intro a H
          refine wl_nil ⟨rfl, ?_⟩
          exact draw_val (by kernel_rfl) hprm4 rfl rfl HT Hb hG hv (fun _ _ h => h) (rfl) H
        · intro S a w G1 _ hSi hc hG HT hv; have H := HT; clear hSi
          obtain ⟨u46, hu46, hp46⟩ := hv 30 46 (hc 30 (by decide)) rfl
          obtain rfl : u46 = .slice yA yn yc := hp46
          have H := H.addS hu46
          have Hb := H.full; have H := Hb; clear hc
          refine s_len un40sml H wn rfl rfl ?_; clear H; intro a H
          refine wl_nil ⟨rfl, ?_⟩
          exact draw_val (by kernel_rfl) hprm4 rfl rfl HT Hb hG hv (fun _ _ h => h) (rfl) H
        · intro S a w G1 _ hSi hc hG HT hv; have H := HT; clear hSi
          obtain ⟨u47, hu47, hp47⟩ := hv 31 47 (hc 31 (by decide)) rfl
          obtain rfl : u47 = vi yn := hp47
          have H := H.addS hu47
          have Hb := H.full; have H := Hb; clear hc
          refine s_quo _ H wn rfl rfl (by omega) rfl (by omega) (by omega) rfl ?_; clear H; intro a H
          refine wl_nil ⟨rfl, ?_⟩
          exact draw_val (by kernel_rfl) hprm4 rfl rfl HT Hb hG hv (fun _ _ h => h) (rfl) H
        · intro S a w G1 _ hSi hc hG HT hv; have H := HT; clear hSi
          obtain ⟨u39, hu39, hp39⟩ := hv 23 39 (hc 23 (by decide)) rfl
          obtain rfl : u39 = vi (lf - 1 - (pn : Int).tdiv 8 - (dn : Int).tdiv 8) := hp39
          have H := H.addS hu39
          obtain ⟨u48, hu48, hp48⟩ := hv 32 48 (hc 32 (by decide)) rfl
          obtain rfl : u48 = vi ((yn : Int).tdiv 8) := hp48
          have H := H.addS hu48
          have Hb := H.full; have H := Hb; clear hc
          refine s_sub _ H wn rfl rfl rfl (by omega) (by omega) rfl ?_; clear H; intro a H
          refine wl_nil ⟨rfl, ?_⟩
          exact draw_val (by kernel_rfl) hprm4 rfl rfl HT Hb hG hv (fun _ _ h => h) (rfl) H
        · intro S a w G1 _ hSi hc hG HT hv; have H := HT; clear hSi
          obtain ⟨u16, hu16, hp16⟩ := hv 0 16 (hc 0 (by decide)) rfl
          obtain rfl : u16 = .pointer (some ⟨bl, 0, none⟩) := hp16
          have H := H.addS hu16
          have Hb := H.full; have H := Hb; clear hc
          refine s_nilCheck H wn rfl rfl ?_; clear H; intro a H
          refine wl_nil ⟨rfl, ?_⟩
          exact draw_val (by kernel_rfl) hprm4 rfl rfl HT Hb hG hv (fun _ _ h => h) (rfl) H
        · intro _ _ _ _ hB; exact absurd hB (by decide)
      · clear H; intro a w G hGm4 H hv
        obtain ⟨u49, hu49, hp49⟩ := hv 33 49 (by decide) rfl
        obtain rfl : u49 = vi (lf - 1 - (pn : Int).tdiv 8 - (dn : Int).tdiv 8 - (yn : Int).tdiv 8) := hp49
        have H := H.addS hu49
        obtain ⟨u50, hu50, hp50⟩ := hv 34 50 (by decide) rfl
        obtain rfl : u50 = .pointer (some ⟨bl, 0, none⟩) := hp50
        have H := H.addS hu50
        clear hv
        refine s_store ty3sml 0 (vs := [_]) _ H wn rfl rfl rfl rfl rfl rfl rfl rfl ?_; clear H; intro w H; dsimp only [List.set, setRow] at H
        refine wl_nil ⟨rfl, ?_⟩
        refine hK7 _ _ ?_; clear hK7
        refine c_seq (fun _ hK8 => ?_)
        refine c_seq (fun _ hK9 => ?_)
        obtain ⟨lf1, hlf1⟩ : ∃ x, x = lf - 1 - (pn : Int).tdiv 8 - (dn : Int).tdiv 8 - (yn : Int).tdiv 8 := ⟨_, rfl⟩
        rw [← hlf1] at H
        have hgm1 : ∀ b o, g b = some o → G b = some o := hGm4
        obtain ⟨g1, hg1⟩ : ∃ x, x = G := ⟨_, rfl⟩
        rw [← hg1] at H hgm1
        refine c_region ?_
        refine s_assign H wn rfl rfl ?_; clear H; intro a H
        refine wl_nil ?_
        refine hK9 _ _ ?_; clear hK9
        refine c_block ?_
        skip
        refine c_loopS (ι := Nat × Int × GH) (Tc := [(0, _), (1, _), (2, _), (7, _)]) (Lc := []) (fun (gh : Nat × Int × GH) => [(8, vi gh.1)]) (fun (gh : Nat × Int × GH) => [bI bl gh.2.1]) (fun (gh : Nat × Int × GH) => gh.2.2) (fun (gh : Nat × Int × GH) => gh.1 ≤ l[k].cells.length ∧ lf1 - 4 * (zCells (l[k].cells.take gh.1) : Int) ≤ gh.2.1 ∧ gh.2.1 ≤ lf1 ∧ (∀ b o, g b = some o → gh.2.2 b = some o)) (fun (gh : Nat × Int × GH) => l[k].cells.length - gh.1) ((0, lf1, g1)) (by exact (H).sub ⟨rfl, rfl, rfl, rfl, rfl, trivial⟩) ?_ ?_
        · exact ⟨by omega, by show lf1 - 4 * ((0 : Nat) : Int) ≤ lf1; omega, Int.le_refl _, hgm1⟩
        · clear H; intro gh a w hI H
          obtain ⟨j, lf2, g2⟩ := gh; dsimp only at hI H
          obtain ⟨hj, hlo2, hhi2, hgm0⟩ := hI
          have hgm2 := fun b o h => hgm0 b o (hgm b o h)
          have hzk2 := zCells_tk l[k].cells j
          replace r5 := gcell_mono hgm0 r5
          dsimp only [List.cons_append, List.nil_append, List.append_nil] at H
          refine c_seq (fun _ hK10 => ?_)
          refine c_seq (fun _ hK11 => ?_)
          refine c_region ?_
          refine s_move H wn rfl rfl ?_; clear H; intro a H
          refine s_move H wn rfl rfl ?_; clear H; intro a H
          refine s_move H wn rfl rfl ?_; clear H; intro a H
          refine s_index un45sml ty107sml _ H wn rfl rfl rfl (by first | assumption | omega) rfl ?_; clear H; intro a H
          refine s_field fd107_1sml H wn rfl rfl ?_; clear H; intro a H
          refine s_load ty105sml H wn rfl (H.hp.gcell (by assumption)) rfl ?_; clear H; intro a H
          refine s_len un105sml H wn rfl rfl ?_; clear H; intro a H
          refine s_cmp H wn rfl rfl rfl rfl ?_; clear H; intro a H
          refine wl_nil ?_
          refine hK11 _ _ ?_; clear hK11
          refine c_cond H rfl ?_ ?_
          · intro h58
            try have p58 := of_decide_eq_true h58
            have hj2 : j < l[k].cells.length := by omega
            obtain ⟨b2, o2, qA, qn, qc, eA, en, ec, zA, zn, zc, fA, fn, fc, rfl, hrow2, hhd2, hfl2⟩ := cell_get hj2 hcl.at_
            have t2 : gcell g2 b2 (o2 + j * 7 + 6) = some (.slice fA fn fc) := gcell_mono hgm2 (hrow2 6 _ rfl)
            have p1 := tdiv8 qn; have p2 := tdiv8 en; have p3 := tdiv8 zn
            have hzi2 := zCell_eq l[k].cells[j]
            have hzh2 := zHead_eq l[k].cells[j].head
            have l4 := hhd2.props.len; have l5 := hhd2.dels.len; have l6 := hhd2.layers.len
            have m4 := szRs_length (l[k].cells[j].head.props.map PropD.dat); have m5 := szRs_length (l[k].cells[j].head.marks.dels.map DelD.dat); have m6 := szRs_length (l[k].cells[j].head.marks.layers.map LayerD.dat)
            have hzs2 := zCells_succ hj2
            have hzt2 := zCells_tk l[k].cells (j + 1)
            refine c_skip ?_
            refine hK10 _ _ ?_; clear hK10
            refine c_seq (fun _ hK12 => ?_)
            refine c_block ?_
            refine c_seq (fun _ hK13 => ?_)
            refine c_region ?_
            refine s_move H wn rfl rfl ?_; clear H; intro a H
            refine s_move H wn rfl rfl ?_; clear H; intro a H
            refine s_index un45sml ty107sml _ H wn rfl rfl rfl (by first | assumption | omega) rfl ?_; clear H; intro a H
            refine s_field fd107_1sml H wn rfl rfl ?_; clear H; intro a H
            refine s_load ty105sml H wn rfl (H.hp.gcell (by assumption)) rfl ?_; clear H; intro a H
            refine s_move H wn rfl rfl ?_; clear H; intro a H
            refine s_index un105sml ty104sml _ H wn rfl rfl rfl (by first | assumption | omega) rfl ?_; clear H; intro a H
            refine s_field fd104_1sml H wn rfl rfl ?_; clear H; intro a H
            refine s_loada ty44sml (cs := [.slice qA qn qc, vi l[k].cells[j].head.marks.ins, vi l[k].cells[j].head.marks.move, .slice eA en ec, .slice zA zn zc]) H wn rfl rfl (fun i v hi => H.hp.gcell (gcell_mono hgm2 (head_cells hrow2 i v hi))) rfl ?_; clear H; intro a H
            refine s_alloc ty44sml H wn rfl ?_; clear H; intro b9 a w hb9 H
            refine s_store ty44sml 0 (vs := [_, _, _, _, _]) _ H wn rfl rfl rfl rfl rfl rfl rfl rfl ?_; clear H; intro w H; dsimp only [List.set, setRow] at H
            refine wl_nil ?_
            refine hK13 _ _ ?_; clear hK13
            refine c_seq (fun _ hK14 => ?_)
            have hprm9 : ∀ (i : Nat) (v : Value) (G G' : GH), (∀ k o, G k = some o → G' k = some o) → (fun (i : Nat) (v : Value) (G : GH) => match i with | 0 => v = .pointer (some ⟨bl, 0, none⟩) | 1 => v = .pointer (some ⟨bl, 0, none⟩) | 2 => v = .pointer (some ⟨bl, 0, none⟩) | 3 => v = vi lf2 | 4 => v = vi (lf2 - 1) | 5 => v = .pointer (some ⟨b9, 0, none⟩) | 6 => v = .slice qA qn qc | 7 => v = vi qn | 8 => v = vi ((qn : Int).tdiv 8) | 9 => v = vi (lf2 - 1 - (qn : Int).tdiv 8) | 10 => v = .pointer (some ⟨b9, 1, none⟩) | 11 => v = .pointer (some ⟨b9, 3, none⟩) | 12 => v = .slice eA en ec | 13 => v = vi en | 14 => v = vi ((en : Int).tdiv 8) | 15 => v = vi (lf2 - 1 - (qn : Int).tdiv 8 - (en : Int).tdiv 8) | 16 => v = .pointer (some ⟨b9, 1, none⟩) | 17 => v = .pointer (some ⟨b9, 4, none⟩) | 18 => v = .slice zA zn zc | 19 => v = vi zn | 20 => v = vi ((zn : Int).tdiv 8) | 21 => v = vi (lf2 - 1 - (qn : Int).tdiv 8 - (en : Int).tdiv 8 - (zn : Int).tdiv 8) | 22 => v = .pointer (some ⟨bl, 0, none⟩) | _ => True) i v G → (fun (i : Nat) (v : Value) (G : GH) => match i with | 0 => v = .pointer (some ⟨bl, 0, none⟩) | 1 => v = .pointer (some ⟨bl, 0, none⟩) | 2 => v = .pointer (some ⟨bl, 0, none⟩) | 3 => v = vi lf2 | 4 => v = vi (lf2 - 1) | 5 => v = .pointer (some ⟨b9, 0, none⟩) | 6 => v = .slice qA qn qc | 7 => v = vi qn | 8 => v = vi ((qn : Int).tdiv 8) | 9 => v = vi (lf2 - 1 - (qn : Int).tdiv 8) | 10 => v = .pointer (some ⟨b9, 1, none⟩) | 11 => v = .pointer (some ⟨b9, 3, none⟩) | 12 => v = .slice eA en ec | 13 => v = vi en | 14 => v = vi ((en : Int).tdiv 8) | 15 => v = vi (lf2 - 1 - (qn : Int).tdiv 8 - (en : Int).tdiv 8) | 16 => v = .pointer (some ⟨b9, 1, none⟩) | 17 => v = .pointer (some ⟨b9, 4, none⟩) | 18 => v = .slice zA zn zc | 19 => v = vi zn | 20 => v = vi ((zn : Int).tdiv 8) | 21 => v = vi (lf2 - 1 - (qn : Int).tdiv 8 - (en : Int).tdiv 8 - (zn : Int).tdiv 8) | 22 => v = .pointer (some ⟨bl, 0, none⟩) | _ => True) i v G' := by
              intro i v G G' hm h
              match i, h with
              | 0, h => exact h
              | 1, h => exact h
              | 2, h => exact h
              | 3, h => exact h
              | 4, h => exact h
              | 5, h => exact h
              | 6, h => exact h
              | 7, h => exact h
              | 8, h => exact h
              | 9, h => exact h
              | 10, h => exact h
              | 11, h => exact h
              | 12, h => exact h
              | 13, h => exact h
              | 14, h => exact h
              | 15, h => exact h
              | 16, h => exact h
              | 17, h => exact h
              | 18, h => exact h
              | 19, h => exact h
              | 20, h => exact h
              | 21, h => exact h
              | 22, h => exact h
              | 23, h => exact trivial
              | _ + 24, h => exact trivial
            refine c_drawI (hmx) [[], [], [1], [1, 2], [1, 2, 3], [], [5], [5, 6], [5, 6, 7], [1, 2, 3, 4, 5, 6, 7, 8], [], [10], [10, 11], [10, 11, 12], [10, 11, 12, 13], [1, 2, 3, 4, 5, 6, 7, 8, 9, 10, 11, 12, 13, 14], [], [16], [16, 17], [16, 17, 18], [16, 17, 18, 19], [1, 2, 3, 4, 5, 6, 7, 8, 9, 10, 11, 12, 13, 14, 15, 16, 17, 18, 19, 20], [0, 1, 2, 3, 4, 5, 6, 7, 8, 9, 10, 11, 12, 13, 14, 15, 16, 17, 18, 19, 20, 21], [0, 1, 2, 3, 4, 5, 6, 7, 8, 9, 10, 11, 12, 13, 14, 15, 16, 17, 18, 19, 20, 21, 22]] [23] (by kernel_rfl) (by kernel_rfl) (fun (i : Nat) (v : Value) (G : GH) => match i with | 0 => v = .pointer (some ⟨bl, 0, none⟩) | 1 => v = .pointer (some ⟨bl, 0, none⟩) | 2 => v = .pointer (some ⟨bl, 0, none⟩) | 3 => v = vi lf2 | 4 => v = vi (lf2 - 1) | 5 => v = .pointer (some ⟨b9, 0, none⟩) | 6 => v = .slice qA qn qc | 7 => v = vi qn | 8 => v = vi ((qn : Int).tdiv 8) | 9 => v = vi (lf2 - 1 - (qn : Int).tdiv 8) | 10 => v = .pointer (some ⟨b9, 1, none⟩) | 11 => v = .pointer (some ⟨b9, 3, none⟩) | 12 => v = .slice eA en ec | 13 => v = vi en | 14 => v = vi ((en : Int).tdiv 8) | 15 => v = vi (lf2 - 1 - (qn : Int).tdiv 8 - (en : Int).tdiv 8) | 16 => v = .pointer (some ⟨b9, 1, none⟩) | 17 => v = .pointer (some ⟨b9, 4, none⟩) | 18 => v = .slice zA zn zc | 19 => v = vi zn | 20 => v = vi ((zn : Int).tdiv 8) | 21 => v = vi (lf2 - 1 - (qn : Int).tdiv 8 - (en : Int).tdiv 8 - (zn : Int).tdiv 8) | 22 => v = .pointer (some ⟨bl, 0, none⟩) | _ => True) hprm9 H ?_ ?_
            · clear H; refine (allI_cons ?_ (allI_cons ?_ (allI_cons ?_ (allI_cons ?_ (allI_cons ?_ (allI_cons ?_ (allI_cons ?_ (allI_cons ?_ (allI_cons ?_ (allI_cons ?_ (allI_cons ?_ (allI_cons ?_ (allI_cons ?_ (allI_cons ?_ (allI_cons ?_ (allI_cons ?_ (allI_cons ?_ (allI_cons ?_ (allI_cons ?_ (allI_cons ?_ (allI_cons ?_ (allI_cons ?_ (allI_cons ?_ (allI_cons ?_ allI_nil))))))))))))))))))))))))
              · intro S a w G1 _ hSi hc hG HT hv; have H := HT; clear hSi
                have Hb := H.full; have H := Hb; clear hc
                refine s_move H wn rfl rfl ?_; clear H; intro a H
                refine wl_nil ⟨rfl, ?_⟩
                exact draw_val (by kernel_rfl) hprm9 rfl rfl HT Hb hG hv (fun _ _ h => h) (rfl) H
              · intro S a w G1 _ hSi hc hG HT hv; have H := HT; clear hSi
                have Hb := H.full; have H := Hb; clear hc
                refine s_move H wn rfl rfl ?_; clear H; intro a H
                refine wl_nil ⟨rfl, ?_⟩
                exact draw_val (by kernel_rfl) hprm9 rfl rfl HT Hb hG hv (fun _ _ h => h) (rfl) H
              · intro S a w G1 _ hSi hc hG HT hv; have H := HT; clear hSi
                obtain ⟨u71, hu71, hp71⟩ := hv 1 71 (hc 1 (by decide)) rfl
                obtain rfl : u71 = .pointer (some ⟨bl, 0, none⟩) := hp71
                have H := H.addS hu71
                have Hb := H.full; have H := Hb; clear hc
                refine s_nilCheck H wn rfl rfl ?_; clear H; intro a H
                refine wl_nil ⟨rfl, ?_⟩
                exact draw_val (by kernel_rfl) hprm9 rfl rfl HT Hb hG hv (fun _ _ h => h) (rfl) H
              · intro S a w G1 _ hSi hc hG HT hv; have H := HT; clear hSi
                obtain ⟨u72, hu72, hp72⟩ := hv 2 72 (hc 2 (by decide)) rfl
                obtain rfl : u72 = .pointer (some ⟨bl, 0, none⟩) := hp72
                have H := H.addS hu72
                have Hb := H.full; have H := Hb; clear hc
                refine s_load ty3sml H wn rfl (H.hp.ocell 1 rfl rfl) rfl ?_; clear H; intro a H
                refine wl_nil ⟨rfl, ?_⟩
                exact draw_val (by kernel_rfl) hprm9 rfl rfl HT Hb hG hv (fun _ _ h => h) (rfl) H
              · intro S a w G1 _ hSi hc hG HT hv; have H := HT; clear hSi
                obtain ⟨u73, hu73, hp73⟩ := hv 3 73 (hc 3 (by decide)) rfl
                obtain rfl : u73 = vi lf2 := hp73
                have H := H.addS hu73
                have Hb := H.full; have H := Hb; clear hc
                refine s_sub _ H wn rfl rfl rfl (by omega) (by omega) rfl ?_; clear H; intro a H
                refine wl_nil ⟨rfl, ?_⟩
                exact draw_val (by kernel_rfl) hprm9 rfl rfl HT Hb hG hv (fun _ _ h => h) (rfl) H
              · intro S a w G1 _ hSi hc hG HT hv; have H := HT; clear hSi
                have Hb := H.full; have H := Hb; clear hc
                refine s_field fd44_0sml H wn rfl rfl ?_; clear H; intro a H
                refine wl_nil ⟨rfl, ?_⟩
                exact draw_val (by kernel_rfl) hprm9 rfl rfl HT Hb hG hv (fun _ _ h => h) (rfl) H
              · intro S a w G1 _ hSi hc hG HT hv; have H := HT; clear hSi
                obtain ⟨u75, hu75, hp75⟩ := hv 5 75 (hc 5 (by decide)) rfl
                obtain rfl : u75 = .pointer (some ⟨b9, 0, none⟩) := hp75
                have H := H.addS hu75
                have Hb := H.full; have H := Hb; clear hc
                refine s_load ty38sml H wn rfl (H.hp.ocell 0 rfl rfl) rfl ?_; clear H; intro a H
                refine wl_nil ⟨rfl, ?_⟩
                exact draw_val (by kernel_rfl) hprm9 rfl rfl HT Hb hG hv (fun _ _ h => h) (rfl) H
              · intro S a w G1 _ hSi hc hG HT hv; have H := HT; clear hSi
                obtain ⟨u76, hu76, hp76⟩ := hv 6 76 (hc 6 (by decide)) rfl
                obtain rfl : u76 = .slice qA qn qc := hp76
                have H := H.addS hu76
                have Hb := H.full; have H := Hb; clear hc
                refine s_len un38sml H wn rfl rfl ?_; clear H; intro a H
                refine wl_nil ⟨rfl, ?_⟩
                exact draw_val (by kernel_rfl) hprm9 rfl rfl HT Hb hG hv (fun _ _ h => h) (rfl) H
              · intro S a w G1 _ hSi hc hG HT hv; have H := HT; clear hSi
                obtain ⟨u77, hu77, hp77⟩ := hv 7 77 (hc 7 (by decide)) rfl
                obtain rfl : u77 = vi qn := hp77
                have H := H.addS hu77
                have Hb := H.full; have H := Hb; clear hc
                refine s_quo _ H wn rfl rfl (by omega) rfl (by omega) (by omega) rfl ?_; clear H; intro a H
                refine wl_nil ⟨rfl, ?_⟩
                exact draw_val (by kernel_rfl) hprm9 rfl rfl HT Hb hG hv (fun _ _ h => h) (rfl) H
              · intro S a w G1 _ hSi hc hG HT hv; have H := HT; clear hSi
                obtain ⟨u74, hu74, hp74⟩ := hv 4 74 (hc 4 (by decide)) rfl
                obtain rfl : u74 = vi (lf2 - 1) := hp74
                have H := H.addS hu74
                obtain ⟨u78, hu78, hp78⟩ := hv 8 78 (hc 8 (by decide)) rfl
                obtain rfl : u78 = vi ((qn : Int).tdiv 8) := hp78
                have H := H.addS hu78
                have Hb := H.full; have H := Hb; clear hc
                refine s_sub _ H wn rfl rfl rfl (by omega) (by omega) rfl ?_; clear H; intro a H
                refine wl_nil ⟨rfl, ?_⟩
                exact draw_val (by kernel_rfl) hprm9 rfl rfl HT Hb hG hv (fun _ _ h => h) (rfl) H
              · intro S a w G1 _ hSi hc hG HT hv; have H := HT; clear hSi
                have Hb := H.full; have H := Hb; clear hc
                refine s_field fd44_1sml H wn rfl rfl ?_; clear H; intro a H
                refine wl_nil ⟨rfl, ?_⟩
                exact draw_val (by kernel_rfl) hprm9 rfl rfl HT Hb hG hv (fun _ _ h => h) (rfl) H
              · intro S a w G1 _ hSi hc hG HT hv; have H := HT; clear hSi
                obtain ⟨u80, hu80, hp80⟩ := hv 10 80 (hc 10 (by decide)) rfl
                obtain rfl : u80 = .pointer (some ⟨b9, 1, none⟩) := hp80
                have H := H.addS hu80
                have Hb := H.full; have H := Hb; clear hc
                refine s_field fd42_2sml H wn rfl rfl ?_; clear H; intro a H
                refine wl_nil ⟨rfl, ?_⟩
                exact draw_val (by kernel_rfl) hprm9 rfl rfl HT Hb hG hv (fun _ _ h => h) (rfl) H
              · intro S a w G1 _ hSi hc hG HT hv; have H := HT; clear hSi
                obtain ⟨u81, hu81, hp81⟩ := hv 11 81 (hc 11 (by decide)) rfl
                obtain rfl : u81 = .pointer (some ⟨b9, 3, none⟩) := hp81
                have H := H.addS hu81
                have Hb := H.full; have H := Hb; clear hc
                refine s_load ty39sml H wn rfl (H.hp.ocell 0 rfl rfl) rfl ?_; clear H; intro a H
                refine wl_nil ⟨rfl, ?_⟩
                exact draw_val (by kernel_rfl) hprm9 rfl rfl HT Hb hG hv (fun _ _ h => h) (rfl) H
              · intro S a w G1 _ hSi hc hG HT hv; have H := HT; clear hSi
                obtain ⟨u82, hu82, hp82⟩ := hv 12 82 (hc 12 (by decide)) rfl
                obtain rfl : u82 = .slice eA en ec := hp82
                have H := H.addS hu82
                have Hb := H.full; have H := Hb; clear hc
                refine s_len un39sml H wn rfl rfl ?_; clear H; intro a H
                refine wl_nil ⟨rfl, ?_⟩
                exact draw_val (by kernel_rfl) hprm9 rfl rfl HT Hb hG hv (fun _ _ h => h) (rfl) H
              · intro S a w G1 _ hSi hc hG HT hv; have H := HT; clear hSi
                obtain ⟨u83, hu83, hp83⟩ := hv 13 83 (hc 13 (by decide)) rfl
                obtain rfl : u83 = vi en := hp83
                have H := H.addS hu83
                have Hb := H.full; have H := Hb; clear hc
                refine s_quo _ H wn rfl rfl (by omega) rfl (by omega) (by omega) rfl ?_; clear H; intro a H
                refine wl_nil ⟨rfl, ?_⟩
                exact draw_val (by kernel_rfl) hprm9 rfl rfl HT Hb hG hv (fun _ _ h => h) (rfl) H
              · intro S a w G1 _ hSi hc hG HT hv; have H := HT; clear hSi
                obtain ⟨u79, hu79, hp79⟩ := hv 9 79 (hc 9 (by decide)) rfl
                obtain rfl : u79 = vi (lf2 - 1 - (qn : Int).tdiv 8) := hp79
                have H := H.addS hu79
                obtain ⟨u84, hu84, hp84⟩ := hv 14 84 (hc 14 (by decide)) rfl
                obtain rfl : u84 = vi ((en : Int).tdiv 8) := hp84
                have H := H.addS hu84
                have Hb := H.full; have H := Hb; clear hc
                refine s_sub _ H wn rfl rfl rfl (by omega) (by omega) rfl ?_; clear H; intro a H
                refine wl_nil ⟨rfl, ?_⟩
                exact draw_val (by kernel_rfl) hprm9 rfl rfl HT Hb hG hv (fun _ _ h => h) (rfl) H
              · intro S a w G1 _ hSi hc hG HT hv; have H := HT; clear hSi
                have Hb := H.full; have H := Hb; clear hc
                refine s_field fd44_1sml H wn rfl rfl ?_; clear H; intro a H
                refine wl_nil ⟨rfl, ?_⟩
                exact draw_val (by kernel_rfl) hprm9 rfl rfl HT Hb hG hv (fun _ _ h => h) (rfl) H
              · intro S a w G1 _ hSi hc hG HT hv; have H := HT; clear hSi
                obtain ⟨u86, hu86, hp86⟩ := hv 16 86 (hc 16 (by decide)) rfl
                obtain rfl : u86 = .pointer (some ⟨b9, 1, none⟩) := hp86
                have H := H.addS hu86
                have Hb := H.full; have H := Hb; clear hc
                refine s_field fd42_3sml H wn rfl rfl ?_; clear H; intro a H
                refine wl_nil ⟨rfl, ?_⟩
                exact draw_val (by kernel_rfl) hprm9 rfl rfl HT Hb hG hv (fun _ _ h => h) (rfl) H
              · intro S a w G1 _ hSi hc hG HT hv; have H := HT; clear hSi
                obtain ⟨u87, hu87, hp87⟩ := hv 17 87 (hc 17 (by decide)) rfl
                obtain rfl : u87 = .pointer (some ⟨b9, 4, none⟩) := hp87
                have H := H.addS hu87
                have Hb := H.full; have H := Hb; clear hc
                refine s_load ty40sml H wn rfl (H.hp.ocell 0 rfl rfl) rfl ?_; clear H; intro a H
                refine wl_nil ⟨rfl, ?_⟩
                exact draw_val (by kernel_rfl) hprm9 rfl rfl HT Hb hG hv (fun _ _ h => h) (rfl) H
              · intro S a w G1 _ hSi hc hG HT hv; have H := HT; clear hSi
                obtain ⟨u88, hu88, hp88⟩ := hv 18 88 (hc 18 (by decide)) rfl
                obtain rfl : u88 = .slice zA zn zc := hp88
                have H := H.addS hu88
                have Hb := H.full; have H := Hb; clear hc
                refine s_len un40sml H wn rfl rfl ?_; clear H; intro a H
                refine wl_nil ⟨rfl, ?_⟩
                exact draw_val (by kernel_rfl) hprm9 rfl rfl HT Hb hG hv (fun _ _ h => h) (rfl) H
              · intro S a w G1 _ hSi hc hG HT hv; have H := HT; clear hSi
                obtain ⟨u89, hu89, hp89⟩ := hv 19 89 (hc 19 (by decide)) rfl
                obtain rfl : u89 = vi zn := hp89
                have H := H.addS hu89
                have Hb := H.full; have H := Hb; clear hc
                refine s_quo _ H wn rfl rfl (by omega) rfl (by omega) (by omega) rfl ?_; clear H; intro a H
                refine wl_nil ⟨rfl, ?_⟩
                exact draw_val (by kernel_rfl) hprm9 rfl rfl HT Hb hG hv (fun _ _ h => h) (rfl) H
              · intro S a w G1 _ hSi hc hG HT hv; have H := HT; clear hSi
                obtain ⟨u85, hu85, hp85⟩ := hv 15 85 (hc 15 (by decide)) rfl
                obtain rfl : u85 = vi (lf2 - 1 - (qn : Int).tdiv 8 - (en : Int).tdiv 8) := hp85
                have H := H.addS hu85
                obtain ⟨u90, hu90, hp90⟩ := hv 20 90 (hc 20 (by decide)) rfl
                obtain rfl : u90 = vi ((zn : Int).tdiv 8) := hp90
                have H := H.addS hu90
                have Hb := H.full; have H := Hb; clear hc
                refine s_sub _ H wn rfl rfl rfl (by omega) (by omega) rfl ?_; clear H; intro a H
                refine wl_nil ⟨rfl, ?_⟩
                exact draw_val (by kernel_rfl) hprm9 rfl rfl HT Hb hG hv (fun _ _ h => h) (rfl) H
              · intro S a w G1 _ hSi hc hG HT hv; have H := HT; clear hSi
                obtain ⟨u70, hu70, hp70⟩ := hv 0 70 (hc 0 (by decide)) rfl
                obtain rfl : u70 = .pointer (some ⟨bl, 0, none⟩) := hp70
                have H := H.addS hu70
                have Hb := H.full; have H := Hb; clear hc
                refine s_nilCheck H wn rfl rfl ?_; clear H; intro a H
                refine wl_nil ⟨rfl, ?_⟩
                exact draw_val (by kernel_rfl) hprm9 rfl rfl HT Hb hG hv (fun _ _ h => h) (rfl) H
              · intro _ _ _ _ hB; exact absurd hB (by decide)
            · clear H; intro a w G hGm9 H hv
              obtain ⟨u91, hu91, hp91⟩ := hv 21 91 (by decide) rfl
              obtain rfl : u91 = vi (lf2 - 1 - (qn : Int).tdiv 8 - (en : Int).tdiv 8 - (zn : Int).tdiv 8) := hp91
              have H := H.addS hu91
              obtain ⟨u92, hu92, hp92⟩ := hv 22 92 (by decide) rfl
              obtain rfl : u92 = .pointer (some ⟨bl, 0, none⟩) := hp92
              have H := H.addS hu92
              clear hv
              refine s_store ty3sml 1 (vs := [_]) _ H wn rfl rfl rfl rfl rfl rfl rfl rfl ?_; clear H; intro w H; dsimp only [List.set, setRow] at H
              refine wl_nil ⟨rfl, ?_⟩
              refine hK14 _ _ ?_; clear hK14
              refine c_seq (fun _ hK15 => ?_)
              refine c_region ?_
              refine s_move H wn rfl rfl ?_; clear H; intro a H
              refine s_nilCheck H wn rfl rfl ?_; clear H; intro a H
              refine s_load ty3sml H wn rfl (H.hp.ocell 1 rfl rfl) rfl ?_; clear H; intro a H
              refine s_cmp H wn rfl rfl rfl rfl ?_; clear H; intro a H
              refine s_move H wn rfl rfl ?_; clear H; intro a H
              refine s_split H 97 rfl ?_ ?_
              · intro h97
                try have p97 := of_decide_eq_true h97
                refine s_skip H rfl rfl h97 rfl ?_; clear H; intro a H
                refine s_skip H rfl rfl h97 rfl ?_; clear H; intro a H
                refine s_pick_t H wn rfl h97 rfl rfl ?_; clear H; intro a H
                refine s_move H wn rfl rfl ?_; clear H; intro a H
                refine s_skip H rfl rfl rfl rfl ?_; clear H; intro a H
                refine s_skip H rfl rfl rfl rfl ?_; clear H; intro a H
                refine s_skip H rfl rfl rfl rfl ?_; clear H; intro a H
                refine s_skip H rfl rfl rfl rfl ?_; clear H; intro a H
                refine s_skip H rfl rfl rfl rfl ?_; clear H; intro a H
                refine s_skip H rfl rfl rfl rfl ?_; clear H; intro a H
                refine s_skip H rfl rfl rfl rfl ?_; clear H; intro a H
                refine s_skip H rfl rfl rfl rfl ?_; clear H; intro a H
                refine s_skip H rfl rfl rfl rfl ?_; clear H; intro a H
                refine s_skip H rfl rfl rfl rfl ?_; clear H; intro a H
                refine s_skip H rfl rfl rfl rfl ?_; clear H; intro a H
                refine s_skip H rfl rfl rfl rfl ?_; clear H; intro a H
                refine s_skip H rfl rfl rfl rfl ?_; clear H; intro a H
                refine s_skip H rfl rfl rfl rfl ?_; clear H; intro a H
                refine s_pick_t H wn rfl rfl rfl rfl ?_; clear H; intro a H
                refine wl_nil ?_
                refine hK15 _ _ ?_; clear hK15
                refine c_cond_t H rfl rfl ?_
                refine c_seq (fun _ hK16 => ?_)
                refine c_region ?_
                refine s_assign H wn rfl rfl ?_; clear H; intro a H
                refine wl_nil ?_
                refine hK16 _ _ ?_; clear hK16
                refine c_ret ?_
                refine (leave1 H Try.results42 (.cons (rv_tmp H rfl) .nil) ?_).1
                exact H.hp.retD (L' := [bI bl _]) (by repeat (first | exact List.Sublist.refl _ | apply List.Sublist.cons)) ⟨_, _, rfl, rfl, by omega, by omega⟩
              · intro h97
                try have p97 := of_decide_eq_false h97
                replace r5 := gcell_mono hGm9 r5
                replace t2 := gcell_mono hGm9 t2
                refine s_move H (wg H rfl rfl h97) rfl rfl ?_; clear H; intro a H
                refine s_cmp H (wg H rfl rfl h97) rfl rfl rfl rfl ?_; clear H; intro a H
                refine s_pick_f H wn rfl h97 rfl rfl ?_; clear H; intro a H
                refine s_move H wn rfl rfl ?_; clear H; intro a H
                refine s_split H 101 rfl ?_ ?_
                · intro h101
                  try have p101 := of_decide_eq_true h101
                  refine s_skip H rfl rfl h101 rfl ?_; clear H; intro a H
                  refine s_skip H rfl rfl h101 rfl ?_; clear H; intro a H
                  refine s_skip H rfl rfl h101 rfl ?_; clear H; intro a H
                  refine s_skip H rfl rfl h101 rfl ?_; clear H; intro a H
                  refine s_skip H rfl rfl h101 rfl ?_; clear H; intro a H
                  refine s_skip H rfl rfl h101 rfl ?_; clear H; intro a H
                  refine s_skip H rfl rfl h101 rfl ?_; clear H; intro a H
                  refine s_skip H rfl rfl h101 rfl ?_; clear H; intro a H
                  refine s_skip H rfl rfl h101 rfl ?_; clear H; intro a H
                  refine s_skip H rfl rfl h101 rfl ?_; clear H; intro a H
                  refine s_skip H rfl rfl h101 rfl ?_; clear H; intro a H
                  refine s_skip H rfl rfl h101 rfl ?_; clear H; intro a H
                  refine s_skip H rfl rfl h101 rfl ?_; clear H; intro a H
                  refine s_skip H rfl rfl h101 rfl ?_; clear H; intro a H
                  refine s_pick_t H wn rfl h101 rfl rfl ?_; clear H; intro a H
                  refine wl_nil ?_
                  refine hK15 _ _ ?_; clear hK15
                  refine c_cond_t H rfl rfl ?_
                  refine c_seq (fun _ hK17 => ?_)
                  refine c_region ?_
                  refine s_assign H wn rfl rfl ?_; clear H; intro a H
                  refine wl_nil ?_
                  refine hK17 _ _ ?_; clear hK17
                  refine c_ret ?_
                  refine (leave1 H Try.results42 (.cons (rv_tmp H rfl) .nil) ?_).1
                  exact H.hp.retD (L' := [bI bl _]) (by repeat (first | exact List.Sublist.refl _ | apply List.Sublist.cons)) ⟨_, _, rfl, rfl, by omega, by omega⟩
                · intro h101
                  try have p101 := of_decide_eq_false h101
                  refine s_move H (wg H rfl rfl h101) rfl rfl ?_; clear H; intro a H
                  refine s_move H (wg H rfl rfl h101) rfl rfl ?_; clear H; intro a H
                  refine s_index un45sml ty107sml _ H (wg H rfl rfl h101) rfl rfl rfl (by first | assumption | omega) rfl ?_; clear H; intro a H
                  refine s_field fd107_1sml H (wg H rfl rfl h101) rfl rfl ?_; clear H; intro a H
                  refine s_load ty105sml H (wg H rfl rfl h101) rfl (H.hp.gcell (by assumption)) rfl ?_; clear H; intro a H
                  refine s_move H (wg H rfl rfl h101) rfl rfl ?_; clear H; intro a H
                  refine s_index un105sml ty104sml _ H (wg H rfl rfl h101) rfl rfl rfl (by first | assumption | omega) rfl ?_; clear H; intro a H
                  refine s_field fd104_2sml H (wg H rfl rfl h101) rfl rfl ?_; clear H; intro a H
                  refine s_load ty28sml H (wg H rfl rfl h101) rfl (H.hp.gcell (by assumption)) rfl ?_; clear H; intro a H
                  refine s_move H (wg H rfl rfl h101) rfl rfl ?_; clear H; intro a H
                  refine s_sub _ H (wg H rfl rfl h101) rfl rfl rfl (by omega) (by omega) rfl ?_; clear H; intro a H
                  refine s_move H (wg H rfl rfl h101) rfl rfl ?_; clear H; intro a H
                  refine s_callL en28sml (Li := [_]) (L := [bI bl _]) (H.pickT (Pl := [_, _]) (Pl' := [_, _]) [0, 1] (by decide) rfl) (wg H rfl rfl h101) rfl (ih _ _ l[k].cells[j].flow _ (lev - 1) _ bl (Hp.owns (Li := [_]) (H.pickT (Pl := [_, _]) (Pl' := [_, _]) [0, 1] (by decide) rfl).hp) (hfl2.mono fun b o h => hGm9 b o (hgm2 b o h)) (by omega) (by omega) (by omega) (by omega) (by omega)) rfl ?_; clear H
                  rintro v114 G114 L114 a w ⟨b114, lf3, rfl, rfl, hlo3, hhi3⟩ hm114 H
                  dsimp only [List.cons_append, List.nil_append] at H
                  refine s_not H (wg H rfl rfl h101) rfl rfl ?_; clear H; intro a H
                  refine s_pick_f H wn rfl h101 rfl rfl ?_; clear H; intro a H
                  refine wl_nil ?_
                  refine hK15 _ _ ?_; clear hK15
                  refine c_cond H rfl ?_ ?_
                  · intro h116
                    try have p116 := of_decide_eq_true h116
                    refine c_seq (fun _ hK18 => ?_)
                    refine c_region ?_
                    refine s_assign H wn rfl rfl ?_; clear H; intro a H
                    refine wl_nil ?_
                    refine hK18 _ _ ?_; clear hK18
                    refine c_ret ?_
                    refine (leave1 H Try.results42 (.cons (rv_tmp H rfl) .nil) ?_).1
                    exact H.hp.retD (L' := [bI bl _]) (by repeat (first | exact List.Sublist.refl _ | apply List.Sublist.cons)) ⟨_, _, rfl, rfl, by omega, by omega⟩
                  · intro h116
                    try have p116 := of_decide_eq_false h116
                    refine c_skip ?_
                    refine hK12 _ _ ?_; clear hK12
                    refine c_region ?_
                    refine s_move H wn rfl rfl ?_; clear H; intro a H
                    refine s_add _ H wn rfl rfl rfl (by omega) (by omega) rfl ?_; clear H; intro a H
                    refine s_assign H wn rfl rfl ?_; clear H; intro a H
                    refine wl_nil ?_
                    refine loop_end ((j + 1, lf3, G114)) (by exact (H.pickT (Pl := [_, _]) (Pl' := [_]) [1] (by decide) rfl).sub ⟨rfl, rfl, rfl, rfl, rfl, trivial⟩) ?_ ?_
                    · try dsimp only
                      exact ⟨by omega, by omega, by omega, fun b o h => hm114 b o (hGm9 b o (hgm0 b o h))⟩
                    · first | omega | (dsimp only; omega)
          · intro h58
            try have p58 := of_decide_eq_false h58
            refine c_exit ?_
            refine hK8 _ _ ?_; clear hK8
            refine c_seq (fun _ hK19 => ?_)
            refine c_region ?_
            refine s_move H wn rfl rfl ?_; clear H; intro a H
            refine s_nilCheck H wn rfl rfl ?_; clear H; intro a H
            refine s_load ty3sml H wn rfl (H.hp.ocell 0 rfl rfl) rfl ?_; clear H; intro a H
            refine s_cmp H wn rfl rfl rfl rfl ?_; clear H; intro a H
            refine wl_nil ?_
            refine hK19 _ _ ?_; clear hK19
            refine c_cond H rfl ?_ ?_
            · intro h120
              try have p120 := of_decide_eq_true h120
              refine c_seq (fun _ hK20 => ?_)
              refine c_region ?_
              refine s_assign H wn rfl rfl ?_; clear H; intro a H
              refine wl_nil ?_
              refine hK20 _ _ ?_; clear hK20
              refine c_ret ?_
              refine (leave1 H Try.results42 (.cons (rv_tmp H rfl) .nil) ?_).1
              exact H.hp.retD (L' := [bI bl _]) (by repeat (first | exact List.Sublist.refl _ | apply List.Sublist.cons)) ⟨_, _, rfl, rfl, by omega, by omega⟩
            · intro h120
              try have p120 := of_decide_eq_false h120
              refine c_skip ?_
              refine hK6 _ _ ?_; clear hK6
              refine c_region ?_
              refine s_move H wn rfl rfl ?_; clear H; intro a H
              refine s_add _ H wn rfl rfl rfl (by omega) (by omega) rfl ?_; clear H; intro a H
              refine s_assign H wn rfl rfl ?_; clear H; intro a H
              refine wl_nil ?_
              refine loop_end ((k + 1, lf2, g2)) (by exact (H).sub ⟨rfl, rfl, rfl, rfl, trivial⟩) ?_ ?_
              · try dsimp only
                exact ⟨by omega, by omega, by omega, hgm2⟩
              · first | omega | (dsimp only; omega)
    · intro h13
      try have p13 := of_decide_eq_false h13
      refine c_exit ?_
      refine hK2 _ _ ?_; clear hK2
      refine c_seq (fun _ hK21 => ?_)
      refine c_region ?_
      refine s_assign H wn rfl rfl ?_; clear H; intro a H
      refine wl_nil ?_
      refine hK21 _ _ ?_; clear hK21
      refine c_ret ?_
      refine (leave1 H Try.results42 (.cons (rv_tmp H rfl) .nil) ?_).1
      exact H.hp.retD (L' := [bI bl _]) (by repeat (first | exact List.Sublist.refl _ | apply List.Sublist.cons)) ⟨_, _, rfl, rfl, by omega, by omega⟩
theorem smallF_all : ∀ n : Nat, n ≤ 4294967296 → SmallF n
  | 0, _ => fun _ _ _ _ _ _ _ _ _ hz => absurd hz (Nat.not_lt_zero _)
  | n + 1, h => smallFlow_step (smallF_all n (by omega)) (by omega) (fun G w0 l v lev left bl hO hv hz h1 h2 h3 h4 => smallRows_step (smallF_all n (by omega)) (by omega) G w0 l v lev left bl hO hv hz h1 h2 h3 h4)
theorem smallItems_spec (G : GH) (w0 : World) (hG : Hold G w0) (l : List ItemD) (v : Value) (hv : RepV G (.sl 11 (l.map ItemD.dat)) v) (hz : zItems l ≤ 1073741824) :
    Calls Try.prog 10 #[v] w0 (Ret w0 G fun u G' => ∃ b, u = .bool b) := by
  refine enter (N := 6) (T := [(0, _)]) (F := fun k => k < w0.heap.size) (L := []) Try.func10 rfl Try.ntmps10 rfl rfl hG (fun _ h => h) (fun _ h => by cases h) (fun _ h => by cases h) (fun _ h => by cases h) List.Pairwise.nil ?_
  intro a H
  refine c_seq (fun _ hK1 => ?_)
  refine c_region ?_
  refine s_assign H wn rfl rfl ?_; clear H; intro a H
  refine wl_nil ?_
  refine hK1 _ _ ?_; clear hK1
  refine c_seq (fun _ hK2 => ?_)
  refine c_region ?_
  refine s_alloc ty3sml H wn rfl ?_; clear H; intro b3 a w hb3 H
  refine s_store ty3sml 0 (vs := [_]) _ H wn rfl rfl rfl rfl rfl rfl rfl rfl ?_; clear H; intro w H; dsimp only [List.set, setRow] at H
  refine wl_nil ?_
  refine hK2 _ _ ?_; clear hK2
  refine c_seq (fun _ hK3 => ?_)
  refine c_region ?_
  refine s_move H wn rfl rfl ?_; clear H; intro a H
  refine s_callL en28sml (Li := []) (L := [bI b3 300]) H wn rfl (smallF_all 4294967296 (Nat.le_refl _) _ _ l v 12 300 b3 (Hp.owns (Li := []) H.hp) hv (by omega) (by decide) (by decide) (by decide) (by omega)) rfl ?_; clear H
  rintro v5 G5 L5 a w ⟨b5, lf5, rfl, rfl, -, -⟩ hm5 H
  refine s_assign H wn rfl rfl ?_; clear H; intro a H
  refine wl_nil ?_
  refine hK3 _ _ ?_; clear hK3
  refine c_ret ?_
  refine (leave1 H Try.results10 (.cons (rv_tmp H rfl) .nil) ?_).1
  exact H.hp.ret ⟨_, rfl⟩
end Go.Proofs.Ytbfdhlakbdadhaa
