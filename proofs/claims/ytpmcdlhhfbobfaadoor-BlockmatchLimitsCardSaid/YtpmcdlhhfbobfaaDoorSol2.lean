/-
  Package alignment: solve at gap 0.
-/
import Derived.Test.YtpmcdlhhfbobfaaDoorSol
import Derived.Test.YtpmcdlhhfbobfaaDoorRg
namespace Go.Proofs.YtpmcdlhhfbobfaaDoor
open Go.RowKit
theorem un84sol2 : Tryd.prog.underlying 84 = some (.slice 5) := by kernel_rfl
theorem ty5sol2 : Ty Tryd.prog 5 1 1 [.int .u8 0] false := ⟨by kernel_rfl, by kernel_rfl⟩
theorem un85sol2 : Tryd.prog.underlying 85 = some (.array 2 84) := by kernel_rfl
theorem ty84sol2 : Ty Tryd.prog 84 1 24 [.slice none 0 0] false := ⟨by kernel_rfl, by kernel_rfl⟩
theorem un32sol2 : Tryd.prog.underlying 32 = some (.slice 3) := by kernel_rfl
theorem un107sol2 : Tryd.prog.underlying 107 = some (.array 2 32) := by kernel_rfl
theorem ty3sol2 : Ty Tryd.prog 3 1 8 [.int .i64 0] false := ⟨by kernel_rfl, by kernel_rfl⟩
theorem ty32sol2 : Ty Tryd.prog 32 1 24 [.slice none 0 0] false := ⟨by kernel_rfl, by kernel_rfl⟩
theorem fd87_2sol2 : Fld Tryd.prog 87 2 3 := ⟨by kernel_rfl⟩
theorem en52sol2 : ∀ args w, (callFunc 52 args).run Tryd.prog w = .ok (.enter 52 args) w := enters Tryd.func52 rfl (by kernel_rfl)
theorem ty48sol2 : Ty Tryd.prog 48 2 16 [.int .i64 0, .int .i64 0] true := ⟨by kernel_rfl, by kernel_rfl⟩
theorem ty87sol2 : Ty Tryd.prog 87 4 64 [.int .i64 0, .slice none 0 0, .slice none 0 0, .int .i64 0] true := ⟨by kernel_rfl, by kernel_rfl⟩
theorem un41sol2 : Tryd.prog.underlying 41 = some (.slice 48) := by kernel_rfl
theorem sr87sol2 : Srt Tryd.prog 87 [(0, 1), (1, 2), (3, 1)] [.int .i64 0, .slice none 0 0, .slice none 0 0, .int .i64 0] := ⟨by kernel_rfl, by kernel_rfl⟩
theorem ty107sol2 : Ty Tryd.prog 107 2 48 [.slice none 0 0, .slice none 0 0] true := ⟨by kernel_rfl, by kernel_rfl⟩
theorem fd87_1sol2 : Fld Tryd.prog 87 1 1 := ⟨by kernel_rfl⟩
theorem en53sol2 : ∀ args w, (callFunc 53 args).run Tryd.prog w = .ok (.enter 53 args) w := enters Tryd.func53 rfl (by kernel_rfl)
theorem fd48_0sol2 : Fld Tryd.prog 48 0 0 := ⟨by kernel_rfl⟩
theorem fd87_0sol2 : Fld Tryd.prog 87 0 0 := ⟨by kernel_rfl⟩
def slc (o : Option Nat) (M : Nat) : Value := match o with | some b => .slice (some ⟨b, 0, none⟩) M M | none => .slice none 0 0
abbrev zB (b M : Nat) : Nat × Obj := bY b (List.replicate M (.int .u8 0))
abbrev zR (b W : Nat) : Nat × Obj := (b, .cells (List.replicate W (.int .i64 0)).toArray 3 (0, 0))
def madeT (M W : Nat) (bs : List (Nat × Nat × Nat)) : OL := bs.flatMap fun x => [zB x.1 M, zR x.2.1 W, zR x.2.2 W]
abbrev bA (b : Nat) (x y : Value) : Nat × Obj := (b, .cells #[x, y] 107 (0, 0))
abbrev fc (b W : Nat) : Value := .slice (some ⟨b, 0, none⟩) W W
def upd {α : Type} (f : Nat → α) (s : Nat) (v : α) : Nat → α := fun t => if t = s then v else f t
def wk (C rN qN : Nat → Nat) (X : Nat → List Value) (R Q : Nat → List Int) : OL := [bY (C 0) (X 0), bF (rN 0) (R 0), bF (qN 0) (Q 0), bY (C 1) (X 1), bF (rN 1) (R 1), bF (qN 1) (Q 1)]
def wkR (C rN qN : Nat → Nat) (X : Nat → List Value) (R Q : Nat → List Int) (s : Nat) : OL := [bF (qN s) (Q s), bY (C (1 - s)) (X (1 - s)), bF (rN (1 - s)) (R (1 - s)), bF (qN (1 - s)) (Q (1 - s))]
section
variable {N : Nat} {D : List Deferred} {w0 : World} {F : Nat → Prop} {G0 G : GH} {T : List (Nat × Value)} {a : Act} {w : World}
variable {C rN qN : Nat → Nat} {X : Nat → List Value} {R Q : Nat → List Int} {o p q r : Nat × Obj} {s : Nat}
theorem St.wkOut (hs : s < 2) (H : St N D w0 F G0 G ([o, p, q, r] ++ wk C rN qN X R Q) T a w) : St N D w0 F G0 G (([o, q, r] ++ wkR C rN qN X R Q s) ++ [p, bY (C s) (X s), bF (rN s) (R s)]) T a w := by
  match s, hs with
  | 0, _ => exact H.pickT (Pl := [_, _, _, _, _, _, _, _, _, _]) (Pl' := [_, _, _, _, _, _, _, _, _, _]) (Lo := []) [0, 2, 3, 6, 7, 8, 9, 1, 4, 5] (by decide) rfl
  | 1, _ => exact H.pickT (Pl := [_, _, _, _, _, _, _, _, _, _]) (Pl' := [_, _, _, _, _, _, _, _, _, _]) (Lo := []) [0, 2, 3, 9, 4, 5, 6, 1, 7, 8] (by decide) rfl
theorem St.wkIn {x : List Value} {y : List Int} (hs : s < 2) (H : St N D w0 F G0 G (([o, q, r] ++ wkR C rN qN X R Q s) ++ [p, bY (C s) x, bF (rN s) y]) T a w) : St N D w0 F G0 G ([o, p, q, r] ++ wk C rN qN (upd X s x) (upd R s y) Q) T a w := by
  match s, hs with
  | 0, _ => exact H.pickT (Pl := [_, _, _, _, _, _, _, _, _, _]) (Pl' := [_, _, _, _, _, _, _, _, _, _]) (Lo := []) [0, 7, 1, 2, 8, 9, 3, 4, 5, 6] (by decide) rfl
  | 1, _ => exact H.pickT (Pl := [_, _, _, _, _, _, _, _, _, _]) (Pl' := [_, _, _, _, _, _, _, _, _, _]) (Lo := []) [0, 7, 1, 2, 4, 5, 6, 8, 9, 3] (by decide) rfl
theorem St.wkSwap (H : St N D w0 F G0 G ([o, p, q, r] ++ wk C rN qN X R Q) T a w) : St N D w0 F G0 G ([o, p, q, r] ++ wk C qN rN X Q R) T a w :=
  H.pickT (Pl := [_, _, _, _, _, _, _, _, _, _]) (Pl' := [_, _, _, _, _, _, _, _, _, _]) (Lo := []) [0, 1, 2, 3, 4, 6, 5, 7, 9, 8] (by decide) rfl
end
/-- What a row of scores holds: those of an index from k on. -/
def RowOk (f : Nat → Int) (W k : Nat) (R : Nat → List Int) : Prop := ∀ t, t < 2 → (R t).length = W ∧ ∀ k', k ≤ k' → k' < W → (R t)[k']? = some (f k')
/-- The same in the midst of the two rows. -/
def RowMid (f : Nat → Int) (W k s : Nat) (R : Nat → List Int) : Prop := RowOk f W (k + 1) R ∧ ∀ t, t < s → t < 2 → (R t)[k]? = some (f k)
theorem RowMid.open {f : Nat → Int} {W k : Nat} {R : Nat → List Int} (h : RowOk f W (k + 1) R) : RowMid f W k 0 R := ⟨h, fun t ht => absurd ht (Nat.not_lt_zero _)⟩
theorem RowMid.step {f : Nat → Int} {W k s : Nat} {R : Nat → List Int} {y : Int} (h : RowMid f W k s R) (hk : k < W) (hy : y = f k) : RowMid f W k (s + 1) (upd R s ((R s).set k y)) := by
  refine ⟨fun t ht => ⟨?_, fun k' h1 h2 => ?_⟩, fun t ht ht2 => ?_⟩
  · by_cases e : t = s
    · subst e; simp only [upd, if_pos]; rw [List.length_set]; exact (h.1 t ht).1
    simp only [upd, if_neg e]; exact (h.1 t ht).1
  · by_cases e : t = s
    · subst e; simp only [upd, if_pos]; rw [List.getElem?_set_ne (by omega)]; exact (h.1 t ht).2 k' h1 h2
    simp only [upd, if_neg e]; exact (h.1 t ht).2 k' h1 h2
  by_cases e : t = s
  · subst e; simp only [upd, if_pos]; rw [List.getElem?_set_self (by rw [(h.1 t ht2).1]; exact hk), hy]
  simp only [upd, if_neg e]; exact h.2 t (by omega) ht2
theorem RowMid.close {f : Nat → Int} {W k : Nat} {R : Nat → List Int} (h : RowMid f W k 2 R) : RowOk f W k R := fun t ht => ⟨(h.1 t ht).1, fun k' h1 h2 => by
  by_cases e : k' = k
  · subst e; exact h.2 t ht ht
  exact (h.1 t ht).2 k' (by omega) h2⟩
theorem St.wkStep {N : Nat} {D : List Deferred} {w0 : World} {F : Nat → Prop} {G0 G : GH} {T : List (Nat × Value)} {a : Act} {w : World} {C rN qN : Nat → Nat} {X : Nat → List Value} {R Q : Nat → List Int} {o p q r : Nat × Obj} {s k W M : Nat} {f : Nat → Int} {x : List Value} {y : Int} (hs : s < 2) (hm : RowMid f W k s R) (hk : k < W) (hX : ∀ t, t < 2 → (X t).length = M) (hy : y = f k) (hx : x.length = M) (H : St N D w0 F G0 G (([o, q, r] ++ wkR C rN qN X R Q s) ++ [p, bY (C s) x, bF (rN s) ((R s).set k y)]) T a w) :
    ∃ X4 R4, (∀ t, t < 2 → (X4 t).length = M) ∧ RowMid f W k (s + 1) R4 ∧ St N D w0 F G0 G ([o, p, q, r] ++ wk C rN qN X4 R4 Q) T a w := by
  refine ⟨_, _, ?_, hm.step hk hy, H.wkIn hs⟩
  intro t ht
  by_cases e : t = s
  · subst e; simp only [upd, if_pos]; exact hx
  simp only [upd, if_neg e]; exact hX t ht
def pair (x y : Nat) : Nat → Nat := fun t => if t = 0 then x else y
theorem made2 {c0 r0 q0 c1 r1 q1 M W : Nat} : madeT M W [(c0, r0, q0), (c1, r1, q1)] = wk (pair c0 c1) (pair r0 r1) (pair q0 q1) (fun _ => List.replicate M (.int .u8 0)) (fun _ => List.replicate W 0) (fun _ => List.replicate W 0) := by
  simp [madeT, wk, pair, List.map_replicate]
theorem two_cells {x : Nat → Value} {s : Nat} (hs : s < 2) : #[x 0, x 1][0 + s * 1]? = some (x s) := by
  match s, hs with
  | 0, _ => rfl
  | 1, _ => rfl
theorem cho_cell {u : Value} {v : Value} {x : Nat → Value} {s : Nat} (hs : s < 2) : [u, x 0, x 1, v][1 + s * 1]? = some (x s) := by
  match s, hs with
  | 0, _ => rfl
  | 1, _ => rfl
/-- What is owned while the rows of a side are made. -/
def lay7 (b34 b7 b8 b9 M W : Nat) (x6 : Nat × Obj) (bs : List (Nat × Nat × Nat)) (s4 s7 s9 s11 : Bool) (E : Nat × Nat) : OL :=
  [zB b34 M, x6, bT b7 (vi 0) (slc ((bs ++ [(b34, 0, 0)])[0]?.map (·.1)) M) (slc ((bs ++ [(b34, 0, 0)])[1]?.map (·.1)) M) (vi W), bA b8 (slc ((if s9 then bs ++ [(b34, E.1, 0)] else bs)[0]?.map (·.2.1)) W) (slc ((if s9 then bs ++ [(b34, E.1, 0)] else bs)[1]?.map (·.2.1)) W), bA b9 (slc ((if s11 then bs ++ [(b34, 0, E.2)] else bs)[0]?.map (·.2.2)) W) (slc ((if s11 then bs ++ [(b34, 0, E.2)] else bs)[1]?.map (·.2.2)) W)] ++ ((if s4 then [zR E.1 W] else []) ++ ((if s7 then [zR E.2 W] else []) ++ madeT M W bs))
theorem lay7_4 {b34 b7 b8 b9 M W x : Nat} {x6 : Nat × Obj} {bs : List (Nat × Nat × Nat)} {s7 : Bool} {E : Nat × Nat} : (zR x W :: lay7 b34 b7 b8 b9 M W x6 bs false s7 false false E).Perm (lay7 b34 b7 b8 b9 M W x6 bs true s7 false false (x, E.2)) := by
  exact (List.perm_middle (a := zR x W) (l₁ := [_, _, _, _, _])).symm
theorem lay7_7 {b34 b7 b8 b9 M W x : Nat} {x6 : Nat × Obj} {bs : List (Nat × Nat × Nat)} {s4 s9 : Bool} {E : Nat × Nat} : (zR x W :: lay7 b34 b7 b8 b9 M W x6 bs s4 false s9 false E).Perm (lay7 b34 b7 b8 b9 M W x6 bs s4 true s9 false (E.1, x)) := by
  cases s4
  · exact (List.perm_middle (a := zR x W) (l₁ := [_, _, _, _, _])).symm
  exact (List.perm_middle (a := zR x W) (l₁ := [_, _, _, _, _, _])).symm
theorem slc_set1 {bs : List (Nat × Nat × Nat)} {b M W : Nat} (h : bs.length < 2) : [vi 0, slc (bs[0]?.map (·.1)) M, slc (bs[1]?.map (·.1)) M, vi W].set (1 + bs.length) (fc b M) = [vi 0, slc ((bs ++ [(b, 0, 0)])[0]?.map (·.1)) M, slc ((bs ++ [(b, 0, 0)])[1]?.map (·.1)) M, vi W] := by
  match bs, h with
  | [], _ => rfl
  | [_], _ => rfl
theorem slc_set2 {bs : List (Nat × Nat × Nat)} {b x W : Nat} (h : bs.length < 2) : [slc (bs[0]?.map (·.2.1)) W, slc (bs[1]?.map (·.2.1)) W].set bs.length (fc x W) = [slc ((bs ++ [(b, x, 0)])[0]?.map (·.2.1)) W, slc ((bs ++ [(b, x, 0)])[1]?.map (·.2.1)) W] := by
  match bs, h with
  | [], _ => rfl
  | [_], _ => rfl
theorem slc_set3 {bs : List (Nat × Nat × Nat)} {b x W : Nat} (h : bs.length < 2) : [slc (bs[0]?.map (·.2.2)) W, slc (bs[1]?.map (·.2.2)) W].set bs.length (fc x W) = [slc ((bs ++ [(b, 0, x)])[0]?.map (·.2.2)) W, slc ((bs ++ [(b, 0, x)])[1]?.map (·.2.2)) W] := by
  match bs, h with
  | [], _ => rfl
  | [_], _ => rfl
theorem St.lay7_done {N : Nat} {D : List Deferred} {w0 : World} {F : Nat → Prop} {G0 G : GH} {T : List (Nat × Value)} {a : Act} {w : World} {b34 b7 b8 b9 M W x y : Nat} {x6 : Nat × Obj} {bs : List (Nat × Nat × Nat)} (h : bs.length < 2) (H : St N D w0 F G0 G (lay7 b34 b7 b8 b9 M W x6 bs true true true true (x, y)) T a w) :
    St N D w0 F G0 G ([x6, bT b7 (vi 0) (slc ((bs ++ [(b34, x, y)])[0]?.map (·.1)) M) (slc ((bs ++ [(b34, x, y)])[1]?.map (·.1)) M) (vi W), bA b8 (slc ((bs ++ [(b34, x, y)])[0]?.map (·.2.1)) W) (slc ((bs ++ [(b34, x, y)])[1]?.map (·.2.1)) W), bA b9 (slc ((bs ++ [(b34, x, y)])[0]?.map (·.2.2)) W) (slc ((bs ++ [(b34, x, y)])[1]?.map (·.2.2)) W)] ++ madeT M W (bs ++ [(b34, x, y)])) T a w := by
  match bs, h with
  | [], _ => exact H.pickT (Pl := [_, _, _, _, _, _, _]) (Pl' := [_, _, _, _, _, _, _]) (Lo := []) [1, 2, 3, 4, 0, 5, 6] (by decide) rfl
  | [_], _ => exact H.pickT (Pl := [_, _, _, _, _, _, _, _, _, _]) (Pl' := [_, _, _, _, _, _, _, _, _, _]) (Lo := []) [1, 2, 3, 4, 7, 8, 9, 0, 5, 6] (by decide) rfl
set_option maxHeartbeats 4000000 in
theorem solve_spec (G : GH) (w0 : World) (hG : Hold G w0) (la lb : List TokD) (v u : Value) (hv : RepV G (.sl 2 (la.map TokD.dat)) v) (hu : RepV G (.sl 2 (lb.map TokD.dat)) u) (ha : la.length ≤ 2048) (hb : lb.length ≤ 2048) (hwa : ∀ x ∈ la, 1 ≤ x.weight ∧ x.weight ≤ 1000) (hwb : ∀ x ∈ lb, 1 ≤ x.weight ∧ x.weight ≤ 1000) :
    Calls Tryd.prog 38 #[v, u, vi 0] w0 (Ret w0 G fun r G' => ∃ x y z, r = .agg #[vi (sol la lb 0 0), x, y, z]) := by
  obtain ⟨vA, vc, rfl, hc1, hc2, -⟩ := hv.slice
  obtain ⟨uA, uc, rfl, hd1, hd2, -⟩ := hu.slice
  have hml : maxLen = 9223372036854775807 := rfl
  rw [List.length_map] at *
  rw [List.length_map] at *
  obtain ⟨W, hW⟩ : ∃ W, W = lb.length + 1 := ⟨_, rfl⟩
  obtain ⟨M, hM⟩ : ∃ M, M = (la.length + 1) * W := ⟨_, rfl⟩
  have hMb : M ≤ 2049 * 2049 := by rw [hM]; exact Nat.mul_le_mul (by omega) (by omega)
  refine enter (N := 165) (T := [(0, _), (1, _), (2, _)]) (F := fun k => k < w0.heap.size) (L := []) Tryd.func38 rfl Tryd.ntmps38 rfl rfl hG (fun _ h => h) (fun _ h => by cases h) (fun _ h => by cases h) (fun _ h => by cases h) List.Pairwise.nil ?_
  intro a H
  refine c_seq (fun _ hK1 => ?_)
  refine c_region ?_
  refine s_alloc ty87sol2 H wn rfl ?_; clear H; intro b6 a w hb6 H
  refine wl_nil ?_
  refine hK1 _ _ ?_; clear hK1
  refine c_seq (fun _ hK2 => ?_)
  refine c_region ?_
  refine s_move H wn rfl rfl ?_; clear H; intro a H
  refine s_len un41sol2 H wn rfl rfl ?_; clear H; intro a H
  refine s_add _ H wn rfl rfl rfl (by omega) (by omega) rfl ?_; clear H; intro a H
  rw [show ((lb.length : Int) + 1) = (W : Int) by omega] at H
  refine s_build sr87sol2 [_, _, _, _] H wn rfl rfl rfl rfl ?_; clear H; intro a H
  refine s_alloc ty87sol2 H wn rfl ?_; clear H; intro b7 a w hb7 H
  refine s_store ty87sol2 0 (vs := [_, _, _, _]) _ H wn rfl rfl rfl rfl rfl rfl rfl rfl ?_; clear H; intro w H; dsimp only [List.set, setRow] at H
  refine wl_nil ?_
  refine hK2 _ _ ?_; clear hK2
  refine c_seq (fun _ hK3 => ?_)
  refine c_region ?_
  refine s_alloc ty107sol2 H wn rfl ?_; clear H; intro b8 a w hb8 H
  refine s_alloc ty107sol2 H wn rfl ?_; clear H; intro b9 a w hb9 H
  refine wl_nil ?_
  refine hK3 _ _ ?_; clear hK3
  refine c_seq (fun _ hK4 => ?_)
  refine c_seq (fun _ hK5 => ?_)
  refine c_region ?_
  refine s_move H wn rfl rfl ?_; clear H; intro a H
  refine wl_nil ?_
  refine hK5 _ _ ?_; clear hK5
  refine c_block ?_
  skip
  refine c_loopS (ι := Nat × List (Nat × Nat × Nat)) (Tc := [(0, _), (1, _), (2, _), (6, _), (7, _), (8, _), (9, _)]) (Lc := [(_, _)]) (fun (gh : Nat × List (Nat × Nat × Nat)) => [(24, vi gh.1)]) (fun (gh : Nat × List (Nat × Nat × Nat)) => [bT b7 (vi 0) (slc (gh.2[0]?.map (·.1)) M) (slc (gh.2[1]?.map (·.1)) M) (vi W), bA b8 (slc (gh.2[0]?.map (·.2.1)) W) (slc (gh.2[1]?.map (·.2.1)) W), bA b9 (slc (gh.2[0]?.map (·.2.2)) W) (slc (gh.2[1]?.map (·.2.2)) W)] ++ madeT M W gh.2) (fun (gh : Nat × List (Nat × Nat × Nat)) => G) (fun (gh : Nat × List (Nat × Nat × Nat)) => gh.1 ≤ 2 ∧ gh.2.length = gh.1) (fun (gh : Nat × List (Nat × Nat × Nat)) => 2 - gh.1) ((0, [])) (by exact (H.pickT (Pl := [_, _, _, _]) (Pl' := [_, _, _, _]) (Lo := []) [3, 2, 1, 0] (by decide) rfl).sub ⟨rfl, rfl, rfl, rfl, rfl, rfl, rfl, rfl, trivial⟩) ?_ ?_
  · exact ⟨by decide, rfl⟩
  clear H; intro gh a w hI H
  obtain ⟨s, bs⟩ := gh; dsimp only at hI H
  obtain ⟨hs, hbs⟩ := hI
  dsimp only [List.cons_append, List.nil_append, List.append_nil] at H
  refine c_seq (fun _ hK6 => ?_)
  refine c_region ?_
  refine s_cmp H wn rfl rfl rfl rfl ?_; clear H; intro a H
  refine wl_nil ?_
  refine hK6 _ _ ?_; clear hK6
  refine c_seq (fun _ hK7 => ?_)
  refine c_cond H rfl ?_ ?_
  · intro h25
    try have p25 := of_decide_eq_true h25
    refine c_skip ?_
    refine hK7 _ _ ?_; clear hK7
    refine c_seq (fun _ hK8 => ?_)
    refine c_block ?_
    refine c_seq (fun _ hK9 => ?_)
    refine c_region ?_
    refine s_move H wn rfl rfl ?_; clear H; intro a H
    refine s_assign H wn rfl rfl ?_; clear H; intro a H
    refine wl_nil ?_
    refine hK9 _ _ ?_; clear hK9
    refine c_seq (fun _ hK10 => ?_)
    refine c_region ?_
    refine s_move H wn rfl rfl ?_; clear H; intro a H
    refine s_move H wn rfl rfl ?_; clear H; intro a H
    refine s_len un41sol2 H wn rfl rfl ?_; clear H; intro a H
    refine s_add _ H wn rfl rfl rfl (by omega) (by omega) rfl ?_; clear H; intro a H
    refine s_field fd87_2sol2 H wn rfl rfl ?_; clear H; intro a H
    refine s_load ty3sol2 H wn rfl (H.hp.ocell 1 rfl rfl) rfl ?_; clear H; intro a H
    refine s_mul (M : Int) H wn rfl rfl (by rw [hM]; push_cast; rfl) (by omega) (by omega) rfl ?_; clear H; intro a H
    refine s_make1 M un84sol2 ty5sol2 H wn rfl rfl rfl (by omega) (by omega) rfl ?_; clear H; intro b34 a w hb34 H
    refine s_field fd87_1sol2 H wn rfl rfl ?_; clear H; intro a H
    refine s_indexArr un85sol2 ty84sol2 s H wn rfl rfl rfl (by omega) rfl ?_; clear H; intro a H
    refine s_store ty84sol2 2 (c := [vi 0, slc (bs[0]?.map (·.1)) M, slc (bs[1]?.map (·.1)) M, vi W]) (vs := [_]) [vi 0, slc ((bs ++ [(b34, 0, 0)])[0]?.map (·.1)) M, slc ((bs ++ [(b34, 0, 0)])[1]?.map (·.1)) M, vi W] H wn rfl rfl rfl rfl rfl rfl (Eq.mpr Nat.ble_eq (by simp only [List.length_cons, List.length_nil]; omega)) (by rw [Nat.zero_add, Nat.mul_one, ← hbs]; exact slc_set1 (by omega)) ?_; clear H; intro w H; dsimp only [List.set] at H
    refine wl_nil ?_
    refine hK10 _ _ ?_; clear hK10
    obtain ⟨x6, hx6⟩ : ∃ x, x = bT b6 (vi 0) (.slice none 0 0) (.slice none 0 0) (vi 0) := ⟨_, rfl⟩
    have H := H.cast (L' := lay7 b34 b7 b8 b9 M W x6 bs false false false false (0, 0)) (by rw [hx6]; rfl)
    refine c_drawE (ε := Nat × Nat) hmxb [[], [], [], [2], [2, 3], [], [5], [5, 6], [0, 2, 3, 4], [0, 2, 3, 4, 8], [0, 1, 2, 3, 4, 5, 6, 7, 8, 9], [0, 1, 2, 3, 4, 5, 6, 7, 8, 9, 10]] (by kernel_rfl) (fun E i v => match i with | 0 => v = vi s | 1 => v = vi s | 2 => v = .pointer (some ⟨b7, 0 + 3, none⟩) | 3 => v = vi W | 4 => v = fc E.1 W | 5 => v = .pointer (some ⟨b7, 0 + 3, none⟩) | 6 => v = vi W | 7 => v = fc E.2 W | 8 => v = .pointer (some ⟨b8, 0 + s * 1, none⟩) | 10 => v = .pointer (some ⟨b9, 0 + s * 1, none⟩) | _ => True) (fun S E => lay7 b34 b7 b8 b9 M W x6 bs (S 4) (S 7) (S 9) (S 11) E) (0, 0) H ?_ ?_
    · clear H; refine (allI_cons ?_ (allI_cons ?_ (allI_cons ?_ (allI_cons ?_ (allI_cons ?_ (allI_cons ?_ (allI_cons ?_ (allI_cons ?_ (allI_cons ?_ (allI_cons ?_ (allI_cons ?_ (allI_cons ?_ allI_nil))))))))))))
      · intro S E T1 a w hS hc hd H hV
        have H := H.addT (hV.1 10 _ rfl); have hV := hV.add (hV.1 10 _ rfl)
        refine s_move H wn rfl rfl ?_; clear H; intro a H
        exact wl_nil ⟨rfl, E, _, H, hV.put (by kernel_rfl) rfl rfl (fun _ _ _ h => h)⟩
      · intro S E T1 a w hS hc hd H hV
        have H := H.addT (hV.1 10 _ rfl); have hV := hV.add (hV.1 10 _ rfl)
        refine s_move H wn rfl rfl ?_; clear H; intro a H
        exact wl_nil ⟨rfl, E, _, H, hV.put (by kernel_rfl) rfl rfl (fun _ _ _ h => h)⟩
      · intro S E T1 a w hS hc hd H hV
        have H := H.addT (hV.1 7 _ rfl); have hV := hV.add (hV.1 7 _ rfl)
        refine s_field fd87_2sol2 H wn rfl rfl ?_; clear H; intro a H
        exact wl_nil ⟨rfl, E, _, H, hV.put (by kernel_rfl) rfl rfl (fun _ _ _ h => h)⟩
      · intro S E T1 a w hS hc hd H hV
        obtain ⟨u39, hu39, rfl⟩ := hV.2 2 39 (hc 2 (by decide)) rfl
        have H := H.addT hu39; have hV := hV.add hu39
        refine s_load ty3sol2 H wn rfl (H.hp.ocell 2 rfl rfl) rfl ?_; clear H; intro a H
        exact wl_nil ⟨rfl, E, _, H, hV.put (by kernel_rfl) rfl rfl (fun _ _ _ h => h)⟩
      · intro S E T1 a w hS hc hd H hV
        obtain ⟨u40, hu40, rfl⟩ := hV.2 3 40 (hc 3 (by decide)) rfl
        have H := H.addT hu40; have hV := hV.add hu40
        have h4 : S 4 = false := hS
        have h9 : S 9 = false := hd 9 (by decide) (by decide)
        have h11 : S 11 = false := hd 11 (by decide) (by decide)
        refine s_make1 W un32sol2 ty3sol2 H wn rfl rfl rfl (by omega) (by omega) rfl ?_; clear H; intro b41 a w hb41 H
        rw [h4, h9, h11] at H
        have H := H.perm lay7_4
        have e : lay7 b34 b7 b8 b9 M W x6 bs true (S 7) false false (b41, E.2) = (fun (S : Nat → Bool) (E : Nat × Nat) => lay7 b34 b7 b8 b9 M W x6 bs (S 4) (S 7) (S 9) (S 11) E) (setT S 4) (b41, E.2) := (by show _ = lay7 b34 b7 b8 b9 M W x6 bs true (S 7) (S 9) (S 11) (b41, E.2); rw [h9, h11])
        have H := H.cast e
        exact wl_nil ⟨rfl, (b41, E.2), _, H, hV.put (by kernel_rfl) rfl rfl (fun j u hne h => by
              match j, hne, h with
              | 0, _, h | 1, _, h | 2, _, h | 3, _, h | 5, _, h | 6, _, h | 8, _, h | 10, _, h => exact h
              | 4, hne, h => first | exact h | exact absurd rfl hne
              | 7, hne, h => first | exact h | exact absurd rfl hne
              | 9, _, h | 11, _, h => exact h
              | _ + 12, _, h => exact h)⟩
      · intro S E T1 a w hS hc hd H hV
        have H := H.addT (hV.1 7 _ rfl); have hV := hV.add (hV.1 7 _ rfl)
        refine s_field fd87_2sol2 H wn rfl rfl ?_; clear H; intro a H
        exact wl_nil ⟨rfl, E, _, H, hV.put (by kernel_rfl) rfl rfl (fun _ _ _ h => h)⟩
      · intro S E T1 a w hS hc hd H hV
        obtain ⟨u42, hu42, rfl⟩ := hV.2 5 42 (hc 5 (by decide)) rfl
        have H := H.addT hu42; have hV := hV.add hu42
        refine s_load ty3sol2 H wn rfl (H.hp.ocell 2 rfl rfl) rfl ?_; clear H; intro a H
        exact wl_nil ⟨rfl, E, _, H, hV.put (by kernel_rfl) rfl rfl (fun _ _ _ h => h)⟩
      · intro S E T1 a w hS hc hd H hV
        obtain ⟨u43, hu43, rfl⟩ := hV.2 6 43 (hc 6 (by decide)) rfl
        have H := H.addT hu43; have hV := hV.add hu43
        have h7 : S 7 = false := hS
        have h11 : S 11 = false := hd 11 (by decide) (by decide)
        refine s_make1 W un32sol2 ty3sol2 H wn rfl rfl rfl (by omega) (by omega) rfl ?_; clear H; intro b44 a w hb44 H
        rw [h7, h11] at H
        have H := H.perm lay7_7
        have e : lay7 b34 b7 b8 b9 M W x6 bs (S 4) true (S 9) false (E.1, b44) = (fun (S : Nat → Bool) (E : Nat × Nat) => lay7 b34 b7 b8 b9 M W x6 bs (S 4) (S 7) (S 9) (S 11) E) (setT S 7) (E.1, b44) := (by show _ = lay7 b34 b7 b8 b9 M W x6 bs (S 4) true (S 9) (S 11) (E.1, b44); rw [h11])
        have H := H.cast e
        exact wl_nil ⟨rfl, (E.1, b44), _, H, hV.put (by kernel_rfl) rfl rfl (fun j u hne h => by
              match j, hne, h with
              | 0, _, h | 1, _, h | 2, _, h | 3, _, h | 5, _, h | 6, _, h | 8, _, h | 10, _, h => exact h
              | 4, hne, h => first | exact h | exact absurd rfl hne
              | 7, hne, h => first | exact h | exact absurd rfl hne
              | 9, _, h | 11, _, h => exact h
              | _ + 12, _, h => exact h)⟩
      · intro S E T1 a w hS hc hd H hV
        have H := H.addT (hV.1 8 _ rfl); have hV := hV.add (hV.1 8 _ rfl)
        obtain ⟨u37, hu37, rfl⟩ := hV.2 0 37 (hc 0 (by decide)) rfl
        have H := H.addT hu37; have hV := hV.add hu37
        refine s_indexArr un107sol2 ty32sol2 s H wn rfl rfl rfl (by omega) rfl ?_; clear H; intro a H
        exact wl_nil ⟨rfl, E, _, H, hV.put (by kernel_rfl) rfl rfl (fun _ _ _ h => h)⟩
      · intro S E T1 a w hS hc hd H hV
        obtain ⟨u45, hu45, rfl⟩ := hV.2 8 45 (hc 8 (by decide)) rfl
        have H := H.addT hu45; have hV := hV.add hu45
        obtain ⟨u41, hu41, rfl⟩ := hV.2 4 41 (hc 4 (by decide)) rfl
        have H := H.addT hu41; have hV := hV.add hu41
        have h9 : S 9 = false := hS
        rw [h9] at H
        refine s_store ty32sol2 3 (c := [slc (bs[0]?.map (·.2.1)) W, slc (bs[1]?.map (·.2.1)) W]) (vs := [_]) [slc ((bs ++ [(b34, E.1, 0)])[0]?.map (·.2.1)) W, slc ((bs ++ [(b34, E.1, 0)])[1]?.map (·.2.1)) W] H wn rfl rfl rfl rfl rfl rfl (Eq.mpr Nat.ble_eq (by simp only [List.length_cons, List.length_nil]; omega)) (by rw [Nat.zero_add, Nat.mul_one, ← hbs]; exact slc_set2 (by omega)) ?_; clear H; intro w H
        exact wl_nil ⟨rfl, E, _, H, hV.unit rfl⟩
      · intro S E T1 a w hS hc hd H hV
        have H := H.addT (hV.1 9 _ rfl); have hV := hV.add (hV.1 9 _ rfl)
        obtain ⟨u38, hu38, rfl⟩ := hV.2 1 38 (hc 1 (by decide)) rfl
        have H := H.addT hu38; have hV := hV.add hu38
        refine s_indexArr un107sol2 ty32sol2 s H wn rfl rfl rfl (by omega) rfl ?_; clear H; intro a H
        exact wl_nil ⟨rfl, E, _, H, hV.put (by kernel_rfl) rfl rfl (fun _ _ _ h => h)⟩
      intro S E T1 a w hS hc hd H hV
      obtain ⟨u46, hu46, rfl⟩ := hV.2 10 46 (hc 10 (by decide)) rfl
      have H := H.addT hu46; have hV := hV.add hu46
      obtain ⟨u44, hu44, rfl⟩ := hV.2 7 44 (hc 7 (by decide)) rfl
      have H := H.addT hu44; have hV := hV.add hu44
      have h11 : S 11 = false := hS
      rw [h11] at H
      refine s_store ty32sol2 4 (c := [slc (bs[0]?.map (·.2.2)) W, slc (bs[1]?.map (·.2.2)) W]) (vs := [_]) [slc ((bs ++ [(b34, 0, E.2)])[0]?.map (·.2.2)) W, slc ((bs ++ [(b34, 0, E.2)])[1]?.map (·.2.2)) W] H wn rfl rfl rfl rfl rfl rfl (Eq.mpr Nat.ble_eq (by simp only [List.length_cons, List.length_nil]; omega)) (by rw [Nat.zero_add, Nat.mul_one, ← hbs]; exact slc_set3 (by omega)) ?_; clear H; intro w H
      exact wl_nil ⟨rfl, E, _, H, hV.unit rfl⟩
    clear H; intro S E T1 a w hall H hV
    have H := H.weak (T := _) hV.1
    obtain ⟨br, bq⟩ := E
    have e : lay7 b34 b7 b8 b9 M W x6 bs (S 4) (S 7) (S 9) (S 11) (br, bq) = lay7 b34 b7 b8 b9 M W x6 bs true true true true (br, bq) := by
      rw [hall 4 (by decide), hall 7 (by decide), hall 9 (by decide), hall 11 (by decide)]
    have H := H.cast e
    have H := H.lay7_done (by omega)
    subst hx6
    refine hK8 _ _ ?_; clear hK8
    refine c_region ?_
    refine s_add _ H wn rfl rfl rfl (by omega) (by omega) rfl ?_; clear H; intro a H
    refine s_move H wn rfl rfl ?_; clear H; intro a H
    refine wl_nil ?_
    refine loop_end ((s + 1, bs ++ [(b34, br, bq)])) (by exact (H).sub ⟨rfl, rfl, rfl, rfl, rfl, rfl, rfl, rfl, trivial⟩) ?_ ?_
    · try dsimp only
      exact ⟨by omega, by simp [hbs]⟩
    first | omega | (dsimp only; omega)
  intro h25
  try have p25 := of_decide_eq_false h25
  refine c_exit ?_
  refine hK4 _ _ ?_; clear hK4
  refine c_seq (fun _ hK11 => ?_)
  refine c_seq (fun _ hK12 => ?_)
  obtain rfl : s = 2 := by omega
  obtain ⟨⟨c0, r0, q0⟩, ⟨c1, r1, q1⟩, rfl⟩ : ∃ x y, bs = [x, y] := by
    match bs, hbs with
    | [x, y], _ => exact ⟨x, y, rfl⟩
  rw [made2] at H
  have H : St _ _ _ _ _ _ ([_, bT b7 (vi 0) (fc (pair c0 c1 0) M) (fc (pair c0 c1 1) M) (vi W), bA b8 (fc (pair r0 r1 0) W) (fc (pair r0 r1 1) W), bA b9 (fc (pair q0 q1 0) W) (fc (pair q0 q1 1) W)] ++ wk (pair c0 c1) (pair r0 r1) (pair q0 q1) _ _ _) _ _ _ := H
  generalize pair c0 c1 = C at H
  generalize pair r0 r1 = rN0 at H
  generalize pair q0 q1 = qN0 at H
  have hsb := fun i k => sol_bound hwa hwb ((la.length - i) + (lb.length - k)) i k (Nat.le_refl _)
  refine c_region ?_
  refine s_move H wn rfl rfl ?_; clear H; intro a H
  refine s_len un41sol2 H wn rfl rfl ?_; clear H; intro a H
  refine s_assign H wn rfl rfl ?_; clear H; intro a H
  refine wl_nil ?_
  refine hK12 _ _ ?_; clear hK12
  refine c_block ?_
  skip
  refine c_loopS (ι := Nat × (Nat → Nat) × (Nat → Nat) × (Nat → List Value) × (Nat → List Int) × (Nat → List Int) × GH) (Tc := [(0, _), (1, _), (2, _), (6, _), (7, _), (8, _), (9, _)]) (Lc := [(_, _), (_, _)]) (fun (gh : Nat × (Nat → Nat) × (Nat → Nat) × (Nat → List Value) × (Nat → List Int) × (Nat → List Int) × GH) => [(11, vi ((gh.1 : Int) - 1))]) (fun (gh : Nat × (Nat → Nat) × (Nat → Nat) × (Nat → List Value) × (Nat → List Int) × (Nat → List Int) × GH) => [bA b8 (fc (gh.2.1 0) W) (fc (gh.2.1 1) W), bA b9 (fc (gh.2.2.1 0) W) (fc (gh.2.2.1 1) W)] ++ wk C gh.2.1 gh.2.2.1 gh.2.2.2.1 gh.2.2.2.2.1 gh.2.2.2.2.2.1) (fun (gh : Nat × (Nat → Nat) × (Nat → Nat) × (Nat → List Value) × (Nat → List Int) × (Nat → List Int) × GH) => gh.2.2.2.2.2.2) (fun (gh : Nat × (Nat → Nat) × (Nat → Nat) × (Nat → List Value) × (Nat → List Int) × (Nat → List Int) × GH) => gh.1 ≤ la.length + 1 ∧ (∀ t, t < 2 → (gh.2.2.2.1 t).length = M) ∧ (∀ t, t < 2 → (gh.2.2.2.2.1 t).length = W) ∧ (∀ t, t < 2 → (gh.2.2.2.2.2.1 t).length = W) ∧ (gh.1 ≤ la.length → RowOk (sol la lb gh.1) W 0 gh.2.2.2.2.2.1) ∧ (∀ b o, G b = some o → gh.2.2.2.2.2.2 b = some o)) (fun (gh : Nat × (Nat → Nat) × (Nat → Nat) × (Nat → List Value) × (Nat → List Int) × (Nat → List Int) × GH) => gh.1) ((la.length + 1, rN0, qN0, fun _ => List.replicate M (.int .u8 0), fun _ => List.replicate W 0, fun _ => List.replicate W 0, G)) (by exact (show St _ _ _ _ _ _ _ ((11, vi (((la.length + 1 : Nat) : Int) - 1)) :: _) _ _ from by rw [show (((la.length + 1 : Nat) : Int) - 1) = (la.length : Int) by omega]; exact H).sub ⟨rfl, rfl, rfl, rfl, rfl, rfl, rfl, rfl, trivial⟩) ?_ ?_
  · exact ⟨Nat.le_refl _, fun t _ => List.length_replicate .., fun t _ => List.length_replicate .., fun t _ => List.length_replicate .., fun h => absurd h (by omega), fun _ _ h => h⟩
  clear H; intro gh a w hI H
  obtain ⟨j, rN, qN, X, R, Q, g⟩ := gh; dsimp only at hI H
  obtain ⟨hj, hX, hR, hQ, hQ0, hgm⟩ := hI
  dsimp only [List.cons_append, List.nil_append, List.append_nil] at H
  refine c_seq (fun _ hK13 => ?_)
  refine c_seq (fun _ hK14 => ?_)
  refine c_region ?_
  refine s_move H wn rfl rfl ?_; clear H; intro a H
  refine s_cmp H wn rfl rfl rfl rfl ?_; clear H; intro a H
  refine wl_nil ?_
  refine hK14 _ _ ?_; clear hK14
  refine c_cond H rfl ?_ ?_
  · intro h51
    try have p51 := of_decide_eq_true h51
    obtain ⟨i, rfl⟩ : ∃ i, j = i + 1 := ⟨j - 1, by omega⟩
    rw [show (((i + 1 : Nat) : Int) - 1) = (i : Int) by omega] at H
    refine c_skip ?_
    refine hK13 _ _ ?_; clear hK13
    refine c_seq (fun _ hK15 => ?_)
    refine c_block ?_
    refine c_seq (fun _ hK16 => ?_)
    refine c_seq (fun _ hK17 => ?_)
    refine c_region ?_
    refine s_move H wn rfl rfl ?_; clear H; intro a H
    refine s_len un41sol2 H wn rfl rfl ?_; clear H; intro a H
    refine s_assign H wn rfl rfl ?_; clear H; intro a H
    rw [show (lb.length : Int) = ((W : Int) - 1) by omega] at H
    refine wl_nil ?_
    refine hK17 _ _ ?_; clear hK17
    refine c_block ?_
    skip
    refine c_loopS (ι := Nat × (Nat → List Value) × (Nat → List Int) × GH) (Tc := [(0, _), (1, _), (2, _), (6, _), (7, _), (8, _), (9, _), (11, _)]) (Lc := [(_, _), (_, _), (_, _), (_, _)]) (fun (gh : Nat × (Nat → List Value) × (Nat → List Int) × GH) => [(12, vi ((gh.1 : Int) - 1))]) (fun (gh : Nat × (Nat → List Value) × (Nat → List Int) × GH) => [] ++ wk C rN qN gh.2.1 gh.2.2.1 Q) (fun (gh : Nat × (Nat → List Value) × (Nat → List Int) × GH) => gh.2.2.2) (fun (gh : Nat × (Nat → List Value) × (Nat → List Int) × GH) => gh.1 ≤ W ∧ (∀ t, t < 2 → (gh.2.1 t).length = M) ∧ RowOk (sol la lb i) W gh.1 gh.2.2.1 ∧ (∀ b o, G b = some o → gh.2.2.2 b = some o)) (fun (gh : Nat × (Nat → List Value) × (Nat → List Int) × GH) => gh.1) ((W, X, R, g)) (by exact (H).sub ⟨rfl, rfl, rfl, rfl, rfl, rfl, rfl, rfl, rfl, trivial⟩) ?_ ?_
    · exact ⟨Nat.le_refl _, hX, fun t ht => ⟨hR t ht, fun k' h1 h2 => absurd h2 (by omega)⟩, hgm⟩
    clear H; intro gh a w hI H
    obtain ⟨q, X2, R2, g2⟩ := gh; dsimp only at hI H
    obtain ⟨hq, hX2, hR2, hgm2⟩ := hI
    dsimp only [List.cons_append, List.nil_append, List.append_nil] at H
    refine c_seq (fun _ hK18 => ?_)
    refine c_seq (fun _ hK19 => ?_)
    refine c_region ?_
    refine s_move H wn rfl rfl ?_; clear H; intro a H
    refine s_cmp H wn rfl rfl rfl rfl ?_; clear H; intro a H
    refine wl_nil ?_
    refine hK19 _ _ ?_; clear hK19
    refine c_cond H rfl ?_ ?_
    · intro h57
      try have p57 := of_decide_eq_true h57
      obtain ⟨k, rfl⟩ : ∃ k, q = k + 1 := ⟨q - 1, by omega⟩
      rw [show (((k + 1 : Nat) : Int) - 1) = (k : Int) by omega] at H
      have hkW : k < W := by omega
      refine c_skip ?_
      refine hK18 _ _ ?_; clear hK18
      refine c_seq (fun _ hK20 => ?_)
      refine c_block ?_
      refine c_seq (fun _ hK21 => ?_)
      refine c_region ?_
      refine s_move H wn rfl rfl ?_; clear H; intro a H
      refine wl_nil ?_
      refine hK21 _ _ ?_; clear hK21
      refine c_block ?_
      skip
      refine c_loopS (ι := Nat × (Nat → List Value) × (Nat → List Int) × GH) (Tc := [(0, _), (1, _), (2, _), (6, _), (7, _), (8, _), (9, _), (11, _), (12, _)]) (Lc := [(_, _), (_, _), (_, _), (_, _)]) (fun (gh : Nat × (Nat → List Value) × (Nat → List Int) × GH) => [(60, vi gh.1)]) (fun (gh : Nat × (Nat → List Value) × (Nat → List Int) × GH) => [] ++ wk C rN qN gh.2.1 gh.2.2.1 Q) (fun (gh : Nat × (Nat → List Value) × (Nat → List Int) × GH) => gh.2.2.2) (fun (gh : Nat × (Nat → List Value) × (Nat → List Int) × GH) => gh.1 ≤ 2 ∧ (∀ t, t < 2 → (gh.2.1 t).length = M) ∧ RowMid (sol la lb i) W k gh.1 gh.2.2.1 ∧ (∀ b o, G b = some o → gh.2.2.2 b = some o)) (fun (gh : Nat × (Nat → List Value) × (Nat → List Int) × GH) => 2 - gh.1) ((0, X2, R2, g2)) (by exact (H).sub ⟨rfl, rfl, rfl, rfl, rfl, rfl, rfl, rfl, rfl, rfl, trivial⟩) ?_ ?_
      · exact ⟨Nat.zero_le _, hX2, RowMid.open hR2, hgm2⟩
      clear H; intro gh a w hI H
      obtain ⟨s, X3, R3, g3⟩ := gh; dsimp only at hI H
      obtain ⟨hs, hX3, hmid, hgm3⟩ := hI
      dsimp only [List.cons_append, List.nil_append, List.append_nil] at H
      refine c_seq (fun _ hK22 => ?_)
      refine c_region ?_
      refine s_cmp H wn rfl rfl rfl rfl ?_; clear H; intro a H
      refine wl_nil ?_
      refine hK22 _ _ ?_; clear hK22
      refine c_seq (fun _ hK23 => ?_)
      refine c_cond H rfl ?_ ?_
      · intro h61
        try have p61 := of_decide_eq_true h61
        have hs2 : s < 2 := by omega
        have hiW : i * W + k < M := by
          have := Nat.mul_le_mul_right W (show i ≤ la.length by omega)
          rw [hM, Nat.succ_mul]; omega
        have hsb0 := hsb i (k + 1)
        have hsb1 := hsb (i + 1) k
        have hsb2 := hsb (i + 1) (k + 1)
        refine c_skip ?_
        refine hK23 _ _ ?_; clear hK23
        refine c_seq (fun _ hK24 => ?_)
        refine c_block ?_
        refine c_seq (fun _ hK25 => ?_)
        refine c_region ?_
        refine s_move H wn rfl rfl ?_; clear H; intro a H
        refine s_assign H wn rfl rfl ?_; clear H; intro a H
        refine wl_nil ?_
        refine hK25 _ _ ?_; clear hK25
        refine c_seq (fun _ hK26 => ?_)
        refine c_region ?_
        refine s_move H wn rfl rfl ?_; clear H; intro a H
        refine s_move H wn rfl rfl ?_; clear H; intro a H
        refine s_sub _ H wn rfl rfl rfl (by omega) (by omega) rfl ?_; clear H; intro a H
        refine s_mul 0 H wn rfl rfl (Int.zero_mul _) (by decide) (by decide) rfl ?_; clear H; intro a H
        refine s_assign H wn rfl rfl ?_; clear H; intro a H
        refine wl_nil ?_
        refine hK26 _ _ ?_; clear hK26
        refine c_seq (fun _ hK27 => ?_)
        refine c_seq (fun _ hK28 => ?_)
        refine c_region ?_
        refine s_move H wn rfl rfl ?_; clear H; intro a H
        refine s_move H wn rfl rfl ?_; clear H; intro a H
        refine s_len un41sol2 H wn rfl rfl ?_; clear H; intro a H
        refine s_cmp H wn rfl rfl rfl rfl ?_; clear H; intro a H
        refine wl_nil ?_
        refine hK28 _ _ ?_; clear hK28
        refine c_cond H rfl ?_ ?_
        · intro h70
          try have p70 := of_decide_eq_true h70
          refine c_seq (fun _ hK29 => ?_)
          refine c_region ?_
          refine s_assign H wn rfl rfl ?_; clear H; intro a H
          refine wl_nil ?_
          refine hK29 _ _ ?_; clear hK29
          refine c_seq (fun _ hK30 => ?_)
          refine c_seq (fun _ hK31 => ?_)
          refine c_region ?_
          refine s_move H wn rfl rfl ?_; clear H; intro a H
          refine s_move H wn rfl rfl ?_; clear H; intro a H
          refine s_len un41sol2 H wn rfl rfl ?_; clear H; intro a H
          refine s_cmp H wn rfl rfl rfl rfl ?_; clear H; intro a H
          refine wl_nil ?_
          refine hK31 _ _ ?_; clear hK31
          refine c_cond H rfl ?_ ?_
          · intro h74
            try have p74 := of_decide_eq_true h74
            refine c_region ?_
            refine s_indexArr un107sol2 ty32sol2 1 H wn rfl rfl rfl (by decide) rfl ?_; clear H; intro a H
            refine s_load ty32sol2 H wn rfl (H.hp.ocell 2 rfl rfl) rfl ?_; clear H; intro a H
            refine s_move H wn rfl rfl ?_; clear H; intro a H
            refine s_add _ H wn rfl rfl rfl (by omega) (by omega) rfl ?_; clear H; intro a H
            refine s_index un32sol2 ty3sol2 (k + 1) H wn rfl rfl (by omega) (by omega) rfl ?_; clear H; intro a H
            refine s_load ty3sol2 H wn rfl (H.hp.ocell 8 rfl (by rw [Nat.zero_add, Nat.mul_one]; exact fl_get ((hmid.1 1 (by decide)).2 (k + 1) (Nat.le_refl _) (by omega)))) rfl ?_; clear H; intro a H
            refine s_move H wn rfl rfl ?_; clear H; intro a H
            refine s_sub _ H wn rfl rfl rfl (by omega) (by omega) rfl ?_; clear H; intro a H
            rw [Int.sub_zero] at H
            refine s_assign H wn rfl rfl ?_; clear H; intro a H
            refine wl_nil ?_
            refine hK30 _ _ ?_; clear hK30
            refine c_seq (fun _ hK32 => ?_)
            refine c_region ?_
            refine s_move H wn rfl rfl ?_; clear H; intro a H
            refine s_indexArr un107sol2 ty32sol2 s H wn rfl rfl rfl hs2 rfl ?_; clear H; intro a H
            refine s_load ty32sol2 H wn rfl (H.hp.ocell 2 rfl (two_cells (x := fun t => fc (rN t) W) hs2)) rfl ?_; clear H; intro a H
            refine s_move H wn rfl rfl ?_; clear H; intro a H
            refine s_move H wn rfl rfl ?_; clear H; intro a H
            refine s_move H wn rfl rfl ?_; clear H; intro a H
            refine s_move H wn rfl rfl ?_; clear H; intro a H
            have H := H.wkOut hs2
            refine s_callL en52sol2 (Li := [_, _, _] ++ wkR C rN qN X3 R3 Q s) (L := [_, _, _]) H wn rfl (set_spec 3 _ (Hp.owns (Li := [_, _, _] ++ wkR C rN qN X3 R3 Q s) H.hp) hs2 (cho_cell (x := fun t => fc (C t) M) hs2) hkW (hmid.1 s hs2).1 (hX3 s hs2) hiW (by omega) (by omega) (by omega)) rfl ?_; clear H
            rintro v90 G4 L90 a w rfl hm90 H
            have hgm4 : ∀ b o, G b = some o → G4 b = some o := fun b o h => hm90 b o (hgm3 b o h)
            obtain ⟨X4, R4, hX4, hR4, H⟩ := St.wkStep hs2 hmid hkW hX3 (by first
              | exact (sol_out (by omega)).symm
              | (rw [sol_out (k := k) (by omega)]; exact sol_out (by omega))) (by rw [List.length_set]; exact hX3 s hs2) H
            refine wl_nil ?_
            refine hK32 _ _ ?_; clear hK32
            refine c_exit ?_
            refine hK24 _ _ ?_; clear hK24
            refine c_region ?_
            refine s_add _ H wn rfl rfl rfl (by omega) (by omega) rfl ?_; clear H; intro a H
            refine s_move H wn rfl rfl ?_; clear H; intro a H
            refine wl_nil ?_
            refine loop_end ((s + 1, X4, R4, G4)) (by exact (H).sub ⟨rfl, rfl, rfl, rfl, rfl, rfl, rfl, rfl, rfl, rfl, trivial⟩) ?_ ?_
            · try dsimp only
              exact ⟨by omega, hX4, hR4, hgm4⟩
            first | omega | (dsimp only; omega)
          intro h74
          try have p74 := of_decide_eq_false h74
          refine c_skip ?_
          refine hK30 _ _ ?_; clear hK30
          refine c_seq (fun _ hK33 => ?_)
          refine c_region ?_
          refine s_move H wn rfl rfl ?_; clear H; intro a H
          refine s_indexArr un107sol2 ty32sol2 s H wn rfl rfl rfl hs2 rfl ?_; clear H; intro a H
          refine s_load ty32sol2 H wn rfl (H.hp.ocell 2 rfl (two_cells (x := fun t => fc (rN t) W) hs2)) rfl ?_; clear H; intro a H
          refine s_move H wn rfl rfl ?_; clear H; intro a H
          refine s_move H wn rfl rfl ?_; clear H; intro a H
          refine s_move H wn rfl rfl ?_; clear H; intro a H
          refine s_move H wn rfl rfl ?_; clear H; intro a H
          have H := H.wkOut hs2
          refine s_callL en52sol2 (Li := [_, _, _] ++ wkR C rN qN X3 R3 Q s) (L := [_, _, _]) H wn rfl (set_spec 3 _ (Hp.owns (Li := [_, _, _] ++ wkR C rN qN X3 R3 Q s) H.hp) hs2 (cho_cell (x := fun t => fc (C t) M) hs2) hkW (hmid.1 s hs2).1 (hX3 s hs2) hiW (by omega) (by omega) (by omega)) rfl ?_; clear H
          rintro v90 G4 L90 a w rfl hm90 H
          have hgm4 : ∀ b o, G b = some o → G4 b = some o := fun b o h => hm90 b o (hgm3 b o h)
          obtain ⟨X4, R4, hX4, hR4, H⟩ := St.wkStep hs2 hmid hkW hX3 (by first
            | exact (sol_out (by omega)).symm
            | (rw [sol_out (k := k) (by omega)]; exact sol_out (by omega))) (by rw [List.length_set]; exact hX3 s hs2) H
          refine wl_nil ?_
          refine hK33 _ _ ?_; clear hK33
          refine c_exit ?_
          refine hK24 _ _ ?_; clear hK24
          refine c_region ?_
          refine s_add _ H wn rfl rfl rfl (by omega) (by omega) rfl ?_; clear H; intro a H
          refine s_move H wn rfl rfl ?_; clear H; intro a H
          refine wl_nil ?_
          refine loop_end ((s + 1, X4, R4, G4)) (by exact (H).sub ⟨rfl, rfl, rfl, rfl, rfl, rfl, rfl, rfl, rfl, rfl, trivial⟩) ?_ ?_
          · try dsimp only
            exact ⟨by omega, hX4, hR4, hgm4⟩
          first | omega | (dsimp only; omega)
        intro h70
        try have p70 := of_decide_eq_false h70
        have hi2 : i < la.length := by omega
        have hQ1 := hQ0 (by omega)
        refine c_skip ?_
        refine hK27 _ _ ?_; clear hK27
        refine c_seq (fun _ hK34 => ?_)
        refine c_region ?_
        refine s_indexArr un107sol2 ty32sol2 1 H wn rfl rfl rfl (by decide) rfl ?_; clear H; intro a H
        refine s_load ty32sol2 H wn rfl (H.hp.ocell 3 rfl rfl) rfl ?_; clear H; intro a H
        refine s_move H wn rfl rfl ?_; clear H; intro a H
        refine s_index un32sol2 ty3sol2 k H wn rfl rfl rfl (by omega) rfl ?_; clear H; intro a H
        refine s_load ty3sol2 H wn rfl (H.hp.ocell 9 rfl (by rw [Nat.zero_add, Nat.mul_one]; exact fl_get ((hQ1 1 (by decide)).2 k (Nat.zero_le _) hkW))) rfl ?_; clear H; intro a H
        refine s_move H wn rfl rfl ?_; clear H; intro a H
        refine s_sub _ H wn rfl rfl rfl (by omega) (by omega) rfl ?_; clear H; intro a H
        rw [Int.sub_zero] at H
        refine s_assign H wn rfl rfl ?_; clear H; intro a H
        refine s_assign H wn rfl rfl ?_; clear H; intro a H
        refine wl_nil ?_
        refine hK34 _ _ ?_; clear hK34
        refine c_seq (fun _ hK35 => ?_)
        refine c_seq (fun _ hK36 => ?_)
        refine c_region ?_
        refine s_move H wn rfl rfl ?_; clear H; intro a H
        refine s_move H wn rfl rfl ?_; clear H; intro a H
        refine s_len un41sol2 H wn rfl rfl ?_; clear H; intro a H
        refine s_cmp H wn rfl rfl rfl rfl ?_; clear H; intro a H
        refine wl_nil ?_
        refine hK36 _ _ ?_; clear hK36
        refine c_cond H rfl ?_ ?_
        · intro h101
          try have p101 := of_decide_eq_true h101
          have hk3 : k < lb.length := by omega
          obtain ⟨mx, hmx2⟩ : ∃ mx, mx = max (sol la lb (i + 1) k) (sol la lb i (k + 1)) := ⟨_, rfl⟩
          obtain ⟨ab, ao, rfl, hra⟩ := tok_at hv hi2
          obtain ⟨bb, bo, rfl, hrb⟩ := tok_at hu hk3
          have hwt : 1 ≤ wtT la[i] lb[k] ∧ wtT la[i] lb[k] ≤ 1000 := by
            have h4 := hwa _ (List.getElem_mem hi2)
            have h5 := hwb _ (List.getElem_mem hk3)
            unfold wtT; omega
          have hra := fun j v hj => gcell_mono hgm3 (hra j v hj)
          have hrb := fun j v hj => gcell_mono hgm3 (hrb j v hj)
          refine c_seq (fun _ hK37 => ?_)
          refine c_seq (fun _ hK38 => ?_)
          refine c_region ?_
          refine s_indexArr un107sol2 ty32sol2 1 H wn rfl rfl rfl (by decide) rfl ?_; clear H; intro a H
          refine s_load ty32sol2 H wn rfl (H.hp.ocell 2 rfl rfl) rfl ?_; clear H; intro a H
          refine s_move H wn rfl rfl ?_; clear H; intro a H
          refine s_add _ H wn rfl rfl rfl (by omega) (by omega) rfl ?_; clear H; intro a H
          refine s_index un32sol2 ty3sol2 (k + 1) H wn rfl rfl (by omega) (by omega) rfl ?_; clear H; intro a H
          refine s_load ty3sol2 H wn rfl (H.hp.ocell 8 rfl (by rw [Nat.zero_add, Nat.mul_one]; exact fl_get ((hmid.1 1 (by decide)).2 (k + 1) (Nat.le_refl _) (by omega)))) rfl ?_; clear H; intro a H
          refine s_move H wn rfl rfl ?_; clear H; intro a H
          refine s_sub _ H wn rfl rfl rfl (by omega) (by omega) rfl ?_; clear H; intro a H
          rw [Int.sub_zero] at H
          refine s_assign H wn rfl rfl ?_; clear H; intro a H
          refine wl_nil ?_
          refine hK38 _ _ ?_; clear hK38
          refine c_seq (fun _ hK39 => ?_)
          refine c_region ?_
          refine s_move H wn rfl rfl ?_; clear H; intro a H
          refine s_move H wn rfl rfl ?_; clear H; intro a H
          refine s_cmp H wn rfl rfl rfl rfl ?_; clear H; intro a H
          refine wl_nil ?_
          refine hK39 _ _ ?_; clear hK39
          refine c_cond H rfl ?_ ?_
          · intro h112
            try have p112 := of_decide_eq_true h112
            rw [show sol la lb i (k + 1) = mx by omega] at H
            refine c_region ?_
            refine s_move H wn rfl rfl ?_; clear H; intro a H
            refine s_assign H wn rfl rfl ?_; clear H; intro a H
            refine s_assign H wn rfl rfl ?_; clear H; intro a H
            refine wl_nil ?_
            refine hK37 _ _ ?_; clear hK37
            refine c_seq (fun _ hK40 => ?_)
            have hprm29 : ∀ (ix_ : Nat) (v : Value) (G G' : GH), (∀ k o, G k = some o → G' k = some o) → (fun (ix_ : Nat) (v : Value) (G : GH) => match ix_ with | 0 => v = .pointer (some ⟨b9, 0 + 0 * 1, none⟩) | 1 => v = fc (qN 0) W | 2 => v = vi k | 3 => v = vi ((k : Int) + 1) | 4 => v = .pointer (some ⟨qN 0, 0 + (k + 1) * 1, none⟩) | 5 => v = vi (sol la lb (i + 1) (k + 1)) | 6 => v = .slice (some ⟨ab, ao, none⟩) la.length vc | 7 => v = vi i | 8 => v = .pointer (some ⟨ab, ao + i * 2, none⟩) | 9 => v = .agg #[vi la[i].key, vi la[i].weight] | 10 => v = .slice (some ⟨bb, bo, none⟩) lb.length uc | 11 => v = vi k | 12 => v = .pointer (some ⟨bb, bo + k * 2, none⟩) | 13 => v = .agg #[vi lb[k].key, vi lb[k].weight] | 14 => v = vi (wtT la[i] lb[k]) | 15 => v = vi (sol la lb (i + 1) (k + 1) + wtT la[i] lb[k]) | 16 => v = vi (sol la lb (i + 1) (k + 1) + wtT la[i] lb[k]) | _ => True) ix_ v G → (fun (ix_ : Nat) (v : Value) (G : GH) => match ix_ with | 0 => v = .pointer (some ⟨b9, 0 + 0 * 1, none⟩) | 1 => v = fc (qN 0) W | 2 => v = vi k | 3 => v = vi ((k : Int) + 1) | 4 => v = .pointer (some ⟨qN 0, 0 + (k + 1) * 1, none⟩) | 5 => v = vi (sol la lb (i + 1) (k + 1)) | 6 => v = .slice (some ⟨ab, ao, none⟩) la.length vc | 7 => v = vi i | 8 => v = .pointer (some ⟨ab, ao + i * 2, none⟩) | 9 => v = .agg #[vi la[i].key, vi la[i].weight] | 10 => v = .slice (some ⟨bb, bo, none⟩) lb.length uc | 11 => v = vi k | 12 => v = .pointer (some ⟨bb, bo + k * 2, none⟩) | 13 => v = .agg #[vi lb[k].key, vi lb[k].weight] | 14 => v = vi (wtT la[i] lb[k]) | 15 => v = vi (sol la lb (i + 1) (k + 1) + wtT la[i] lb[k]) | 16 => v = vi (sol la lb (i + 1) (k + 1) + wtT la[i] lb[k]) | _ => True) ix_ v G' := by
              intro ix_ v G G' hm h
              match ix_, h with
              | 0, h => exact h
              | 1, h => exact h
              | 2, h => exact h
              | 3, h => exact h
              | 4, h => exact h
              | 5, h => exact h
              | 6, h => exact h
              | 7, h => exact h
              | 8, h => exact h
              | 9, h => exact h
              | 10, h => exact h
              | 11, h => exact h
              | 12, h => exact h
              | 13, h => exact h
              | 14, h => exact h
              | 15, h => exact h
              | 16, h => exact h
              | _ + 17, h => exact trivial
            refine c_drawI (hmxb) [[], [0], [], [2], [0, 1, 2, 3], [0, 1, 2, 3, 4], [], [], [6, 7], [6, 7, 8], [], [], [10, 11], [10, 11, 12], [6, 7, 8, 9, 10, 11, 12, 13], [0, 1, 2, 3, 4, 5, 6, 7, 8, 9, 10, 11, 12, 13, 14], [0, 1, 2, 3, 4, 5, 6, 7, 8, 9, 10, 11, 12, 13, 14, 15]] [] (by kernel_rfl) (by kernel_rfl) (fun (ix_ : Nat) (v : Value) (G : GH) => match ix_ with | 0 => v = .pointer (some ⟨b9, 0 + 0 * 1, none⟩) | 1 => v = fc (qN 0) W | 2 => v = vi k | 3 => v = vi ((k : Int) + 1) | 4 => v = .pointer (some ⟨qN 0, 0 + (k + 1) * 1, none⟩) | 5 => v = vi (sol la lb (i + 1) (k + 1)) | 6 => v = .slice (some ⟨ab, ao, none⟩) la.length vc | 7 => v = vi i | 8 => v = .pointer (some ⟨ab, ao + i * 2, none⟩) | 9 => v = .agg #[vi la[i].key, vi la[i].weight] | 10 => v = .slice (some ⟨bb, bo, none⟩) lb.length uc | 11 => v = vi k | 12 => v = .pointer (some ⟨bb, bo + k * 2, none⟩) | 13 => v = .agg #[vi lb[k].key, vi lb[k].weight] | 14 => v = vi (wtT la[i] lb[k]) | 15 => v = vi (sol la lb (i + 1) (k + 1) + wtT la[i] lb[k]) | 16 => v = vi (sol la lb (i + 1) (k + 1) + wtT la[i] lb[k]) | _ => True) hprm29 H ?_ ?_
            · clear H; refine (allI_cons ?_ (allI_cons ?_ (allI_cons ?_ (allI_cons ?_ (allI_cons ?_ (allI_cons ?_ (allI_cons ?_ (allI_cons ?_ (allI_cons ?_ (allI_cons ?_ (allI_cons ?_ (allI_cons ?_ (allI_cons ?_ (allI_cons ?_ (allI_cons ?_ (allI_cons ?_ (allI_cons ?_ allI_nil)))))))))))))))))
              · intro Sd_ a w G1 _ hSi hc hG HT hv; have H := HT; clear hSi
                have Hb := H.full; have H := Hb; clear hc
                refine s_indexArr un107sol2 ty32sol2 0 H wn rfl rfl rfl (by decide) rfl ?_; clear H; intro a H
                refine wl_nil ⟨rfl, ?_⟩
                exact draw_val (by kernel_rfl) hprm29 rfl rfl HT Hb hG hv (fun _ _ h => h) (rfl) H
              · intro Sd_ a w G1 _ hSi hc hG HT hv; have H := HT; clear hSi
                obtain ⟨u114, hu114, hp114⟩ := hv 0 114 (hc 0 (by decide)) rfl
                obtain rfl : u114 = .pointer (some ⟨b9, 0 + 0 * 1, none⟩) := hp114
                have H := H.addS hu114
                have Hb := H.full; have H := Hb; clear hc
                refine s_load ty32sol2 H wn rfl (H.hp.ocell 3 rfl rfl) rfl ?_; clear H; intro a H
                refine wl_nil ⟨rfl, ?_⟩
                exact draw_val (by kernel_rfl) hprm29 rfl rfl HT Hb hG hv (fun _ _ h => h) (rfl) H
              · intro Sd_ a w G1 _ hSi hc hG HT hv; have H := HT; clear hSi
                have Hb := H.full; have H := Hb; clear hc
                refine s_move H wn rfl rfl ?_; clear H; intro a H
                refine wl_nil ⟨rfl, ?_⟩
                exact draw_val (by kernel_rfl) hprm29 rfl rfl HT Hb hG hv (fun _ _ h => h) (rfl) H
              · intro Sd_ a w G1 _ hSi hc hG HT hv; have H := HT; clear hSi
                obtain ⟨u116, hu116, hp116⟩ := hv 2 116 (hc 2 (by decide)) rfl
                obtain rfl : u116 = vi k := hp116
                have H := H.addS hu116
                have Hb := H.full; have H := Hb; clear hc
                refine s_add _ H wn rfl rfl rfl (by omega) (by omega) rfl ?_; clear H; intro a H
                refine wl_nil ⟨rfl, ?_⟩
                exact draw_val (by kernel_rfl) hprm29 rfl rfl HT Hb hG hv (fun _ _ h => h) (rfl) H
              · intro Sd_ a w G1 _ hSi hc hG HT hv; have H := HT; clear hSi
                obtain ⟨u115, hu115, hp115⟩ := hv 1 115 (hc 1 (by decide)) rfl
                obtain rfl : u115 = fc (qN 0) W := hp115
                have H := H.addS hu115
                obtain ⟨u117, hu117, hp117⟩ := hv 3 117 (hc 3 (by decide)) rfl
                obtain rfl : u117 = vi ((k : Int) + 1) := hp117
                have H := H.addS hu117
                have Hb := H.full; have H := Hb; clear hc
                refine s_index un32sol2 ty3sol2 (k + 1) H wn rfl rfl (by omega) (by omega) rfl ?_; clear H; intro a H
                refine wl_nil ⟨rfl, ?_⟩
                exact draw_val (by kernel_rfl) hprm29 rfl rfl HT Hb hG hv (fun _ _ h => h) (rfl) H
              · intro Sd_ a w G1 _ hSi hc hG HT hv; have H := HT; clear hSi
                obtain ⟨u118, hu118, hp118⟩ := hv 4 118 (hc 4 (by decide)) rfl
                obtain rfl : u118 = .pointer (some ⟨qN 0, 0 + (k + 1) * 1, none⟩) := hp118
                have H := H.addS hu118
                have Hb := H.full; have H := Hb; clear hc
                refine s_load ty3sol2 H wn rfl (H.hp.ocell 6 rfl (by rw [Nat.zero_add, Nat.mul_one]; exact fl_get ((hQ1 0 (by decide)).2 (k + 1) (Nat.zero_le _) (by omega)))) rfl ?_; clear H; intro a H
                refine wl_nil ⟨rfl, ?_⟩
                exact draw_val (by kernel_rfl) hprm29 rfl rfl HT Hb hG hv (fun _ _ h => h) (rfl) H
              · intro Sd_ a w G1 _ hSi hc hG HT hv; have H := HT; clear hSi
                have Hb := H.full; have H := Hb; clear hc
                refine s_move H wn rfl rfl ?_; clear H; intro a H
                refine wl_nil ⟨rfl, ?_⟩
                exact draw_val (by kernel_rfl) hprm29 rfl rfl HT Hb hG hv (fun _ _ h => h) (rfl) H
              · intro Sd_ a w G1 _ hSi hc hG HT hv; have H := HT; clear hSi
                have Hb := H.full; have H := Hb; clear hc
                refine s_move H wn rfl rfl ?_; clear H; intro a H
                refine wl_nil ⟨rfl, ?_⟩
                exact draw_val (by kernel_rfl) hprm29 rfl rfl HT Hb hG hv (fun _ _ h => h) (rfl) H
              · intro Sd_ a w G1 _ hSi hc hG HT hv; have H := HT; clear hSi
                obtain ⟨u120, hu120, hp120⟩ := hv 6 120 (hc 6 (by decide)) rfl
                obtain rfl : u120 = .slice (some ⟨ab, ao, none⟩) la.length vc := hp120
                have H := H.addS hu120
                obtain ⟨u121, hu121, hp121⟩ := hv 7 121 (hc 7 (by decide)) rfl
                obtain rfl : u121 = vi i := hp121
                have H := H.addS hu121
                have Hb := H.full; have H := Hb; clear hc
                refine s_index un41sol2 ty48sol2 _ H wn rfl rfl rfl (by first | assumption | omega) rfl ?_; clear H; intro a H
                refine wl_nil ⟨rfl, ?_⟩
                exact draw_val (by kernel_rfl) hprm29 rfl rfl HT Hb hG hv (fun _ _ h => h) (rfl) H
              · intro Sd_ a w G1 _ hSi hc hG HT hv; have H := HT; clear hSi
                obtain ⟨u122, hu122, hp122⟩ := hv 8 122 (hc 8 (by decide)) rfl
                obtain rfl : u122 = .pointer (some ⟨ab, ao + i * 2, none⟩) := hp122
                have H := H.addS hu122
                have Hb := H.full; have H := Hb; clear hc
                refine s_loada ty48sol2 (cs := [_, _]) H wn rfl rfl (fun j v hj => H.hp.gcell (gcell_mono hG (hra j v hj))) rfl ?_; clear H; intro a H
                refine wl_nil ⟨rfl, ?_⟩
                exact draw_val (by kernel_rfl) hprm29 rfl rfl HT Hb hG hv (fun _ _ h => h) (rfl) H
              · intro Sd_ a w G1 _ hSi hc hG HT hv; have H := HT; clear hSi
                have Hb := H.full; have H := Hb; clear hc
                refine s_move H wn rfl rfl ?_; clear H; intro a H
                refine wl_nil ⟨rfl, ?_⟩
                exact draw_val (by kernel_rfl) hprm29 rfl rfl HT Hb hG hv (fun _ _ h => h) (rfl) H
              · intro Sd_ a w G1 _ hSi hc hG HT hv; have H := HT; clear hSi
                have Hb := H.full; have H := Hb; clear hc
                refine s_move H wn rfl rfl ?_; clear H; intro a H
                refine wl_nil ⟨rfl, ?_⟩
                exact draw_val (by kernel_rfl) hprm29 rfl rfl HT Hb hG hv (fun _ _ h => h) (rfl) H
              · intro Sd_ a w G1 _ hSi hc hG HT hv; have H := HT; clear hSi
                obtain ⟨u124, hu124, hp124⟩ := hv 10 124 (hc 10 (by decide)) rfl
                obtain rfl : u124 = .slice (some ⟨bb, bo, none⟩) lb.length uc := hp124
                have H := H.addS hu124
                obtain ⟨u125, hu125, hp125⟩ := hv 11 125 (hc 11 (by decide)) rfl
                obtain rfl : u125 = vi k := hp125
                have H := H.addS hu125
                have Hb := H.full; have H := Hb; clear hc
                refine s_index un41sol2 ty48sol2 _ H wn rfl rfl rfl (by first | assumption | omega) rfl ?_; clear H; intro a H
                refine wl_nil ⟨rfl, ?_⟩
                exact draw_val (by kernel_rfl) hprm29 rfl rfl HT Hb hG hv (fun _ _ h => h) (rfl) H
              · intro Sd_ a w G1 _ hSi hc hG HT hv; have H := HT; clear hSi
                obtain ⟨u126, hu126, hp126⟩ := hv 12 126 (hc 12 (by decide)) rfl
                obtain rfl : u126 = .pointer (some ⟨bb, bo + k * 2, none⟩) := hp126
                have H := H.addS hu126
                have Hb := H.full; have H := Hb; clear hc
                refine s_loada ty48sol2 (cs := [_, _]) H wn rfl rfl (fun j v hj => H.hp.gcell (gcell_mono hG (hrb j v hj))) rfl ?_; clear H; intro a H
                refine wl_nil ⟨rfl, ?_⟩
                exact draw_val (by kernel_rfl) hprm29 rfl rfl HT Hb hG hv (fun _ _ h => h) (rfl) H
              · intro Sd_ a w G1 _ hSi hc hG HT hv; have H := HT; clear hSi
                obtain ⟨u123, hu123, hp123⟩ := hv 9 123 (hc 9 (by decide)) rfl
                obtain rfl : u123 = .agg #[vi la[i].key, vi la[i].weight] := hp123
                have H := H.addS hu123
                obtain ⟨u127, hu127, hp127⟩ := hv 13 127 (hc 13 (by decide)) rfl
                obtain rfl : u127 = .agg #[vi lb[k].key, vi lb[k].weight] := hp127
                have H := H.addS hu127
                have Hb := H.full; have H := Hb; clear hc
                refine s_call en53sol2 H wn rfl (weight_spec _ _ H.hp.ro la[i] lb[k]) rfl ?_; clear H
                rintro v128 G128 a w ⟨rfl, rfl⟩ hGm128 H
                refine wl_nil ⟨rfl, ?_⟩
                exact draw_val (by kernel_rfl) hprm29 rfl rfl HT Hb hG hv hGm128 (rfl) H
              · intro Sd_ a w G1 _ hSi hc hG HT hv; have H := HT; clear hSi
                obtain ⟨u119, hu119, hp119⟩ := hv 5 119 (hc 5 (by decide)) rfl
                obtain rfl : u119 = vi (sol la lb (i + 1) (k + 1)) := hp119
                have H := H.addS hu119
                obtain ⟨u128, hu128, hp128⟩ := hv 14 128 (hc 14 (by decide)) rfl
                obtain rfl : u128 = vi (wtT la[i] lb[k]) := hp128
                have H := H.addS hu128
                have Hb := H.full; have H := Hb; clear hc
                refine s_add _ H wn rfl rfl rfl (by omega) (by omega) rfl ?_; clear H; intro a H
                refine wl_nil ⟨rfl, ?_⟩
                exact draw_val (by kernel_rfl) hprm29 rfl rfl HT Hb hG hv (fun _ _ h => h) (rfl) H
              intro Sd_ a w G1 _ hSi hc hG HT hv; have H := HT; clear hSi
              obtain ⟨u129, hu129, hp129⟩ := hv 15 129 (hc 15 (by decide)) rfl
              obtain rfl : u129 = vi (sol la lb (i + 1) (k + 1) + wtT la[i] lb[k]) := hp129
              have H := H.addS hu129
              have Hb := H.full; have H := Hb; clear hc
              refine s_assign H wn rfl rfl ?_; clear H; intro a H
              refine wl_nil ⟨rfl, ?_⟩
              exact draw_val (by kernel_rfl) hprm29 rfl rfl HT Hb hG hv (fun _ _ h => h) (rfl) H
            clear H; intro a w G hGm29 H hv
            obtain ⟨u19, hu19, hp19⟩ := hv 16 19 (by decide) rfl
            obtain rfl : u19 = vi (sol la lb (i + 1) (k + 1) + wtT la[i] lb[k]) := hp19
            have H := H.addS hu19
            clear hv
            refine wl_nil ⟨rfl, ?_⟩
            refine hK40 _ _ ?_; clear hK40
            refine c_seq (fun _ hK41 => ?_)
            have hra3 := fun j v hj => gcell_mono hGm29 (hra j v hj)
            have hrb3 := fun j v hj => gcell_mono hGm29 (hrb j v hj)
            have hgm6 := fun b o h => hGm29 b o (hgm3 b o h)
            by_cases c0 : la[i].key = lb[k].key
            · skip
              by_cases c1 : mx ≤ sol la lb (i + 1) (k + 1) + wtT la[i] lb[k]
              · skip
                have hprm30 : ∀ (ix_ : Nat) (v : Value) (G G' : GH), (∀ k o, G k = some o → G' k = some o) → (fun (ix_ : Nat) (v : Value) (G : GH) => match ix_ with | 0 => v = .slice (some ⟨ab, ao, none⟩) la.length vc | 1 => v = vi i | 2 => v = .pointer (some ⟨ab, ao + i * 2, none⟩) | 3 => v = .pointer (some ⟨ab, ao + i * 2 + 0, none⟩) | 4 => v = vi la[i].key | 5 => v = .slice (some ⟨bb, bo, none⟩) lb.length uc | 6 => v = vi k | 7 => v = .pointer (some ⟨bb, bo + k * 2, none⟩) | 8 => v = .pointer (some ⟨bb, bo + k * 2 + 0, none⟩) | 9 => v = vi lb[k].key | 10 => v = .bool (decide (la[i].key = lb[k].key)) | 11 => v = .bool (decide (la[i].key = lb[k].key)) | 12 => v = vi (sol la lb (i + 1) (k + 1) + wtT la[i] lb[k]) | 13 => v = vi mx | 14 => v = .bool (decide (sol la lb (i + 1) (k + 1) + wtT la[i] lb[k] ≥ mx)) | 15 => v = .bool (decide (sol la lb (i + 1) (k + 1) + wtT la[i] lb[k] ≥ mx)) | _ => True) ix_ v G → (fun (ix_ : Nat) (v : Value) (G : GH) => match ix_ with | 0 => v = .slice (some ⟨ab, ao, none⟩) la.length vc | 1 => v = vi i | 2 => v = .pointer (some ⟨ab, ao + i * 2, none⟩) | 3 => v = .pointer (some ⟨ab, ao + i * 2 + 0, none⟩) | 4 => v = vi la[i].key | 5 => v = .slice (some ⟨bb, bo, none⟩) lb.length uc | 6 => v = vi k | 7 => v = .pointer (some ⟨bb, bo + k * 2, none⟩) | 8 => v = .pointer (some ⟨bb, bo + k * 2 + 0, none⟩) | 9 => v = vi lb[k].key | 10 => v = .bool (decide (la[i].key = lb[k].key)) | 11 => v = .bool (decide (la[i].key = lb[k].key)) | 12 => v = vi (sol la lb (i + 1) (k + 1) + wtT la[i] lb[k]) | 13 => v = vi mx | 14 => v = .bool (decide (sol la lb (i + 1) (k + 1) + wtT la[i] lb[k] ≥ mx)) | 15 => v = .bool (decide (sol la lb (i + 1) (k + 1) + wtT la[i] lb[k] ≥ mx)) | _ => True) ix_ v G' := by
                  intro ix_ v G G' hm h
                  match ix_, h with
                  | 0, h => exact h
                  | 1, h => exact h
                  | 2, h => exact h
                  | 3, h => exact h
                  | 4, h => exact h
                  | 5, h => exact h
                  | 6, h => exact h
                  | 7, h => exact h
                  | 8, h => exact h
                  | 9, h => exact h
                  | 10, h => exact h
                  | 11, h => exact h
                  | 12, h => exact h
                  | 13, h => exact h
                  | 14, h => exact h
                  | 15, h => exact h
                  | _ + 16, h => exact trivial
                refine c_drawI (hmxb) [[], [], [0, 1], [0, 1, 2], [0, 1, 2, 3], [], [], [5, 6], [5, 6, 7], [5, 6, 7, 8], [0, 1, 2, 3, 4, 5, 6, 7, 8, 9], [0, 1, 2, 3, 4, 5, 6, 7, 8, 9, 10], [0, 1, 2, 3, 4, 5, 6, 7, 8, 9, 10, 11], [0, 1, 2, 3, 4, 5, 6, 7, 8, 9, 10, 11], [0, 1, 2, 3, 4, 5, 6, 7, 8, 9, 10, 11, 12, 13], [0, 1, 2, 3, 4, 5, 6, 7, 8, 9, 10, 11, 12, 13, 14]] [] (by kernel_rfl) (by kernel_rfl) (fun (ix_ : Nat) (v : Value) (G : GH) => match ix_ with | 0 => v = .slice (some ⟨ab, ao, none⟩) la.length vc | 1 => v = vi i | 2 => v = .pointer (some ⟨ab, ao + i * 2, none⟩) | 3 => v = .pointer (some ⟨ab, ao + i * 2 + 0, none⟩) | 4 => v = vi la[i].key | 5 => v = .slice (some ⟨bb, bo, none⟩) lb.length uc | 6 => v = vi k | 7 => v = .pointer (some ⟨bb, bo + k * 2, none⟩) | 8 => v = .pointer (some ⟨bb, bo + k * 2 + 0, none⟩) | 9 => v = vi lb[k].key | 10 => v = .bool (decide (la[i].key = lb[k].key)) | 11 => v = .bool (decide (la[i].key = lb[k].key)) | 12 => v = vi (sol la lb (i + 1) (k + 1) + wtT la[i] lb[k]) | 13 => v = vi mx | 14 => v = .bool (decide (sol la lb (i + 1) (k + 1) + wtT la[i] lb[k] ≥ mx)) | 15 => v = .bool (decide (sol la lb (i + 1) (k + 1) + wtT la[i] lb[k] ≥ mx)) | _ => True) hprm30 H ?_ ?_
                · clear H; refine (allI_cons ?_ (allI_cons ?_ (allI_cons ?_ (allI_cons ?_ (allI_cons ?_ (allI_cons ?_ (allI_cons ?_ (allI_cons ?_ (allI_cons ?_ (allI_cons ?_ (allI_cons ?_ (allI_cons ?_ (allI_cons ?_ (allI_cons ?_ (allI_cons ?_ (allI_cons ?_ allI_nil))))))))))))))))
                  · intro Sd_ a w G1 _ hSi hc hG HT hv; have H := HT; clear hSi
                    have Hb := H.full; have H := Hb; clear hc
                    refine s_move H wn rfl rfl ?_; clear H; intro a H
                    refine wl_nil ⟨rfl, ?_⟩
                    exact draw_val (by kernel_rfl) hprm30 rfl rfl HT Hb hG hv (fun _ _ h => h) (rfl) H
                  · intro Sd_ a w G1 _ hSi hc hG HT hv; have H := HT; clear hSi
                    have Hb := H.full; have H := Hb; clear hc
                    refine s_move H wn rfl rfl ?_; clear H; intro a H
                    refine wl_nil ⟨rfl, ?_⟩
                    exact draw_val (by kernel_rfl) hprm30 rfl rfl HT Hb hG hv (fun _ _ h => h) (rfl) H
                  · intro Sd_ a w G1 _ hSi hc hG HT hv; have H := HT; clear hSi
                    obtain ⟨u130, hu130, hp130⟩ := hv 0 130 (hc 0 (by decide)) rfl
                    obtain rfl : u130 = .slice (some ⟨ab, ao, none⟩) la.length vc := hp130
                    have H := H.addS hu130
                    obtain ⟨u131, hu131, hp131⟩ := hv 1 131 (hc 1 (by decide)) rfl
                    obtain rfl : u131 = vi i := hp131
                    have H := H.addS hu131
                    have Hb := H.full; have H := Hb; clear hc
                    refine s_index un41sol2 ty48sol2 _ H wn rfl rfl rfl (by first | assumption | omega) rfl ?_; clear H; intro a H
                    refine wl_nil ⟨rfl, ?_⟩
                    exact draw_val (by kernel_rfl) hprm30 rfl rfl HT Hb hG hv (fun _ _ h => h) (rfl) H
                  · intro Sd_ a w G1 _ hSi hc hG HT hv; have H := HT; clear hSi
                    obtain ⟨u132, hu132, hp132⟩ := hv 2 132 (hc 2 (by decide)) rfl
                    obtain rfl : u132 = .pointer (some ⟨ab, ao + i * 2, none⟩) := hp132
                    have H := H.addS hu132
                    have Hb := H.full; have H := Hb; clear hc
                    refine s_field fd48_0sol2 H wn rfl rfl ?_; clear H; intro a H
                    refine wl_nil ⟨rfl, ?_⟩
                    exact draw_val (by kernel_rfl) hprm30 rfl rfl HT Hb hG hv (fun _ _ h => h) (rfl) H
                  · intro Sd_ a w G1 _ hSi hc hG HT hv; have H := HT; clear hSi
                    obtain ⟨u133, hu133, hp133⟩ := hv 3 133 (hc 3 (by decide)) rfl
                    obtain rfl : u133 = .pointer (some ⟨ab, ao + i * 2 + 0, none⟩) := hp133
                    have H := H.addS hu133
                    have Hb := H.full; have H := Hb; clear hc
                    refine s_load ty3sol2 H wn rfl (H.hp.gcell (gcell_mono hG (hra3 0 _ rfl))) rfl ?_; clear H; intro a H
                    refine wl_nil ⟨rfl, ?_⟩
                    exact draw_val (by kernel_rfl) hprm30 rfl rfl HT Hb hG hv (fun _ _ h => h) (rfl) H
                  · intro Sd_ a w G1 _ hSi hc hG HT hv; have H := HT; clear hSi
                    have Hb := H.full; have H := Hb; clear hc
                    refine s_move H wn rfl rfl ?_; clear H; intro a H
                    refine wl_nil ⟨rfl, ?_⟩
                    exact draw_val (by kernel_rfl) hprm30 rfl rfl HT Hb hG hv (fun _ _ h => h) (rfl) H
                  · intro Sd_ a w G1 _ hSi hc hG HT hv; have H := HT; clear hSi
                    have Hb := H.full; have H := Hb; clear hc
                    refine s_move H wn rfl rfl ?_; clear H; intro a H
                    refine wl_nil ⟨rfl, ?_⟩
                    exact draw_val (by kernel_rfl) hprm30 rfl rfl HT Hb hG hv (fun _ _ h => h) (rfl) H
                  · intro Sd_ a w G1 _ hSi hc hG HT hv; have H := HT; clear hSi
                    obtain ⟨u135, hu135, hp135⟩ := hv 5 135 (hc 5 (by decide)) rfl
                    obtain rfl : u135 = .slice (some ⟨bb, bo, none⟩) lb.length uc := hp135
                    have H := H.addS hu135
                    obtain ⟨u136, hu136, hp136⟩ := hv 6 136 (hc 6 (by decide)) rfl
                    obtain rfl : u136 = vi k := hp136
                    have H := H.addS hu136
                    have Hb := H.full; have H := Hb; clear hc
                    refine s_index un41sol2 ty48sol2 _ H wn rfl rfl rfl (by first | assumption | omega) rfl ?_; clear H; intro a H
                    refine wl_nil ⟨rfl, ?_⟩
                    exact draw_val (by kernel_rfl) hprm30 rfl rfl HT Hb hG hv (fun _ _ h => h) (rfl) H
                  · intro Sd_ a w G1 _ hSi hc hG HT hv; have H := HT; clear hSi
                    obtain ⟨u137, hu137, hp137⟩ := hv 7 137 (hc 7 (by decide)) rfl
                    obtain rfl : u137 = .pointer (some ⟨bb, bo + k * 2, none⟩) := hp137
                    have H := H.addS hu137
                    have Hb := H.full; have H := Hb; clear hc
                    refine s_field fd48_0sol2 H wn rfl rfl ?_; clear H; intro a H
                    refine wl_nil ⟨rfl, ?_⟩
                    exact draw_val (by kernel_rfl) hprm30 rfl rfl HT Hb hG hv (fun _ _ h => h) (rfl) H
                  · intro Sd_ a w G1 _ hSi hc hG HT hv; have H := HT; clear hSi
                    obtain ⟨u138, hu138, hp138⟩ := hv 8 138 (hc 8 (by decide)) rfl
                    obtain rfl : u138 = .pointer (some ⟨bb, bo + k * 2 + 0, none⟩) := hp138
                    have H := H.addS hu138
                    have Hb := H.full; have H := Hb; clear hc
                    refine s_load ty3sol2 H wn rfl (H.hp.gcell (gcell_mono hG (hrb3 0 _ rfl))) rfl ?_; clear H; intro a H
                    refine wl_nil ⟨rfl, ?_⟩
                    exact draw_val (by kernel_rfl) hprm30 rfl rfl HT Hb hG hv (fun _ _ h => h) (rfl) H
                  · intro Sd_ a w G1 _ hSi hc hG HT hv; have H := HT; clear hSi
                    obtain ⟨u134, hu134, hp134⟩ := hv 4 134 (hc 4 (by decide)) rfl
                    obtain rfl : u134 = vi la[i].key := hp134
                    have H := H.addS hu134
                    obtain ⟨u139, hu139, hp139⟩ := hv 9 139 (hc 9 (by decide)) rfl
                    obtain rfl : u139 = vi lb[k].key := hp139
                    have H := H.addS hu139
                    have Hb := H.full; have H := Hb; clear hc
                    refine s_cmp H wn rfl rfl rfl rfl ?_; clear H; intro a H
                    refine wl_nil ⟨rfl, ?_⟩
                    exact draw_val (by kernel_rfl) hprm30 rfl rfl HT Hb hG hv (fun _ _ h => h) (rfl) H
                  · intro Sd_ a w G1 _ hSi hc hG HT hv; have H := HT; clear hSi
                    obtain ⟨u140, hu140, hp140⟩ := hv 10 140 (hc 10 (by decide)) rfl
                    obtain rfl : u140 = .bool (decide (la[i].key = lb[k].key)) := hp140
                    have H := H.addS hu140
                    have Hb := H.full; have H := Hb; clear hc
                    refine s_move H wn rfl rfl ?_; clear H; intro a H
                    refine wl_nil ⟨rfl, ?_⟩
                    exact draw_val (by kernel_rfl) hprm30 rfl rfl HT Hb hG hv (fun _ _ h => h) (rfl) H
                  · intro Sd_ a w G1 _ hSi hc hG HT hv; have H := HT; clear hSi
                    obtain ⟨u141, hu141, hp141⟩ := hv 11 141 (hc 11 (by decide)) rfl
                    obtain rfl : u141 = .bool (decide (la[i].key = lb[k].key)) := hp141
                    have H := H.addS hu141
                    have Hb := H.full; have H := Hb; clear hc
                    refine s_move H (wg H rfl rfl (decide_eq_true c0)) rfl rfl ?_; clear H; intro a H
                    refine wl_nil ⟨rfl, ?_⟩
                    exact draw_val (by kernel_rfl) hprm30 rfl rfl HT Hb hG hv (fun _ _ h => h) (rfl) H
                  · intro Sd_ a w G1 _ hSi hc hG HT hv; have H := HT; clear hSi
                    obtain ⟨u141, hu141, hp141⟩ := hv 11 141 (hc 11 (by decide)) rfl
                    obtain rfl : u141 = .bool (decide (la[i].key = lb[k].key)) := hp141
                    have H := H.addS hu141
                    have Hb := H.full; have H := Hb; clear hc
                    refine s_move H (wg H rfl rfl (decide_eq_true c0)) rfl rfl ?_; clear H; intro a H
                    refine wl_nil ⟨rfl, ?_⟩
                    exact draw_val (by kernel_rfl) hprm30 rfl rfl HT Hb hG hv (fun _ _ h => h) (rfl) H
                  · intro Sd_ a w G1 _ hSi hc hG HT hv; have H := HT; clear hSi
                    obtain ⟨u142, hu142, hp142⟩ := hv 12 142 (hc 12 (by decide)) rfl
                    obtain rfl : u142 = vi (sol la lb (i + 1) (k + 1) + wtT la[i] lb[k]) := hp142
                    have H := H.addS hu142
                    obtain ⟨u143, hu143, hp143⟩ := hv 13 143 (hc 13 (by decide)) rfl
                    obtain rfl : u143 = vi mx := hp143
                    have H := H.addS hu143
                    obtain ⟨u141, hu141, hp141⟩ := hv 11 141 (hc 11 (by decide)) rfl
                    obtain rfl : u141 = .bool (decide (la[i].key = lb[k].key)) := hp141
                    have H := H.addS hu141
                    have Hb := H.full; have H := Hb; clear hc
                    refine s_cmp H (wg H rfl rfl (decide_eq_true c0)) rfl rfl rfl rfl ?_; clear H; intro a H
                    refine wl_nil ⟨rfl, ?_⟩
                    exact draw_val (by kernel_rfl) hprm30 rfl rfl HT Hb hG hv (fun _ _ h => h) (rfl) H
                  intro Sd_ a w G1 _ hSi hc hG HT hv; have H := HT; clear hSi
                  obtain ⟨u141, hu141, hp141⟩ := hv 11 141 (hc 11 (by decide)) rfl
                  obtain rfl : u141 = .bool (decide (la[i].key = lb[k].key)) := hp141
                  have H := H.addS hu141
                  obtain ⟨u144, hu144, hp144⟩ := hv 14 144 (hc 14 (by decide)) rfl
                  obtain rfl : u144 = .bool (decide (sol la lb (i + 1) (k + 1) + wtT la[i] lb[k] ≥ mx)) := hp144
                  have H := H.addS hu144
                  have Hb := H.full; have H := Hb; clear hc
                  refine s_pick_t H wn rfl (decide_eq_true c0) rfl rfl ?_; clear H; intro a H
                  refine wl_nil ⟨rfl, ?_⟩
                  exact draw_val (by kernel_rfl) hprm30 rfl rfl HT Hb hG hv (fun _ _ h => h) (rfl) H
                clear H; intro a w G hGm30 H hv
                obtain ⟨u145, hu145, hp145⟩ := hv 15 145 (by decide) rfl
                obtain rfl : u145 = .bool (decide (sol la lb (i + 1) (k + 1) + wtT la[i] lb[k] ≥ mx)) := hp145
                have H := H.addS hu145
                clear hv
                refine wl_nil ⟨rfl, ?_⟩
                refine hK41 _ _ ?_; clear hK41
                refine c_cond_t H rfl (decide_eq_true c1) ?_
                refine c_region ?_
                refine s_move H wn rfl rfl ?_; clear H; intro a H
                refine s_assign H wn rfl rfl ?_; clear H; intro a H
                refine s_assign H wn rfl rfl ?_; clear H; intro a H
                refine wl_nil ?_
                refine hK35 _ _ ?_; clear hK35
                first | (have hgm5 := fun b o h => hGm30 b o (hgm6 b o h)) | (have hgm5 := hgm3)
                refine c_region ?_
                refine s_move H wn rfl rfl ?_; clear H; intro a H
                refine s_indexArr un107sol2 ty32sol2 s H wn rfl rfl rfl hs2 rfl ?_; clear H; intro a H
                refine s_load ty32sol2 H wn rfl (H.hp.ocell 2 rfl (two_cells (x := fun t => fc (rN t) W) hs2)) rfl ?_; clear H; intro a H
                refine s_move H wn rfl rfl ?_; clear H; intro a H
                refine s_move H wn rfl rfl ?_; clear H; intro a H
                refine s_move H wn rfl rfl ?_; clear H; intro a H
                refine s_move H wn rfl rfl ?_; clear H; intro a H
                refine s_move H wn rfl rfl ?_; clear H; intro a H
                have H := H.wkOut hs2
                refine s_callL en52sol2 (Li := [_, _, _] ++ wkR C rN qN X3 R3 Q s) (L := [_, _, _]) H wn rfl (set_spec _ _ (Hp.owns (Li := [_, _, _] ++ wkR C rN qN X3 R3 Q s) H.hp) hs2 (cho_cell (x := fun t => fc (C t) M) hs2) hkW (hmid.1 s hs2).1 (hX3 s hs2) hiW (by omega) (by omega) (by omega)) rfl ?_; clear H
                rintro v155 G4 L155 a w rfl hm155 H
                have hgm4 := fun b o h => hm155 b o (hgm5 b o h)
                obtain ⟨X4, R4, hX4, hR4, H⟩ := St.wkStep hs2 hmid hkW hX3 (by first | omega | (rw [sol_in hi2 hk3]; split <;> omega)) (by rw [List.length_set]; exact hX3 s hs2) H
                refine wl_nil ?_
                refine hK24 _ _ ?_; clear hK24
                refine c_region ?_
                refine s_add _ H wn rfl rfl rfl (by omega) (by omega) rfl ?_; clear H; intro a H
                refine s_move H wn rfl rfl ?_; clear H; intro a H
                refine wl_nil ?_
                refine loop_end ((s + 1, X4, R4, G4)) (by exact (H).sub ⟨rfl, rfl, rfl, rfl, rfl, rfl, rfl, rfl, rfl, rfl, trivial⟩) ?_ ?_
                · try dsimp only
                  exact ⟨by omega, hX4, hR4, hgm4⟩
                first | omega | (dsimp only; omega)
              skip
              have hprm30 : ∀ (ix_ : Nat) (v : Value) (G G' : GH), (∀ k o, G k = some o → G' k = some o) → (fun (ix_ : Nat) (v : Value) (G : GH) => match ix_ with | 0 => v = .slice (some ⟨ab, ao, none⟩) la.length vc | 1 => v = vi i | 2 => v = .pointer (some ⟨ab, ao + i * 2, none⟩) | 3 => v = .pointer (some ⟨ab, ao + i * 2 + 0, none⟩) | 4 => v = vi la[i].key | 5 => v = .slice (some ⟨bb, bo, none⟩) lb.length uc | 6 => v = vi k | 7 => v = .pointer (some ⟨bb, bo + k * 2, none⟩) | 8 => v = .pointer (some ⟨bb, bo + k * 2 + 0, none⟩) | 9 => v = vi lb[k].key | 10 => v = .bool (decide (la[i].key = lb[k].key)) | 11 => v = .bool (decide (la[i].key = lb[k].key)) | 12 => v = vi (sol la lb (i + 1) (k + 1) + wtT la[i] lb[k]) | 13 => v = vi mx | 14 => v = .bool (decide (sol la lb (i + 1) (k + 1) + wtT la[i] lb[k] ≥ mx)) | 15 => v = .bool (decide (sol la lb (i + 1) (k + 1) + wtT la[i] lb[k] ≥ mx)) | _ => True) ix_ v G → (fun (ix_ : Nat) (v : Value) (G : GH) => match ix_ with | 0 => v = .slice (some ⟨ab, ao, none⟩) la.length vc | 1 => v = vi i | 2 => v = .pointer (some ⟨ab, ao + i * 2, none⟩) | 3 => v = .pointer (some ⟨ab, ao + i * 2 + 0, none⟩) | 4 => v = vi la[i].key | 5 => v = .slice (some ⟨bb, bo, none⟩) lb.length uc | 6 => v = vi k | 7 => v = .pointer (some ⟨bb, bo + k * 2, none⟩) | 8 => v = .pointer (some ⟨bb, bo + k * 2 + 0, none⟩) | 9 => v = vi lb[k].key | 10 => v = .bool (decide (la[i].key = lb[k].key)) | 11 => v = .bool (decide (la[i].key = lb[k].key)) | 12 => v = vi (sol la lb (i + 1) (k + 1) + wtT la[i] lb[k]) | 13 => v = vi mx | 14 => v = .bool (decide (sol la lb (i + 1) (k + 1) + wtT la[i] lb[k] ≥ mx)) | 15 => v = .bool (decide (sol la lb (i + 1) (k + 1) + wtT la[i] lb[k] ≥ mx)) | _ => True) ix_ v G' := by
                intro ix_ v G G' hm h
                match ix_, h with
                | 0, h => exact h
                | 1, h => exact h
                | 2, h => exact h
                | 3, h => exact h
                | 4, h => exact h
                | 5, h => exact h
                | 6, h => exact h
                | 7, h => exact h
                | 8, h => exact h
                | 9, h => exact h
                | 10, h => exact h
                | 11, h => exact h
                | 12, h => exact h
                | 13, h => exact h
                | 14, h => exact h
                | 15, h => exact h
                | _ + 16, h => exact trivial
              refine c_drawI (hmxb) [[], [], [0, 1], [0, 1, 2], [0, 1, 2, 3], [], [], [5, 6], [5, 6, 7], [5, 6, 7, 8], [0, 1, 2, 3, 4, 5, 6, 7, 8, 9], [0, 1, 2, 3, 4, 5, 6, 7, 8, 9, 10], [0, 1, 2, 3, 4, 5, 6, 7, 8, 9, 10, 11], [0, 1, 2, 3, 4, 5, 6, 7, 8, 9, 10, 11], [0, 1, 2, 3, 4, 5, 6, 7, 8, 9, 10, 11, 12, 13], [0, 1, 2, 3, 4, 5, 6, 7, 8, 9, 10, 11, 12, 13, 14]] [] (by kernel_rfl) (by kernel_rfl) (fun (ix_ : Nat) (v : Value) (G : GH) => match ix_ with | 0 => v = .slice (some ⟨ab, ao, none⟩) la.length vc | 1 => v = vi i | 2 => v = .pointer (some ⟨ab, ao + i * 2, none⟩) | 3 => v = .pointer (some ⟨ab, ao + i * 2 + 0, none⟩) | 4 => v = vi la[i].key | 5 => v = .slice (some ⟨bb, bo, none⟩) lb.length uc | 6 => v = vi k | 7 => v = .pointer (some ⟨bb, bo + k * 2, none⟩) | 8 => v = .pointer (some ⟨bb, bo + k * 2 + 0, none⟩) | 9 => v = vi lb[k].key | 10 => v = .bool (decide (la[i].key = lb[k].key)) | 11 => v = .bool (decide (la[i].key = lb[k].key)) | 12 => v = vi (sol la lb (i + 1) (k + 1) + wtT la[i] lb[k]) | 13 => v = vi mx | 14 => v = .bool (decide (sol la lb (i + 1) (k + 1) + wtT la[i] lb[k] ≥ mx)) | 15 => v = .bool (decide (sol la lb (i + 1) (k + 1) + wtT la[i] lb[k] ≥ mx)) | _ => True) hprm30 H ?_ ?_
              · clear H; refine (allI_cons ?_ (allI_cons ?_ (allI_cons ?_ (allI_cons ?_ (allI_cons ?_ (allI_cons ?_ (allI_cons ?_ (allI_cons ?_ (allI_cons ?_ (allI_cons ?_ (allI_cons ?_ (allI_cons ?_ (allI_cons ?_ (allI_cons ?_ (allI_cons ?_ (allI_cons ?_ allI_nil))))))))))))))))
                · intro Sd_ a w G1 _ hSi hc hG HT hv; have H := HT; clear hSi
                  have Hb := H.full; have H := Hb; clear hc
                  refine s_move H wn rfl rfl ?_; clear H; intro a H
                  refine wl_nil ⟨rfl, ?_⟩
                  exact draw_val (by kernel_rfl) hprm30 rfl rfl HT Hb hG hv (fun _ _ h => h) (rfl) H
                · intro Sd_ a w G1 _ hSi hc hG HT hv; have H := HT; clear hSi
                  have Hb := H.full; have H := Hb; clear hc
                  refine s_move H wn rfl rfl ?_; clear H; intro a H
                  refine wl_nil ⟨rfl, ?_⟩
                  exact draw_val (by kernel_rfl) hprm30 rfl rfl HT Hb hG hv (fun _ _ h => h) (rfl) H
                · intro Sd_ a w G1 _ hSi hc hG HT hv; have H := HT; clear hSi
                  obtain ⟨u130, hu130, hp130⟩ := hv 0 130 (hc 0 (by decide)) rfl
                  obtain rfl : u130 = .slice (some ⟨ab, ao, none⟩) la.length vc := hp130
                  have H := H.addS hu130
                  obtain ⟨u131, hu131, hp131⟩ := hv 1 131 (hc 1 (by decide)) rfl
                  obtain rfl : u131 = vi i := hp131
                  have H := H.addS hu131
                  have Hb := H.full; have H := Hb; clear hc
                  refine s_index un41sol2 ty48sol2 _ H wn rfl rfl rfl (by first | assumption | omega) rfl ?_; clear H; intro a H
                  refine wl_nil ⟨rfl, ?_⟩
                  exact draw_val (by kernel_rfl) hprm30 rfl rfl HT Hb hG hv (fun _ _ h => h) (rfl) H
                · intro Sd_ a w G1 _ hSi hc hG HT hv; have H := HT; clear hSi
                  obtain ⟨u132, hu132, hp132⟩ := hv 2 132 (hc 2 (by decide)) rfl
                  obtain rfl : u132 = .pointer (some ⟨ab, ao + i * 2, none⟩) := hp132
                  have H := H.addS hu132
                  have Hb := H.full; have H := Hb; clear hc
                  refine s_field fd48_0sol2 H wn rfl rfl ?_; clear H; intro a H
                  refine wl_nil ⟨rfl, ?_⟩
                  exact draw_val (by kernel_rfl) hprm30 rfl rfl HT Hb hG hv (fun _ _ h => h) (rfl) H
                · intro Sd_ a w G1 _ hSi hc hG HT hv; have H := HT; clear hSi
                  obtain ⟨u133, hu133, hp133⟩ := hv 3 133 (hc 3 (by decide)) rfl
                  obtain rfl : u133 = .pointer (some ⟨ab, ao + i * 2 + 0, none⟩) := hp133
                  have H := H.addS hu133
                  have Hb := H.full; have H := Hb; clear hc
                  refine s_load ty3sol2 H wn rfl (H.hp.gcell (gcell_mono hG (hra3 0 _ rfl))) rfl ?_; clear H; intro a H
                  refine wl_nil ⟨rfl, ?_⟩
                  exact draw_val (by kernel_rfl) hprm30 rfl rfl HT Hb hG hv (fun _ _ h => h) (rfl) H
                · intro Sd_ a w G1 _ hSi hc hG HT hv; have H := HT; clear hSi
                  have Hb := H.full; have H := Hb; clear hc
                  refine s_move H wn rfl rfl ?_; clear H; intro a H
                  refine wl_nil ⟨rfl, ?_⟩
                  exact draw_val (by kernel_rfl) hprm30 rfl rfl HT Hb hG hv (fun _ _ h => h) (rfl) H
                · intro Sd_ a w G1 _ hSi hc hG HT hv; have H := HT; clear hSi
                  have Hb := H.full; have H := Hb; clear hc
                  refine s_move H wn rfl rfl ?_; clear H; intro a H
                  refine wl_nil ⟨rfl, ?_⟩
                  exact draw_val (by kernel_rfl) hprm30 rfl rfl HT Hb hG hv (fun _ _ h => h) (rfl) H
                · intro Sd_ a w G1 _ hSi hc hG HT hv; have H := HT; clear hSi
                  obtain ⟨u135, hu135, hp135⟩ := hv 5 135 (hc 5 (by decide)) rfl
                  obtain rfl : u135 = .slice (some ⟨bb, bo, none⟩) lb.length uc := hp135
                  have H := H.addS hu135
                  obtain ⟨u136, hu136, hp136⟩ := hv 6 136 (hc 6 (by decide)) rfl
                  obtain rfl : u136 = vi k := hp136
                  have H := H.addS hu136
                  have Hb := H.full; have H := Hb; clear hc
                  refine s_index un41sol2 ty48sol2 _ H wn rfl rfl rfl (by first | assumption | omega) rfl ?_; clear H; intro a H
                  refine wl_nil ⟨rfl, ?_⟩
                  exact draw_val (by kernel_rfl) hprm30 rfl rfl HT Hb hG hv (fun _ _ h => h) (rfl) H
                · intro Sd_ a w G1 _ hSi hc hG HT hv; have H := HT; clear hSi
                  obtain ⟨u137, hu137, hp137⟩ := hv 7 137 (hc 7 (by decide)) rfl
                  obtain rfl : u137 = .pointer (some ⟨bb, bo + k * 2, none⟩) := hp137
                  have H := H.addS hu137
                  have Hb := H.full; have H := Hb; clear hc
                  refine s_field fd48_0sol2 H wn rfl rfl ?_; clear H; intro a H
                  refine wl_nil ⟨rfl, ?_⟩
                  exact draw_val (by kernel_rfl) hprm30 rfl rfl HT Hb hG hv (fun _ _ h => h) (rfl) H
                · intro Sd_ a w G1 _ hSi hc hG HT hv; have H := HT; clear hSi
                  obtain ⟨u138, hu138, hp138⟩ := hv 8 138 (hc 8 (by decide)) rfl
                  obtain rfl : u138 = .pointer (some ⟨bb, bo + k * 2 + 0, none⟩) := hp138
                  have H := H.addS hu138
                  have Hb := H.full; have H := Hb; clear hc
                  refine s_load ty3sol2 H wn rfl (H.hp.gcell (gcell_mono hG (hrb3 0 _ rfl))) rfl ?_; clear H; intro a H
                  refine wl_nil ⟨rfl, ?_⟩
                  exact draw_val (by kernel_rfl) hprm30 rfl rfl HT Hb hG hv (fun _ _ h => h) (rfl) H
                · intro Sd_ a w G1 _ hSi hc hG HT hv; have H := HT; clear hSi
                  obtain ⟨u134, hu134, hp134⟩ := hv 4 134 (hc 4 (by decide)) rfl
                  obtain rfl : u134 = vi la[i].key := hp134
                  have H := H.addS hu134
                  obtain ⟨u139, hu139, hp139⟩ := hv 9 139 (hc 9 (by decide)) rfl
                  obtain rfl : u139 = vi lb[k].key := hp139
                  have H := H.addS hu139
                  have Hb := H.full; have H := Hb; clear hc
                  refine s_cmp H wn rfl rfl rfl rfl ?_; clear H; intro a H
                  refine wl_nil ⟨rfl, ?_⟩
                  exact draw_val (by kernel_rfl) hprm30 rfl rfl HT Hb hG hv (fun _ _ h => h) (rfl) H
                · intro Sd_ a w G1 _ hSi hc hG HT hv; have H := HT; clear hSi
                  obtain ⟨u140, hu140, hp140⟩ := hv 10 140 (hc 10 (by decide)) rfl
                  obtain rfl : u140 = .bool (decide (la[i].key = lb[k].key)) := hp140
                  have H := H.addS hu140
                  have Hb := H.full; have H := Hb; clear hc
                  refine s_move H wn rfl rfl ?_; clear H; intro a H
                  refine wl_nil ⟨rfl, ?_⟩
                  exact draw_val (by kernel_rfl) hprm30 rfl rfl HT Hb hG hv (fun _ _ h => h) (rfl) H
                · intro Sd_ a w G1 _ hSi hc hG HT hv; have H := HT; clear hSi
                  obtain ⟨u141, hu141, hp141⟩ := hv 11 141 (hc 11 (by decide)) rfl
                  obtain rfl : u141 = .bool (decide (la[i].key = lb[k].key)) := hp141
                  have H := H.addS hu141
                  have Hb := H.full; have H := Hb; clear hc
                  refine s_move H (wg H rfl rfl (decide_eq_true c0)) rfl rfl ?_; clear H; intro a H
                  refine wl_nil ⟨rfl, ?_⟩
                  exact draw_val (by kernel_rfl) hprm30 rfl rfl HT Hb hG hv (fun _ _ h => h) (rfl) H
                · intro Sd_ a w G1 _ hSi hc hG HT hv; have H := HT; clear hSi
                  obtain ⟨u141, hu141, hp141⟩ := hv 11 141 (hc 11 (by decide)) rfl
                  obtain rfl : u141 = .bool (decide (la[i].key = lb[k].key)) := hp141
                  have H := H.addS hu141
                  have Hb := H.full; have H := Hb; clear hc
                  refine s_move H (wg H rfl rfl (decide_eq_true c0)) rfl rfl ?_; clear H; intro a H
                  refine wl_nil ⟨rfl, ?_⟩
                  exact draw_val (by kernel_rfl) hprm30 rfl rfl HT Hb hG hv (fun _ _ h => h) (rfl) H
                · intro Sd_ a w G1 _ hSi hc hG HT hv; have H := HT; clear hSi
                  obtain ⟨u142, hu142, hp142⟩ := hv 12 142 (hc 12 (by decide)) rfl
                  obtain rfl : u142 = vi (sol la lb (i + 1) (k + 1) + wtT la[i] lb[k]) := hp142
                  have H := H.addS hu142
                  obtain ⟨u143, hu143, hp143⟩ := hv 13 143 (hc 13 (by decide)) rfl
                  obtain rfl : u143 = vi mx := hp143
                  have H := H.addS hu143
                  obtain ⟨u141, hu141, hp141⟩ := hv 11 141 (hc 11 (by decide)) rfl
                  obtain rfl : u141 = .bool (decide (la[i].key = lb[k].key)) := hp141
                  have H := H.addS hu141
                  have Hb := H.full; have H := Hb; clear hc
                  refine s_cmp H (wg H rfl rfl (decide_eq_true c0)) rfl rfl rfl rfl ?_; clear H; intro a H
                  refine wl_nil ⟨rfl, ?_⟩
                  exact draw_val (by kernel_rfl) hprm30 rfl rfl HT Hb hG hv (fun _ _ h => h) (rfl) H
                intro Sd_ a w G1 _ hSi hc hG HT hv; have H := HT; clear hSi
                obtain ⟨u141, hu141, hp141⟩ := hv 11 141 (hc 11 (by decide)) rfl
                obtain rfl : u141 = .bool (decide (la[i].key = lb[k].key)) := hp141
                have H := H.addS hu141
                obtain ⟨u144, hu144, hp144⟩ := hv 14 144 (hc 14 (by decide)) rfl
                obtain rfl : u144 = .bool (decide (sol la lb (i + 1) (k + 1) + wtT la[i] lb[k] ≥ mx)) := hp144
                have H := H.addS hu144
                have Hb := H.full; have H := Hb; clear hc
                refine s_pick_t H wn rfl (decide_eq_true c0) rfl rfl ?_; clear H; intro a H
                refine wl_nil ⟨rfl, ?_⟩
                exact draw_val (by kernel_rfl) hprm30 rfl rfl HT Hb hG hv (fun _ _ h => h) (rfl) H
              clear H; intro a w G hGm30 H hv
              obtain ⟨u145, hu145, hp145⟩ := hv 15 145 (by decide) rfl
              obtain rfl : u145 = .bool (decide (sol la lb (i + 1) (k + 1) + wtT la[i] lb[k] ≥ mx)) := hp145
              have H := H.addS hu145
              clear hv
              refine wl_nil ⟨rfl, ?_⟩
              refine hK41 _ _ ?_; clear hK41
              refine c_cond_f H rfl (decide_eq_false c1) ?_
              refine c_skip ?_
              refine hK35 _ _ ?_; clear hK35
              first | (have hgm5 := fun b o h => hGm30 b o (hgm6 b o h)) | (have hgm5 := hgm3)
              refine c_region ?_
              refine s_move H wn rfl rfl ?_; clear H; intro a H
              refine s_indexArr un107sol2 ty32sol2 s H wn rfl rfl rfl hs2 rfl ?_; clear H; intro a H
              refine s_load ty32sol2 H wn rfl (H.hp.ocell 2 rfl (two_cells (x := fun t => fc (rN t) W) hs2)) rfl ?_; clear H; intro a H
              refine s_move H wn rfl rfl ?_; clear H; intro a H
              refine s_move H wn rfl rfl ?_; clear H; intro a H
              refine s_move H wn rfl rfl ?_; clear H; intro a H
              refine s_move H wn rfl rfl ?_; clear H; intro a H
              refine s_move H wn rfl rfl ?_; clear H; intro a H
              have H := H.wkOut hs2
              refine s_callL en52sol2 (Li := [_, _, _] ++ wkR C rN qN X3 R3 Q s) (L := [_, _, _]) H wn rfl (set_spec _ _ (Hp.owns (Li := [_, _, _] ++ wkR C rN qN X3 R3 Q s) H.hp) hs2 (cho_cell (x := fun t => fc (C t) M) hs2) hkW (hmid.1 s hs2).1 (hX3 s hs2) hiW (by omega) (by omega) (by omega)) rfl ?_; clear H
              rintro v155 G4 L155 a w rfl hm155 H
              have hgm4 := fun b o h => hm155 b o (hgm5 b o h)
              obtain ⟨X4, R4, hX4, hR4, H⟩ := St.wkStep hs2 hmid hkW hX3 (by first | omega | (rw [sol_in hi2 hk3]; split <;> omega)) (by rw [List.length_set]; exact hX3 s hs2) H
              refine wl_nil ?_
              refine hK24 _ _ ?_; clear hK24
              refine c_region ?_
              refine s_add _ H wn rfl rfl rfl (by omega) (by omega) rfl ?_; clear H; intro a H
              refine s_move H wn rfl rfl ?_; clear H; intro a H
              refine wl_nil ?_
              refine loop_end ((s + 1, X4, R4, G4)) (by exact (H).sub ⟨rfl, rfl, rfl, rfl, rfl, rfl, rfl, rfl, rfl, rfl, trivial⟩) ?_ ?_
              · try dsimp only
                exact ⟨by omega, hX4, hR4, hgm4⟩
              first | omega | (dsimp only; omega)
            skip
            have hprm30 : ∀ (ix_ : Nat) (v : Value) (G G' : GH), (∀ k o, G k = some o → G' k = some o) → (fun (ix_ : Nat) (v : Value) (G : GH) => match ix_ with | 0 => v = .slice (some ⟨ab, ao, none⟩) la.length vc | 1 => v = vi i | 2 => v = .pointer (some ⟨ab, ao + i * 2, none⟩) | 3 => v = .pointer (some ⟨ab, ao + i * 2 + 0, none⟩) | 4 => v = vi la[i].key | 5 => v = .slice (some ⟨bb, bo, none⟩) lb.length uc | 6 => v = vi k | 7 => v = .pointer (some ⟨bb, bo + k * 2, none⟩) | 8 => v = .pointer (some ⟨bb, bo + k * 2 + 0, none⟩) | 9 => v = vi lb[k].key | 10 => v = .bool (decide (la[i].key = lb[k].key)) | 11 => v = .bool (decide (la[i].key = lb[k].key)) | 12 => v = undef | 13 => v = undef | 14 => v = undef | 15 => v = .bool false | _ => True) ix_ v G → (fun (ix_ : Nat) (v : Value) (G : GH) => match ix_ with | 0 => v = .slice (some ⟨ab, ao, none⟩) la.length vc | 1 => v = vi i | 2 => v = .pointer (some ⟨ab, ao + i * 2, none⟩) | 3 => v = .pointer (some ⟨ab, ao + i * 2 + 0, none⟩) | 4 => v = vi la[i].key | 5 => v = .slice (some ⟨bb, bo, none⟩) lb.length uc | 6 => v = vi k | 7 => v = .pointer (some ⟨bb, bo + k * 2, none⟩) | 8 => v = .pointer (some ⟨bb, bo + k * 2 + 0, none⟩) | 9 => v = vi lb[k].key | 10 => v = .bool (decide (la[i].key = lb[k].key)) | 11 => v = .bool (decide (la[i].key = lb[k].key)) | 12 => v = undef | 13 => v = undef | 14 => v = undef | 15 => v = .bool false | _ => True) ix_ v G' := by
              intro ix_ v G G' hm h
              match ix_, h with
              | 0, h => exact h
              | 1, h => exact h
              | 2, h => exact h
              | 3, h => exact h
              | 4, h => exact h
              | 5, h => exact h
              | 6, h => exact h
              | 7, h => exact h
              | 8, h => exact h
              | 9, h => exact h
              | 10, h => exact h
              | 11, h => exact h
              | 12, h => exact h
              | 13, h => exact h
              | 14, h => exact h
              | 15, h => exact h
              | _ + 16, h => exact trivial
            refine c_drawI (hmxb) [[], [], [0, 1], [0, 1, 2], [0, 1, 2, 3], [], [], [5, 6], [5, 6, 7], [5, 6, 7, 8], [0, 1, 2, 3, 4, 5, 6, 7, 8, 9], [0, 1, 2, 3, 4, 5, 6, 7, 8, 9, 10], [0, 1, 2, 3, 4, 5, 6, 7, 8, 9, 10, 11], [0, 1, 2, 3, 4, 5, 6, 7, 8, 9, 10, 11], [0, 1, 2, 3, 4, 5, 6, 7, 8, 9, 10, 11, 12, 13], [0, 1, 2, 3, 4, 5, 6, 7, 8, 9, 10, 11, 12, 13, 14]] [] (by kernel_rfl) (by kernel_rfl) (fun (ix_ : Nat) (v : Value) (G : GH) => match ix_ with | 0 => v = .slice (some ⟨ab, ao, none⟩) la.length vc | 1 => v = vi i | 2 => v = .pointer (some ⟨ab, ao + i * 2, none⟩) | 3 => v = .pointer (some ⟨ab, ao + i * 2 + 0, none⟩) | 4 => v = vi la[i].key | 5 => v = .slice (some ⟨bb, bo, none⟩) lb.length uc | 6 => v = vi k | 7 => v = .pointer (some ⟨bb, bo + k * 2, none⟩) | 8 => v = .pointer (some ⟨bb, bo + k * 2 + 0, none⟩) | 9 => v = vi lb[k].key | 10 => v = .bool (decide (la[i].key = lb[k].key)) | 11 => v = .bool (decide (la[i].key = lb[k].key)) | 12 => v = undef | 13 => v = undef | 14 => v = undef | 15 => v = .bool false | _ => True) hprm30 H ?_ ?_
            · clear H; refine (allI_cons ?_ (allI_cons ?_ (allI_cons ?_ (allI_cons ?_ (allI_cons ?_ (allI_cons ?_ (allI_cons ?_ (allI_cons ?_ (allI_cons ?_ (allI_cons ?_ (allI_cons ?_ (allI_cons ?_ (allI_cons ?_ (allI_cons ?_ (allI_cons ?_ (allI_cons ?_ allI_nil))))))))))))))))
              · intro Sd_ a w G1 _ hSi hc hG HT hv; have H := HT; clear hSi
                have Hb := H.full; have H := Hb; clear hc
                refine s_move H wn rfl rfl ?_; clear H; intro a H
                refine wl_nil ⟨rfl, ?_⟩
                exact draw_val (by kernel_rfl) hprm30 rfl rfl HT Hb hG hv (fun _ _ h => h) (rfl) H
              · intro Sd_ a w G1 _ hSi hc hG HT hv; have H := HT; clear hSi
                have Hb := H.full; have H := Hb; clear hc
                refine s_move H wn rfl rfl ?_; clear H; intro a H
                refine wl_nil ⟨rfl, ?_⟩
                exact draw_val (by kernel_rfl) hprm30 rfl rfl HT Hb hG hv (fun _ _ h => h) (rfl) H
              · intro Sd_ a w G1 _ hSi hc hG HT hv; have H := HT; clear hSi
                obtain ⟨u130, hu130, hp130⟩ := hv 0 130 (hc 0 (by decide)) rfl
                obtain rfl : u130 = .slice (some ⟨ab, ao, none⟩) la.length vc := hp130
                have H := H.addS hu130
                obtain ⟨u131, hu131, hp131⟩ := hv 1 131 (hc 1 (by decide)) rfl
                obtain rfl : u131 = vi i := hp131
                have H := H.addS hu131
                have Hb := H.full; have H := Hb; clear hc
                refine s_index un41sol2 ty48sol2 _ H wn rfl rfl rfl (by first | assumption | omega) rfl ?_; clear H; intro a H
                refine wl_nil ⟨rfl, ?_⟩
                exact draw_val (by kernel_rfl) hprm30 rfl rfl HT Hb hG hv (fun _ _ h => h) (rfl) H
              · intro Sd_ a w G1 _ hSi hc hG HT hv; have H := HT; clear hSi
                obtain ⟨u132, hu132, hp132⟩ := hv 2 132 (hc 2 (by decide)) rfl
                obtain rfl : u132 = .pointer (some ⟨ab, ao + i * 2, none⟩) := hp132
                have H := H.addS hu132
                have Hb := H.full; have H := Hb; clear hc
                refine s_field fd48_0sol2 H wn rfl rfl ?_; clear H; intro a H
                refine wl_nil ⟨rfl, ?_⟩
                exact draw_val (by kernel_rfl) hprm30 rfl rfl HT Hb hG hv (fun _ _ h => h) (rfl) H
              · intro Sd_ a w G1 _ hSi hc hG HT hv; have H := HT; clear hSi
                obtain ⟨u133, hu133, hp133⟩ := hv 3 133 (hc 3 (by decide)) rfl
                obtain rfl : u133 = .pointer (some ⟨ab, ao + i * 2 + 0, none⟩) := hp133
                have H := H.addS hu133
                have Hb := H.full; have H := Hb; clear hc
                refine s_load ty3sol2 H wn rfl (H.hp.gcell (gcell_mono hG (hra3 0 _ rfl))) rfl ?_; clear H; intro a H
                refine wl_nil ⟨rfl, ?_⟩
                exact draw_val (by kernel_rfl) hprm30 rfl rfl HT Hb hG hv (fun _ _ h => h) (rfl) H
              · intro Sd_ a w G1 _ hSi hc hG HT hv; have H := HT; clear hSi
                have Hb := H.full; have H := Hb; clear hc
                refine s_move H wn rfl rfl ?_; clear H; intro a H
                refine wl_nil ⟨rfl, ?_⟩
                exact draw_val (by kernel_rfl) hprm30 rfl rfl HT Hb hG hv (fun _ _ h => h) (rfl) H
              · intro Sd_ a w G1 _ hSi hc hG HT hv; have H := HT; clear hSi
                have Hb := H.full; have H := Hb; clear hc
                refine s_move H wn rfl rfl ?_; clear H; intro a H
                refine wl_nil ⟨rfl, ?_⟩
                exact draw_val (by kernel_rfl) hprm30 rfl rfl HT Hb hG hv (fun _ _ h => h) (rfl) H
              · intro Sd_ a w G1 _ hSi hc hG HT hv; have H := HT; clear hSi
                obtain ⟨u135, hu135, hp135⟩ := hv 5 135 (hc 5 (by decide)) rfl
                obtain rfl : u135 = .slice (some ⟨bb, bo, none⟩) lb.length uc := hp135
                have H := H.addS hu135
                obtain ⟨u136, hu136, hp136⟩ := hv 6 136 (hc 6 (by decide)) rfl
                obtain rfl : u136 = vi k := hp136
                have H := H.addS hu136
                have Hb := H.full; have H := Hb; clear hc
                refine s_index un41sol2 ty48sol2 _ H wn rfl rfl rfl (by first | assumption | omega) rfl ?_; clear H; intro a H
                refine wl_nil ⟨rfl, ?_⟩
                exact draw_val (by kernel_rfl) hprm30 rfl rfl HT Hb hG hv (fun _ _ h => h) (rfl) H
              · intro Sd_ a w G1 _ hSi hc hG HT hv; have H := HT; clear hSi
                obtain ⟨u137, hu137, hp137⟩ := hv 7 137 (hc 7 (by decide)) rfl
                obtain rfl : u137 = .pointer (some ⟨bb, bo + k * 2, none⟩) := hp137
                have H := H.addS hu137
                have Hb := H.full; have H := Hb; clear hc
                refine s_field fd48_0sol2 H wn rfl rfl ?_; clear H; intro a H
                refine wl_nil ⟨rfl, ?_⟩
                exact draw_val (by kernel_rfl) hprm30 rfl rfl HT Hb hG hv (fun _ _ h => h) (rfl) H
              · intro Sd_ a w G1 _ hSi hc hG HT hv; have H := HT; clear hSi
                obtain ⟨u138, hu138, hp138⟩ := hv 8 138 (hc 8 (by decide)) rfl
                obtain rfl : u138 = .pointer (some ⟨bb, bo + k * 2 + 0, none⟩) := hp138
                have H := H.addS hu138
                have Hb := H.full; have H := Hb; clear hc
                refine s_load ty3sol2 H wn rfl (H.hp.gcell (gcell_mono hG (hrb3 0 _ rfl))) rfl ?_; clear H; intro a H
                refine wl_nil ⟨rfl, ?_⟩
                exact draw_val (by kernel_rfl) hprm30 rfl rfl HT Hb hG hv (fun _ _ h => h) (rfl) H
              · intro Sd_ a w G1 _ hSi hc hG HT hv; have H := HT; clear hSi
                obtain ⟨u134, hu134, hp134⟩ := hv 4 134 (hc 4 (by decide)) rfl
                obtain rfl : u134 = vi la[i].key := hp134
                have H := H.addS hu134
                obtain ⟨u139, hu139, hp139⟩ := hv 9 139 (hc 9 (by decide)) rfl
                obtain rfl : u139 = vi lb[k].key := hp139
                have H := H.addS hu139
                have Hb := H.full; have H := Hb; clear hc
                refine s_cmp H wn rfl rfl rfl rfl ?_; clear H; intro a H
                refine wl_nil ⟨rfl, ?_⟩
                exact draw_val (by kernel_rfl) hprm30 rfl rfl HT Hb hG hv (fun _ _ h => h) (rfl) H
              · intro Sd_ a w G1 _ hSi hc hG HT hv; have H := HT; clear hSi
                obtain ⟨u140, hu140, hp140⟩ := hv 10 140 (hc 10 (by decide)) rfl
                obtain rfl : u140 = .bool (decide (la[i].key = lb[k].key)) := hp140
                have H := H.addS hu140
                have Hb := H.full; have H := Hb; clear hc
                refine s_move H wn rfl rfl ?_; clear H; intro a H
                refine wl_nil ⟨rfl, ?_⟩
                exact draw_val (by kernel_rfl) hprm30 rfl rfl HT Hb hG hv (fun _ _ h => h) (rfl) H
              · intro Sd_ a w G1 _ hSi hc hG HT hv; have H := HT; clear hSi
                obtain ⟨u141, hu141, hp141⟩ := hv 11 141 (hc 11 (by decide)) rfl
                obtain rfl : u141 = .bool (decide (la[i].key = lb[k].key)) := hp141
                have H := H.addS hu141
                have Hb := H.full; have H := Hb; clear hc
                refine s_skip H rfl rfl (decide_eq_false c0) rfl ?_; clear H; intro a H
                refine wl_nil ⟨rfl, ?_⟩
                exact draw_val (by kernel_rfl) hprm30 rfl rfl HT Hb hG hv (fun _ _ h => h) (rfl) H
              · intro Sd_ a w G1 _ hSi hc hG HT hv; have H := HT; clear hSi
                obtain ⟨u141, hu141, hp141⟩ := hv 11 141 (hc 11 (by decide)) rfl
                obtain rfl : u141 = .bool (decide (la[i].key = lb[k].key)) := hp141
                have H := H.addS hu141
                have Hb := H.full; have H := Hb; clear hc
                refine s_skip H rfl rfl (decide_eq_false c0) rfl ?_; clear H; intro a H
                refine wl_nil ⟨rfl, ?_⟩
                exact draw_val (by kernel_rfl) hprm30 rfl rfl HT Hb hG hv (fun _ _ h => h) (rfl) H
              · intro Sd_ a w G1 _ hSi hc hG HT hv; have H := HT; clear hSi
                obtain ⟨u142, hu142, hp142⟩ := hv 12 142 (hc 12 (by decide)) rfl
                obtain rfl : u142 = undef := hp142
                have H := H.addS hu142
                obtain ⟨u143, hu143, hp143⟩ := hv 13 143 (hc 13 (by decide)) rfl
                obtain rfl : u143 = undef := hp143
                have H := H.addS hu143
                obtain ⟨u141, hu141, hp141⟩ := hv 11 141 (hc 11 (by decide)) rfl
                obtain rfl : u141 = .bool (decide (la[i].key = lb[k].key)) := hp141
                have H := H.addS hu141
                have Hb := H.full; have H := Hb; clear hc
                refine s_skip H rfl rfl (decide_eq_false c0) rfl ?_; clear H; intro a H
                refine wl_nil ⟨rfl, ?_⟩
                exact draw_val (by kernel_rfl) hprm30 rfl rfl HT Hb hG hv (fun _ _ h => h) (rfl) H
              intro Sd_ a w G1 _ hSi hc hG HT hv; have H := HT; clear hSi
              obtain ⟨u141, hu141, hp141⟩ := hv 11 141 (hc 11 (by decide)) rfl
              obtain rfl : u141 = .bool (decide (la[i].key = lb[k].key)) := hp141
              have H := H.addS hu141
              obtain ⟨u144, hu144, hp144⟩ := hv 14 144 (hc 14 (by decide)) rfl
              obtain rfl : u144 = undef := hp144
              have H := H.addS hu144
              have Hb := H.full; have H := Hb; clear hc
              refine s_pick_f H wn rfl (decide_eq_false c0) rfl rfl ?_; clear H; intro a H
              refine wl_nil ⟨rfl, ?_⟩
              exact draw_val (by kernel_rfl) hprm30 rfl rfl HT Hb hG hv (fun _ _ h => h) (rfl) H
            clear H; intro a w G hGm30 H hv
            obtain ⟨u145, hu145, hp145⟩ := hv 15 145 (by decide) rfl
            obtain rfl : u145 = .bool false := hp145
            have H := H.addS hu145
            clear hv
            refine wl_nil ⟨rfl, ?_⟩
            refine hK41 _ _ ?_; clear hK41
            refine c_cond_f H rfl rfl ?_
            refine c_skip ?_
            refine hK35 _ _ ?_; clear hK35
            first | (have hgm5 := fun b o h => hGm30 b o (hgm6 b o h)) | (have hgm5 := hgm3)
            refine c_region ?_
            refine s_move H wn rfl rfl ?_; clear H; intro a H
            refine s_indexArr un107sol2 ty32sol2 s H wn rfl rfl rfl hs2 rfl ?_; clear H; intro a H
            refine s_load ty32sol2 H wn rfl (H.hp.ocell 2 rfl (two_cells (x := fun t => fc (rN t) W) hs2)) rfl ?_; clear H; intro a H
            refine s_move H wn rfl rfl ?_; clear H; intro a H
            refine s_move H wn rfl rfl ?_; clear H; intro a H
            refine s_move H wn rfl rfl ?_; clear H; intro a H
            refine s_move H wn rfl rfl ?_; clear H; intro a H
            refine s_move H wn rfl rfl ?_; clear H; intro a H
            have H := H.wkOut hs2
            refine s_callL en52sol2 (Li := [_, _, _] ++ wkR C rN qN X3 R3 Q s) (L := [_, _, _]) H wn rfl (set_spec _ _ (Hp.owns (Li := [_, _, _] ++ wkR C rN qN X3 R3 Q s) H.hp) hs2 (cho_cell (x := fun t => fc (C t) M) hs2) hkW (hmid.1 s hs2).1 (hX3 s hs2) hiW (by omega) (by omega) (by omega)) rfl ?_; clear H
            rintro v155 G4 L155 a w rfl hm155 H
            have hgm4 := fun b o h => hm155 b o (hgm5 b o h)
            obtain ⟨X4, R4, hX4, hR4, H⟩ := St.wkStep hs2 hmid hkW hX3 (by first | omega | (rw [sol_in hi2 hk3]; split <;> omega)) (by rw [List.length_set]; exact hX3 s hs2) H
            refine wl_nil ?_
            refine hK24 _ _ ?_; clear hK24
            refine c_region ?_
            refine s_add _ H wn rfl rfl rfl (by omega) (by omega) rfl ?_; clear H; intro a H
            refine s_move H wn rfl rfl ?_; clear H; intro a H
            refine wl_nil ?_
            refine loop_end ((s + 1, X4, R4, G4)) (by exact (H).sub ⟨rfl, rfl, rfl, rfl, rfl, rfl, rfl, rfl, rfl, rfl, trivial⟩) ?_ ?_
            · try dsimp only
              exact ⟨by omega, hX4, hR4, hgm4⟩
            first | omega | (dsimp only; omega)
          intro h112
          try have p112 := of_decide_eq_false h112
          rw [show sol la lb (i + 1) k = mx by omega] at H
          refine c_skip ?_
          refine hK37 _ _ ?_; clear hK37
          refine c_seq (fun _ hK42 => ?_)
          have hprm29 : ∀ (ix_ : Nat) (v : Value) (G G' : GH), (∀ k o, G k = some o → G' k = some o) → (fun (ix_ : Nat) (v : Value) (G : GH) => match ix_ with | 0 => v = .pointer (some ⟨b9, 0 + 0 * 1, none⟩) | 1 => v = fc (qN 0) W | 2 => v = vi k | 3 => v = vi ((k : Int) + 1) | 4 => v = .pointer (some ⟨qN 0, 0 + (k + 1) * 1, none⟩) | 5 => v = vi (sol la lb (i + 1) (k + 1)) | 6 => v = .slice (some ⟨ab, ao, none⟩) la.length vc | 7 => v = vi i | 8 => v = .pointer (some ⟨ab, ao + i * 2, none⟩) | 9 => v = .agg #[vi la[i].key, vi la[i].weight] | 10 => v = .slice (some ⟨bb, bo, none⟩) lb.length uc | 11 => v = vi k | 12 => v = .pointer (some ⟨bb, bo + k * 2, none⟩) | 13 => v = .agg #[vi lb[k].key, vi lb[k].weight] | 14 => v = vi (wtT la[i] lb[k]) | 15 => v = vi (sol la lb (i + 1) (k + 1) + wtT la[i] lb[k]) | 16 => v = vi (sol la lb (i + 1) (k + 1) + wtT la[i] lb[k]) | _ => True) ix_ v G → (fun (ix_ : Nat) (v : Value) (G : GH) => match ix_ with | 0 => v = .pointer (some ⟨b9, 0 + 0 * 1, none⟩) | 1 => v = fc (qN 0) W | 2 => v = vi k | 3 => v = vi ((k : Int) + 1) | 4 => v = .pointer (some ⟨qN 0, 0 + (k + 1) * 1, none⟩) | 5 => v = vi (sol la lb (i + 1) (k + 1)) | 6 => v = .slice (some ⟨ab, ao, none⟩) la.length vc | 7 => v = vi i | 8 => v = .pointer (some ⟨ab, ao + i * 2, none⟩) | 9 => v = .agg #[vi la[i].key, vi la[i].weight] | 10 => v = .slice (some ⟨bb, bo, none⟩) lb.length uc | 11 => v = vi k | 12 => v = .pointer (some ⟨bb, bo + k * 2, none⟩) | 13 => v = .agg #[vi lb[k].key, vi lb[k].weight] | 14 => v = vi (wtT la[i] lb[k]) | 15 => v = vi (sol la lb (i + 1) (k + 1) + wtT la[i] lb[k]) | 16 => v = vi (sol la lb (i + 1) (k + 1) + wtT la[i] lb[k]) | _ => True) ix_ v G' := by
            intro ix_ v G G' hm h
            match ix_, h with
            | 0, h => exact h
            | 1, h => exact h
            | 2, h => exact h
            | 3, h => exact h
            | 4, h => exact h
            | 5, h => exact h
            | 6, h => exact h
            | 7, h => exact h
            | 8, h => exact h
            | 9, h => exact h
            | 10, h => exact h
            | 11, h => exact h
            | 12, h => exact h
            | 13, h => exact h
            | 14, h => exact h
            | 15, h => exact h
            | 16, h => exact h
            | _ + 17, h => exact trivial
          refine c_drawI (hmxb) [[], [0], [], [2], [0, 1, 2, 3], [0, 1, 2, 3, 4], [], [], [6, 7], [6, 7, 8], [], [], [10, 11], [10, 11, 12], [6, 7, 8, 9, 10, 11, 12, 13], [0, 1, 2, 3, 4, 5, 6, 7, 8, 9, 10, 11, 12, 13, 14], [0, 1, 2, 3, 4, 5, 6, 7, 8, 9, 10, 11, 12, 13, 14, 15]] [] (by kernel_rfl) (by kernel_rfl) (fun (ix_ : Nat) (v : Value) (G : GH) => match ix_ with | 0 => v = .pointer (some ⟨b9, 0 + 0 * 1, none⟩) | 1 => v = fc (qN 0) W | 2 => v = vi k | 3 => v = vi ((k : Int) + 1) | 4 => v = .pointer (some ⟨qN 0, 0 + (k + 1) * 1, none⟩) | 5 => v = vi (sol la lb (i + 1) (k + 1)) | 6 => v = .slice (some ⟨ab, ao, none⟩) la.length vc | 7 => v = vi i | 8 => v = .pointer (some ⟨ab, ao + i * 2, none⟩) | 9 => v = .agg #[vi la[i].key, vi la[i].weight] | 10 => v = .slice (some ⟨bb, bo, none⟩) lb.length uc | 11 => v = vi k | 12 => v = .pointer (some ⟨bb, bo + k * 2, none⟩) | 13 => v = .agg #[vi lb[k].key, vi lb[k].weight] | 14 => v = vi (wtT la[i] lb[k]) | 15 => v = vi (sol la lb (i + 1) (k + 1) + wtT la[i] lb[k]) | 16 => v = vi (sol la lb (i + 1) (k + 1) + wtT la[i] lb[k]) | _ => True) hprm29 H ?_ ?_
          · clear H; refine (allI_cons ?_ (allI_cons ?_ (allI_cons ?_ (allI_cons ?_ (allI_cons ?_ (allI_cons ?_ (allI_cons ?_ (allI_cons ?_ (allI_cons ?_ (allI_cons ?_ (allI_cons ?_ (allI_cons ?_ (allI_cons ?_ (allI_cons ?_ (allI_cons ?_ (allI_cons ?_ (allI_cons ?_ allI_nil)))))))))))))))))
            · intro Sd_ a w G1 _ hSi hc hG HT hv; have H := HT; clear hSi
              have Hb := H.full; have H := Hb; clear hc
              refine s_indexArr un107sol2 ty32sol2 0 H wn rfl rfl rfl (by decide) rfl ?_; clear H; intro a H
              refine wl_nil ⟨rfl, ?_⟩
              exact draw_val (by kernel_rfl) hprm29 rfl rfl HT Hb hG hv (fun _ _ h => h) (rfl) H
            · intro Sd_ a w G1 _ hSi hc hG HT hv; have H := HT; clear hSi
              obtain ⟨u114, hu114, hp114⟩ := hv 0 114 (hc 0 (by decide)) rfl
              obtain rfl : u114 = .pointer (some ⟨b9, 0 + 0 * 1, none⟩) := hp114
              have H := H.addS hu114
              have Hb := H.full; have H := Hb; clear hc
              refine s_load ty32sol2 H wn rfl (H.hp.ocell 3 rfl rfl) rfl ?_; clear H; intro a H
              refine wl_nil ⟨rfl, ?_⟩
              exact draw_val (by kernel_rfl) hprm29 rfl rfl HT Hb hG hv (fun _ _ h => h) (rfl) H
            · intro Sd_ a w G1 _ hSi hc hG HT hv; have H := HT; clear hSi
              have Hb := H.full; have H := Hb; clear hc
              refine s_move H wn rfl rfl ?_; clear H; intro a H
              refine wl_nil ⟨rfl, ?_⟩
              exact draw_val (by kernel_rfl) hprm29 rfl rfl HT Hb hG hv (fun _ _ h => h) (rfl) H
            · intro Sd_ a w G1 _ hSi hc hG HT hv; have H := HT; clear hSi
              obtain ⟨u116, hu116, hp116⟩ := hv 2 116 (hc 2 (by decide)) rfl
              obtain rfl : u116 = vi k := hp116
              have H := H.addS hu116
              have Hb := H.full; have H := Hb; clear hc
              refine s_add _ H wn rfl rfl rfl (by omega) (by omega) rfl ?_; clear H; intro a H
              refine wl_nil ⟨rfl, ?_⟩
              exact draw_val (by kernel_rfl) hprm29 rfl rfl HT Hb hG hv (fun _ _ h => h) (rfl) H
            · intro Sd_ a w G1 _ hSi hc hG HT hv; have H := HT; clear hSi
              obtain ⟨u115, hu115, hp115⟩ := hv 1 115 (hc 1 (by decide)) rfl
              obtain rfl : u115 = fc (qN 0) W := hp115
              have H := H.addS hu115
              obtain ⟨u117, hu117, hp117⟩ := hv 3 117 (hc 3 (by decide)) rfl
              obtain rfl : u117 = vi ((k : Int) + 1) := hp117
              have H := H.addS hu117
              have Hb := H.full; have H := Hb; clear hc
              refine s_index un32sol2 ty3sol2 (k + 1) H wn rfl rfl (by omega) (by omega) rfl ?_; clear H; intro a H
              refine wl_nil ⟨rfl, ?_⟩
              exact draw_val (by kernel_rfl) hprm29 rfl rfl HT Hb hG hv (fun _ _ h => h) (rfl) H
            · intro Sd_ a w G1 _ hSi hc hG HT hv; have H := HT; clear hSi
              obtain ⟨u118, hu118, hp118⟩ := hv 4 118 (hc 4 (by decide)) rfl
              obtain rfl : u118 = .pointer (some ⟨qN 0, 0 + (k + 1) * 1, none⟩) := hp118
              have H := H.addS hu118
              have Hb := H.full; have H := Hb; clear hc
              refine s_load ty3sol2 H wn rfl (H.hp.ocell 6 rfl (by rw [Nat.zero_add, Nat.mul_one]; exact fl_get ((hQ1 0 (by decide)).2 (k + 1) (Nat.zero_le _) (by omega)))) rfl ?_; clear H; intro a H
              refine wl_nil ⟨rfl, ?_⟩
              exact draw_val (by kernel_rfl) hprm29 rfl rfl HT Hb hG hv (fun _ _ h => h) (rfl) H
            · intro Sd_ a w G1 _ hSi hc hG HT hv; have H := HT; clear hSi
              have Hb := H.full; have H := Hb; clear hc
              refine s_move H wn rfl rfl ?_; clear H; intro a H
              refine wl_nil ⟨rfl, ?_⟩
              exact draw_val (by kernel_rfl) hprm29 rfl rfl HT Hb hG hv (fun _ _ h => h) (rfl) H
            · intro Sd_ a w G1 _ hSi hc hG HT hv; have H := HT; clear hSi
              have Hb := H.full; have H := Hb; clear hc
              refine s_move H wn rfl rfl ?_; clear H; intro a H
              refine wl_nil ⟨rfl, ?_⟩
              exact draw_val (by kernel_rfl) hprm29 rfl rfl HT Hb hG hv (fun _ _ h => h) (rfl) H
            · intro Sd_ a w G1 _ hSi hc hG HT hv; have H := HT; clear hSi
              obtain ⟨u120, hu120, hp120⟩ := hv 6 120 (hc 6 (by decide)) rfl
              obtain rfl : u120 = .slice (some ⟨ab, ao, none⟩) la.length vc := hp120
              have H := H.addS hu120
              obtain ⟨u121, hu121, hp121⟩ := hv 7 121 (hc 7 (by decide)) rfl
              obtain rfl : u121 = vi i := hp121
              have H := H.addS hu121
              have Hb := H.full; have H := Hb; clear hc
              refine s_index un41sol2 ty48sol2 _ H wn rfl rfl rfl (by first | assumption | omega) rfl ?_; clear H; intro a H
              refine wl_nil ⟨rfl, ?_⟩
              exact draw_val (by kernel_rfl) hprm29 rfl rfl HT Hb hG hv (fun _ _ h => h) (rfl) H
            · intro Sd_ a w G1 _ hSi hc hG HT hv; have H := HT; clear hSi
              obtain ⟨u122, hu122, hp122⟩ := hv 8 122 (hc 8 (by decide)) rfl
              obtain rfl : u122 = .pointer (some ⟨ab, ao + i * 2, none⟩) := hp122
              have H := H.addS hu122
              have Hb := H.full; have H := Hb; clear hc
              refine s_loada ty48sol2 (cs := [_, _]) H wn rfl rfl (fun j v hj => H.hp.gcell (gcell_mono hG (hra j v hj))) rfl ?_; clear H; intro a H
              refine wl_nil ⟨rfl, ?_⟩
              exact draw_val (by kernel_rfl) hprm29 rfl rfl HT Hb hG hv (fun _ _ h => h) (rfl) H
            · intro Sd_ a w G1 _ hSi hc hG HT hv; have H := HT; clear hSi
              have Hb := H.full; have H := Hb; clear hc
              refine s_move H wn rfl rfl ?_; clear H; intro a H
              refine wl_nil ⟨rfl, ?_⟩
              exact draw_val (by kernel_rfl) hprm29 rfl rfl HT Hb hG hv (fun _ _ h => h) (rfl) H
            · intro Sd_ a w G1 _ hSi hc hG HT hv; have H := HT; clear hSi
              have Hb := H.full; have H := Hb; clear hc
              refine s_move H wn rfl rfl ?_; clear H; intro a H
              refine wl_nil ⟨rfl, ?_⟩
              exact draw_val (by kernel_rfl) hprm29 rfl rfl HT Hb hG hv (fun _ _ h => h) (rfl) H
            · intro Sd_ a w G1 _ hSi hc hG HT hv; have H := HT; clear hSi
              obtain ⟨u124, hu124, hp124⟩ := hv 10 124 (hc 10 (by decide)) rfl
              obtain rfl : u124 = .slice (some ⟨bb, bo, none⟩) lb.length uc := hp124
              have H := H.addS hu124
              obtain ⟨u125, hu125, hp125⟩ := hv 11 125 (hc 11 (by decide)) rfl
              obtain rfl : u125 = vi k := hp125
              have H := H.addS hu125
              have Hb := H.full; have H := Hb; clear hc
              refine s_index un41sol2 ty48sol2 _ H wn rfl rfl rfl (by first | assumption | omega) rfl ?_; clear H; intro a H
              refine wl_nil ⟨rfl, ?_⟩
              exact draw_val (by kernel_rfl) hprm29 rfl rfl HT Hb hG hv (fun _ _ h => h) (rfl) H
            · intro Sd_ a w G1 _ hSi hc hG HT hv; have H := HT; clear hSi
              obtain ⟨u126, hu126, hp126⟩ := hv 12 126 (hc 12 (by decide)) rfl
              obtain rfl : u126 = .pointer (some ⟨bb, bo + k * 2, none⟩) := hp126
              have H := H.addS hu126
              have Hb := H.full; have H := Hb; clear hc
              refine s_loada ty48sol2 (cs := [_, _]) H wn rfl rfl (fun j v hj => H.hp.gcell (gcell_mono hG (hrb j v hj))) rfl ?_; clear H; intro a H
              refine wl_nil ⟨rfl, ?_⟩
              exact draw_val (by kernel_rfl) hprm29 rfl rfl HT Hb hG hv (fun _ _ h => h) (rfl) H
            · intro Sd_ a w G1 _ hSi hc hG HT hv; have H := HT; clear hSi
              obtain ⟨u123, hu123, hp123⟩ := hv 9 123 (hc 9 (by decide)) rfl
              obtain rfl : u123 = .agg #[vi la[i].key, vi la[i].weight] := hp123
              have H := H.addS hu123
              obtain ⟨u127, hu127, hp127⟩ := hv 13 127 (hc 13 (by decide)) rfl
              obtain rfl : u127 = .agg #[vi lb[k].key, vi lb[k].weight] := hp127
              have H := H.addS hu127
              have Hb := H.full; have H := Hb; clear hc
              refine s_call en53sol2 H wn rfl (weight_spec _ _ H.hp.ro la[i] lb[k]) rfl ?_; clear H
              rintro v128 G128 a w ⟨rfl, rfl⟩ hGm128 H
              refine wl_nil ⟨rfl, ?_⟩
              exact draw_val (by kernel_rfl) hprm29 rfl rfl HT Hb hG hv hGm128 (rfl) H
            · intro Sd_ a w G1 _ hSi hc hG HT hv; have H := HT; clear hSi
              obtain ⟨u119, hu119, hp119⟩ := hv 5 119 (hc 5 (by decide)) rfl
              obtain rfl : u119 = vi (sol la lb (i + 1) (k + 1)) := hp119
              have H := H.addS hu119
              obtain ⟨u128, hu128, hp128⟩ := hv 14 128 (hc 14 (by decide)) rfl
              obtain rfl : u128 = vi (wtT la[i] lb[k]) := hp128
              have H := H.addS hu128
              have Hb := H.full; have H := Hb; clear hc
              refine s_add _ H wn rfl rfl rfl (by omega) (by omega) rfl ?_; clear H; intro a H
              refine wl_nil ⟨rfl, ?_⟩
              exact draw_val (by kernel_rfl) hprm29 rfl rfl HT Hb hG hv (fun _ _ h => h) (rfl) H
            intro Sd_ a w G1 _ hSi hc hG HT hv; have H := HT; clear hSi
            obtain ⟨u129, hu129, hp129⟩ := hv 15 129 (hc 15 (by decide)) rfl
            obtain rfl : u129 = vi (sol la lb (i + 1) (k + 1) + wtT la[i] lb[k]) := hp129
            have H := H.addS hu129
            have Hb := H.full; have H := Hb; clear hc
            refine s_assign H wn rfl rfl ?_; clear H; intro a H
            refine wl_nil ⟨rfl, ?_⟩
            exact draw_val (by kernel_rfl) hprm29 rfl rfl HT Hb hG hv (fun _ _ h => h) (rfl) H
          clear H; intro a w G hGm29 H hv
          obtain ⟨u19, hu19, hp19⟩ := hv 16 19 (by decide) rfl
          obtain rfl : u19 = vi (sol la lb (i + 1) (k + 1) + wtT la[i] lb[k]) := hp19
          have H := H.addS hu19
          clear hv
          refine wl_nil ⟨rfl, ?_⟩
          refine hK42 _ _ ?_; clear hK42
          refine c_seq (fun _ hK43 => ?_)
          have hra3 := fun j v hj => gcell_mono hGm29 (hra j v hj)
          have hrb3 := fun j v hj => gcell_mono hGm29 (hrb j v hj)
          have hgm6 := fun b o h => hGm29 b o (hgm3 b o h)
          by_cases c0 : la[i].key = lb[k].key
          · skip
            by_cases c1 : mx ≤ sol la lb (i + 1) (k + 1) + wtT la[i] lb[k]
            · skip
              have hprm30 : ∀ (ix_ : Nat) (v : Value) (G G' : GH), (∀ k o, G k = some o → G' k = some o) → (fun (ix_ : Nat) (v : Value) (G : GH) => match ix_ with | 0 => v = .slice (some ⟨ab, ao, none⟩) la.length vc | 1 => v = vi i | 2 => v = .pointer (some ⟨ab, ao + i * 2, none⟩) | 3 => v = .pointer (some ⟨ab, ao + i * 2 + 0, none⟩) | 4 => v = vi la[i].key | 5 => v = .slice (some ⟨bb, bo, none⟩) lb.length uc | 6 => v = vi k | 7 => v = .pointer (some ⟨bb, bo + k * 2, none⟩) | 8 => v = .pointer (some ⟨bb, bo + k * 2 + 0, none⟩) | 9 => v = vi lb[k].key | 10 => v = .bool (decide (la[i].key = lb[k].key)) | 11 => v = .bool (decide (la[i].key = lb[k].key)) | 12 => v = vi (sol la lb (i + 1) (k + 1) + wtT la[i] lb[k]) | 13 => v = vi mx | 14 => v = .bool (decide (sol la lb (i + 1) (k + 1) + wtT la[i] lb[k] ≥ mx)) | 15 => v = .bool (decide (sol la lb (i + 1) (k + 1) + wtT la[i] lb[k] ≥ mx)) | _ => True) ix_ v G → (fun (ix_ : Nat) (v : Value) (G : GH) => match ix_ with | 0 => v = .slice (some ⟨ab, ao, none⟩) la.length vc | 1 => v = vi i | 2 => v = .pointer (some ⟨ab, ao + i * 2, none⟩) | 3 => v = .pointer (some ⟨ab, ao + i * 2 + 0, none⟩) | 4 => v = vi la[i].key | 5 => v = .slice (some ⟨bb, bo, none⟩) lb.length uc | 6 => v = vi k | 7 => v = .pointer (some ⟨bb, bo + k * 2, none⟩) | 8 => v = .pointer (some ⟨bb, bo + k * 2 + 0, none⟩) | 9 => v = vi lb[k].key | 10 => v = .bool (decide (la[i].key = lb[k].key)) | 11 => v = .bool (decide (la[i].key = lb[k].key)) | 12 => v = vi (sol la lb (i + 1) (k + 1) + wtT la[i] lb[k]) | 13 => v = vi mx | 14 => v = .bool (decide (sol la lb (i + 1) (k + 1) + wtT la[i] lb[k] ≥ mx)) | 15 => v = .bool (decide (sol la lb (i + 1) (k + 1) + wtT la[i] lb[k] ≥ mx)) | _ => True) ix_ v G' := by
                intro ix_ v G G' hm h
                match ix_, h with
                | 0, h => exact h
                | 1, h => exact h
                | 2, h => exact h
                | 3, h => exact h
                | 4, h => exact h
                | 5, h => exact h
                | 6, h => exact h
                | 7, h => exact h
                | 8, h => exact h
                | 9, h => exact h
                | 10, h => exact h
                | 11, h => exact h
                | 12, h => exact h
                | 13, h => exact h
                | 14, h => exact h
                | 15, h => exact h
                | _ + 16, h => exact trivial
              refine c_drawI (hmxb) [[], [], [0, 1], [0, 1, 2], [0, 1, 2, 3], [], [], [5, 6], [5, 6, 7], [5, 6, 7, 8], [0, 1, 2, 3, 4, 5, 6, 7, 8, 9], [0, 1, 2, 3, 4, 5, 6, 7, 8, 9, 10], [0, 1, 2, 3, 4, 5, 6, 7, 8, 9, 10, 11], [0, 1, 2, 3, 4, 5, 6, 7, 8, 9, 10, 11], [0, 1, 2, 3, 4, 5, 6, 7, 8, 9, 10, 11, 12, 13], [0, 1, 2, 3, 4, 5, 6, 7, 8, 9, 10, 11, 12, 13, 14]] [] (by kernel_rfl) (by kernel_rfl) (fun (ix_ : Nat) (v : Value) (G : GH) => match ix_ with | 0 => v = .slice (some ⟨ab, ao, none⟩) la.length vc | 1 => v = vi i | 2 => v = .pointer (some ⟨ab, ao + i * 2, none⟩) | 3 => v = .pointer (some ⟨ab, ao + i * 2 + 0, none⟩) | 4 => v = vi la[i].key | 5 => v = .slice (some ⟨bb, bo, none⟩) lb.length uc | 6 => v = vi k | 7 => v = .pointer (some ⟨bb, bo + k * 2, none⟩) | 8 => v = .pointer (some ⟨bb, bo + k * 2 + 0, none⟩) | 9 => v = vi lb[k].key | 10 => v = .bool (decide (la[i].key = lb[k].key)) | 11 => v = .bool (decide (la[i].key = lb[k].key)) | 12 => v = vi (sol la lb (i + 1) (k + 1) + wtT la[i] lb[k]) | 13 => v = vi mx | 14 => v = .bool (decide (sol la lb (i + 1) (k + 1) + wtT la[i] lb[k] ≥ mx)) | 15 => v = .bool (decide (sol la lb (i + 1) (k + 1) + wtT la[i] lb[k] ≥ mx)) | _ => True) hprm30 H ?_ ?_
              · clear H; refine (allI_cons ?_ (allI_cons ?_ (allI_cons ?_ (allI_cons ?_ (allI_cons ?_ (allI_cons ?_ (allI_cons ?_ (allI_cons ?_ (allI_cons ?_ (allI_cons ?_ (allI_cons ?_ (allI_cons ?_ (allI_cons ?_ (allI_cons ?_ (allI_cons ?_ (allI_cons ?_ allI_nil))))))))))))))))
                · intro Sd_ a w G1 _ hSi hc hG HT hv; have H := HT; clear hSi
                  have Hb := H.full; have H := Hb; clear hc
                  refine s_move H wn rfl rfl ?_; clear H; intro a H
                  refine wl_nil ⟨rfl, ?_⟩
                  exact draw_val (by kernel_rfl) hprm30 rfl rfl HT Hb hG hv (fun _ _ h => h) (rfl) H
                · intro Sd_ a w G1 _ hSi hc hG HT hv; have H := HT; clear hSi
                  have Hb := H.full; have H := Hb; clear hc
                  refine s_move H wn rfl rfl ?_; clear H; intro a H
                  refine wl_nil ⟨rfl, ?_⟩
                  exact draw_val (by kernel_rfl) hprm30 rfl rfl HT Hb hG hv (fun _ _ h => h) (rfl) H
                · intro Sd_ a w G1 _ hSi hc hG HT hv; have H := HT; clear hSi
                  obtain ⟨u130, hu130, hp130⟩ := hv 0 130 (hc 0 (by decide)) rfl
                  obtain rfl : u130 = .slice (some ⟨ab, ao, none⟩) la.length vc := hp130
                  have H := H.addS hu130
                  obtain ⟨u131, hu131, hp131⟩ := hv 1 131 (hc 1 (by decide)) rfl
                  obtain rfl : u131 = vi i := hp131
                  have H := H.addS hu131
                  have Hb := H.full; have H := Hb; clear hc
                  refine s_index un41sol2 ty48sol2 _ H wn rfl rfl rfl (by first | assumption | omega) rfl ?_; clear H; intro a H
                  refine wl_nil ⟨rfl, ?_⟩
                  exact draw_val (by kernel_rfl) hprm30 rfl rfl HT Hb hG hv (fun _ _ h => h) (rfl) H
                · intro Sd_ a w G1 _ hSi hc hG HT hv; have H := HT; clear hSi
                  obtain ⟨u132, hu132, hp132⟩ := hv 2 132 (hc 2 (by decide)) rfl
                  obtain rfl : u132 = .pointer (some ⟨ab, ao + i * 2, none⟩) := hp132
                  have H := H.addS hu132
                  have Hb := H.full; have H := Hb; clear hc
                  refine s_field fd48_0sol2 H wn rfl rfl ?_; clear H; intro a H
                  refine wl_nil ⟨rfl, ?_⟩
                  exact draw_val (by kernel_rfl) hprm30 rfl rfl HT Hb hG hv (fun _ _ h => h) (rfl) H
                · intro Sd_ a w G1 _ hSi hc hG HT hv; have H := HT; clear hSi
                  obtain ⟨u133, hu133, hp133⟩ := hv 3 133 (hc 3 (by decide)) rfl
                  obtain rfl : u133 = .pointer (some ⟨ab, ao + i * 2 + 0, none⟩) := hp133
                  have H := H.addS hu133
                  have Hb := H.full; have H := Hb; clear hc
                  refine s_load ty3sol2 H wn rfl (H.hp.gcell (gcell_mono hG (hra3 0 _ rfl))) rfl ?_; clear H; intro a H
                  refine wl_nil ⟨rfl, ?_⟩
                  exact draw_val (by kernel_rfl) hprm30 rfl rfl HT Hb hG hv (fun _ _ h => h) (rfl) H
                · intro Sd_ a w G1 _ hSi hc hG HT hv; have H := HT; clear hSi
                  have Hb := H.full; have H := Hb; clear hc
                  refine s_move H wn rfl rfl ?_; clear H; intro a H
                  refine wl_nil ⟨rfl, ?_⟩
                  exact draw_val (by kernel_rfl) hprm30 rfl rfl HT Hb hG hv (fun _ _ h => h) (rfl) H
                · intro Sd_ a w G1 _ hSi hc hG HT hv; have H := HT; clear hSi
                  have Hb := H.full; have H := Hb; clear hc
                  refine s_move H wn rfl rfl ?_; clear H; intro a H
                  refine wl_nil ⟨rfl, ?_⟩
                  exact draw_val (by kernel_rfl) hprm30 rfl rfl HT Hb hG hv (fun _ _ h => h) (rfl) H
                · intro Sd_ a w G1 _ hSi hc hG HT hv; have H := HT; clear hSi
                  obtain ⟨u135, hu135, hp135⟩ := hv 5 135 (hc 5 (by decide)) rfl
                  obtain rfl : u135 = .slice (some ⟨bb, bo, none⟩) lb.length uc := hp135
                  have H := H.addS hu135
                  obtain ⟨u136, hu136, hp136⟩ := hv 6 136 (hc 6 (by decide)) rfl
                  obtain rfl : u136 = vi k := hp136
                  have H := H.addS hu136
                  have Hb := H.full; have H := Hb; clear hc
                  refine s_index un41sol2 ty48sol2 _ H wn rfl rfl rfl (by first | assumption | omega) rfl ?_; clear H; intro a H
                  refine wl_nil ⟨rfl, ?_⟩
                  exact draw_val (by kernel_rfl) hprm30 rfl rfl HT Hb hG hv (fun _ _ h => h) (rfl) H
                · intro Sd_ a w G1 _ hSi hc hG HT hv; have H := HT; clear hSi
                  obtain ⟨u137, hu137, hp137⟩ := hv 7 137 (hc 7 (by decide)) rfl
                  obtain rfl : u137 = .pointer (some ⟨bb, bo + k * 2, none⟩) := hp137
                  have H := H.addS hu137
                  have Hb := H.full; have H := Hb; clear hc
                  refine s_field fd48_0sol2 H wn rfl rfl ?_; clear H; intro a H
                  refine wl_nil ⟨rfl, ?_⟩
                  exact draw_val (by kernel_rfl) hprm30 rfl rfl HT Hb hG hv (fun _ _ h => h) (rfl) H
                · intro Sd_ a w G1 _ hSi hc hG HT hv; have H := HT; clear hSi
                  obtain ⟨u138, hu138, hp138⟩ := hv 8 138 (hc 8 (by decide)) rfl
                  obtain rfl : u138 = .pointer (some ⟨bb, bo + k * 2 + 0, none⟩) := hp138
                  have H := H.addS hu138
                  have Hb := H.full; have H := Hb; clear hc
                  refine s_load ty3sol2 H wn rfl (H.hp.gcell (gcell_mono hG (hrb3 0 _ rfl))) rfl ?_; clear H; intro a H
                  refine wl_nil ⟨rfl, ?_⟩
                  exact draw_val (by kernel_rfl) hprm30 rfl rfl HT Hb hG hv (fun _ _ h => h) (rfl) H
                · intro Sd_ a w G1 _ hSi hc hG HT hv; have H := HT; clear hSi
                  obtain ⟨u134, hu134, hp134⟩ := hv 4 134 (hc 4 (by decide)) rfl
                  obtain rfl : u134 = vi la[i].key := hp134
                  have H := H.addS hu134
                  obtain ⟨u139, hu139, hp139⟩ := hv 9 139 (hc 9 (by decide)) rfl
                  obtain rfl : u139 = vi lb[k].key := hp139
                  have H := H.addS hu139
                  have Hb := H.full; have H := Hb; clear hc
                  refine s_cmp H wn rfl rfl rfl rfl ?_; clear H; intro a H
                  refine wl_nil ⟨rfl, ?_⟩
                  exact draw_val (by kernel_rfl) hprm30 rfl rfl HT Hb hG hv (fun _ _ h => h) (rfl) H
                · intro Sd_ a w G1 _ hSi hc hG HT hv; have H := HT; clear hSi
                  obtain ⟨u140, hu140, hp140⟩ := hv 10 140 (hc 10 (by decide)) rfl
                  obtain rfl : u140 = .bool (decide (la[i].key = lb[k].key)) := hp140
                  have H := H.addS hu140
                  have Hb := H.full; have H := Hb; clear hc
                  refine s_move H wn rfl rfl ?_; clear H; intro a H
                  refine wl_nil ⟨rfl, ?_⟩
                  exact draw_val (by kernel_rfl) hprm30 rfl rfl HT Hb hG hv (fun _ _ h => h) (rfl) H
                · intro Sd_ a w G1 _ hSi hc hG HT hv; have H := HT; clear hSi
                  obtain ⟨u141, hu141, hp141⟩ := hv 11 141 (hc 11 (by decide)) rfl
                  obtain rfl : u141 = .bool (decide (la[i].key = lb[k].key)) := hp141
                  have H := H.addS hu141
                  have Hb := H.full; have H := Hb; clear hc
                  refine s_move H (wg H rfl rfl (decide_eq_true c0)) rfl rfl ?_; clear H; intro a H
                  refine wl_nil ⟨rfl, ?_⟩
                  exact draw_val (by kernel_rfl) hprm30 rfl rfl HT Hb hG hv (fun _ _ h => h) (rfl) H
                · intro Sd_ a w G1 _ hSi hc hG HT hv; have H := HT; clear hSi
                  obtain ⟨u141, hu141, hp141⟩ := hv 11 141 (hc 11 (by decide)) rfl
                  obtain rfl : u141 = .bool (decide (la[i].key = lb[k].key)) := hp141
                  have H := H.addS hu141
                  have Hb := H.full; have H := Hb; clear hc
                  refine s_move H (wg H rfl rfl (decide_eq_true c0)) rfl rfl ?_; clear H; intro a H
                  refine wl_nil ⟨rfl, ?_⟩
                  exact draw_val (by kernel_rfl) hprm30 rfl rfl HT Hb hG hv (fun _ _ h => h) (rfl) H
                · intro Sd_ a w G1 _ hSi hc hG HT hv; have H := HT; clear hSi
                  obtain ⟨u142, hu142, hp142⟩ := hv 12 142 (hc 12 (by decide)) rfl
                  obtain rfl : u142 = vi (sol la lb (i + 1) (k + 1) + wtT la[i] lb[k]) := hp142
                  have H := H.addS hu142
                  obtain ⟨u143, hu143, hp143⟩ := hv 13 143 (hc 13 (by decide)) rfl
                  obtain rfl : u143 = vi mx := hp143
                  have H := H.addS hu143
                  obtain ⟨u141, hu141, hp141⟩ := hv 11 141 (hc 11 (by decide)) rfl
                  obtain rfl : u141 = .bool (decide (la[i].key = lb[k].key)) := hp141
                  have H := H.addS hu141
                  have Hb := H.full; have H := Hb; clear hc
                  refine s_cmp H (wg H rfl rfl (decide_eq_true c0)) rfl rfl rfl rfl ?_; clear H; intro a H
                  refine wl_nil ⟨rfl, ?_⟩
                  exact draw_val (by kernel_rfl) hprm30 rfl rfl HT Hb hG hv (fun _ _ h => h) (rfl) H
                intro Sd_ a w G1 _ hSi hc hG HT hv; have H := HT; clear hSi
                obtain ⟨u141, hu141, hp141⟩ := hv 11 141 (hc 11 (by decide)) rfl
                obtain rfl : u141 = .bool (decide (la[i].key = lb[k].key)) := hp141
                have H := H.addS hu141
                obtain ⟨u144, hu144, hp144⟩ := hv 14 144 (hc 14 (by decide)) rfl
                obtain rfl : u144 = .bool (decide (sol la lb (i + 1) (k + 1) + wtT la[i] lb[k] ≥ mx)) := hp144
                have H := H.addS hu144
                have Hb := H.full; have H := Hb; clear hc
                refine s_pick_t H wn rfl (decide_eq_true c0) rfl rfl ?_; clear H; intro a H
                refine wl_nil ⟨rfl, ?_⟩
                exact draw_val (by kernel_rfl) hprm30 rfl rfl HT Hb hG hv (fun _ _ h => h) (rfl) H
              clear H; intro a w G hGm30 H hv
              obtain ⟨u145, hu145, hp145⟩ := hv 15 145 (by decide) rfl
              obtain rfl : u145 = .bool (decide (sol la lb (i + 1) (k + 1) + wtT la[i] lb[k] ≥ mx)) := hp145
              have H := H.addS hu145
              clear hv
              refine wl_nil ⟨rfl, ?_⟩
              refine hK43 _ _ ?_; clear hK43
              refine c_cond_t H rfl (decide_eq_true c1) ?_
              refine c_region ?_
              refine s_move H wn rfl rfl ?_; clear H; intro a H
              refine s_assign H wn rfl rfl ?_; clear H; intro a H
              refine s_assign H wn rfl rfl ?_; clear H; intro a H
              refine wl_nil ?_
              refine hK35 _ _ ?_; clear hK35
              first | (have hgm5 := fun b o h => hGm30 b o (hgm6 b o h)) | (have hgm5 := hgm3)
              refine c_region ?_
              refine s_move H wn rfl rfl ?_; clear H; intro a H
              refine s_indexArr un107sol2 ty32sol2 s H wn rfl rfl rfl hs2 rfl ?_; clear H; intro a H
              refine s_load ty32sol2 H wn rfl (H.hp.ocell 2 rfl (two_cells (x := fun t => fc (rN t) W) hs2)) rfl ?_; clear H; intro a H
              refine s_move H wn rfl rfl ?_; clear H; intro a H
              refine s_move H wn rfl rfl ?_; clear H; intro a H
              refine s_move H wn rfl rfl ?_; clear H; intro a H
              refine s_move H wn rfl rfl ?_; clear H; intro a H
              refine s_move H wn rfl rfl ?_; clear H; intro a H
              have H := H.wkOut hs2
              refine s_callL en52sol2 (Li := [_, _, _] ++ wkR C rN qN X3 R3 Q s) (L := [_, _, _]) H wn rfl (set_spec _ _ (Hp.owns (Li := [_, _, _] ++ wkR C rN qN X3 R3 Q s) H.hp) hs2 (cho_cell (x := fun t => fc (C t) M) hs2) hkW (hmid.1 s hs2).1 (hX3 s hs2) hiW (by omega) (by omega) (by omega)) rfl ?_; clear H
              rintro v155 G4 L155 a w rfl hm155 H
              have hgm4 := fun b o h => hm155 b o (hgm5 b o h)
              obtain ⟨X4, R4, hX4, hR4, H⟩ := St.wkStep hs2 hmid hkW hX3 (by first | omega | (rw [sol_in hi2 hk3]; split <;> omega)) (by rw [List.length_set]; exact hX3 s hs2) H
              refine wl_nil ?_
              refine hK24 _ _ ?_; clear hK24
              refine c_region ?_
              refine s_add _ H wn rfl rfl rfl (by omega) (by omega) rfl ?_; clear H; intro a H
              refine s_move H wn rfl rfl ?_; clear H; intro a H
              refine wl_nil ?_
              refine loop_end ((s + 1, X4, R4, G4)) (by exact (H).sub ⟨rfl, rfl, rfl, rfl, rfl, rfl, rfl, rfl, rfl, rfl, trivial⟩) ?_ ?_
              · try dsimp only
                exact ⟨by omega, hX4, hR4, hgm4⟩
              first | omega | (dsimp only; omega)
            skip
            have hprm30 : ∀ (ix_ : Nat) (v : Value) (G G' : GH), (∀ k o, G k = some o → G' k = some o) → (fun (ix_ : Nat) (v : Value) (G : GH) => match ix_ with | 0 => v = .slice (some ⟨ab, ao, none⟩) la.length vc | 1 => v = vi i | 2 => v = .pointer (some ⟨ab, ao + i * 2, none⟩) | 3 => v = .pointer (some ⟨ab, ao + i * 2 + 0, none⟩) | 4 => v = vi la[i].key | 5 => v = .slice (some ⟨bb, bo, none⟩) lb.length uc | 6 => v = vi k | 7 => v = .pointer (some ⟨bb, bo + k * 2, none⟩) | 8 => v = .pointer (some ⟨bb, bo + k * 2 + 0, none⟩) | 9 => v = vi lb[k].key | 10 => v = .bool (decide (la[i].key = lb[k].key)) | 11 => v = .bool (decide (la[i].key = lb[k].key)) | 12 => v = vi (sol la lb (i + 1) (k + 1) + wtT la[i] lb[k]) | 13 => v = vi mx | 14 => v = .bool (decide (sol la lb (i + 1) (k + 1) + wtT la[i] lb[k] ≥ mx)) | 15 => v = .bool (decide (sol la lb (i + 1) (k + 1) + wtT la[i] lb[k] ≥ mx)) | _ => True) ix_ v G → (fun (ix_ : Nat) (v : Value) (G : GH) => match ix_ with | 0 => v = .slice (some ⟨ab, ao, none⟩) la.length vc | 1 => v = vi i | 2 => v = .pointer (some ⟨ab, ao + i * 2, none⟩) | 3 => v = .pointer (some ⟨ab, ao + i * 2 + 0, none⟩) | 4 => v = vi la[i].key | 5 => v = .slice (some ⟨bb, bo, none⟩) lb.length uc | 6 => v = vi k | 7 => v = .pointer (some ⟨bb, bo + k * 2, none⟩) | 8 => v = .pointer (some ⟨bb, bo + k * 2 + 0, none⟩) | 9 => v = vi lb[k].key | 10 => v = .bool (decide (la[i].key = lb[k].key)) | 11 => v = .bool (decide (la[i].key = lb[k].key)) | 12 => v = vi (sol la lb (i + 1) (k + 1) + wtT la[i] lb[k]) | 13 => v = vi mx | 14 => v = .bool (decide (sol la lb (i + 1) (k + 1) + wtT la[i] lb[k] ≥ mx)) | 15 => v = .bool (decide (sol la lb (i + 1) (k + 1) + wtT la[i] lb[k] ≥ mx)) | _ => True) ix_ v G' := by
              intro ix_ v G G' hm h
              match ix_, h with
              | 0, h => exact h
              | 1, h => exact h
              | 2, h => exact h
              | 3, h => exact h
              | 4, h => exact h
              | 5, h => exact h
              | 6, h => exact h
              | 7, h => exact h
              | 8, h => exact h
              | 9, h => exact h
              | 10, h => exact h
              | 11, h => exact h
              | 12, h => exact h
              | 13, h => exact h
              | 14, h => exact h
              | 15, h => exact h
              | _ + 16, h => exact trivial
            refine c_drawI (hmxb) [[], [], [0, 1], [0, 1, 2], [0, 1, 2, 3], [], [], [5, 6], [5, 6, 7], [5, 6, 7, 8], [0, 1, 2, 3, 4, 5, 6, 7, 8, 9], [0, 1, 2, 3, 4, 5, 6, 7, 8, 9, 10], [0, 1, 2, 3, 4, 5, 6, 7, 8, 9, 10, 11], [0, 1, 2, 3, 4, 5, 6, 7, 8, 9, 10, 11], [0, 1, 2, 3, 4, 5, 6, 7, 8, 9, 10, 11, 12, 13], [0, 1, 2, 3, 4, 5, 6, 7, 8, 9, 10, 11, 12, 13, 14]] [] (by kernel_rfl) (by kernel_rfl) (fun (ix_ : Nat) (v : Value) (G : GH) => match ix_ with | 0 => v = .slice (some ⟨ab, ao, none⟩) la.length vc | 1 => v = vi i | 2 => v = .pointer (some ⟨ab, ao + i * 2, none⟩) | 3 => v = .pointer (some ⟨ab, ao + i * 2 + 0, none⟩) | 4 => v = vi la[i].key | 5 => v = .slice (some ⟨bb, bo, none⟩) lb.length uc | 6 => v = vi k | 7 => v = .pointer (some ⟨bb, bo + k * 2, none⟩) | 8 => v = .pointer (some ⟨bb, bo + k * 2 + 0, none⟩) | 9 => v = vi lb[k].key | 10 => v = .bool (decide (la[i].key = lb[k].key)) | 11 => v = .bool (decide (la[i].key = lb[k].key)) | 12 => v = vi (sol la lb (i + 1) (k + 1) + wtT la[i] lb[k]) | 13 => v = vi mx | 14 => v = .bool (decide (sol la lb (i + 1) (k + 1) + wtT la[i] lb[k] ≥ mx)) | 15 => v = .bool (decide (sol la lb (i + 1) (k + 1) + wtT la[i] lb[k] ≥ mx)) | _ => True) hprm30 H ?_ ?_
            · clear H; refine (allI_cons ?_ (allI_cons ?_ (allI_cons ?_ (allI_cons ?_ (allI_cons ?_ (allI_cons ?_ (allI_cons ?_ (allI_cons ?_ (allI_cons ?_ (allI_cons ?_ (allI_cons ?_ (allI_cons ?_ (allI_cons ?_ (allI_cons ?_ (allI_cons ?_ (allI_cons ?_ allI_nil))))))))))))))))
              · intro Sd_ a w G1 _ hSi hc hG HT hv; have H := HT; clear hSi
                have Hb := H.full; have H := Hb; clear hc
                refine s_move H wn rfl rfl ?_; clear H; intro a H
                refine wl_nil ⟨rfl, ?_⟩
                exact draw_val (by kernel_rfl) hprm30 rfl rfl HT Hb hG hv (fun _ _ h => h) (rfl) H
              · intro Sd_ a w G1 _ hSi hc hG HT hv; have H := HT; clear hSi
                have Hb := H.full; have H := Hb; clear hc
                refine s_move H wn rfl rfl ?_; clear H; intro a H
                refine wl_nil ⟨rfl, ?_⟩
                exact draw_val (by kernel_rfl) hprm30 rfl rfl HT Hb hG hv (fun _ _ h => h) (rfl) H
              · intro Sd_ a w G1 _ hSi hc hG HT hv; have H := HT; clear hSi
                obtain ⟨u130, hu130, hp130⟩ := hv 0 130 (hc 0 (by decide)) rfl
                obtain rfl : u130 = .slice (some ⟨ab, ao, none⟩) la.length vc := hp130
                have H := H.addS hu130
                obtain ⟨u131, hu131, hp131⟩ := hv 1 131 (hc 1 (by decide)) rfl
                obtain rfl : u131 = vi i := hp131
                have H := H.addS hu131
                have Hb := H.full; have H := Hb; clear hc
                refine s_index un41sol2 ty48sol2 _ H wn rfl rfl rfl (by first | assumption | omega) rfl ?_; clear H; intro a H
                refine wl_nil ⟨rfl, ?_⟩
                exact draw_val (by kernel_rfl) hprm30 rfl rfl HT Hb hG hv (fun _ _ h => h) (rfl) H
              · intro Sd_ a w G1 _ hSi hc hG HT hv; have H := HT; clear hSi
                obtain ⟨u132, hu132, hp132⟩ := hv 2 132 (hc 2 (by decide)) rfl
                obtain rfl : u132 = .pointer (some ⟨ab, ao + i * 2, none⟩) := hp132
                have H := H.addS hu132
                have Hb := H.full; have H := Hb; clear hc
                refine s_field fd48_0sol2 H wn rfl rfl ?_; clear H; intro a H
                refine wl_nil ⟨rfl, ?_⟩
                exact draw_val (by kernel_rfl) hprm30 rfl rfl HT Hb hG hv (fun _ _ h => h) (rfl) H
              · intro Sd_ a w G1 _ hSi hc hG HT hv; have H := HT; clear hSi
                obtain ⟨u133, hu133, hp133⟩ := hv 3 133 (hc 3 (by decide)) rfl
                obtain rfl : u133 = .pointer (some ⟨ab, ao + i * 2 + 0, none⟩) := hp133
                have H := H.addS hu133
                have Hb := H.full; have H := Hb; clear hc
                refine s_load ty3sol2 H wn rfl (H.hp.gcell (gcell_mono hG (hra3 0 _ rfl))) rfl ?_; clear H; intro a H
                refine wl_nil ⟨rfl, ?_⟩
                exact draw_val (by kernel_rfl) hprm30 rfl rfl HT Hb hG hv (fun _ _ h => h) (rfl) H
              · intro Sd_ a w G1 _ hSi hc hG HT hv; have H := HT; clear hSi
                have Hb := H.full; have H := Hb; clear hc
                refine s_move H wn rfl rfl ?_; clear H; intro a H
                refine wl_nil ⟨rfl, ?_⟩
                exact draw_val (by kernel_rfl) hprm30 rfl rfl HT Hb hG hv (fun _ _ h => h) (rfl) H
              · intro Sd_ a w G1 _ hSi hc hG HT hv; have H := HT; clear hSi
                have Hb := H.full; have H := Hb; clear hc
                refine s_move H wn rfl rfl ?_; clear H; intro a H
                refine wl_nil ⟨rfl, ?_⟩
                exact draw_val (by kernel_rfl) hprm30 rfl rfl HT Hb hG hv (fun _ _ h => h) (rfl) H
              · intro Sd_ a w G1 _ hSi hc hG HT hv; have H := HT; clear hSi
                obtain ⟨u135, hu135, hp135⟩ := hv 5 135 (hc 5 (by decide)) rfl
                obtain rfl : u135 = .slice (some ⟨bb, bo, none⟩) lb.length uc := hp135
                have H := H.addS hu135
                obtain ⟨u136, hu136, hp136⟩ := hv 6 136 (hc 6 (by decide)) rfl
                obtain rfl : u136 = vi k := hp136
                have H := H.addS hu136
                have Hb := H.full; have H := Hb; clear hc
                refine s_index un41sol2 ty48sol2 _ H wn rfl rfl rfl (by first | assumption | omega) rfl ?_; clear H; intro a H
                refine wl_nil ⟨rfl, ?_⟩
                exact draw_val (by kernel_rfl) hprm30 rfl rfl HT Hb hG hv (fun _ _ h => h) (rfl) H
              · intro Sd_ a w G1 _ hSi hc hG HT hv; have H := HT; clear hSi
                obtain ⟨u137, hu137, hp137⟩ := hv 7 137 (hc 7 (by decide)) rfl
                obtain rfl : u137 = .pointer (some ⟨bb, bo + k * 2, none⟩) := hp137
                have H := H.addS hu137
                have Hb := H.full; have H := Hb; clear hc
                refine s_field fd48_0sol2 H wn rfl rfl ?_; clear H; intro a H
                refine wl_nil ⟨rfl, ?_⟩
                exact draw_val (by kernel_rfl) hprm30 rfl rfl HT Hb hG hv (fun _ _ h => h) (rfl) H
              · intro Sd_ a w G1 _ hSi hc hG HT hv; have H := HT; clear hSi
                obtain ⟨u138, hu138, hp138⟩ := hv 8 138 (hc 8 (by decide)) rfl
                obtain rfl : u138 = .pointer (some ⟨bb, bo + k * 2 + 0, none⟩) := hp138
                have H := H.addS hu138
                have Hb := H.full; have H := Hb; clear hc
                refine s_load ty3sol2 H wn rfl (H.hp.gcell (gcell_mono hG (hrb3 0 _ rfl))) rfl ?_; clear H; intro a H
                refine wl_nil ⟨rfl, ?_⟩
                exact draw_val (by kernel_rfl) hprm30 rfl rfl HT Hb hG hv (fun _ _ h => h) (rfl) H
              · intro Sd_ a w G1 _ hSi hc hG HT hv; have H := HT; clear hSi
                obtain ⟨u134, hu134, hp134⟩ := hv 4 134 (hc 4 (by decide)) rfl
                obtain rfl : u134 = vi la[i].key := hp134
                have H := H.addS hu134
                obtain ⟨u139, hu139, hp139⟩ := hv 9 139 (hc 9 (by decide)) rfl
                obtain rfl : u139 = vi lb[k].key := hp139
                have H := H.addS hu139
                have Hb := H.full; have H := Hb; clear hc
                refine s_cmp H wn rfl rfl rfl rfl ?_; clear H; intro a H
                refine wl_nil ⟨rfl, ?_⟩
                exact draw_val (by kernel_rfl) hprm30 rfl rfl HT Hb hG hv (fun _ _ h => h) (rfl) H
              · intro Sd_ a w G1 _ hSi hc hG HT hv; have H := HT; clear hSi
                obtain ⟨u140, hu140, hp140⟩ := hv 10 140 (hc 10 (by decide)) rfl
                obtain rfl : u140 = .bool (decide (la[i].key = lb[k].key)) := hp140
                have H := H.addS hu140
                have Hb := H.full; have H := Hb; clear hc
                refine s_move H wn rfl rfl ?_; clear H; intro a H
                refine wl_nil ⟨rfl, ?_⟩
                exact draw_val (by kernel_rfl) hprm30 rfl rfl HT Hb hG hv (fun _ _ h => h) (rfl) H
              · intro Sd_ a w G1 _ hSi hc hG HT hv; have H := HT; clear hSi
                obtain ⟨u141, hu141, hp141⟩ := hv 11 141 (hc 11 (by decide)) rfl
                obtain rfl : u141 = .bool (decide (la[i].key = lb[k].key)) := hp141
                have H := H.addS hu141
                have Hb := H.full; have H := Hb; clear hc
                refine s_move H (wg H rfl rfl (decide_eq_true c0)) rfl rfl ?_; clear H; intro a H
                refine wl_nil ⟨rfl, ?_⟩
                exact draw_val (by kernel_rfl) hprm30 rfl rfl HT Hb hG hv (fun _ _ h => h) (rfl) H
              · intro Sd_ a w G1 _ hSi hc hG HT hv; have H := HT; clear hSi
                obtain ⟨u141, hu141, hp141⟩ := hv 11 141 (hc 11 (by decide)) rfl
                obtain rfl : u141 = .bool (decide (la[i].key = lb[k].key)) := hp141
                have H := H.addS hu141
                have Hb := H.full; have H := Hb; clear hc
                refine s_move H (wg H rfl rfl (decide_eq_true c0)) rfl rfl ?_; clear H; intro a H
                refine wl_nil ⟨rfl, ?_⟩
                exact draw_val (by kernel_rfl) hprm30 rfl rfl HT Hb hG hv (fun _ _ h => h) (rfl) H
              · intro Sd_ a w G1 _ hSi hc hG HT hv; have H := HT; clear hSi
                obtain ⟨u142, hu142, hp142⟩ := hv 12 142 (hc 12 (by decide)) rfl
                obtain rfl : u142 = vi (sol la lb (i + 1) (k + 1) + wtT la[i] lb[k]) := hp142
                have H := H.addS hu142
                obtain ⟨u143, hu143, hp143⟩ := hv 13 143 (hc 13 (by decide)) rfl
                obtain rfl : u143 = vi mx := hp143
                have H := H.addS hu143
                obtain ⟨u141, hu141, hp141⟩ := hv 11 141 (hc 11 (by decide)) rfl
                obtain rfl : u141 = .bool (decide (la[i].key = lb[k].key)) := hp141
                have H := H.addS hu141
                have Hb := H.full; have H := Hb; clear hc
                refine s_cmp H (wg H rfl rfl (decide_eq_true c0)) rfl rfl rfl rfl ?_; clear H; intro a H
                refine wl_nil ⟨rfl, ?_⟩
                exact draw_val (by kernel_rfl) hprm30 rfl rfl HT Hb hG hv (fun _ _ h => h) (rfl) H
              intro Sd_ a w G1 _ hSi hc hG HT hv; have H := HT; clear hSi
              obtain ⟨u141, hu141, hp141⟩ := hv 11 141 (hc 11 (by decide)) rfl
              obtain rfl : u141 = .bool (decide (la[i].key = lb[k].key)) := hp141
              have H := H.addS hu141
              obtain ⟨u144, hu144, hp144⟩ := hv 14 144 (hc 14 (by decide)) rfl
              obtain rfl : u144 = .bool (decide (sol la lb (i + 1) (k + 1) + wtT la[i] lb[k] ≥ mx)) := hp144
              have H := H.addS hu144
              have Hb := H.full; have H := Hb; clear hc
              refine s_pick_t H wn rfl (decide_eq_true c0) rfl rfl ?_; clear H; intro a H
              refine wl_nil ⟨rfl, ?_⟩
              exact draw_val (by kernel_rfl) hprm30 rfl rfl HT Hb hG hv (fun _ _ h => h) (rfl) H
            clear H; intro a w G hGm30 H hv
            obtain ⟨u145, hu145, hp145⟩ := hv 15 145 (by decide) rfl
            obtain rfl : u145 = .bool (decide (sol la lb (i + 1) (k + 1) + wtT la[i] lb[k] ≥ mx)) := hp145
            have H := H.addS hu145
            clear hv
            refine wl_nil ⟨rfl, ?_⟩
            refine hK43 _ _ ?_; clear hK43
            refine c_cond_f H rfl (decide_eq_false c1) ?_
            refine c_skip ?_
            refine hK35 _ _ ?_; clear hK35
            first | (have hgm5 := fun b o h => hGm30 b o (hgm6 b o h)) | (have hgm5 := hgm3)
            refine c_region ?_
            refine s_move H wn rfl rfl ?_; clear H; intro a H
            refine s_indexArr un107sol2 ty32sol2 s H wn rfl rfl rfl hs2 rfl ?_; clear H; intro a H
            refine s_load ty32sol2 H wn rfl (H.hp.ocell 2 rfl (two_cells (x := fun t => fc (rN t) W) hs2)) rfl ?_; clear H; intro a H
            refine s_move H wn rfl rfl ?_; clear H; intro a H
            refine s_move H wn rfl rfl ?_; clear H; intro a H
            refine s_move H wn rfl rfl ?_; clear H; intro a H
            refine s_move H wn rfl rfl ?_; clear H; intro a H
            refine s_move H wn rfl rfl ?_; clear H; intro a H
            have H := H.wkOut hs2
            refine s_callL en52sol2 (Li := [_, _, _] ++ wkR C rN qN X3 R3 Q s) (L := [_, _, _]) H wn rfl (set_spec _ _ (Hp.owns (Li := [_, _, _] ++ wkR C rN qN X3 R3 Q s) H.hp) hs2 (cho_cell (x := fun t => fc (C t) M) hs2) hkW (hmid.1 s hs2).1 (hX3 s hs2) hiW (by omega) (by omega) (by omega)) rfl ?_; clear H
            rintro v155 G4 L155 a w rfl hm155 H
            have hgm4 := fun b o h => hm155 b o (hgm5 b o h)
            obtain ⟨X4, R4, hX4, hR4, H⟩ := St.wkStep hs2 hmid hkW hX3 (by first | omega | (rw [sol_in hi2 hk3]; split <;> omega)) (by rw [List.length_set]; exact hX3 s hs2) H
            refine wl_nil ?_
            refine hK24 _ _ ?_; clear hK24
            refine c_region ?_
            refine s_add _ H wn rfl rfl rfl (by omega) (by omega) rfl ?_; clear H; intro a H
            refine s_move H wn rfl rfl ?_; clear H; intro a H
            refine wl_nil ?_
            refine loop_end ((s + 1, X4, R4, G4)) (by exact (H).sub ⟨rfl, rfl, rfl, rfl, rfl, rfl, rfl, rfl, rfl, rfl, trivial⟩) ?_ ?_
            · try dsimp only
              exact ⟨by omega, hX4, hR4, hgm4⟩
            first | omega | (dsimp only; omega)
          skip
          have hprm30 : ∀ (ix_ : Nat) (v : Value) (G G' : GH), (∀ k o, G k = some o → G' k = some o) → (fun (ix_ : Nat) (v : Value) (G : GH) => match ix_ with | 0 => v = .slice (some ⟨ab, ao, none⟩) la.length vc | 1 => v = vi i | 2 => v = .pointer (some ⟨ab, ao + i * 2, none⟩) | 3 => v = .pointer (some ⟨ab, ao + i * 2 + 0, none⟩) | 4 => v = vi la[i].key | 5 => v = .slice (some ⟨bb, bo, none⟩) lb.length uc | 6 => v = vi k | 7 => v = .pointer (some ⟨bb, bo + k * 2, none⟩) | 8 => v = .pointer (some ⟨bb, bo + k * 2 + 0, none⟩) | 9 => v = vi lb[k].key | 10 => v = .bool (decide (la[i].key = lb[k].key)) | 11 => v = .bool (decide (la[i].key = lb[k].key)) | 12 => v = undef | 13 => v = undef | 14 => v = undef | 15 => v = .bool false | _ => True) ix_ v G → (fun (ix_ : Nat) (v : Value) (G : GH) => match ix_ with | 0 => v = .slice (some ⟨ab, ao, none⟩) la.length vc | 1 => v = vi i | 2 => v = .pointer (some ⟨ab, ao + i * 2, none⟩) | 3 => v = .pointer (some ⟨ab, ao + i * 2 + 0, none⟩) | 4 => v = vi la[i].key | 5 => v = .slice (some ⟨bb, bo, none⟩) lb.length uc | 6 => v = vi k | 7 => v = .pointer (some ⟨bb, bo + k * 2, none⟩) | 8 => v = .pointer (some ⟨bb, bo + k * 2 + 0, none⟩) | 9 => v = vi lb[k].key | 10 => v = .bool (decide (la[i].key = lb[k].key)) | 11 => v = .bool (decide (la[i].key = lb[k].key)) | 12 => v = undef | 13 => v = undef | 14 => v = undef | 15 => v = .bool false | _ => True) ix_ v G' := by
            intro ix_ v G G' hm h
            match ix_, h with
            | 0, h => exact h
            | 1, h => exact h
            | 2, h => exact h
            | 3, h => exact h
            | 4, h => exact h
            | 5, h => exact h
            | 6, h => exact h
            | 7, h => exact h
            | 8, h => exact h
            | 9, h => exact h
            | 10, h => exact h
            | 11, h => exact h
            | 12, h => exact h
            | 13, h => exact h
            | 14, h => exact h
            | 15, h => exact h
            | _ + 16, h => exact trivial
          refine c_drawI (hmxb) [[], [], [0, 1], [0, 1, 2], [0, 1, 2, 3], [], [], [5, 6], [5, 6, 7], [5, 6, 7, 8], [0, 1, 2, 3, 4, 5, 6, 7, 8, 9], [0, 1, 2, 3, 4, 5, 6, 7, 8, 9, 10], [0, 1, 2, 3, 4, 5, 6, 7, 8, 9, 10, 11], [0, 1, 2, 3, 4, 5, 6, 7, 8, 9, 10, 11], [0, 1, 2, 3, 4, 5, 6, 7, 8, 9, 10, 11, 12, 13], [0, 1, 2, 3, 4, 5, 6, 7, 8, 9, 10, 11, 12, 13, 14]] [] (by kernel_rfl) (by kernel_rfl) (fun (ix_ : Nat) (v : Value) (G : GH) => match ix_ with | 0 => v = .slice (some ⟨ab, ao, none⟩) la.length vc | 1 => v = vi i | 2 => v = .pointer (some ⟨ab, ao + i * 2, none⟩) | 3 => v = .pointer (some ⟨ab, ao + i * 2 + 0, none⟩) | 4 => v = vi la[i].key | 5 => v = .slice (some ⟨bb, bo, none⟩) lb.length uc | 6 => v = vi k | 7 => v = .pointer (some ⟨bb, bo + k * 2, none⟩) | 8 => v = .pointer (some ⟨bb, bo + k * 2 + 0, none⟩) | 9 => v = vi lb[k].key | 10 => v = .bool (decide (la[i].key = lb[k].key)) | 11 => v = .bool (decide (la[i].key = lb[k].key)) | 12 => v = undef | 13 => v = undef | 14 => v = undef | 15 => v = .bool false | _ => True) hprm30 H ?_ ?_
          · clear H; refine (allI_cons ?_ (allI_cons ?_ (allI_cons ?_ (allI_cons ?_ (allI_cons ?_ (allI_cons ?_ (allI_cons ?_ (allI_cons ?_ (allI_cons ?_ (allI_cons ?_ (allI_cons ?_ (allI_cons ?_ (allI_cons ?_ (allI_cons ?_ (allI_cons ?_ (allI_cons ?_ allI_nil))))))))))))))))
            · intro Sd_ a w G1 _ hSi hc hG HT hv; have H := HT; clear hSi
              have Hb := H.full; have H := Hb; clear hc
              refine s_move H wn rfl rfl ?_; clear H; intro a H
              refine wl_nil ⟨rfl, ?_⟩
              exact draw_val (by kernel_rfl) hprm30 rfl rfl HT Hb hG hv (fun _ _ h => h) (rfl) H
            · intro Sd_ a w G1 _ hSi hc hG HT hv; have H := HT; clear hSi
              have Hb := H.full; have H := Hb; clear hc
              refine s_move H wn rfl rfl ?_; clear H; intro a H
              refine wl_nil ⟨rfl, ?_⟩
              exact draw_val (by kernel_rfl) hprm30 rfl rfl HT Hb hG hv (fun _ _ h => h) (rfl) H
            · intro Sd_ a w G1 _ hSi hc hG HT hv; have H := HT; clear hSi
              obtain ⟨u130, hu130, hp130⟩ := hv 0 130 (hc 0 (by decide)) rfl
              obtain rfl : u130 = .slice (some ⟨ab, ao, none⟩) la.length vc := hp130
              have H := H.addS hu130
              obtain ⟨u131, hu131, hp131⟩ := hv 1 131 (hc 1 (by decide)) rfl
              obtain rfl : u131 = vi i := hp131
              have H := H.addS hu131
              have Hb := H.full; have H := Hb; clear hc
              refine s_index un41sol2 ty48sol2 _ H wn rfl rfl rfl (by first | assumption | omega) rfl ?_; clear H; intro a H
              refine wl_nil ⟨rfl, ?_⟩
              exact draw_val (by kernel_rfl) hprm30 rfl rfl HT Hb hG hv (fun _ _ h => h) (rfl) H
            · intro Sd_ a w G1 _ hSi hc hG HT hv; have H := HT; clear hSi
              obtain ⟨u132, hu132, hp132⟩ := hv 2 132 (hc 2 (by decide)) rfl
              obtain rfl : u132 = .pointer (some ⟨ab, ao + i * 2, none⟩) := hp132
              have H := H.addS hu132
              have Hb := H.full; have H := Hb; clear hc
              refine s_field fd48_0sol2 H wn rfl rfl ?_; clear H; intro a H
              refine wl_nil ⟨rfl, ?_⟩
              exact draw_val (by kernel_rfl) hprm30 rfl rfl HT Hb hG hv (fun _ _ h => h) (rfl) H
            · intro Sd_ a w G1 _ hSi hc hG HT hv; have H := HT; clear hSi
              obtain ⟨u133, hu133, hp133⟩ := hv 3 133 (hc 3 (by decide)) rfl
              obtain rfl : u133 = .pointer (some ⟨ab, ao + i * 2 + 0, none⟩) := hp133
              have H := H.addS hu133
              have Hb := H.full; have H := Hb; clear hc
              refine s_load ty3sol2 H wn rfl (H.hp.gcell (gcell_mono hG (hra3 0 _ rfl))) rfl ?_; clear H; intro a H
              refine wl_nil ⟨rfl, ?_⟩
              exact draw_val (by kernel_rfl) hprm30 rfl rfl HT Hb hG hv (fun _ _ h => h) (rfl) H
            · intro Sd_ a w G1 _ hSi hc hG HT hv; have H := HT; clear hSi
              have Hb := H.full; have H := Hb; clear hc
              refine s_move H wn rfl rfl ?_; clear H; intro a H
              refine wl_nil ⟨rfl, ?_⟩
              exact draw_val (by kernel_rfl) hprm30 rfl rfl HT Hb hG hv (fun _ _ h => h) (rfl) H
            · intro Sd_ a w G1 _ hSi hc hG HT hv; have H := HT; clear hSi
              have Hb := H.full; have H := Hb; clear hc
              refine s_move H wn rfl rfl ?_; clear H; intro a H
              refine wl_nil ⟨rfl, ?_⟩
              exact draw_val (by kernel_rfl) hprm30 rfl rfl HT Hb hG hv (fun _ _ h => h) (rfl) H
            · intro Sd_ a w G1 _ hSi hc hG HT hv; have H := HT; clear hSi
              obtain ⟨u135, hu135, hp135⟩ := hv 5 135 (hc 5 (by decide)) rfl
              obtain rfl : u135 = .slice (some ⟨bb, bo, none⟩) lb.length uc := hp135
              have H := H.addS hu135
              obtain ⟨u136, hu136, hp136⟩ := hv 6 136 (hc 6 (by decide)) rfl
              obtain rfl : u136 = vi k := hp136
              have H := H.addS hu136
              have Hb := H.full; have H := Hb; clear hc
              refine s_index un41sol2 ty48sol2 _ H wn rfl rfl rfl (by first | assumption | omega) rfl ?_; clear H; intro a H
              refine wl_nil ⟨rfl, ?_⟩
              exact draw_val (by kernel_rfl) hprm30 rfl rfl HT Hb hG hv (fun _ _ h => h) (rfl) H
            · intro Sd_ a w G1 _ hSi hc hG HT hv; have H := HT; clear hSi
              obtain ⟨u137, hu137, hp137⟩ := hv 7 137 (hc 7 (by decide)) rfl
              obtain rfl : u137 = .pointer (some ⟨bb, bo + k * 2, none⟩) := hp137
              have H := H.addS hu137
              have Hb := H.full; have H := Hb; clear hc
              refine s_field fd48_0sol2 H wn rfl rfl ?_; clear H; intro a H
              refine wl_nil ⟨rfl, ?_⟩
              exact draw_val (by kernel_rfl) hprm30 rfl rfl HT Hb hG hv (fun _ _ h => h) (rfl) H
            · intro Sd_ a w G1 _ hSi hc hG HT hv; have H := HT; clear hSi
              obtain ⟨u138, hu138, hp138⟩ := hv 8 138 (hc 8 (by decide)) rfl
              obtain rfl : u138 = .pointer (some ⟨bb, bo + k * 2 + 0, none⟩) := hp138
              have H := H.addS hu138
              have Hb := H.full; have H := Hb; clear hc
              refine s_load ty3sol2 H wn rfl (H.hp.gcell (gcell_mono hG (hrb3 0 _ rfl))) rfl ?_; clear H; intro a H
              refine wl_nil ⟨rfl, ?_⟩
              exact draw_val (by kernel_rfl) hprm30 rfl rfl HT Hb hG hv (fun _ _ h => h) (rfl) H
            · intro Sd_ a w G1 _ hSi hc hG HT hv; have H := HT; clear hSi
              obtain ⟨u134, hu134, hp134⟩ := hv 4 134 (hc 4 (by decide)) rfl
              obtain rfl : u134 = vi la[i].key := hp134
              have H := H.addS hu134
              obtain ⟨u139, hu139, hp139⟩ := hv 9 139 (hc 9 (by decide)) rfl
              obtain rfl : u139 = vi lb[k].key := hp139
              have H := H.addS hu139
              have Hb := H.full; have H := Hb; clear hc
              refine s_cmp H wn rfl rfl rfl rfl ?_; clear H; intro a H
              refine wl_nil ⟨rfl, ?_⟩
              exact draw_val (by kernel_rfl) hprm30 rfl rfl HT Hb hG hv (fun _ _ h => h) (rfl) H
            · intro Sd_ a w G1 _ hSi hc hG HT hv; have H := HT; clear hSi
              obtain ⟨u140, hu140, hp140⟩ := hv 10 140 (hc 10 (by decide)) rfl
              obtain rfl : u140 = .bool (decide (la[i].key = lb[k].key)) := hp140
              have H := H.addS hu140
              have Hb := H.full; have H := Hb; clear hc
              refine s_move H wn rfl rfl ?_; clear H; intro a H
              refine wl_nil ⟨rfl, ?_⟩
              exact draw_val (by kernel_rfl) hprm30 rfl rfl HT Hb hG hv (fun _ _ h => h) (rfl) H
            · intro Sd_ a w G1 _ hSi hc hG HT hv; have H := HT; clear hSi
              obtain ⟨u141, hu141, hp141⟩ := hv 11 141 (hc 11 (by decide)) rfl
              obtain rfl : u141 = .bool (decide (la[i].key = lb[k].key)) := hp141
              have H := H.addS hu141
              have Hb := H.full; have H := Hb; clear hc
              refine s_skip H rfl rfl (decide_eq_false c0) rfl ?_; clear H; intro a H
              refine wl_nil ⟨rfl, ?_⟩
              exact draw_val (by kernel_rfl) hprm30 rfl rfl HT Hb hG hv (fun _ _ h => h) (rfl) H
            · intro Sd_ a w G1 _ hSi hc hG HT hv; have H := HT; clear hSi
              obtain ⟨u141, hu141, hp141⟩ := hv 11 141 (hc 11 (by decide)) rfl
              obtain rfl : u141 = .bool (decide (la[i].key = lb[k].key)) := hp141
              have H := H.addS hu141
              have Hb := H.full; have H := Hb; clear hc
              refine s_skip H rfl rfl (decide_eq_false c0) rfl ?_; clear H; intro a H
              refine wl_nil ⟨rfl, ?_⟩
              exact draw_val (by kernel_rfl) hprm30 rfl rfl HT Hb hG hv (fun _ _ h => h) (rfl) H
            · intro Sd_ a w G1 _ hSi hc hG HT hv; have H := HT; clear hSi
              obtain ⟨u142, hu142, hp142⟩ := hv 12 142 (hc 12 (by decide)) rfl
              obtain rfl : u142 = undef := hp142
              have H := H.addS hu142
              obtain ⟨u143, hu143, hp143⟩ := hv 13 143 (hc 13 (by decide)) rfl
              obtain rfl : u143 = undef := hp143
              have H := H.addS hu143
              obtain ⟨u141, hu141, hp141⟩ := hv 11 141 (hc 11 (by decide)) rfl
              obtain rfl : u141 = .bool (decide (la[i].key = lb[k].key)) := hp141
              have H := H.addS hu141
              have Hb := H.full; have H := Hb; clear hc
              refine s_skip H rfl rfl (decide_eq_false c0) rfl ?_; clear H; intro a H
              refine wl_nil ⟨rfl, ?_⟩
              exact draw_val (by kernel_rfl) hprm30 rfl rfl HT Hb hG hv (fun _ _ h => h) (rfl) H
            intro Sd_ a w G1 _ hSi hc hG HT hv; have H := HT; clear hSi
            obtain ⟨u141, hu141, hp141⟩ := hv 11 141 (hc 11 (by decide)) rfl
            obtain rfl : u141 = .bool (decide (la[i].key = lb[k].key)) := hp141
            have H := H.addS hu141
            obtain ⟨u144, hu144, hp144⟩ := hv 14 144 (hc 14 (by decide)) rfl
            obtain rfl : u144 = undef := hp144
            have H := H.addS hu144
            have Hb := H.full; have H := Hb; clear hc
            refine s_pick_f H wn rfl (decide_eq_false c0) rfl rfl ?_; clear H; intro a H
            refine wl_nil ⟨rfl, ?_⟩
            exact draw_val (by kernel_rfl) hprm30 rfl rfl HT Hb hG hv (fun _ _ h => h) (rfl) H
          clear H; intro a w G hGm30 H hv
          obtain ⟨u145, hu145, hp145⟩ := hv 15 145 (by decide) rfl
          obtain rfl : u145 = .bool false := hp145
          have H := H.addS hu145
          clear hv
          refine wl_nil ⟨rfl, ?_⟩
          refine hK43 _ _ ?_; clear hK43
          refine c_cond_f H rfl rfl ?_
          refine c_skip ?_
          refine hK35 _ _ ?_; clear hK35
          first | (have hgm5 := fun b o h => hGm30 b o (hgm6 b o h)) | (have hgm5 := hgm3)
          refine c_region ?_
          refine s_move H wn rfl rfl ?_; clear H; intro a H
          refine s_indexArr un107sol2 ty32sol2 s H wn rfl rfl rfl hs2 rfl ?_; clear H; intro a H
          refine s_load ty32sol2 H wn rfl (H.hp.ocell 2 rfl (two_cells (x := fun t => fc (rN t) W) hs2)) rfl ?_; clear H; intro a H
          refine s_move H wn rfl rfl ?_; clear H; intro a H
          refine s_move H wn rfl rfl ?_; clear H; intro a H
          refine s_move H wn rfl rfl ?_; clear H; intro a H
          refine s_move H wn rfl rfl ?_; clear H; intro a H
          refine s_move H wn rfl rfl ?_; clear H; intro a H
          have H := H.wkOut hs2
          refine s_callL en52sol2 (Li := [_, _, _] ++ wkR C rN qN X3 R3 Q s) (L := [_, _, _]) H wn rfl (set_spec _ _ (Hp.owns (Li := [_, _, _] ++ wkR C rN qN X3 R3 Q s) H.hp) hs2 (cho_cell (x := fun t => fc (C t) M) hs2) hkW (hmid.1 s hs2).1 (hX3 s hs2) hiW (by omega) (by omega) (by omega)) rfl ?_; clear H
          rintro v155 G4 L155 a w rfl hm155 H
          have hgm4 := fun b o h => hm155 b o (hgm5 b o h)
          obtain ⟨X4, R4, hX4, hR4, H⟩ := St.wkStep hs2 hmid hkW hX3 (by first | omega | (rw [sol_in hi2 hk3]; split <;> omega)) (by rw [List.length_set]; exact hX3 s hs2) H
          refine wl_nil ?_
          refine hK24 _ _ ?_; clear hK24
          refine c_region ?_
          refine s_add _ H wn rfl rfl rfl (by omega) (by omega) rfl ?_; clear H; intro a H
          refine s_move H wn rfl rfl ?_; clear H; intro a H
          refine wl_nil ?_
          refine loop_end ((s + 1, X4, R4, G4)) (by exact (H).sub ⟨rfl, rfl, rfl, rfl, rfl, rfl, rfl, rfl, rfl, rfl, trivial⟩) ?_ ?_
          · try dsimp only
            exact ⟨by omega, hX4, hR4, hgm4⟩
          first | omega | (dsimp only; omega)
        intro h101
        try have p101 := of_decide_eq_false h101
        have hse := sol_end (a := la) (b := lb) (k := k) hi2 (by omega)
        refine c_skip ?_
        refine hK35 _ _ ?_; clear hK35
        first | (have hgm5 := fun b o h => hGm30 b o (hgm6 b o h)) | (have hgm5 := hgm3)
        refine c_region ?_
        refine s_move H wn rfl rfl ?_; clear H; intro a H
        refine s_indexArr un107sol2 ty32sol2 s H wn rfl rfl rfl hs2 rfl ?_; clear H; intro a H
        refine s_load ty32sol2 H wn rfl (H.hp.ocell 2 rfl (two_cells (x := fun t => fc (rN t) W) hs2)) rfl ?_; clear H; intro a H
        refine s_move H wn rfl rfl ?_; clear H; intro a H
        refine s_move H wn rfl rfl ?_; clear H; intro a H
        refine s_move H wn rfl rfl ?_; clear H; intro a H
        refine s_move H wn rfl rfl ?_; clear H; intro a H
        refine s_move H wn rfl rfl ?_; clear H; intro a H
        have H := H.wkOut hs2
        refine s_callL en52sol2 (Li := [_, _, _] ++ wkR C rN qN X3 R3 Q s) (L := [_, _, _]) H wn rfl (set_spec _ _ (Hp.owns (Li := [_, _, _] ++ wkR C rN qN X3 R3 Q s) H.hp) hs2 (cho_cell (x := fun t => fc (C t) M) hs2) hkW (hmid.1 s hs2).1 (hX3 s hs2) hiW (by omega) (by omega) (by omega)) rfl ?_; clear H
        rintro v155 G4 L155 a w rfl hm155 H
        have hgm4 := fun b o h => hm155 b o (hgm5 b o h)
        obtain ⟨X4, R4, hX4, hR4, H⟩ := St.wkStep hs2 hmid hkW hX3 (by first | omega | (rw [sol_in hi2 hk3]; split <;> omega)) (by rw [List.length_set]; exact hX3 s hs2) H
        refine wl_nil ?_
        refine hK24 _ _ ?_; clear hK24
        refine c_region ?_
        refine s_add _ H wn rfl rfl rfl (by omega) (by omega) rfl ?_; clear H; intro a H
        refine s_move H wn rfl rfl ?_; clear H; intro a H
        refine wl_nil ?_
        refine loop_end ((s + 1, X4, R4, G4)) (by exact (H).sub ⟨rfl, rfl, rfl, rfl, rfl, rfl, rfl, rfl, rfl, rfl, trivial⟩) ?_ ?_
        · try dsimp only
          exact ⟨by omega, hX4, hR4, hgm4⟩
        first | omega | (dsimp only; omega)
      intro h61
      try have p61 := of_decide_eq_false h61
      refine c_exit ?_
      refine hK20 _ _ ?_; clear hK20
      refine c_region ?_
      refine s_move H wn rfl rfl ?_; clear H; intro a H
      refine s_sub _ H wn rfl rfl rfl (by omega) (by omega) rfl ?_; clear H; intro a H
      refine s_assign H wn rfl rfl ?_; clear H; intro a H
      refine wl_nil ?_
      refine loop_end ((k, X3, R3, g3)) (by exact (H).sub ⟨rfl, rfl, rfl, rfl, rfl, rfl, rfl, rfl, rfl, trivial⟩) ?_ ?_
      · try dsimp only
        exact ⟨by omega, hX3, by
          obtain rfl : s = 2 := by omega
          exact hmid.close, hgm3⟩
      first | omega | (dsimp only; omega)
    intro h57
    try have p57 := of_decide_eq_false h57
    refine c_exit ?_
    refine hK16 _ _ ?_; clear hK16
    refine c_region ?_
    refine s_loada ty107sol2 (cs := [_, _]) H wn rfl rfl (H.hp.ocells 3 rfl rfl) rfl ?_; clear H; intro a H
    refine s_loada ty107sol2 (cs := [_, _]) H wn rfl rfl (H.hp.ocells 2 rfl rfl) rfl ?_; clear H; intro a H
    refine s_store ty107sol2 2 (vs := [_, _]) _ H wn rfl rfl rfl rfl rfl rfl rfl rfl ?_; clear H; intro w H; dsimp only [List.set, setRow] at H
    refine s_store ty107sol2 3 (vs := [_, _]) _ H wn rfl rfl rfl rfl rfl rfl rfl rfl ?_; clear H; intro w H; dsimp only [List.set, setRow] at H
    refine wl_nil ?_
    refine hK15 _ _ ?_; clear hK15
    refine c_region ?_
    refine s_move H wn rfl rfl ?_; clear H; intro a H
    refine s_sub _ H wn rfl rfl rfl (by omega) (by omega) rfl ?_; clear H; intro a H
    refine s_assign H wn rfl rfl ?_; clear H; intro a H
    refine wl_nil ?_
    refine loop_end ((i, qN, rN, X2, Q, R2, g2)) (by exact H.wkSwap.sub ⟨rfl, rfl, rfl, rfl, rfl, rfl, rfl, rfl, trivial⟩) ?_ ?_
    · try dsimp only
      exact ⟨by omega, hX2, fun t ht => hQ t ht, fun t ht => (hR2 t ht).1, fun _ => by
        obtain rfl : q = 0 := by omega
        exact hR2, hgm2⟩
    first | omega | (dsimp only; omega)
  intro h51
  try have p51 := of_decide_eq_false h51
  refine c_exit ?_
  refine hK11 _ _ ?_; clear hK11
  refine c_seq (fun _ hK44 => ?_)
  obtain rfl : j = 0 := by omega
  have hQ1 := hQ0 (Nat.zero_le _)
  refine c_region ?_
  refine s_indexArr un107sol2 ty32sol2 0 H wn rfl rfl rfl (by decide) rfl ?_; clear H; intro a H
  refine s_load ty32sol2 H wn rfl (H.hp.ocell 3 rfl rfl) rfl ?_; clear H; intro a H
  refine s_index un32sol2 ty3sol2 0 H wn rfl rfl rfl (by omega) rfl ?_; clear H; intro a H
  refine s_load ty3sol2 H wn rfl (H.hp.ocell 6 rfl (by rw [Nat.zero_add, Nat.zero_mul]; exact fl_get ((hQ1 0 (by decide)).2 0 (Nat.le_refl _) (by omega)))) rfl ?_; clear H; intro a H
  refine s_field fd87_0sol2 H wn rfl rfl ?_; clear H; intro a H
  refine s_store ty3sol2 1 (vs := [_]) _ H wn rfl rfl rfl rfl rfl rfl rfl rfl ?_; clear H; intro w H; dsimp only [List.set, setRow] at H
  refine wl_nil ?_
  refine hK44 _ _ ?_; clear hK44
  refine c_seq (fun _ hK45 => ?_)
  refine c_region ?_
  refine s_loada ty87sol2 (cs := [_, _, _, _]) H wn rfl rfl (H.hp.ocells 1 rfl rfl) rfl ?_; clear H; intro a H
  refine s_store ty87sol2 0 (vs := [_, _, _, _]) _ H wn rfl rfl rfl rfl rfl rfl rfl rfl ?_; clear H; intro w H; dsimp only [List.set, setRow] at H
  refine wl_nil ?_
  refine hK45 _ _ ?_; clear hK45
  refine c_ret ?_
  refine (leave1 H Tryd.results38 (.cons (rv_cella ty87sol2 (cs := [_, _, _, _]) H rfl rfl (H.hp.ocells 0 rfl rfl)) .nil) ?_).1
  exact H.hp.ret ⟨_, _, _, rfl⟩
end Go.Proofs.YtpmcdlhhfbobfaaDoor
