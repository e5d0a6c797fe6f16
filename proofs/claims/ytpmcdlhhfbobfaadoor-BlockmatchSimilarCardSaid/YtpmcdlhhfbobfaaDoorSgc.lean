/-
  Package segment: clusters, Tokens.
-/
import Derived.Test.YtpmcdlhhfbobfaaDoorSeg
import Derived.Test.YtpmcdlhhfbobfaaDoorDj
namespace Go.Proofs.YtpmcdlhhfbobfaaDoor
open Go.RowKit
theorem en42sgc : ∀ args w, (callFunc 42 args).run Tryd.prog w = .ok (.enter 42 args) w := enters Tryd.func42 rfl (by kernel_rfl)
theorem en43sgc : ∀ args w, (callFunc 43 args).run Tryd.prog w = .ok (.enter 43 args) w := enters Tryd.func43 rfl (by kernel_rfl)
theorem en44sgc : ∀ args w, (callFunc 44 args).run Tryd.prog w = .ok (.enter 44 args) w := enters Tryd.func44 rfl (by kernel_rfl)
theorem un32sgc : Tryd.prog.underlying 32 = some (.slice 3) := by kernel_rfl
theorem ty3sgc : Ty Tryd.prog 3 1 8 [.int .i64 0] false := ⟨by kernel_rfl, by kernel_rfl⟩
theorem en45sgc : ∀ args w, (callFunc 45 args).run Tryd.prog w = .ok (.enter 45 args) w := enters Tryd.func45 rfl (by kernel_rfl)
theorem un73sgc : Tryd.prog.underlying 73 = some (.slice 100) := by kernel_rfl
theorem ty100sgc : Ty Tryd.prog 100 3 24 [.int .i64 0, .int .i64 0, .int .i64 0] true := ⟨by kernel_rfl, by kernel_rfl⟩
theorem sr100sgc : Srt Tryd.prog 100 [(0, 1), (1, 1), (2, 1)] [.int .i64 0, .int .i64 0, .int .i64 0] := ⟨by kernel_rfl, by kernel_rfl⟩
theorem en31sgc : ∀ args w, (callFunc 31 args).run Tryd.prog w = .ok (.enter 31 args) w := enters Tryd.func31 rfl (by kernel_rfl)
theorem en33sgc : ∀ args w, (callFunc 33 args).run Tryd.prog w = .ok (.enter 33 args) w := enters Tryd.func33 rfl (by kernel_rfl)
theorem en32sgc : ∀ args w, (callFunc 32 args).run Tryd.prog w = .ok (.enter 32 args) w := enters Tryd.func32 rfl (by kernel_rfl)
/-- A string that is valid, and read alike by all. -/
structure SOk (G0 : GH) (s : ByteArray) : Prop where
  size : s.size ≤ 1073741824
  ok : validS s = true
  lib : VOk G0 s
  len : (rnS s).length = (ptS s).length
def bdN (s : ByteArray) : List Nat := 0 :: (clS s).map fun x => x.2.1
theorem bdS_eq (s : ByteArray) : bdS s = (bdN s).map fun x : Nat => (x : Int) := by simp [bdS, bdN]
theorem clG_inc (size : Nat) : ∀ (l : List (Nat × Nat)) (u f st : Nat) (m : MacD), (∀ x ∈ clG size l u f st m, u ≤ x.2.1 ∧ 0 < x.2.1 ∧ x.2.1 ≤ u + l.length) ∧ ((clG size l u f st m).map fun x => x.2.1).Pairwise (· < ·)
  | [], u, f, st, m => by
    rw [clG]; split
    · refine ⟨fun x hx => ?_, by simp⟩; rw [List.mem_singleton] at hx; subst hx; exact ⟨Nat.le_refl _, by assumption, Nat.le_refl _⟩
    exact ⟨fun x hx => (by cases hx), by simp⟩
  | y :: l, u, f, st, m => by
    have h1 := clG_inc size l (u + 1) u y.1 (takeS m (clsOf gTab y.2)); have h2 := clG_inc size l (u + 1) f st (takeS m (clsOf gTab y.2)); rw [clG]; split
    · rename_i hc
      refine ⟨fun x hx => ?_, ?_⟩
      · rcases List.mem_cons.1 hx with rfl | hx
        · exact ⟨Nat.le_refl _, hc.1, Nat.le_add_right _ _⟩
        have := h1.1 x hx; simp only [List.length_cons]; omega
      rw [List.map_cons, List.pairwise_cons]; refine ⟨fun z hz => ?_, h1.2⟩; obtain ⟨x, hx, rfl⟩ := List.mem_map.1 hz; have := h1.1 x hx; dsimp only; omega
    exact ⟨fun x hx => by have := h2.1 x hx; simp only [List.length_cons]; omega, h2.2⟩
theorem bdN_lt {s : ByteArray} {i : Nat} (h : i + 1 < (bdN s).length) : (bdN s)[i]'(by omega) < (bdN s)[i + 1] ∧ (bdN s)[i + 1] ≤ (rnS s).length := by
  have hi := clG_inc s.size (rnS s) 0 0 0 ⟨0, false, false, 0⟩; rw [show clG s.size (rnS s) 0 0 0 ⟨0, false, false, 0⟩ = clS s from rfl] at hi
  have hp : (bdN s).Pairwise (· < ·) := by
    rw [bdN, List.pairwise_cons]; refine ⟨fun z hz => ?_, hi.2⟩; obtain ⟨x, hx, rfl⟩ := List.mem_map.1 hz; exact (hi.1 x hx).2.1
  refine ⟨List.pairwise_iff_getElem.1 hp i (i + 1) (by omega) h (Nat.lt_succ_self i), ?_⟩
  have hx : (bdN s)[i + 1] = ((clS s)[i]'(by simp [bdN] at h; omega)).2.1 := by simp [bdN]
  rw [hx]; have := (hi.1 _ (List.getElem_mem (by simp [bdN] at h; omega))).2.2
  omega
/-- The clusters of a string. -/
def cluD (s : ByteArray) (i : Nat) : ClD := ⟨fndS sTab ((ptS s).getD ((bdN s).getD i 0) 0), ((bdN s).getD i 0 : Nat), ((bdN s).getD (i + 1) 0 : Nat)⟩
def cluS (s : ByteArray) : List ClD := (List.range ((bdN s).length - 1)).map (cluD s)
theorem clu_cat (G : GH) : ∀ (B A : List ClD), RepCat G 3 (A.map ClD.dat) (A.map ClD.cells).flatten → RepCat G 3 ((A ++ B).map ClD.dat) ((A ++ B).map ClD.cells).flatten
  | [], A, h => by rw [List.append_nil]; exact h
  | x :: B, A, h => by
    have h2 := h.snoc (cl_row G x) rfl; have h3 := clu_cat G B (A ++ [x]) (by simpa using h2)
    simpa using h3
theorem clus_cat (G : GH) (A : List ClD) : RepCat G 3 (A.map ClD.dat) (A.map ClD.cells).flatten := clu_cat G A [] RepCat.nil
set_option maxHeartbeats 2000000 in
theorem sclusters_spec {G0 : GH} (G : GH) (w0 : World) (hG : Hold G w0) (h0 : ∀ b o, G0 b = some o → G b = some o) (s : ByteArray) (hs : SOk G0 s) :
    Calls Tryd.prog 31 #[.string s] w0 (Ret w0 G fun u G' => ∃ x, u = .tuple #[x, vi 0] ∧ RepV G' (.sl 3 ((cluS s).map ClD.dat)) x) := by
  have hml : maxLen = 9223372036854775807 := rfl; have hcl := clS_len s
  have hbl : (bdN s).length = (clS s).length + 1 := by simp [bdN]
  have hsz := hs.size; refine enter (N := 56) (T := [(0, _)]) (F := fun k => k < w0.heap.size) (L := []) Tryd.func31 rfl Tryd.ntmps31 rfl rfl hG (fun _ h => h) (fun _ h => by cases h) (fun _ h => by cases h) (fun _ h => by cases h) List.Pairwise.nil ?_; intro a H; refine c_seq (fun _ hK1 => ?_); refine c_region ?_; (iterate 2 refine s_assign H wn rfl rfl ?_; clear H; intro a H); refine wl_nil ?_; refine hK1 _ _ ?_; clear hK1; refine c_seq (fun _ hK2 => ?_); refine c_region ?_; refine s_move H wn rfl rfl ?_; clear H; intro a H; refine s_call en42sgc H wn rfl (points_spec _ _ H.hp.ro s hs.size hs.ok) rfl ?_; clear H; rintro v12 G12 a w ⟨x12, rfl, hpt⟩ hm12 H; obtain ⟨pA, pc, rfl, -, -, -⟩ := hpt.slice; rw [List.length_map] at *; refine s_move H wn rfl rfl ?_; clear H; intro a H; (iterate 2 refine s_extract H wn rfl rfl rfl ?_; clear H; intro a H); (iterate 2 refine s_assign H wn rfl rfl ?_; clear H; intro a H); refine wl_nil ?_; refine hK2 _ _ ?_; clear hK2; refine c_seq (fun _ hK3 => ?_); refine c_seq (fun _ hK4 => ?_); refine c_region ?_; refine s_move H wn rfl rfl ?_; clear H; intro a H; refine s_cmp H wn rfl rfl rfl rfl ?_; clear H; intro a H; refine wl_nil ?_; refine hK4 _ _ ?_; clear hK4; refine c_cond H rfl ?_ ?_
  · intro h16
    try have p16 := of_decide_eq_true h16
    exact absurd h16 (by decide)
  intro h16
  try have p16 := of_decide_eq_false h16
  refine c_skip ?_; refine hK3 _ _ ?_; clear hK3; refine c_seq (fun _ hK5 => ?_); refine c_region ?_; refine s_move H wn rfl rfl ?_; clear H; intro a H; refine s_call en43sgc H wn rfl (bounds_spec _ _ H.hp.ro (fun b o h => hm12 b o (h0 b o h)) s hs.size hs.lib) rfl ?_; clear H; rintro v19 G19 a w ⟨x19, rfl, hbd⟩ hm19 H; rw [bdS_eq] at hbd; obtain ⟨lA, lc, rfl, -, -, -⟩ := hbd.slice; rw [List.length_map, List.length_map] at *; refine s_move H wn rfl rfl ?_; clear H; intro a H; (iterate 2 refine s_extract H wn rfl rfl rfl ?_; clear H; intro a H); (iterate 2 refine s_assign H wn rfl rfl ?_; clear H; intro a H); refine wl_nil ?_; refine hK5 _ _ ?_; clear hK5; refine c_seq (fun _ hK6 => ?_); refine c_seq (fun _ hK7 => ?_); refine c_region ?_; refine s_move H wn rfl rfl ?_; clear H; intro a H; refine s_cmp H wn rfl rfl rfl rfl ?_; clear H; intro a H; refine wl_nil ?_; refine hK7 _ _ ?_; clear hK7; refine c_cond H rfl ?_ ?_
  · intro h23
    try have p23 := of_decide_eq_true h23
    exact absurd h23 (by decide)
  intro h23
  try have p23 := of_decide_eq_false h23
  refine c_skip ?_; refine hK6 _ _ ?_; clear hK6; refine c_seq (fun _ hK8 => ?_); refine c_region ?_; refine s_call en44sgc H wn rfl (stable_spec _ _ H.hp.ro) rfl ?_; clear H; rintro v25 G25 a w htb hm25 H; obtain ⟨tA, tc, rfl, -, -, -⟩ := htb.slice; replace hpt := (hpt.mono hm19).mono hm25; replace hbd := hbd.mono hm25; refine s_assign H wn rfl rfl ?_; clear H; intro a H; refine wl_nil ?_; refine hK8 _ _ ?_; clear hK8; refine c_seq (fun _ hK9 => ?_); refine c_region ?_; refine s_assign H wn rfl rfl ?_; clear H; intro a H; refine wl_nil ?_; refine hK9 _ _ ?_; clear hK9; refine c_seq (fun _ hK10 => ?_); refine c_seq (fun _ hK11 => ?_); refine c_region ?_; refine s_assign H wn rfl rfl ?_; clear H; intro a H; refine wl_nil ?_; refine hK11 _ _ ?_; clear hK11; refine c_block ?_; skip; refine c_loopS (ι := Nat × Value × OL × GH) (Tc := [(4, _), (6, _), (7, _)]) (Lc := []) (fun (gh : Nat × Value × OL × GH) => [(8, gh.2.1), (9, vi ((gh.1 : Int) + 1))]) (fun (gh : Nat × Value × OL × GH) => [] ++ gh.2.2.1) (fun (gh : Nat × Value × OL × GH) => gh.2.2.2) (fun (gh : Nat × Value × OL × GH) => gh.1 ≤ (bdN s).length - 1 ∧ IsRow 100 3 gh.2.1 gh.1 (((cluS s).take gh.1).map ClD.cells).flatten gh.2.2.1 ∧ (∀ b o, G25 b = some o → gh.2.2.2 b = some o)) (fun (gh : Nat × Value × OL × GH) => (bdN s).length - gh.1) ((0, .slice none 0 0, [], G25)) (by exact (H).sub ⟨rfl, rfl, rfl, rfl, rfl, trivial⟩) ?_ ?_
  · exact ⟨Nat.zero_le _, IsRow.nil, fun _ _ h => h⟩
  clear H; intro gh a w hI H; obtain ⟨j, v, Lo, g⟩ := gh; dsimp only at hI H; obtain ⟨hj, hrw, hgm⟩ := hI; dsimp only [List.cons_append, List.nil_append, List.append_nil] at H; refine c_seq (fun _ hK12 => ?_); refine c_seq (fun _ hK13 => ?_); refine c_region ?_; (iterate 2 refine s_move H wn rfl rfl ?_; clear H; intro a H); refine s_len un32sgc H wn rfl rfl ?_; clear H; intro a H; refine s_cmp H wn rfl rfl rfl rfl ?_; clear H; intro a H; refine wl_nil ?_; refine hK13 _ _ ?_; clear hK13; refine c_cond H rfl ?_ ?_
  · intro h29
    try have p29 := of_decide_eq_true h29
    have hj1 : j + 1 < (bdN s).length := by omega
    obtain ⟨hb1, hb2⟩ := bdN_lt hj1; obtain ⟨x0, hx0⟩ : ∃ x, x = (bdN s)[j] := ⟨_, rfl⟩; obtain ⟨x1, hx1⟩ : ∃ x, x = (bdN s)[j + 1] := ⟨_, rfl⟩; rw [hs.len] at hb2; rw [← hx0, ← hx1] at hb1; rw [← hx1] at hb2
    have hk : x0 < (ptS s).length := by omega
    obtain ⟨z, hz⟩ : ∃ z, z = (ptS s)[x0] := ⟨_, rfl⟩; obtain ⟨lb, lo, rfl, g1⟩ := num_at (hbd.mono hgm) (show j < ((bdN s).map fun x : Nat => (x : Int)).length by rw [List.length_map]; omega); obtain ⟨_, _, e1, g2⟩ := num_at (hbd.mono hgm) (show j + 1 < ((bdN s).map fun x : Nat => (x : Int)).length by rw [List.length_map]; omega)
    injection e1 with e1; injection e1 with e2 e3; subst e2; subst e3
    obtain ⟨pb, po, rfl, g3⟩ := num_at (hpt.mono hgm) hk; rw [List.getElem_map, ← hx0] at g1; rw [List.getElem_map, ← hx1] at g2; rw [← hz] at g3
    have hcd : (cluS s)[j]? = some ⟨fndS sTab z, x0, x1⟩ := by
      have h0 : (bdN s)[j]? = some x0 := by rw [hx0]; exact List.getElem?_eq_getElem (by omega)
      have h1 : (bdN s)[j + 1]? = some x1 := by rw [hx1]; exact List.getElem?_eq_getElem hj1
      have h2 : (ptS s)[x0]? = some z := by rw [hz]; exact List.getElem?_eq_getElem hk
      rw [cluS, List.getElem?_map, List.getElem?_range (by omega), Option.map_some, cluD]
      simp only [List.getD_eq_getElem?_getD, h0, h1, h2, Option.getD_some]
    have hjc : j < (cluS s).length := (List.getElem?_eq_some_iff.1 hcd).1; have hcd2 : (cluS s)[j] = ⟨fndS sTab z, x0, x1⟩ := (List.getElem?_eq_some_iff.1 hcd).2; obtain ⟨vA, vc, rfl, hvc1, hvc2⟩ := hrw.shape; refine c_skip ?_; refine hK12 _ _ ?_; clear hK12; refine c_seq (fun _ hK14 => ?_); refine c_block ?_
    have hprm12 : ∀ (bM_ ix_ : Nat) (v : Value) (G G' : GH), (∀ k o, G k = some o → G' k = some o) → (fun (bM_ ix_ : Nat) (v : Value) (G : GH) => match ix_ with | 0 => v = .slice vA j vc | 1 => v = .slice tA sTab.length tc | 2 => v = .slice (some ⟨pb, po, none⟩) (ptS s).length pc | 3 => v = .slice (some ⟨lb, lo, none⟩) (bdN s).length lc | 4 => v = vi ((j : Int) + 1) | 5 => v = vi ((j : Int) + 1 - 1) | 6 => v = .pointer (some ⟨lb, lo + j * 1, none⟩) | 7 => v = vi x0 | 8 => v = .pointer (some ⟨pb, po + x0 * 1, none⟩) | 9 => v = vi z | 10 => v = vi (fndS sTab z) | 11 => v = .slice (some ⟨lb, lo, none⟩) (bdN s).length lc | 12 => v = vi ((j : Int) + 1) | 13 => v = vi ((j : Int) + 1 - 1) | 14 => v = .pointer (some ⟨lb, lo + j * 1, none⟩) | 15 => v = vi x0 | 16 => v = .slice (some ⟨lb, lo, none⟩) (bdN s).length lc | 17 => v = vi ((j : Int) + 1) | 18 => v = .pointer (some ⟨lb, lo + (j + 1) * 1, none⟩) | 19 => v = vi x1 | 20 => v = .agg #[vi (fndS sTab z), vi x0, vi x1] | 21 => v = .slice (some ⟨bM_, 0, none⟩) 1 1 | _ => True) bM_ ix_ v G → (fun (bM_ ix_ : Nat) (v : Value) (G : GH) => match ix_ with | 0 => v = .slice vA j vc | 1 => v = .slice tA sTab.length tc | 2 => v = .slice (some ⟨pb, po, none⟩) (ptS s).length pc | 3 => v = .slice (some ⟨lb, lo, none⟩) (bdN s).length lc | 4 => v = vi ((j : Int) + 1) | 5 => v = vi ((j : Int) + 1 - 1) | 6 => v = .pointer (some ⟨lb, lo + j * 1, none⟩) | 7 => v = vi x0 | 8 => v = .pointer (some ⟨pb, po + x0 * 1, none⟩) | 9 => v = vi z | 10 => v = vi (fndS sTab z) | 11 => v = .slice (some ⟨lb, lo, none⟩) (bdN s).length lc | 12 => v = vi ((j : Int) + 1) | 13 => v = vi ((j : Int) + 1 - 1) | 14 => v = .pointer (some ⟨lb, lo + j * 1, none⟩) | 15 => v = vi x0 | 16 => v = .slice (some ⟨lb, lo, none⟩) (bdN s).length lc | 17 => v = vi ((j : Int) + 1) | 18 => v = .pointer (some ⟨lb, lo + (j + 1) * 1, none⟩) | 19 => v = vi x1 | 20 => v = .agg #[vi (fndS sTab z), vi x0, vi x1] | 21 => v = .slice (some ⟨bM_, 0, none⟩) 1 1 | _ => True) bM_ ix_ v G' := by
      intro bM_ ix_ v G G' hm h
      match ix_, h with
      | 0, h => exact h
      | 1, h => exact h
      | 2, h => exact h
      | 3, h => exact h
      | 4, h => exact h
      | 5, h => exact h
      | 6, h => exact h
      | 7, h => exact h
      | 8, h => exact h
      | 9, h => exact h
      | 10, h => exact h
      | 11, h => exact h
      | 12, h => exact h
      | 13, h => exact h
      | 14, h => exact h
      | 15, h => exact h
      | 16, h => exact h
      | 17, h => exact h
      | 18, h => exact h
      | 19, h => exact h
      | 20, h => exact h
      | 21, h => exact h
      | 22, h => exact trivial
      | 23, h => exact trivial
      | _ + 24, h => exact trivial
    refine c_drawJ (hmxb) [[], [], [], [], [], [4], [3, 4, 5], [3, 4, 5, 6], [2, 3, 4, 5, 6, 7], [2, 3, 4, 5, 6, 7, 8], [1, 2, 3, 4, 5, 6, 7, 8, 9], [], [], [12], [11, 12, 13], [11, 12, 13, 14], [], [], [16, 17], [16, 17, 18], [1, 2, 3, 4, 5, 6, 7, 8, 9, 10, 11, 12, 13, 14, 15, 16, 17, 18, 19], [1, 2, 3, 4, 5, 6, 7, 8, 9, 10, 11, 12, 13, 14, 15, 16, 17, 18, 19, 20], [0, 1, 2, 3, 4, 5, 6, 7, 8, 9, 10, 11, 12, 13, 14, 15, 16, 17, 18, 19, 20, 21], [0, 1, 2, 3, 4, 5, 6, 7, 8, 9, 10, 11, 12, 13, 14, 15, 16, 17, 18, 19, 20, 21, 22]] [22, 23] (by kernel_rfl) (by kernel_rfl) 21 (by decide) (.cells [vi (fndS sTab z), vi x0, vi x1].toArray 100 (0, 0)) (fun (bM_ ix_ : Nat) (v : Value) (G : GH) => match ix_ with | 0 => v = .slice vA j vc | 1 => v = .slice tA sTab.length tc | 2 => v = .slice (some ⟨pb, po, none⟩) (ptS s).length pc | 3 => v = .slice (some ⟨lb, lo, none⟩) (bdN s).length lc | 4 => v = vi ((j : Int) + 1) | 5 => v = vi ((j : Int) + 1 - 1) | 6 => v = .pointer (some ⟨lb, lo + j * 1, none⟩) | 7 => v = vi x0 | 8 => v = .pointer (some ⟨pb, po + x0 * 1, none⟩) | 9 => v = vi z | 10 => v = vi (fndS sTab z) | 11 => v = .slice (some ⟨lb, lo, none⟩) (bdN s).length lc | 12 => v = vi ((j : Int) + 1) | 13 => v = vi ((j : Int) + 1 - 1) | 14 => v = .pointer (some ⟨lb, lo + j * 1, none⟩) | 15 => v = vi x0 | 16 => v = .slice (some ⟨lb, lo, none⟩) (bdN s).length lc | 17 => v = vi ((j : Int) + 1) | 18 => v = .pointer (some ⟨lb, lo + (j + 1) * 1, none⟩) | 19 => v = vi x1 | 20 => v = .agg #[vi (fndS sTab z), vi x0, vi x1] | 21 => v = .slice (some ⟨bM_, 0, none⟩) 1 1 | _ => True) (fun _ _ i v G hi h => by
      match i, hi, h with
      | 0, hi, h => exact h
      | 1, hi, h => exact h
      | 2, hi, h => exact h
      | 3, hi, h => exact h
      | 4, hi, h => exact h
      | 5, hi, h => exact h
      | 6, hi, h => exact h
      | 7, hi, h => exact h
      | 8, hi, h => exact h
      | 9, hi, h => exact h
      | 10, hi, h => exact h
      | 11, hi, h => exact h
      | 12, hi, h => exact h
      | 13, hi, h => exact h
      | 14, hi, h => exact h
      | 15, hi, h => exact h
      | 16, hi, h => exact h
      | 17, hi, h => exact h
      | 18, hi, h => exact h
      | 19, hi, h => exact h
      | 20, hi, h => exact h
      | 21, hi, h => exact absurd rfl hi
      | 22, hi, h => exact trivial
      | 23, hi, h => exact trivial
      | _ + 24, _, h => exact trivial) H ?_ ?_ ?_ (by kernel_rfl)
    · clear H; refine (allI_cons ?_ (allI_cons ?_ (allI_cons ?_ (allI_cons ?_ (allI_cons ?_ (allI_cons ?_ (allI_cons ?_ (allI_cons ?_ (allI_cons ?_ (allI_cons ?_ (allI_cons ?_ (allI_cons ?_ (allI_cons ?_ (allI_cons ?_ (allI_cons ?_ (allI_cons ?_ (allI_cons ?_ (allI_cons ?_ (allI_cons ?_ (allI_cons ?_ (allI_cons ?_ (allI_cons ?_ (allI_cons ?_ (allI_cons ?_ allI_nil))))))))))))))))))))))))
      · intro bM_ Lx_ Sd_ a w G1 _ _ hSi hc hG HT hv; have H := HT; clear hSi; have Hb := H.full; have H := Hb; clear hc; refine s_move H wn rfl rfl ?_; clear H; intro a H; refine wl_nil ⟨rfl, ?_⟩; exact draw_val (by kernel_rfl) (hprm12 bM_) rfl rfl HT Hb hG hv (fun _ _ h => h) (rfl) H
      · intro bM_ Lx_ Sd_ a w G1 _ _ hSi hc hG HT hv; have H := HT; clear hSi; have Hb := H.full; have H := Hb; clear hc; refine s_move H wn rfl rfl ?_; clear H; intro a H; refine wl_nil ⟨rfl, ?_⟩; exact draw_val (by kernel_rfl) (hprm12 bM_) rfl rfl HT Hb hG hv (fun _ _ h => h) (rfl) H
      · intro bM_ Lx_ Sd_ a w G1 _ _ hSi hc hG HT hv; have H := HT; clear hSi; have Hb := H.full; have H := Hb; clear hc; refine s_move H wn rfl rfl ?_; clear H; intro a H; refine wl_nil ⟨rfl, ?_⟩; exact draw_val (by kernel_rfl) (hprm12 bM_) rfl rfl HT Hb hG hv (fun _ _ h => h) (rfl) H
      · intro bM_ Lx_ Sd_ a w G1 _ _ hSi hc hG HT hv; have H := HT; clear hSi; have Hb := H.full; have H := Hb; clear hc; refine s_move H wn rfl rfl ?_; clear H; intro a H; refine wl_nil ⟨rfl, ?_⟩; exact draw_val (by kernel_rfl) (hprm12 bM_) rfl rfl HT Hb hG hv (fun _ _ h => h) (rfl) H
      · intro bM_ Lx_ Sd_ a w G1 _ _ hSi hc hG HT hv; have H := HT; clear hSi; have Hb := H.full; have H := Hb; clear hc; refine s_move H wn rfl rfl ?_; clear H; intro a H; refine wl_nil ⟨rfl, ?_⟩; exact draw_val (by kernel_rfl) (hprm12 bM_) rfl rfl HT Hb hG hv (fun _ _ h => h) (rfl) H
      · intro bM_ Lx_ Sd_ a w G1 _ _ hSi hc hG HT hv; have H := HT; clear hSi; obtain ⟨u36, hu36, hp36⟩ := hv 4 36 (hc 4 (by decide)) rfl; obtain rfl : u36 = vi ((j : Int) + 1) := hp36; have H := H.addS hu36; have Hb := H.full; have H := Hb; clear hc; refine s_sub _ H wn rfl rfl rfl (by omega) (by omega) rfl ?_; clear H; intro a H; refine wl_nil ⟨rfl, ?_⟩; exact draw_val (by kernel_rfl) (hprm12 bM_) rfl rfl HT Hb hG hv (fun _ _ h => h) (rfl) H
      · intro bM_ Lx_ Sd_ a w G1 _ _ hSi hc hG HT hv; have H := HT; clear hSi; obtain ⟨u35, hu35, hp35⟩ := hv 3 35 (hc 3 (by decide)) rfl; obtain rfl : u35 = .slice (some ⟨lb, lo, none⟩) (bdN s).length lc := hp35; have H := H.addS hu35; obtain ⟨u37, hu37, hp37⟩ := hv 5 37 (hc 5 (by decide)) rfl; obtain rfl : u37 = vi ((j : Int) + 1 - 1) := hp37; have H := H.addS hu37; have Hb := H.full; have H := Hb; clear hc; refine s_index un32sgc ty3sgc j H wn rfl rfl (by omega) (by omega) rfl ?_; clear H; intro a H; refine wl_nil ⟨rfl, ?_⟩; exact draw_val (by kernel_rfl) (hprm12 bM_) rfl rfl HT Hb hG hv (fun _ _ h => h) (rfl) H
      · intro bM_ Lx_ Sd_ a w G1 _ _ hSi hc hG HT hv; have H := HT; clear hSi; obtain ⟨u38, hu38, hp38⟩ := hv 6 38 (hc 6 (by decide)) rfl; obtain rfl : u38 = .pointer (some ⟨lb, lo + j * 1, none⟩) := hp38; have H := H.addS hu38; have Hb := H.full; have H := Hb; clear hc; refine s_load ty3sgc H wn rfl (H.hp.gcell (gcell_mono hG g1)) rfl ?_; clear H; intro a H; refine wl_nil ⟨rfl, ?_⟩; exact draw_val (by kernel_rfl) (hprm12 bM_) rfl rfl HT Hb hG hv (fun _ _ h => h) (rfl) H
      · intro bM_ Lx_ Sd_ a w G1 _ _ hSi hc hG HT hv; have H := HT; clear hSi; obtain ⟨u34, hu34, hp34⟩ := hv 2 34 (hc 2 (by decide)) rfl; obtain rfl : u34 = .slice (some ⟨pb, po, none⟩) (ptS s).length pc := hp34; have H := H.addS hu34; obtain ⟨u39, hu39, hp39⟩ := hv 7 39 (hc 7 (by decide)) rfl; obtain rfl : u39 = vi x0 := hp39; have H := H.addS hu39; have Hb := H.full; have H := Hb; clear hc; refine s_index un32sgc ty3sgc x0 H wn rfl rfl rfl hk rfl ?_; clear H; intro a H; refine wl_nil ⟨rfl, ?_⟩; exact draw_val (by kernel_rfl) (hprm12 bM_) rfl rfl HT Hb hG hv (fun _ _ h => h) (rfl) H
      · intro bM_ Lx_ Sd_ a w G1 _ _ hSi hc hG HT hv; have H := HT; clear hSi; obtain ⟨u40, hu40, hp40⟩ := hv 8 40 (hc 8 (by decide)) rfl; obtain rfl : u40 = .pointer (some ⟨pb, po + x0 * 1, none⟩) := hp40; have H := H.addS hu40; have Hb := H.full; have H := Hb; clear hc; refine s_load ty3sgc H wn rfl (H.hp.gcell (gcell_mono hG g3)) rfl ?_; clear H; intro a H; refine wl_nil ⟨rfl, ?_⟩; exact draw_val (by kernel_rfl) (hprm12 bM_) rfl rfl HT Hb hG hv (fun _ _ h => h) (rfl) H
      · intro bM_ Lx_ Sd_ a w G1 _ _ hSi hc hG HT hv; have H := HT; clear hSi; obtain ⟨u33, hu33, hp33⟩ := hv 1 33 (hc 1 (by decide)) rfl; obtain rfl : u33 = .slice tA sTab.length tc := hp33; have H := H.addS hu33; obtain ⟨u41, hu41, hp41⟩ := hv 9 41 (hc 9 (by decide)) rfl; obtain rfl : u41 = vi z := hp41; have H := H.addS hu41; have Hb := H.full; have H := Hb; clear hc; refine s_call en45sgc H wn rfl (find_spec _ _ H.hp.ro sTab z _ ((htb.mono hgm).mono hG) (by decide)) rfl ?_; clear H; rintro v42 G42 a w rfl hGm42 H; refine wl_nil ⟨rfl, ?_⟩; exact draw_val (by kernel_rfl) (hprm12 bM_) rfl rfl HT Hb hG hv hGm42 (rfl) H
      · intro bM_ Lx_ Sd_ a w G1 _ _ hSi hc hG HT hv; have H := HT; clear hSi; have Hb := H.full; have H := Hb; clear hc; refine s_move H wn rfl rfl ?_; clear H; intro a H; refine wl_nil ⟨rfl, ?_⟩; exact draw_val (by kernel_rfl) (hprm12 bM_) rfl rfl HT Hb hG hv (fun _ _ h => h) (rfl) H
      · intro bM_ Lx_ Sd_ a w G1 _ _ hSi hc hG HT hv; have H := HT; clear hSi; have Hb := H.full; have H := Hb; clear hc; refine s_move H wn rfl rfl ?_; clear H; intro a H; refine wl_nil ⟨rfl, ?_⟩; exact draw_val (by kernel_rfl) (hprm12 bM_) rfl rfl HT Hb hG hv (fun _ _ h => h) (rfl) H
      · intro bM_ Lx_ Sd_ a w G1 _ _ hSi hc hG HT hv; have H := HT; clear hSi; obtain ⟨u44, hu44, hp44⟩ := hv 12 44 (hc 12 (by decide)) rfl; obtain rfl : u44 = vi ((j : Int) + 1) := hp44; have H := H.addS hu44; have Hb := H.full; have H := Hb; clear hc; refine s_sub _ H wn rfl rfl rfl (by omega) (by omega) rfl ?_; clear H; intro a H; refine wl_nil ⟨rfl, ?_⟩; exact draw_val (by kernel_rfl) (hprm12 bM_) rfl rfl HT Hb hG hv (fun _ _ h => h) (rfl) H
      · intro bM_ Lx_ Sd_ a w G1 _ _ hSi hc hG HT hv; have H := HT; clear hSi; obtain ⟨u43, hu43, hp43⟩ := hv 11 43 (hc 11 (by decide)) rfl; obtain rfl : u43 = .slice (some ⟨lb, lo, none⟩) (bdN s).length lc := hp43; have H := H.addS hu43; obtain ⟨u45, hu45, hp45⟩ := hv 13 45 (hc 13 (by decide)) rfl; obtain rfl : u45 = vi ((j : Int) + 1 - 1) := hp45; have H := H.addS hu45; have Hb := H.full; have H := Hb; clear hc; refine s_index un32sgc ty3sgc j H wn rfl rfl (by omega) (by omega) rfl ?_; clear H; intro a H; refine wl_nil ⟨rfl, ?_⟩; exact draw_val (by kernel_rfl) (hprm12 bM_) rfl rfl HT Hb hG hv (fun _ _ h => h) (rfl) H
      · intro bM_ Lx_ Sd_ a w G1 _ _ hSi hc hG HT hv; have H := HT; clear hSi; obtain ⟨u46, hu46, hp46⟩ := hv 14 46 (hc 14 (by decide)) rfl; obtain rfl : u46 = .pointer (some ⟨lb, lo + j * 1, none⟩) := hp46; have H := H.addS hu46; have Hb := H.full; have H := Hb; clear hc; refine s_load ty3sgc H wn rfl (H.hp.gcell (gcell_mono hG g1)) rfl ?_; clear H; intro a H; refine wl_nil ⟨rfl, ?_⟩; exact draw_val (by kernel_rfl) (hprm12 bM_) rfl rfl HT Hb hG hv (fun _ _ h => h) (rfl) H
      · intro bM_ Lx_ Sd_ a w G1 _ _ hSi hc hG HT hv; have H := HT; clear hSi; have Hb := H.full; have H := Hb; clear hc; refine s_move H wn rfl rfl ?_; clear H; intro a H; refine wl_nil ⟨rfl, ?_⟩; exact draw_val (by kernel_rfl) (hprm12 bM_) rfl rfl HT Hb hG hv (fun _ _ h => h) (rfl) H
      · intro bM_ Lx_ Sd_ a w G1 _ _ hSi hc hG HT hv; have H := HT; clear hSi; have Hb := H.full; have H := Hb; clear hc; refine s_move H wn rfl rfl ?_; clear H; intro a H; refine wl_nil ⟨rfl, ?_⟩; exact draw_val (by kernel_rfl) (hprm12 bM_) rfl rfl HT Hb hG hv (fun _ _ h => h) (rfl) H
      · intro bM_ Lx_ Sd_ a w G1 _ _ hSi hc hG HT hv; have H := HT; clear hSi; obtain ⟨u48, hu48, hp48⟩ := hv 16 48 (hc 16 (by decide)) rfl; obtain rfl : u48 = .slice (some ⟨lb, lo, none⟩) (bdN s).length lc := hp48; have H := H.addS hu48; obtain ⟨u49, hu49, hp49⟩ := hv 17 49 (hc 17 (by decide)) rfl; obtain rfl : u49 = vi ((j : Int) + 1) := hp49; have H := H.addS hu49; have Hb := H.full; have H := Hb; clear hc; refine s_index un32sgc ty3sgc (j + 1) H wn rfl rfl (by omega) (by omega) rfl ?_; clear H; intro a H; refine wl_nil ⟨rfl, ?_⟩; exact draw_val (by kernel_rfl) (hprm12 bM_) rfl rfl HT Hb hG hv (fun _ _ h => h) (rfl) H
      · intro bM_ Lx_ Sd_ a w G1 _ _ hSi hc hG HT hv; have H := HT; clear hSi; obtain ⟨u50, hu50, hp50⟩ := hv 18 50 (hc 18 (by decide)) rfl; obtain rfl : u50 = .pointer (some ⟨lb, lo + (j + 1) * 1, none⟩) := hp50; have H := H.addS hu50; have Hb := H.full; have H := Hb; clear hc; refine s_load ty3sgc H wn rfl (H.hp.gcell (gcell_mono hG g2)) rfl ?_; clear H; intro a H; refine wl_nil ⟨rfl, ?_⟩; exact draw_val (by kernel_rfl) (hprm12 bM_) rfl rfl HT Hb hG hv (fun _ _ h => h) (rfl) H
      · intro bM_ Lx_ Sd_ a w G1 _ _ hSi hc hG HT hv; have H := HT; clear hSi; obtain ⟨u42, hu42, hp42⟩ := hv 10 42 (hc 10 (by decide)) rfl; obtain rfl : u42 = vi (fndS sTab z) := hp42; have H := H.addS hu42; obtain ⟨u47, hu47, hp47⟩ := hv 15 47 (hc 15 (by decide)) rfl; obtain rfl : u47 = vi x0 := hp47; have H := H.addS hu47; obtain ⟨u51, hu51, hp51⟩ := hv 19 51 (hc 19 (by decide)) rfl; obtain rfl : u51 = vi x1 := hp51; have H := H.addS hu51; have Hb := H.full; have H := Hb; clear hc; refine s_build sr100sgc [_, _, _] H wn rfl rfl rfl rfl ?_; clear H; intro a H; refine wl_nil ⟨rfl, ?_⟩; exact draw_val (by kernel_rfl) (hprm12 bM_) rfl rfl HT Hb hG hv (fun _ _ h => h) (rfl) H
      · intro _ _ _ _ _ _ _ hB; exact absurd hB (by decide)
      · intro _ _ _ _ _ _ hB; exact absurd hB (by decide)
      intro _ _ _ _ _ _ hB; exact absurd hB (by decide)
    · clear H; intro o_ Sd_ a w G1 ho_ _ hc hG HT hv; obtain rfl : _ = o_ := Option.some.inj ho_; clear ho_; have H := HT; obtain ⟨u52, hu52, hp52⟩ := hv 0 20 52 (by decide) (hc 20 (by decide)) rfl; obtain rfl : u52 = .agg #[vi (fndS sTab z), vi x0, vi x1] := hp52; have H := H.addS hu52; have Hb := H.full; have H := Hb; clear hc; refine s_buildSlice un73sgc ty100sgc [_, _, _] [_, _, _] H wn rfl rfl rfl rfl rfl (by intro i q h; match i, h with | 0, h => exact h | n + 1, h => simp at h) rfl rfl ?_; clear H; intro b53 a w hb53 H; refine wl_nil ⟨rfl, b53, ?_⟩; exact draw_mid (by kernel_rfl) rfl HT Hb hG (fun j e h1 h2 h3 => hv _ j e h1 h2 h3) (rfl) H
    clear H; intro b53 a w G hGm12 H hv; obtain ⟨u32, hu32, hp32⟩ := hv 0 32 (by decide) rfl; obtain rfl : u32 = .slice vA j vc := hp32; have H := H.addS hu32; obtain ⟨u53, hu53, hp53⟩ := hv 21 53 (by decide) rfl; obtain rfl : u53 = .slice (some ⟨b53, 0, none⟩) 1 1 := hp53; have H := H.addS hu53; clear hv; refine s_append (Li := [_]) (Lo := Lo) (news := [vi (fndS sTab z), vi x0, vi x1]) un73sgc ty100sgc rfl rfl H wn rfl rfl hrw rfl (H.hp.ocells 0 rfl rfl) rfl (by omega) (by omega) rfl ?_; clear H; intro v54 Lo54 a w hrw54 H
    have hrw54' : IsRow 100 3 v54 (j + 1) (((cluS s).take (j + 1)).map ClD.cells).flatten Lo54 := by
      rw [List.take_succ_eq_append_getElem hjc, hcd2, List.map_append, List.flatten_append]; exact hrw54
    refine s_assign H wn rfl rfl ?_; clear H; intro a H; refine wl_nil ⟨rfl, ?_⟩; refine hK14 _ _ ?_; clear hK14; refine c_region ?_; refine s_move H wn rfl rfl ?_; clear H; intro a H; refine s_add _ H wn rfl rfl rfl (by omega) (by omega) rfl ?_; clear H; intro a H; refine s_assign H wn rfl rfl ?_; clear H; intro a H; refine wl_nil ?_; refine loop_end ((j + 1, v54, Lo54, G)) (by exact (H.pickT (Pl := [_]) (Pl' := []) [] (by decide) rfl).sub ⟨rfl, rfl, rfl, rfl, rfl, trivial⟩) ?_ ?_
    · (try dsimp only); exact ⟨by omega, hrw54', fun b o h => hGm12 b o (hgm b o h)⟩
    first | omega | (dsimp only; omega)
  intro h29
  try have p29 := of_decide_eq_false h29
  refine c_exit ?_; refine hK10 _ _ ?_; clear hK10; refine c_seq (fun _ hK15 => ?_); refine c_region ?_; refine s_move H wn rfl rfl ?_; clear H; intro a H; (iterate 2 refine s_assign H wn rfl rfl ?_; clear H; intro a H); refine wl_nil ?_; refine hK15 _ _ ?_; clear hK15; refine c_ret ?_
  have hlc : (cluS s).length = (bdN s).length - 1 := by simp [cluS]
  obtain ⟨Gr, hmr, hrep, H⟩ := St.giveRow (Li := []) (Lo := Lo) H hrw (rows := (cluS s).map ClD.dat) (by rw [List.length_map]; omega) (by rw [List.take_of_length_le (by omega)]; exact clus_cat _ _); refine (leaveT H Tryd.results31 (.cons (rv_tmp H rfl) (.cons (rv_tmp H rfl) .nil)) ?_).1; exact H.hp.ret ⟨_, rfl, hrep⟩
theorem stokens_spec {G0 : GH} (G : GH) (w0 : World) (hG : Hold G w0) (h0 : ∀ b o, G0 b = some o → G b = some o) (s : ByteArray) (hs : SOk G0 s) :
    Calls Tryd.prog 26 #[.string s] w0 (Ret w0 G fun u G' => ∃ x, u = .tuple #[x, vi 0] ∧ RepV G' (.sl 3 ((tkS (cluS s)).map TkD.dat)) x) := by
  have hcl := clS_len s; have hsz := hs.size
  have hlc : (cluS s).length = (clS s).length := by simp [cluS, bdN]
  have htl := tkF_len (cluS s).length (cluS s); refine enter (N := 17) (T := [(0, _)]) (F := fun k => k < w0.heap.size) (L := []) Tryd.func26 rfl Tryd.ntmps26 rfl rfl hG (fun _ h => h) (fun _ h => by cases h) (fun _ h => by cases h) (fun _ h => by cases h) List.Pairwise.nil ?_; intro a H; refine c_seq (fun _ hK1 => ?_); refine c_region ?_; (iterate 2 refine s_assign H wn rfl rfl ?_; clear H; intro a H); refine wl_nil ?_; refine hK1 _ _ ?_; clear hK1; refine c_seq (fun _ hK2 => ?_); refine c_region ?_; refine s_move H wn rfl rfl ?_; clear H; intro a H; refine s_call en31sgc H wn rfl (sclusters_spec _ _ H.hp.ro h0 s hs) rfl ?_; clear H; rintro v8 G8 a w ⟨x8, rfl, hcs⟩ hm8 H; refine s_move H wn rfl rfl ?_; clear H; intro a H; (iterate 2 refine s_extract H wn rfl rfl rfl ?_; clear H; intro a H); (iterate 2 refine s_assign H wn rfl rfl ?_; clear H; intro a H); refine wl_nil ?_; refine hK2 _ _ ?_; clear hK2; refine c_seq (fun _ hK3 => ?_); refine c_seq (fun _ hK4 => ?_); refine c_region ?_; refine s_move H wn rfl rfl ?_; clear H; intro a H; refine s_cmp H wn rfl rfl rfl rfl ?_; clear H; intro a H; refine wl_nil ?_; refine hK4 _ _ ?_; clear hK4; refine c_cond H rfl ?_ ?_
  · intro h12
    try have p12 := of_decide_eq_true h12
    exact absurd h12 (by decide)
  intro h12
  try have p12 := of_decide_eq_false h12
  refine c_skip ?_; refine hK3 _ _ ?_; clear hK3; refine c_seq (fun _ hK5 => ?_); refine c_region ?_; refine s_move H wn rfl rfl ?_; clear H; intro a H; refine s_callL en33sgc (Li := []) (L := []) H wn rfl (tokens_spec (Hp.owns (Li := []) H.hp) _ _ hcs) rfl ?_; clear H; rintro v15 _ L15 a w ⟨rfl, bx, rfl, rfl⟩ - H; dsimp only [List.nil_append] at H; refine s_callL en32sgc (Li := []) (L := [_]) H wn rfl (collect_spec (Hp.owns (Li := []) H.hp) (by unfold tkS; omega) (tokens1_iter hcs)) rfl ?_; clear H; rintro v16 G16 L16 a w ⟨rfl, hrep⟩ hm16 H; dsimp only [List.nil_append] at H; (iterate 2 refine s_assign H wn rfl rfl ?_; clear H; intro a H); refine wl_nil ?_; refine hK5 _ _ ?_; clear hK5; refine c_ret ?_; refine (leaveT H Tryd.results26 (.cons (rv_tmp H rfl) (.cons (rv_tmp H rfl) .nil)) ?_).1; exact H.hp.ret ⟨_, rfl, hrep⟩
end Go.Proofs.YtpmcdlhhfbobfaaDoor
