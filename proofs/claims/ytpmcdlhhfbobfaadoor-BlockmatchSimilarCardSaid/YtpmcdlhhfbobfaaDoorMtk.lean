/-
  Package obeluslaw31: tokens, similarity.
-/
import Derived.Test.YtpmcdlhhfbobfaaDoorSlc
import Derived.Test.YtpmcdlhhfbobfaaDoorBsm
namespace Go.Proofs.YtpmcdlhhfbobfaaDoor
open Go.RowKit
theorem un59mtk : Tryd.prog.underlying 59 = some (.slice 9) := by kernel_rfl
theorem ty9mtk : Ty Tryd.prog 9 1 16 [.string ⟨#[]⟩] false := ⟨by kernel_rfl, by kernel_rfl⟩
theorem en26mtk : ∀ args w, (callFunc 26 args).run Tryd.prog w = .ok (.enter 26 args) w := enters Tryd.func26 rfl (by kernel_rfl)
theorem un60mtk : Tryd.prog.underlying 60 = some (.slice 66) := by kernel_rfl
theorem ty66mtk : Ty Tryd.prog 66 3 24 [.int .i64 0, .int .i64 0, .int .i64 0] true := ⟨by kernel_rfl, by kernel_rfl⟩
theorem fd66_1mtk : Fld Tryd.prog 66 1 1 := ⟨by kernel_rfl⟩
theorem ty3mtk : Ty Tryd.prog 3 1 8 [.int .i64 0] false := ⟨by kernel_rfl, by kernel_rfl⟩
theorem fd66_2mtk : Fld Tryd.prog 66 2 2 := ⟨by kernel_rfl⟩
theorem en27mtk : ∀ args w, (callFunc 27 args).run Tryd.prog w = .ok (.enter 27 args) w := enters Tryd.func27 rfl (by kernel_rfl)
theorem fd66_0mtk : Fld Tryd.prog 66 0 0 := ⟨by kernel_rfl⟩
theorem un41mtk : Tryd.prog.underlying 41 = some (.slice 48) := by kernel_rfl
theorem ty48mtk : Ty Tryd.prog 48 2 16 [.int .i64 0, .int .i64 0] true := ⟨by kernel_rfl, by kernel_rfl⟩
theorem sr48mtk : Srt Tryd.prog 48 [(0, 1), (1, 1)] [.int .i64 0, .int .i64 0] := ⟨by kernel_rfl, by kernel_rfl⟩
theorem str_beq (p q : ByteArray) : (p.toList == q.toList) = decide (p = q) := by
  rw [ByteArray.toList_eq, ByteArray.toList_eq]
  by_cases h : p = q
  · subst h; simp
  simp only [h, decide_false, beq_eq_false_iff_ne, ne_eq]
  exact fun e => h (Go.WideShapes.bytes_inj e)
theorem keyI_at (x : ByteArray) : ∀ (l : List ByteArray) (i k : Nat), k ≤ l.length → (∀ q (h : q < l.length), q < k → ¬ l[q] = x) → (∀ h : k < l.length, l[k] = x) → keyI x i l = if k < l.length then some (i + k + 1) else none
  | [], i, k, hk, _, _ => by rw [keyI, if_neg (by simp)]
  | y :: l, i, 0, _, _, h1 => by rw [keyI, if_pos (show y = x from h1 (by simp)), if_pos (by simp)]
  | y :: l, i, k + 1, hk, h0, h1 => by
    have hy : ¬ y = x := h0 0 (by simp) (by omega); rw [keyI, if_neg hy, keyI_at x l (i + 1) k (by simpa using hk) (fun q h hq => h0 (q + 1) (by simpa using h) (by omega)) (fun h => h1 (by simpa using h))]
    simp only [List.length_cons, Nat.add_lt_add_iff_right]
    split
    · congr 1; omega
    rfl
theorem key_at {x : ByteArray} {l : List ByteArray} {k : Nat} (hk : k ≤ l.length) (h0 : ∀ q (h : q < l.length), q < k → ¬ l[q] = x) (h1 : ∀ h : k < l.length, l[k] = x) : keyN l x = k + 1 ∧ keyK l x = if k = l.length then l ++ [x] else l := by
  have h := keyI_at x l 0 k hk h0 h1; rw [keyN, keyK, h]
  by_cases e : k < l.length
  · rw [if_pos e, if_neg (show ¬ k = l.length by omega)]; exact ⟨by simp, rfl⟩
  rw [if_neg e, if_pos (show k = l.length by omega)]; exact ⟨by first | (simp; done) | (simp; omega), rfl⟩
theorem row_congr {e : Nat} {v : Value} {K K' : List ByteArray} {Lo : OL} (h : IsRow e 1 v K.length (K.map Value.string) Lo) (hK : K = K') : IsRow e 1 v K'.length (K'.map Value.string) Lo := by subst hK; exact h
theorem permZ (B L4 L5 L6 : OL) : (B ++ (L4 ++ (L5 ++ L6))).Perm ((B ++ (L4 ++ L5)) ++ L6) := by
  rw [List.append_assoc B, List.append_assoc L4]
theorem permX (B L4 L5 L6 : OL) : (B ++ (L4 ++ (L5 ++ L6))).Perm ((B ++ (L5 ++ L6)) ++ L4) := by
  rw [List.append_assoc B]; exact List.perm_append_comm.append_left B
theorem permY (B L4 L5 L6 : OL) : (B ++ (L4 ++ (L5 ++ L6))).Perm ((B ++ (L4 ++ L6)) ++ L5) := by
  rw [List.append_assoc B, List.append_assoc L4]; exact (List.perm_append_comm.append_left L4).append_left B
/-- The side's string, and the keys it begins with. -/
def sdS (a b : ByteArray) (d : Nat) : ByteArray := if d = 0 then a else b
def sdK (a : ByteArray) (d : Nat) : List ByteArray := if d = 0 then [] else (tokP (tkL a) []).2
def cur (a b : ByteArray) (d i : Nat) : List TokD × List ByteArray := tokP ((tkL (sdS a b d)).take i) (sdK a d)
/-- What the two rows hold. -/
def outX (a b : ByteArray) (d i : Nat) : List TokD := if d = 0 then (cur a b 0 i).1 else twoA a
def outY (a b : ByteArray) (d i : Nat) : List TokD := if d = 0 then [] else if d = 1 then (cur a b 1 i).1 else twoB a b
def outK (a b : ByteArray) (d i : Nat) : List ByteArray := if d < 2 then (cur a b d i).2 else (cur a b 1 (tkL b).length).2
theorem out_next {a b : ByteArray} {d : Nat} (hd : d < 2) : outX a b d (tkL (sdS a b d)).length = outX a b (d + 1) 0 ∧ outY a b d (tkL (sdS a b d)).length = outY a b (d + 1) 0 ∧ outK a b d (tkL (sdS a b d)).length = outK a b (d + 1) 0 := by
  rcases (show d = 0 ∨ d = 1 by omega) with rfl | rfl
  · simp [outX, outY, outK, cur, sdS, sdK, twoA, tokP]
  simp [outX, outY, outK, cur, sdS, sdK, twoB]
theorem out_len {a b : ByteArray} {d i : Nat} (hd : d ≤ 2) (hi : d < 2 → i ≤ (tkL (sdS a b d)).length) : (outX a b d i).length ≤ a.size + 1 ∧ (outY a b d i).length ≤ b.size + 1 ∧ (outK a b d i).length ≤ a.size + b.size + 2 := by
  have ha := tkL_len a; have hb := tkL_len b; have h1 := tokP_all (tkL a) []; have h2 := tokP_all (tkL b) (tokP (tkL a) []).2; rw [List.length_nil] at h1
  have hX : (twoA a).length ≤ a.size + 1 := by rw [twoA]; omega
  have hY : (twoB a b).length ≤ b.size + 1 := by rw [twoB]; omega
  rcases (show d = 0 ∨ d = 1 ∨ d = 2 by omega) with rfl | rfl | rfl
  · have hi0 := hi (by decide); have h3 := tokP_len (tkL a) [] i hi0
    simp only [outX, outY, outK, cur, sdS, sdK, if_true, List.length_nil] at *
    simp at *
    omega
  · have hi0 := hi (by decide); have h3 := tokP_len (tkL b) (tokP (tkL a) []).2 i hi0
    simp [outX, outY, outK, cur, sdS, sdK] at *
    omega
  simp [outX, outY, outK, cur, sdS, sdK] at *
  omega
theorem cur_succ {a b : ByteArray} {d i : Nat} (h : i < (tkL (sdS a b d)).length) : cur a b d (i + 1) = tokStep (cur a b d i) (tkL (sdS a b d))[i] := tokP_succ h _
set_option maxHeartbeats 2000000 in
theorem mtokens_spec {G0 : GH} (G : GH) (w0 : World) (hG : Hold G w0) (h0 : ∀ b o, G0 b = some o → G b = some o) (s t : ByteArray) (hs : SOk G0 s) (ht : SOk G0 t) (hz1 : s.size ≤ 1000) (hz2 : t.size ≤ 1000) :
    Calls Tryd.prog 19 #[.string s, .string t] w0 (Ret w0 G fun u G' => ∃ x y, u = .tuple #[x, y] ∧ RepV G' (.sl 2 ((twoA s).map TokD.dat)) x ∧ RepV G' (.sl 2 ((twoB s t).map TokD.dat)) y) := by
  have hml : maxLen = 9223372036854775807 := rfl; refine enter (N := 114) (T := [(0, _), (1, _)]) (F := fun k => k < w0.heap.size) (L := []) Tryd.func19 rfl Tryd.ntmps19 rfl rfl hG (fun _ h => h) (fun _ h => by cases h) (fun _ h => by cases h) (fun _ h => by cases h) List.Pairwise.nil ?_; intro a H; refine c_seq (fun _ hK1 => ?_); refine c_region ?_; (iterate 2 refine s_assign H wn rfl rfl ?_; clear H; intro a H); refine wl_nil ?_; refine hK1 _ _ ?_; clear hK1; refine c_seq (fun _ hK2 => ?_); refine c_region ?_; refine s_assign H wn rfl rfl ?_; clear H; intro a H; refine wl_nil ?_; refine hK2 _ _ ?_; clear hK2; refine c_seq (fun _ hK3 => ?_); refine c_seq (fun _ hK4 => ?_); refine c_region ?_; refine s_assign H wn rfl rfl ?_; clear H; intro a H; refine wl_nil ?_; refine hK4 _ _ ?_; clear hK4; refine c_block ?_; skip; refine c_loopS (ι := Nat × Value × Value × Value × OL × OL × OL × GH) (Tc := [(0, _), (1, _)]) (Lc := []) (fun (gh : Nat × Value × Value × Value × OL × OL × OL × GH) => [(4, gh.2.1), (5, gh.2.2.1), (6, gh.2.2.2.1), (7, vi gh.1)]) (fun (gh : Nat × Value × Value × Value × OL × OL × OL × GH) => [] ++ (gh.2.2.2.2.1 ++ (gh.2.2.2.2.2.1 ++ gh.2.2.2.2.2.2.1))) (fun (gh : Nat × Value × Value × Value × OL × OL × OL × GH) => gh.2.2.2.2.2.2.2) (fun (gh : Nat × Value × Value × Value × OL × OL × OL × GH) => gh.1 ≤ 2 ∧ IsRow 48 2 gh.2.1 (outX s t gh.1 0).length (tokC (outX s t gh.1 0)) gh.2.2.2.2.1 ∧ IsRow 48 2 gh.2.2.1 (outY s t gh.1 0).length (tokC (outY s t gh.1 0)) gh.2.2.2.2.2.1 ∧ IsRow 9 1 gh.2.2.2.1 (outK s t gh.1 0).length ((outK s t gh.1 0).map Value.string) gh.2.2.2.2.2.2.1 ∧ (∀ b o, G b = some o → gh.2.2.2.2.2.2.2 b = some o)) (fun (gh : Nat × Value × Value × Value × OL × OL × OL × GH) => 2 - gh.1) ((0, .slice none 0 0, .slice none 0 0, .slice none 0 0, [], [], [], G)) (by exact (H).sub ⟨rfl, rfl, rfl, rfl, rfl, rfl, trivial⟩) ?_ ?_
  · exact ⟨Nat.zero_le _, IsRow.nil, IsRow.nil, IsRow.nil, fun _ _ h => h⟩
  clear H; intro gh a w hI H; obtain ⟨d, v4, v5, v6, L4, L5, L6, g⟩ := gh; dsimp only at hI H; obtain ⟨hd, hr4, hr5, hr6, hgm⟩ := hI; dsimp only [List.cons_append, List.nil_append, List.append_nil] at H; refine c_seq (fun _ hK5 => ?_); refine c_seq (fun _ hK6 => ?_); refine c_region ?_; refine s_move H wn rfl rfl ?_; clear H; intro a H; refine s_cmp H wn rfl rfl rfl rfl ?_; clear H; intro a H; refine wl_nil ?_; refine hK6 _ _ ?_; clear hK6; refine c_cond H rfl ?_ ?_
  · intro h17
    try have p17 := of_decide_eq_true h17
    have hd1 : d < 2 := by omega
    have hsd : SOk G0 (sdS s t d) := by unfold sdS; split <;> assumption
    have hsz : (sdS s t d).size ≤ 1000 := by unfold sdS; split <;> assumption
    refine c_skip ?_; refine hK5 _ _ ?_; clear hK5; refine c_seq (fun _ hK7 => ?_); refine c_block ?_; refine c_seq (fun _ hK8 => ?_); refine c_region ?_; (iterate 2 refine s_move H wn rfl rfl ?_; clear H; intro a H); refine s_buildSlice un59mtk ty9mtk [_, _] [_, _] H wn rfl rfl rfl rfl rfl (by intro i q h; match i, h with | 0, h => exact h | 1, h => exact h | n + 2, h => simp at h) rfl rfl ?_; clear H; intro b22 a w hb22 H; refine s_move H wn rfl rfl ?_; clear H; intro a H; refine s_index un59mtk ty9mtk d H wn rfl rfl rfl (by omega) rfl ?_; clear H; intro a H
    refine s_load ty9mtk H wn rfl (H.hp.ocell 0 rfl (show _ = some (Value.string (sdS s t d)) by rcases (show d = 0 ∨ d = 1 by omega) with rfl | rfl <;> rfl)) rfl ?_; clear H; intro a H
    refine s_assign H wn rfl rfl ?_; clear H; intro a H; refine wl_nil ?_; refine hK8 _ _ ?_; clear hK8; refine c_seq (fun _ hK9 => ?_); refine c_region ?_; refine s_move H wn rfl rfl ?_; clear H; intro a H; refine s_call en26mtk H wn rfl (stokens_spec _ _ H.hp.ro (fun b o h => hgm b o (h0 b o h)) _ hsd) rfl ?_; clear H; rintro v28 G28 a w ⟨x28, rfl, htk⟩ hm28 H; obtain ⟨tA, tc, rfl, -, -, -⟩ := htk.slice; rw [List.length_map] at *
    have hll : (tkL (sdS s t d)).length = (tkS (cluS (sdS s t d))).length := by simp [tkL]
    have htl := tkL_len (sdS s t d); refine s_move H wn rfl rfl ?_; clear H; intro a H; (iterate 2 refine s_extract H wn rfl rfl rfl ?_; clear H; intro a H); (iterate 2 refine s_assign H wn rfl rfl ?_; clear H; intro a H); refine wl_nil ?_; refine hK9 _ _ ?_; clear hK9; refine c_seq (fun _ hK10 => ?_); refine c_region ?_; refine s_assign H wn rfl rfl ?_; clear H; intro a H; refine wl_nil ?_; refine hK10 _ _ ?_; clear hK10; refine c_block ?_; skip; refine c_loopS (ι := Nat × Value × Value × Value × OL × OL × OL × GH) (Tc := [(0, _), (1, _), (7, _), (8, _), (9, _)]) (Lc := [(_, _)]) (fun (gh : Nat × Value × Value × Value × OL × OL × OL × GH) => [(4, gh.2.1), (5, gh.2.2.1), (6, gh.2.2.2.1), (11, vi gh.1)]) (fun (gh : Nat × Value × Value × Value × OL × OL × OL × GH) => [] ++ (gh.2.2.2.2.1 ++ (gh.2.2.2.2.2.1 ++ gh.2.2.2.2.2.2.1))) (fun (gh : Nat × Value × Value × Value × OL × OL × OL × GH) => gh.2.2.2.2.2.2.2) (fun (gh : Nat × Value × Value × Value × OL × OL × OL × GH) => gh.1 ≤ (tkL (sdS s t d)).length ∧ IsRow 48 2 gh.2.1 (outX s t d gh.1).length (tokC (outX s t d gh.1)) gh.2.2.2.2.1 ∧ IsRow 48 2 gh.2.2.1 (outY s t d gh.1).length (tokC (outY s t d gh.1)) gh.2.2.2.2.2.1 ∧ IsRow 9 1 gh.2.2.2.1 (outK s t d gh.1).length ((outK s t d gh.1).map Value.string) gh.2.2.2.2.2.2.1 ∧ (∀ b o, G b = some o → gh.2.2.2.2.2.2.2 b = some o) ∧ (∀ b o, G28 b = some o → gh.2.2.2.2.2.2.2 b = some o)) (fun (gh : Nat × Value × Value × Value × OL × OL × OL × GH) => (tkL (sdS s t d)).length - gh.1) ((0, v4, v5, v6, L4, L5, L6, G28)) (by exact (H).sub ⟨rfl, rfl, rfl, rfl, rfl, rfl, rfl, rfl, rfl, trivial⟩) ?_ ?_
    · exact ⟨Nat.zero_le _, hr4, hr5, hr6, fun b o h => hm28 b o (hgm b o h), fun _ _ h => h⟩
    clear H; intro gh a w hI H; obtain ⟨i, w4, w5, w6, M4, M5, M6, g2⟩ := gh; dsimp only at hI H; obtain ⟨hi, hq4, hq5, hq6, hgm2, hgt⟩ := hI; have hol := out_len (a := s) (b := t) (d := d) (i := i) (by omega) (fun _ => hi); dsimp only [List.cons_append, List.nil_append, List.append_nil] at H; refine c_seq (fun _ hK11 => ?_); refine c_seq (fun _ hK12 => ?_); refine c_region ?_; (iterate 2 refine s_move H wn rfl rfl ?_; clear H; intro a H); refine s_len un60mtk H wn rfl rfl ?_; clear H; intro a H; refine s_cmp H wn rfl rfl rfl rfl ?_; clear H; intro a H; refine s_move H wn rfl rfl ?_; clear H; intro a H; refine s_split H 35 rfl ?_ ?_
    · intro h35
      try have p35 := of_decide_eq_true h35
      refine s_move H (wg H rfl rfl h35) rfl rfl ?_; clear H; intro a H; refine s_cmp H (wg H rfl rfl h35) rfl rfl rfl rfl ?_; clear H; intro a H; refine s_pick_t H wn rfl h35 rfl rfl ?_; clear H; intro a H; refine wl_nil ?_; refine hK12 _ _ ?_; clear hK12; refine c_cond H rfl ?_ ?_
      · intro h38
        try have p38 := of_decide_eq_true h38
        have hi1 : i < (tkL (sdS s t d)).length := by omega
        obtain ⟨tb, tof, rfl, hrow⟩ := tk_at (htk.mono hgt) (show i < (tkS (cluS (sdS s t d))).length by omega); obtain ⟨tok, htok⟩ : ∃ x, x = (tkS (cluS (sdS s t d)))[i]'(by omega) := ⟨_, rfl⟩; have hrl : (rnS (sdS s t d)).length ≤ (sdS s t d).size := rnF_len _ _ 0; have htb := tkS_in (sdS s t d) tok (by rw [htok]; exact List.getElem_mem _); rw [← htok] at hrow
        have hlk : (tkL (sdS s t d))[i] = (tok, txF (sdS s t d) tok) := by simp [tkL, htok]
        obtain ⟨x, hx⟩ : ∃ x, x = txF (sdS s t d) tok := ⟨_, rfl⟩
        have hf0 : tok.from_ = (tok.from_.toNat : Int) := by omega
        have ht0 : tok.to = (tok.to.toNat : Int) := by omega
        have hxe : (sdS s t d).extract (advS (sdS s t d) 0 tok.from_.toNat) (advS (sdS s t d) 0 tok.to.toNat) = x := by rw [hx, txF, units_text hsd.ok (by omega)]
        have hst := cur_succ (a := s) (b := t) (d := d) hi1; rw [hlk, ← hx] at hst; refine c_skip ?_; refine hK11 _ _ ?_; clear hK11; refine c_seq (fun _ hK13 => ?_); refine c_block ?_; refine c_seq (fun _ hK14 => ?_)
        have hprm10 : ∀ (ix_ : Nat) (v : Value) (G G' : GH), (∀ k o, G k = some o → G' k = some o) → (fun (ix_ : Nat) (v : Value) (G : GH) => match ix_ with | 0 => v = .string (sdS s t d) | 1 => v = .slice (some ⟨tb, tof, none⟩) (tkS (cluS (sdS s t d))).length tc | 2 => v = vi i | 3 => v = .pointer (some ⟨tb, tof + i * 3, none⟩) | 4 => v = .pointer (some ⟨tb, tof + i * 3 + 1, none⟩) | 5 => v = vi tok.from_ | 6 => v = .slice (some ⟨tb, tof, none⟩) (tkS (cluS (sdS s t d))).length tc | 7 => v = vi i | 8 => v = .pointer (some ⟨tb, tof + i * 3, none⟩) | 9 => v = .pointer (some ⟨tb, tof + i * 3 + 2, none⟩) | 10 => v = vi tok.to | 11 => v = .tuple #[.string x, vi 0] | 12 => v = .tuple #[.string x, vi 0] | 13 => v = .string x | 14 => v = vi 0 | 15 => v = .string x | 16 => v = vi 0 | _ => True) ix_ v G → (fun (ix_ : Nat) (v : Value) (G : GH) => match ix_ with | 0 => v = .string (sdS s t d) | 1 => v = .slice (some ⟨tb, tof, none⟩) (tkS (cluS (sdS s t d))).length tc | 2 => v = vi i | 3 => v = .pointer (some ⟨tb, tof + i * 3, none⟩) | 4 => v = .pointer (some ⟨tb, tof + i * 3 + 1, none⟩) | 5 => v = vi tok.from_ | 6 => v = .slice (some ⟨tb, tof, none⟩) (tkS (cluS (sdS s t d))).length tc | 7 => v = vi i | 8 => v = .pointer (some ⟨tb, tof + i * 3, none⟩) | 9 => v = .pointer (some ⟨tb, tof + i * 3 + 2, none⟩) | 10 => v = vi tok.to | 11 => v = .tuple #[.string x, vi 0] | 12 => v = .tuple #[.string x, vi 0] | 13 => v = .string x | 14 => v = vi 0 | 15 => v = .string x | 16 => v = vi 0 | _ => True) ix_ v G' := by
          intro ix_ v G G' hm h
          match ix_, h with
          | 0, h => exact h
          | 1, h => exact h
          | 2, h => exact h
          | 3, h => exact h
          | 4, h => exact h
          | 5, h => exact h
          | 6, h => exact h
          | 7, h => exact h
          | 8, h => exact h
          | 9, h => exact h
          | 10, h => exact h
          | 11, h => exact h
          | 12, h => exact h
          | 13, h => exact h
          | 14, h => exact h
          | 15, h => exact h
          | 16, h => exact h
          | _ + 17, h => exact trivial
        refine c_drawI (hmxb) [[], [], [], [1, 2], [1, 2, 3], [1, 2, 3, 4], [], [], [6, 7], [6, 7, 8], [6, 7, 8, 9], [0, 1, 2, 3, 4, 5, 6, 7, 8, 9, 10], [0, 1, 2, 3, 4, 5, 6, 7, 8, 9, 10, 11], [0, 1, 2, 3, 4, 5, 6, 7, 8, 9, 10, 11, 12], [0, 1, 2, 3, 4, 5, 6, 7, 8, 9, 10, 11, 12], [0, 1, 2, 3, 4, 5, 6, 7, 8, 9, 10, 11, 12, 13], [0, 1, 2, 3, 4, 5, 6, 7, 8, 9, 10, 11, 12, 13, 14, 15]] [] (by kernel_rfl) (by kernel_rfl) (fun (ix_ : Nat) (v : Value) (G : GH) => match ix_ with | 0 => v = .string (sdS s t d) | 1 => v = .slice (some ⟨tb, tof, none⟩) (tkS (cluS (sdS s t d))).length tc | 2 => v = vi i | 3 => v = .pointer (some ⟨tb, tof + i * 3, none⟩) | 4 => v = .pointer (some ⟨tb, tof + i * 3 + 1, none⟩) | 5 => v = vi tok.from_ | 6 => v = .slice (some ⟨tb, tof, none⟩) (tkS (cluS (sdS s t d))).length tc | 7 => v = vi i | 8 => v = .pointer (some ⟨tb, tof + i * 3, none⟩) | 9 => v = .pointer (some ⟨tb, tof + i * 3 + 2, none⟩) | 10 => v = vi tok.to | 11 => v = .tuple #[.string x, vi 0] | 12 => v = .tuple #[.string x, vi 0] | 13 => v = .string x | 14 => v = vi 0 | 15 => v = .string x | 16 => v = vi 0 | _ => True) hprm10 H ?_ ?_
        · clear H; refine (allI_cons ?_ (allI_cons ?_ (allI_cons ?_ (allI_cons ?_ (allI_cons ?_ (allI_cons ?_ (allI_cons ?_ (allI_cons ?_ (allI_cons ?_ (allI_cons ?_ (allI_cons ?_ (allI_cons ?_ (allI_cons ?_ (allI_cons ?_ (allI_cons ?_ (allI_cons ?_ (allI_cons ?_ allI_nil)))))))))))))))))
          · intro Sd_ a w G1 _ hSi hc hG HT hv; have H := HT; clear hSi; have Hb := H.full; have H := Hb; clear hc; refine s_move H wn rfl rfl ?_; clear H; intro a H; refine wl_nil ⟨rfl, ?_⟩; exact draw_val (by kernel_rfl) hprm10 rfl rfl HT Hb hG hv (fun _ _ h => h) (rfl) H
          · intro Sd_ a w G1 _ hSi hc hG HT hv; have H := HT; clear hSi; have Hb := H.full; have H := Hb; clear hc; refine s_move H wn rfl rfl ?_; clear H; intro a H; refine wl_nil ⟨rfl, ?_⟩; exact draw_val (by kernel_rfl) hprm10 rfl rfl HT Hb hG hv (fun _ _ h => h) (rfl) H
          · intro Sd_ a w G1 _ hSi hc hG HT hv; have H := HT; clear hSi; have Hb := H.full; have H := Hb; clear hc; refine s_move H wn rfl rfl ?_; clear H; intro a H; refine wl_nil ⟨rfl, ?_⟩; exact draw_val (by kernel_rfl) hprm10 rfl rfl HT Hb hG hv (fun _ _ h => h) (rfl) H
          · intro Sd_ a w G1 _ hSi hc hG HT hv; have H := HT; clear hSi; obtain ⟨u43, hu43, hp43⟩ := hv 1 43 (hc 1 (by decide)) rfl; obtain rfl : u43 = .slice (some ⟨tb, tof, none⟩) (tkS (cluS (sdS s t d))).length tc := hp43; have H := H.addS hu43; obtain ⟨u44, hu44, hp44⟩ := hv 2 44 (hc 2 (by decide)) rfl; obtain rfl : u44 = vi i := hp44; have H := H.addS hu44; have Hb := H.full; have H := Hb; clear hc; refine s_index un60mtk ty66mtk i H wn rfl rfl rfl (by omega) rfl ?_; clear H; intro a H; refine wl_nil ⟨rfl, ?_⟩; exact draw_val (by kernel_rfl) hprm10 rfl rfl HT Hb hG hv (fun _ _ h => h) (rfl) H
          · intro Sd_ a w G1 _ hSi hc hG HT hv; have H := HT; clear hSi; obtain ⟨u45, hu45, hp45⟩ := hv 3 45 (hc 3 (by decide)) rfl; obtain rfl : u45 = .pointer (some ⟨tb, tof + i * 3, none⟩) := hp45; have H := H.addS hu45; have Hb := H.full; have H := Hb; clear hc; refine s_field fd66_1mtk H wn rfl rfl ?_; clear H; intro a H; refine wl_nil ⟨rfl, ?_⟩; exact draw_val (by kernel_rfl) hprm10 rfl rfl HT Hb hG hv (fun _ _ h => h) (rfl) H
          · intro Sd_ a w G1 _ hSi hc hG HT hv; have H := HT; clear hSi; obtain ⟨u46, hu46, hp46⟩ := hv 4 46 (hc 4 (by decide)) rfl; obtain rfl : u46 = .pointer (some ⟨tb, tof + i * 3 + 1, none⟩) := hp46; have H := H.addS hu46; have Hb := H.full; have H := Hb; clear hc; refine s_load ty3mtk H wn rfl (H.hp.gcell (gcell_mono hG (hrow 1 _ rfl))) rfl ?_; clear H; intro a H; refine wl_nil ⟨rfl, ?_⟩; exact draw_val (by kernel_rfl) hprm10 rfl rfl HT Hb hG hv (fun _ _ h => h) (rfl) H
          · intro Sd_ a w G1 _ hSi hc hG HT hv; have H := HT; clear hSi; have Hb := H.full; have H := Hb; clear hc; refine s_move H wn rfl rfl ?_; clear H; intro a H; refine wl_nil ⟨rfl, ?_⟩; exact draw_val (by kernel_rfl) hprm10 rfl rfl HT Hb hG hv (fun _ _ h => h) (rfl) H
          · intro Sd_ a w G1 _ hSi hc hG HT hv; have H := HT; clear hSi; have Hb := H.full; have H := Hb; clear hc; refine s_move H wn rfl rfl ?_; clear H; intro a H; refine wl_nil ⟨rfl, ?_⟩; exact draw_val (by kernel_rfl) hprm10 rfl rfl HT Hb hG hv (fun _ _ h => h) (rfl) H
          · intro Sd_ a w G1 _ hSi hc hG HT hv; have H := HT; clear hSi; obtain ⟨u48, hu48, hp48⟩ := hv 6 48 (hc 6 (by decide)) rfl; obtain rfl : u48 = .slice (some ⟨tb, tof, none⟩) (tkS (cluS (sdS s t d))).length tc := hp48; have H := H.addS hu48; obtain ⟨u49, hu49, hp49⟩ := hv 7 49 (hc 7 (by decide)) rfl; obtain rfl : u49 = vi i := hp49; have H := H.addS hu49; have Hb := H.full; have H := Hb; clear hc; refine s_index un60mtk ty66mtk i H wn rfl rfl rfl (by omega) rfl ?_; clear H; intro a H; refine wl_nil ⟨rfl, ?_⟩; exact draw_val (by kernel_rfl) hprm10 rfl rfl HT Hb hG hv (fun _ _ h => h) (rfl) H
          · intro Sd_ a w G1 _ hSi hc hG HT hv; have H := HT; clear hSi; obtain ⟨u50, hu50, hp50⟩ := hv 8 50 (hc 8 (by decide)) rfl; obtain rfl : u50 = .pointer (some ⟨tb, tof + i * 3, none⟩) := hp50; have H := H.addS hu50; have Hb := H.full; have H := Hb; clear hc; refine s_field fd66_2mtk H wn rfl rfl ?_; clear H; intro a H; refine wl_nil ⟨rfl, ?_⟩; exact draw_val (by kernel_rfl) hprm10 rfl rfl HT Hb hG hv (fun _ _ h => h) (rfl) H
          · intro Sd_ a w G1 _ hSi hc hG HT hv; have H := HT; clear hSi; obtain ⟨u51, hu51, hp51⟩ := hv 9 51 (hc 9 (by decide)) rfl; obtain rfl : u51 = .pointer (some ⟨tb, tof + i * 3 + 2, none⟩) := hp51; have H := H.addS hu51; have Hb := H.full; have H := Hb; clear hc; refine s_load ty3mtk H wn rfl (H.hp.gcell (gcell_mono hG (hrow 2 _ rfl))) rfl ?_; clear H; intro a H; refine wl_nil ⟨rfl, ?_⟩; exact draw_val (by kernel_rfl) hprm10 rfl rfl HT Hb hG hv (fun _ _ h => h) (rfl) H
          · intro Sd_ a w G1 _ hSi hc hG HT hv; have H := HT; clear hSi; obtain ⟨u42, hu42, hp42⟩ := hv 0 42 (hc 0 (by decide)) rfl; obtain rfl : u42 = .string (sdS s t d) := hp42; have H := H.addS hu42; obtain ⟨u47, hu47, hp47⟩ := hv 5 47 (hc 5 (by decide)) rfl; obtain rfl : u47 = vi tok.from_ := hp47; have H := H.addS hu47; obtain ⟨u52, hu52, hp52⟩ := hv 10 52 (hc 10 (by decide)) rfl; obtain rfl : u52 = vi tok.to := hp52; have H := H.addS hu52; have Hb := H.full; have H := Hb; clear hc; rw [hf0, ht0] at H; refine s_call en27mtk H wn rfl (slice_spec _ _ H.hp.ro (sdS s t d) (by omega) hsd.ok tok.from_.toNat tok.to.toNat (by omega) (by omega)) rfl ?_; clear H; rintro v53 G53 a w rfl hGm53 H; rw [hxe] at H; rw [← hf0, ← ht0] at H; refine wl_nil ⟨rfl, ?_⟩; exact draw_val (by kernel_rfl) hprm10 rfl rfl HT Hb hG hv hGm53 (rfl) H
          · intro Sd_ a w G1 _ hSi hc hG HT hv; have H := HT; clear hSi; obtain ⟨u53, hu53, hp53⟩ := hv 11 53 (hc 11 (by decide)) rfl; obtain rfl : u53 = .tuple #[.string x, vi 0] := hp53; have H := H.addS hu53; have Hb := H.full; have H := Hb; clear hc; refine s_move H wn rfl rfl ?_; clear H; intro a H; refine wl_nil ⟨rfl, ?_⟩; exact draw_val (by kernel_rfl) hprm10 rfl rfl HT Hb hG hv (fun _ _ h => h) (rfl) H
          · intro Sd_ a w G1 _ hSi hc hG HT hv; have H := HT; clear hSi; obtain ⟨u41, hu41, hp41⟩ := hv 12 41 (hc 12 (by decide)) rfl; obtain rfl : u41 = .tuple #[.string x, vi 0] := hp41; have H := H.addS hu41; have Hb := H.full; have H := Hb; clear hc; refine s_extract H wn rfl rfl rfl ?_; clear H; intro a H; refine wl_nil ⟨rfl, ?_⟩; exact draw_val (by kernel_rfl) hprm10 rfl rfl HT Hb hG hv (fun _ _ h => h) (rfl) H
          · intro Sd_ a w G1 _ hSi hc hG HT hv; have H := HT; clear hSi; obtain ⟨u41, hu41, hp41⟩ := hv 12 41 (hc 12 (by decide)) rfl; obtain rfl : u41 = .tuple #[.string x, vi 0] := hp41; have H := H.addS hu41; have Hb := H.full; have H := Hb; clear hc; refine s_extract H wn rfl rfl rfl ?_; clear H; intro a H; refine wl_nil ⟨rfl, ?_⟩; exact draw_val (by kernel_rfl) hprm10 rfl rfl HT Hb hG hv (fun _ _ h => h) (rfl) H
          · intro Sd_ a w G1 _ hSi hc hG HT hv; have H := HT; clear hSi; obtain ⟨u54, hu54, hp54⟩ := hv 13 54 (hc 13 (by decide)) rfl; obtain rfl : u54 = .string x := hp54; have H := H.addS hu54; have Hb := H.full; have H := Hb; clear hc; refine s_assign H wn rfl rfl ?_; clear H; intro a H; refine wl_nil ⟨rfl, ?_⟩; exact draw_val (by kernel_rfl) hprm10 rfl rfl HT Hb hG hv (fun _ _ h => h) (rfl) H
          intro Sd_ a w G1 _ hSi hc hG HT hv; have H := HT; clear hSi; obtain ⟨u55, hu55, hp55⟩ := hv 14 55 (hc 14 (by decide)) rfl; obtain rfl : u55 = vi 0 := hp55; have H := H.addS hu55; have Hb := H.full; have H := Hb; clear hc; refine s_assign H wn rfl rfl ?_; clear H; intro a H; refine wl_nil ⟨rfl, ?_⟩; exact draw_val (by kernel_rfl) hprm10 rfl rfl HT Hb hG hv (fun _ _ h => h) (rfl) H
        clear H; intro a w G hGm10 H hv; obtain ⟨u12, hu12, hp12⟩ := hv 15 12 (by decide) rfl; obtain rfl : u12 = .string x := hp12; have H := H.addS hu12; clear hv; refine wl_nil ⟨rfl, ?_⟩; refine hK14 _ _ ?_; clear hK14; refine c_seq (fun _ hK15 => ?_); obtain ⟨K, hK⟩ : ∃ K, K = (cur s t d i).2 := ⟨_, rfl⟩
        have hoK : outK s t d i = K := by rw [outK, if_pos hd1, hK]
        rw [hoK] at hq6 hol; obtain ⟨nA, nc, rfl, hn1, hn2⟩ := hq6.shape; have hGx := hGm10; refine c_region ?_; refine s_assign H wn rfl rfl ?_; clear H; intro a H; refine wl_nil ?_; refine hK15 _ _ ?_; clear hK15; refine c_seq (fun _ hK16 => ?_); refine c_block ?_; skip; refine c_loopS (ι := Nat) (Tc := [(0, _), (1, _), (4, _), (5, _), (6, _), (7, _), (8, _), (9, _), (11, _), (12, _)]) (Lc := [(_, _)]) (fun (gh : Nat) => [(14, vi gh)]) (fun (gh : Nat) => [] ++ (M4 ++ (M5 ++ M6))) (fun (gh : Nat) => G) (fun (gh : Nat) => gh ≤ K.length ∧ ∀ q (h : q < K.length), q < gh → ¬ K[q] = x) (fun (gh : Nat) => K.length - gh) (0) (by exact (H).sub ⟨rfl, rfl, rfl, rfl, rfl, rfl, rfl, rfl, rfl, rfl, rfl, trivial⟩) ?_ ?_
        · exact ⟨Nat.zero_le _, fun q _ h => absurd h (Nat.not_lt_zero _)⟩
        clear H; intro gh a w hI H; obtain ⟨k, hgh⟩ : ∃ x, x = gh := ⟨_, rfl⟩; subst hgh; obtain ⟨hk, hne⟩ := hI; dsimp only [List.cons_append, List.nil_append, List.append_nil] at H; refine c_seq (fun _ hK17 => ?_); refine c_seq (fun _ hK18 => ?_); refine c_region ?_; (iterate 2 refine s_move H wn rfl rfl ?_; clear H; intro a H); refine s_len un59mtk H wn rfl rfl ?_; clear H; intro a H; refine s_cmp H wn rfl rfl rfl rfl ?_; clear H; intro a H; refine s_move H wn rfl rfl ?_; clear H; intro a H; refine s_split H 60 rfl ?_ ?_
        · intro h60
          try have p60 := of_decide_eq_true h60
          have hk1 : k < K.length := by omega
          obtain ⟨nb, ncap, ncur, en, hM6, hc1, hc2, hc3, hc4⟩ : ∃ b cap cur, Value.slice nA K.length nc = .slice (some ⟨b, 0, none⟩) K.length cap ∧ M6 = [(b, .cells cur 9 (0, 0))] ∧ K.length ≤ cap ∧ cap ≤ maxLen ∧ cur.size = cap * 1 ∧ cur.toList.take (K.length * 1) = K.map Value.string := by
            rcases hq6.2 with ⟨_, h, _⟩ | h
            · omega
            exact h
          obtain ⟨en1, -, en2⟩ := Value.slice.inj en; subst en1; subst en2
          have hcell : ncur[k]? = some (.string K[k]) := by
            have h1 : (ncur.toList.take (K.length * 1))[k]? = some (.string K[k]) := by rw [hc4, List.getElem?_map, List.getElem?_eq_getElem hk1]; rfl
            rw [List.getElem?_take, if_pos (by omega)] at h1
            simpa using h1
          (iterate 2 refine s_move H (wg H rfl rfl h60) rfl rfl ?_; clear H; intro a H); refine s_index un59mtk ty9mtk k H (wg H rfl rfl h60) rfl rfl rfl hk1 rfl ?_; clear H; intro a H; refine s_load ty9mtk H (wg H rfl rfl h60) rfl (H.hp.mcell (show (nb, Obj.cells ncur 9 (0, 0)) ∈ _ by rw [hM6]; simp) (by rw [Nat.zero_add, Nat.mul_one]; exact hcell)) rfl ?_; clear H; intro a H; refine s_move H (wg H rfl rfl h60) rfl rfl ?_; clear H; intro a H; refine s_neqstr H (wg H rfl rfl h60) rfl rfl rfl ?_; clear H; intro a H; refine s_pick_t H wn rfl h60 rfl rfl ?_; clear H; intro a H; refine wl_nil ?_; refine hK18 _ _ ?_; clear hK18; refine c_cond H rfl ?_ ?_
          · intro h67
            try have p67 := of_decide_eq_true h67
            refine c_skip ?_; refine hK17 _ _ ?_; clear hK17; refine c_block ?_; refine c_region ?_; refine s_move H wn rfl rfl ?_; clear H; intro a H; refine s_add _ H wn rfl rfl rfl (by omega) (by omega) rfl ?_; clear H; intro a H; refine s_assign H wn rfl rfl ?_; clear H; intro a H; refine wl_nil ?_; refine loop_end ((k + 1)) (by exact (H).sub ⟨rfl, rfl, rfl, rfl, rfl, rfl, rfl, rfl, rfl, rfl, rfl, trivial⟩) ?_ ?_
            · exact ⟨by omega, fun q h hq => by
                  by_cases e : q = k
                  · subst e; intro e2; rw [e2] at h67; simp [str_beq] at h67
                  exact hne q h (by omega)⟩
            first | omega | (dsimp only; omega)
          intro h67
          try have p67 := of_decide_eq_false h67
          refine c_exit ?_; refine hK16 _ _ ?_; clear hK16; refine c_seq (fun _ hK19 => ?_); refine c_seq (fun _ hK20 => ?_)
          have hkey := key_at (x := x) (l := K) hk hne (fun h => by
            first
              | exact absurd p60 (by omega)
              | (have h2 : (!(K[k].toList == x.toList)) = false := by simpa using h67
                 simpa [str_beq] using h2))
          have hcur2 : (cur s t d (i + 1)).2 = (if k = K.length then K ++ [x] else K) := by rw [hst, ← hkey.2]; simp [tokStep, ← hK]
          have hcur1 : (cur s t d (i + 1)).1 = (cur s t d i).1 ++ [⟨((k + 1 : Nat) : Int), wtK tok⟩] := by rw [hst, ← hkey.1]; simp [tokStep, ← hK]
          have hoK2 : outK s t d (i + 1) = (if k = K.length then K ++ [x] else K) := by rw [outK, if_pos hd1, hcur2]
          refine c_region ?_; (iterate 2 refine s_move H wn rfl rfl ?_; clear H; intro a H); refine s_len un59mtk H wn rfl rfl ?_; clear H; intro a H; refine s_cmp H wn rfl rfl rfl rfl ?_; clear H; intro a H; refine wl_nil ?_; refine hK20 _ _ ?_; clear hK20; refine c_cond H rfl ?_ ?_
          · intro h73
            try have p73 := of_decide_eq_true h73
            exact absurd p73 (by omega)
          intro h73
          try have p73 := of_decide_eq_false h73
          have hkl : ¬ k = K.length := by omega
          have hq6n := row_congr hq6 (show K = outK s t d (i + 1) by rw [hoK2, if_neg hkl]); refine c_skip ?_; refine hK19 _ _ ?_; clear hK19; refine c_seq (fun _ hK21 => ?_)
          have hprm16 : ∀ (ix_ : Nat) (v : Value) (G G' : GH), (∀ k o, G k = some o → G' k = some o) → (fun (ix_ : Nat) (v : Value) (G : GH) => match ix_ with | 0 => v = .slice (some ⟨tb, tof, none⟩) (tkS (cluS (sdS s t d))).length tc | 1 => v = vi i | 2 => v = .pointer (some ⟨tb, tof + i * 3, none⟩) | 3 => v = .pointer (some ⟨tb, tof + i * 3 + 2, none⟩) | 4 => v = vi tok.to | 5 => v = .slice (some ⟨tb, tof, none⟩) (tkS (cluS (sdS s t d))).length tc | 6 => v = vi i | 7 => v = .pointer (some ⟨tb, tof + i * 3, none⟩) | 8 => v = .pointer (some ⟨tb, tof + i * 3 + 1, none⟩) | 9 => v = vi tok.from_ | 10 => v = vi (tok.to - tok.from_) | 11 => v = vi (min (tok.to - tok.from_) 1000) | _ => True) ix_ v G → (fun (ix_ : Nat) (v : Value) (G : GH) => match ix_ with | 0 => v = .slice (some ⟨tb, tof, none⟩) (tkS (cluS (sdS s t d))).length tc | 1 => v = vi i | 2 => v = .pointer (some ⟨tb, tof + i * 3, none⟩) | 3 => v = .pointer (some ⟨tb, tof + i * 3 + 2, none⟩) | 4 => v = vi tok.to | 5 => v = .slice (some ⟨tb, tof, none⟩) (tkS (cluS (sdS s t d))).length tc | 6 => v = vi i | 7 => v = .pointer (some ⟨tb, tof + i * 3, none⟩) | 8 => v = .pointer (some ⟨tb, tof + i * 3 + 1, none⟩) | 9 => v = vi tok.from_ | 10 => v = vi (tok.to - tok.from_) | 11 => v = vi (min (tok.to - tok.from_) 1000) | _ => True) ix_ v G' := by
            intro ix_ v G G' hm h
            match ix_, h with
            | 0, h => exact h
            | 1, h => exact h
            | 2, h => exact h
            | 3, h => exact h
            | 4, h => exact h
            | 5, h => exact h
            | 6, h => exact h
            | 7, h => exact h
            | 8, h => exact h
            | 9, h => exact h
            | 10, h => exact h
            | 11, h => exact h
            | 12, h => exact trivial
            | _ + 13, h => exact trivial
          refine c_drawI (hmxb) [[], [], [0, 1], [0, 1, 2], [0, 1, 2, 3], [], [], [5, 6], [5, 6, 7], [5, 6, 7, 8], [0, 1, 2, 3, 4, 5, 6, 7, 8, 9], [0, 1, 2, 3, 4, 5, 6, 7, 8, 9, 10], [0, 1, 2, 3, 4, 5, 6, 7, 8, 9, 10, 11]] [12] (by kernel_rfl) (by kernel_rfl) (fun (ix_ : Nat) (v : Value) (G : GH) => match ix_ with | 0 => v = .slice (some ⟨tb, tof, none⟩) (tkS (cluS (sdS s t d))).length tc | 1 => v = vi i | 2 => v = .pointer (some ⟨tb, tof + i * 3, none⟩) | 3 => v = .pointer (some ⟨tb, tof + i * 3 + 2, none⟩) | 4 => v = vi tok.to | 5 => v = .slice (some ⟨tb, tof, none⟩) (tkS (cluS (sdS s t d))).length tc | 6 => v = vi i | 7 => v = .pointer (some ⟨tb, tof + i * 3, none⟩) | 8 => v = .pointer (some ⟨tb, tof + i * 3 + 1, none⟩) | 9 => v = vi tok.from_ | 10 => v = vi (tok.to - tok.from_) | 11 => v = vi (min (tok.to - tok.from_) 1000) | _ => True) hprm16 H ?_ ?_
          · clear H; refine (allI_cons ?_ (allI_cons ?_ (allI_cons ?_ (allI_cons ?_ (allI_cons ?_ (allI_cons ?_ (allI_cons ?_ (allI_cons ?_ (allI_cons ?_ (allI_cons ?_ (allI_cons ?_ (allI_cons ?_ (allI_cons ?_ allI_nil)))))))))))))
            · intro Sd_ a w G1 _ hSi hc hG HT hv; have H := HT; clear hSi; have Hb := H.full; have H := Hb; clear hc; refine s_move H wn rfl rfl ?_; clear H; intro a H; refine wl_nil ⟨rfl, ?_⟩; exact draw_val (by kernel_rfl) hprm16 rfl rfl HT Hb hG hv (fun _ _ h => h) (rfl) H
            · intro Sd_ a w G1 _ hSi hc hG HT hv; have H := HT; clear hSi; have Hb := H.full; have H := Hb; clear hc; refine s_move H wn rfl rfl ?_; clear H; intro a H; refine wl_nil ⟨rfl, ?_⟩; exact draw_val (by kernel_rfl) hprm16 rfl rfl HT Hb hG hv (fun _ _ h => h) (rfl) H
            · intro Sd_ a w G1 _ hSi hc hG HT hv; have H := HT; clear hSi; obtain ⟨u78, hu78, hp78⟩ := hv 0 78 (hc 0 (by decide)) rfl; obtain rfl : u78 = .slice (some ⟨tb, tof, none⟩) (tkS (cluS (sdS s t d))).length tc := hp78; have H := H.addS hu78; obtain ⟨u79, hu79, hp79⟩ := hv 1 79 (hc 1 (by decide)) rfl; obtain rfl : u79 = vi i := hp79; have H := H.addS hu79; have Hb := H.full; have H := Hb; clear hc; refine s_index un60mtk ty66mtk i H wn rfl rfl rfl (by omega) rfl ?_; clear H; intro a H; refine wl_nil ⟨rfl, ?_⟩; exact draw_val (by kernel_rfl) hprm16 rfl rfl HT Hb hG hv (fun _ _ h => h) (rfl) H
            · intro Sd_ a w G1 _ hSi hc hG HT hv; have H := HT; clear hSi; obtain ⟨u80, hu80, hp80⟩ := hv 2 80 (hc 2 (by decide)) rfl; obtain rfl : u80 = .pointer (some ⟨tb, tof + i * 3, none⟩) := hp80; have H := H.addS hu80; have Hb := H.full; have H := Hb; clear hc; refine s_field fd66_2mtk H wn rfl rfl ?_; clear H; intro a H; refine wl_nil ⟨rfl, ?_⟩; exact draw_val (by kernel_rfl) hprm16 rfl rfl HT Hb hG hv (fun _ _ h => h) (rfl) H
            · intro Sd_ a w G1 _ hSi hc hG HT hv; have H := HT; clear hSi; obtain ⟨u81, hu81, hp81⟩ := hv 3 81 (hc 3 (by decide)) rfl; obtain rfl : u81 = .pointer (some ⟨tb, tof + i * 3 + 2, none⟩) := hp81; have H := H.addS hu81; have Hb := H.full; have H := Hb; clear hc; refine s_load ty3mtk H wn rfl (H.hp.gcell (gcell_mono hG (gcell_mono hGx (hrow 2 _ rfl)))) rfl ?_; clear H; intro a H; refine wl_nil ⟨rfl, ?_⟩; exact draw_val (by kernel_rfl) hprm16 rfl rfl HT Hb hG hv (fun _ _ h => h) (rfl) H
            · intro Sd_ a w G1 _ hSi hc hG HT hv; have H := HT; clear hSi; have Hb := H.full; have H := Hb; clear hc; refine s_move H wn rfl rfl ?_; clear H; intro a H; refine wl_nil ⟨rfl, ?_⟩; exact draw_val (by kernel_rfl) hprm16 rfl rfl HT Hb hG hv (fun _ _ h => h) (rfl) H
            · intro Sd_ a w G1 _ hSi hc hG HT hv; have H := HT; clear hSi; have Hb := H.full; have H := Hb; clear hc; refine s_move H wn rfl rfl ?_; clear H; intro a H; refine wl_nil ⟨rfl, ?_⟩; exact draw_val (by kernel_rfl) hprm16 rfl rfl HT Hb hG hv (fun _ _ h => h) (rfl) H
            · intro Sd_ a w G1 _ hSi hc hG HT hv; have H := HT; clear hSi; obtain ⟨u83, hu83, hp83⟩ := hv 5 83 (hc 5 (by decide)) rfl; obtain rfl : u83 = .slice (some ⟨tb, tof, none⟩) (tkS (cluS (sdS s t d))).length tc := hp83; have H := H.addS hu83; obtain ⟨u84, hu84, hp84⟩ := hv 6 84 (hc 6 (by decide)) rfl; obtain rfl : u84 = vi i := hp84; have H := H.addS hu84; have Hb := H.full; have H := Hb; clear hc; refine s_index un60mtk ty66mtk i H wn rfl rfl rfl (by omega) rfl ?_; clear H; intro a H; refine wl_nil ⟨rfl, ?_⟩; exact draw_val (by kernel_rfl) hprm16 rfl rfl HT Hb hG hv (fun _ _ h => h) (rfl) H
            · intro Sd_ a w G1 _ hSi hc hG HT hv; have H := HT; clear hSi; obtain ⟨u85, hu85, hp85⟩ := hv 7 85 (hc 7 (by decide)) rfl; obtain rfl : u85 = .pointer (some ⟨tb, tof + i * 3, none⟩) := hp85; have H := H.addS hu85; have Hb := H.full; have H := Hb; clear hc; refine s_field fd66_1mtk H wn rfl rfl ?_; clear H; intro a H; refine wl_nil ⟨rfl, ?_⟩; exact draw_val (by kernel_rfl) hprm16 rfl rfl HT Hb hG hv (fun _ _ h => h) (rfl) H
            · intro Sd_ a w G1 _ hSi hc hG HT hv; have H := HT; clear hSi; obtain ⟨u86, hu86, hp86⟩ := hv 8 86 (hc 8 (by decide)) rfl; obtain rfl : u86 = .pointer (some ⟨tb, tof + i * 3 + 1, none⟩) := hp86; have H := H.addS hu86; have Hb := H.full; have H := Hb; clear hc; refine s_load ty3mtk H wn rfl (H.hp.gcell (gcell_mono hG (gcell_mono hGx (hrow 1 _ rfl)))) rfl ?_; clear H; intro a H; refine wl_nil ⟨rfl, ?_⟩; exact draw_val (by kernel_rfl) hprm16 rfl rfl HT Hb hG hv (fun _ _ h => h) (rfl) H
            · intro Sd_ a w G1 _ hSi hc hG HT hv; have H := HT; clear hSi; obtain ⟨u82, hu82, hp82⟩ := hv 4 82 (hc 4 (by decide)) rfl; obtain rfl : u82 = vi tok.to := hp82; have H := H.addS hu82; obtain ⟨u87, hu87, hp87⟩ := hv 9 87 (hc 9 (by decide)) rfl; obtain rfl : u87 = vi tok.from_ := hp87; have H := H.addS hu87; have Hb := H.full; have H := Hb; clear hc; refine s_sub _ H wn rfl rfl rfl (by omega) (by omega) rfl ?_; clear H; intro a H; refine wl_nil ⟨rfl, ?_⟩; exact draw_val (by kernel_rfl) hprm16 rfl rfl HT Hb hG hv (fun _ _ h => h) (rfl) H
            · intro Sd_ a w G1 _ hSi hc hG HT hv; have H := HT; clear hSi; obtain ⟨u88, hu88, hp88⟩ := hv 10 88 (hc 10 (by decide)) rfl; obtain rfl : u88 = vi (tok.to - tok.from_) := hp88; have H := H.addS hu88; have Hb := H.full; have H := Hb; clear hc; refine s_min H wn rfl rfl rfl ?_; clear H; intro a H; refine wl_nil ⟨rfl, ?_⟩; exact draw_val (by kernel_rfl) hprm16 rfl rfl HT Hb hG hv (fun _ _ h => h) (rfl) H
            intro _ _ _ _ hB; exact absurd hB (by decide)
          clear H; intro a w G hGm16 H hv; obtain ⟨u89, hu89, hp89⟩ := hv 11 89 (by decide) rfl; obtain rfl : u89 = vi (min (tok.to - tok.from_) 1000) := hp89; have H := H.addS hu89; clear hv; refine s_assign H wn rfl rfl ?_; clear H; intro a H; refine wl_nil ⟨rfl, ?_⟩; refine hK21 _ _ ?_; clear hK21; refine c_seq (fun _ hK22 => ?_); refine c_seq (fun _ hK23 => ?_); refine c_region ?_; (iterate 2 refine s_move H wn rfl rfl ?_; clear H; intro a H); refine s_index un60mtk ty66mtk i H wn rfl rfl rfl (by omega) rfl ?_; clear H; intro a H; refine s_field fd66_0mtk H wn rfl rfl ?_; clear H; intro a H; refine s_load ty3mtk H wn rfl (H.hp.gcell (gcell_mono hGm16 (gcell_mono hGx (hrow 0 _ rfl)))) rfl ?_; clear H; intro a H; refine s_cmp H wn rfl rfl rfl rfl ?_; clear H; intro a H; refine wl_nil ?_; refine hK23 _ _ ?_; clear hK23; refine c_cond H rfl ?_ ?_
          · intro h95
            try have p95 := of_decide_eq_true h95
            have hwt : wtK tok = 1 := if_pos (by simpa using h95); refine c_region ?_; refine s_assign H wn rfl rfl ?_; clear H; intro a H; refine wl_nil ?_; refine hK22 _ _ ?_; clear hK22; refine c_seq (fun _ hK24 => ?_); refine c_region ?_; refine s_move H wn rfl rfl ?_; clear H; intro a H; refine s_cmp H wn rfl rfl rfl rfl ?_; clear H; intro a H; refine wl_nil ?_; refine hK24 _ _ ?_; clear hK24; refine c_cond H rfl ?_ ?_
            · intro h97
              try have p97 := of_decide_eq_true h97
              have hd0 : d = 0 := by omega
              subst hd0
              have eX : outX s t 0 (i + 1) = outX s t 0 i ++ [⟨((k + 1 : Nat) : Int), wtK tok⟩] := by simp only [outX, if_true]; exact hcur1
              have hq5n : IsRow 48 2 w5 (outY s t 0 (i + 1)).length (tokC (outY s t 0 (i + 1))) M5 := hq5; refine c_region ?_; (iterate 2 refine s_move H wn rfl rfl ?_; clear H; intro a H); refine s_add _ H wn rfl rfl rfl (by omega) (by omega) rfl ?_; clear H; intro a H; refine s_move H wn rfl rfl ?_; clear H; intro a H; refine s_build sr48mtk [_, _] H wn rfl rfl rfl rfl ?_; clear H; intro a H; refine s_buildSlice un41mtk ty48mtk [_, _] [_, _] H wn rfl rfl rfl rfl rfl (by intro i q h; match i, h with | 0, h => exact h | n + 1, h => simp at h) rfl rfl ?_; clear H; intro b103 a w hb103 H
              first
                | refine s_append (Li := [_, _, _] ++ (M5 ++ M7)) (Lo := M4) (news := [vi ((k : Int) + 1), vi 1]) un41mtk ty48mtk rfl rfl (H.perm (permX [_, _, _] M4 M5 M7)) wn rfl rfl hq4 rfl ((H.perm (permX [_, _, _] M4 M5 M7)).hp.ocells 0 rfl rfl) rfl (by omega) (by omega) rfl ?_
                | refine s_append (Li := [_, _, _] ++ (M5 ++ M7)) (Lo := M4) (news := [vi ((k : Int) + 1), vi (min (tok.to - tok.from_) 1000)]) un41mtk ty48mtk rfl rfl (H.perm (permX [_, _, _] M4 M5 M7)) wn rfl rfl hq4 rfl ((H.perm (permX [_, _, _] M4 M5 M7)).hp.ocells 0 rfl rfl) rfl (by omega) (by omega) rfl ?_
                | refine s_append (Li := [_, _] ++ (M5 ++ M6)) (Lo := M4) (news := [vi ((k : Int) + 1), vi 1]) un41mtk ty48mtk rfl rfl (H.perm (permX [_, _] M4 M5 M6)) wn rfl rfl hq4 rfl ((H.perm (permX [_, _] M4 M5 M6)).hp.ocells 0 rfl rfl) rfl (by omega) (by omega) rfl ?_
                | refine s_append (Li := [_, _] ++ (M5 ++ M6)) (Lo := M4) (news := [vi ((k : Int) + 1), vi (min (tok.to - tok.from_) 1000)]) un41mtk ty48mtk rfl rfl (H.perm (permX [_, _] M4 M5 M6)) wn rfl rfl hq4 rfl ((H.perm (permX [_, _] M4 M5 M6)).hp.ocells 0 rfl rfl) rfl (by omega) (by omega) rfl ?_
              clear H; intro v104 M8 a w hqn H; replace H := H.perm (by first | exact (permX [_, _, _] M8 M5 M7).symm | exact (permX [_, _] M8 M5 M6).symm); dsimp only [List.cons_append, List.nil_append] at H
              have hq4n : IsRow 48 2 v104 (outX s t 0 (i + 1)).length (tokC (outX s t 0 (i + 1))) M8 := by
                rw [eX, hwt, List.length_append, tokC, List.map_append, List.flatten_append]; exact hqn
              refine s_assign H wn rfl rfl ?_; clear H; intro a H; refine wl_nil ?_; refine hK13 _ _ ?_; clear hK13; refine c_region ?_; refine s_move H wn rfl rfl ?_; clear H; intro a H; refine s_add _ H wn rfl rfl rfl (by omega) (by omega) rfl ?_; clear H; intro a H; refine s_assign H wn rfl rfl ?_; clear H; intro a H; refine wl_nil ?_; refine loop_end ((i + 1, v104, w5, .slice (some ⟨nb, 0, none⟩) K.length nc, M8, M5, M6, G)) (by exact (H.pickT (Pl := [_, _]) (Pl' := [_]) [1] (by decide) rfl).sub ⟨rfl, rfl, rfl, rfl, rfl, rfl, rfl, rfl, rfl, trivial⟩) ?_ ?_
              · (try dsimp only); exact ⟨by omega, hq4n, hq5n, hq6n, fun b o h => hGm16 b o (hGx b o (hgm2 b o h)), fun b o h => hGm16 b o (hGx b o (hgt b o h))⟩
              first | omega | (dsimp only; omega)
            intro h97
            try have p97 := of_decide_eq_false h97
            have hd0 : d = 1 := by omega
            subst hd0
            have eY : outY s t 1 (i + 1) = outY s t 1 i ++ [⟨((k + 1 : Nat) : Int), wtK tok⟩] := by simp only [outY, if_true]; exact hcur1
            have hq4n : IsRow 48 2 w4 (outX s t 1 (i + 1)).length (tokC (outX s t 1 (i + 1))) M4 := hq4; refine c_region ?_; (iterate 2 refine s_move H wn rfl rfl ?_; clear H; intro a H); refine s_add _ H wn rfl rfl rfl (by omega) (by omega) rfl ?_; clear H; intro a H; refine s_move H wn rfl rfl ?_; clear H; intro a H; refine s_build sr48mtk [_, _] H wn rfl rfl rfl rfl ?_; clear H; intro a H; refine s_buildSlice un41mtk ty48mtk [_, _] [_, _] H wn rfl rfl rfl rfl rfl (by intro i q h; match i, h with | 0, h => exact h | n + 1, h => simp at h) rfl rfl ?_; clear H; intro b110 a w hb110 H
            first
              | refine s_append (Li := [_, _, _] ++ (M4 ++ M7)) (Lo := M5) (news := [vi ((k : Int) + 1), vi 1]) un41mtk ty48mtk rfl rfl (H.perm (permY [_, _, _] M4 M5 M7)) wn rfl rfl hq5 rfl ((H.perm (permY [_, _, _] M4 M5 M7)).hp.ocells 0 rfl rfl) rfl (by omega) (by omega) rfl ?_
              | refine s_append (Li := [_, _, _] ++ (M4 ++ M7)) (Lo := M5) (news := [vi ((k : Int) + 1), vi (min (tok.to - tok.from_) 1000)]) un41mtk ty48mtk rfl rfl (H.perm (permY [_, _, _] M4 M5 M7)) wn rfl rfl hq5 rfl ((H.perm (permY [_, _, _] M4 M5 M7)).hp.ocells 0 rfl rfl) rfl (by omega) (by omega) rfl ?_
              | refine s_append (Li := [_, _] ++ (M4 ++ M6)) (Lo := M5) (news := [vi ((k : Int) + 1), vi 1]) un41mtk ty48mtk rfl rfl (H.perm (permY [_, _] M4 M5 M6)) wn rfl rfl hq5 rfl ((H.perm (permY [_, _] M4 M5 M6)).hp.ocells 0 rfl rfl) rfl (by omega) (by omega) rfl ?_
              | refine s_append (Li := [_, _] ++ (M4 ++ M6)) (Lo := M5) (news := [vi ((k : Int) + 1), vi (min (tok.to - tok.from_) 1000)]) un41mtk ty48mtk rfl rfl (H.perm (permY [_, _] M4 M5 M6)) wn rfl rfl hq5 rfl ((H.perm (permY [_, _] M4 M5 M6)).hp.ocells 0 rfl rfl) rfl (by omega) (by omega) rfl ?_
            clear H; intro v111 M9 a w hqn H; replace H := H.perm (by first | exact (permY [_, _, _] M4 M9 M7).symm | exact (permY [_, _] M4 M9 M6).symm); dsimp only [List.cons_append, List.nil_append] at H
            have hq5n : IsRow 48 2 v111 (outY s t 1 (i + 1)).length (tokC (outY s t 1 (i + 1))) M9 := by
              rw [eY, hwt, List.length_append, tokC, List.map_append, List.flatten_append]; exact hqn
            refine s_assign H wn rfl rfl ?_; clear H; intro a H; refine wl_nil ?_; refine hK13 _ _ ?_; clear hK13; refine c_region ?_; refine s_move H wn rfl rfl ?_; clear H; intro a H; refine s_add _ H wn rfl rfl rfl (by omega) (by omega) rfl ?_; clear H; intro a H; refine s_assign H wn rfl rfl ?_; clear H; intro a H; refine wl_nil ?_; refine loop_end ((i + 1, w4, v111, .slice (some ⟨nb, 0, none⟩) K.length nc, M4, M9, M6, G)) (by exact (H.pickT (Pl := [_, _]) (Pl' := [_]) [1] (by decide) rfl).sub ⟨rfl, rfl, rfl, rfl, rfl, rfl, rfl, rfl, rfl, trivial⟩) ?_ ?_
            · (try dsimp only); exact ⟨by omega, hq4n, hq5n, hq6n, fun b o h => hGm16 b o (hGx b o (hgm2 b o h)), fun b o h => hGm16 b o (hGx b o (hgt b o h))⟩
            first | omega | (dsimp only; omega)
          intro h95
          try have p95 := of_decide_eq_false h95
          have hwt : wtK tok = min (tok.to - tok.from_) 1000 := if_neg (by simpa using h95); refine c_skip ?_; refine hK22 _ _ ?_; clear hK22; refine c_seq (fun _ hK25 => ?_); refine c_region ?_; refine s_move H wn rfl rfl ?_; clear H; intro a H; refine s_cmp H wn rfl rfl rfl rfl ?_; clear H; intro a H; refine wl_nil ?_; refine hK25 _ _ ?_; clear hK25; refine c_cond H rfl ?_ ?_
          · intro h97
            try have p97 := of_decide_eq_true h97
            have hd0 : d = 0 := by omega
            subst hd0
            have eX : outX s t 0 (i + 1) = outX s t 0 i ++ [⟨((k + 1 : Nat) : Int), wtK tok⟩] := by simp only [outX, if_true]; exact hcur1
            have hq5n : IsRow 48 2 w5 (outY s t 0 (i + 1)).length (tokC (outY s t 0 (i + 1))) M5 := hq5; refine c_region ?_; (iterate 2 refine s_move H wn rfl rfl ?_; clear H; intro a H); refine s_add _ H wn rfl rfl rfl (by omega) (by omega) rfl ?_; clear H; intro a H; refine s_move H wn rfl rfl ?_; clear H; intro a H; refine s_build sr48mtk [_, _] H wn rfl rfl rfl rfl ?_; clear H; intro a H; refine s_buildSlice un41mtk ty48mtk [_, _] [_, _] H wn rfl rfl rfl rfl rfl (by intro i q h; match i, h with | 0, h => exact h | n + 1, h => simp at h) rfl rfl ?_; clear H; intro b103 a w hb103 H
            first
              | refine s_append (Li := [_, _, _] ++ (M5 ++ M7)) (Lo := M4) (news := [vi ((k : Int) + 1), vi 1]) un41mtk ty48mtk rfl rfl (H.perm (permX [_, _, _] M4 M5 M7)) wn rfl rfl hq4 rfl ((H.perm (permX [_, _, _] M4 M5 M7)).hp.ocells 0 rfl rfl) rfl (by omega) (by omega) rfl ?_
              | refine s_append (Li := [_, _, _] ++ (M5 ++ M7)) (Lo := M4) (news := [vi ((k : Int) + 1), vi (min (tok.to - tok.from_) 1000)]) un41mtk ty48mtk rfl rfl (H.perm (permX [_, _, _] M4 M5 M7)) wn rfl rfl hq4 rfl ((H.perm (permX [_, _, _] M4 M5 M7)).hp.ocells 0 rfl rfl) rfl (by omega) (by omega) rfl ?_
              | refine s_append (Li := [_, _] ++ (M5 ++ M6)) (Lo := M4) (news := [vi ((k : Int) + 1), vi 1]) un41mtk ty48mtk rfl rfl (H.perm (permX [_, _] M4 M5 M6)) wn rfl rfl hq4 rfl ((H.perm (permX [_, _] M4 M5 M6)).hp.ocells 0 rfl rfl) rfl (by omega) (by omega) rfl ?_
              | refine s_append (Li := [_, _] ++ (M5 ++ M6)) (Lo := M4) (news := [vi ((k : Int) + 1), vi (min (tok.to - tok.from_) 1000)]) un41mtk ty48mtk rfl rfl (H.perm (permX [_, _] M4 M5 M6)) wn rfl rfl hq4 rfl ((H.perm (permX [_, _] M4 M5 M6)).hp.ocells 0 rfl rfl) rfl (by omega) (by omega) rfl ?_
            clear H; intro v104 M8 a w hqn H; replace H := H.perm (by first | exact (permX [_, _, _] M8 M5 M7).symm | exact (permX [_, _] M8 M5 M6).symm); dsimp only [List.cons_append, List.nil_append] at H
            have hq4n : IsRow 48 2 v104 (outX s t 0 (i + 1)).length (tokC (outX s t 0 (i + 1))) M8 := by
              rw [eX, hwt, List.length_append, tokC, List.map_append, List.flatten_append]; exact hqn
            refine s_assign H wn rfl rfl ?_; clear H; intro a H; refine wl_nil ?_; refine hK13 _ _ ?_; clear hK13; refine c_region ?_; refine s_move H wn rfl rfl ?_; clear H; intro a H; refine s_add _ H wn rfl rfl rfl (by omega) (by omega) rfl ?_; clear H; intro a H; refine s_assign H wn rfl rfl ?_; clear H; intro a H; refine wl_nil ?_; refine loop_end ((i + 1, v104, w5, .slice (some ⟨nb, 0, none⟩) K.length nc, M8, M5, M6, G)) (by exact (H.pickT (Pl := [_, _]) (Pl' := [_]) [1] (by decide) rfl).sub ⟨rfl, rfl, rfl, rfl, rfl, rfl, rfl, rfl, rfl, trivial⟩) ?_ ?_
            · (try dsimp only); exact ⟨by omega, hq4n, hq5n, hq6n, fun b o h => hGm16 b o (hGx b o (hgm2 b o h)), fun b o h => hGm16 b o (hGx b o (hgt b o h))⟩
            first | omega | (dsimp only; omega)
          intro h97
          try have p97 := of_decide_eq_false h97
          have hd0 : d = 1 := by omega
          subst hd0
          have eY : outY s t 1 (i + 1) = outY s t 1 i ++ [⟨((k + 1 : Nat) : Int), wtK tok⟩] := by simp only [outY, if_true]; exact hcur1
          have hq4n : IsRow 48 2 w4 (outX s t 1 (i + 1)).length (tokC (outX s t 1 (i + 1))) M4 := hq4; refine c_region ?_; (iterate 2 refine s_move H wn rfl rfl ?_; clear H; intro a H); refine s_add _ H wn rfl rfl rfl (by omega) (by omega) rfl ?_; clear H; intro a H; refine s_move H wn rfl rfl ?_; clear H; intro a H; refine s_build sr48mtk [_, _] H wn rfl rfl rfl rfl ?_; clear H; intro a H; refine s_buildSlice un41mtk ty48mtk [_, _] [_, _] H wn rfl rfl rfl rfl rfl (by intro i q h; match i, h with | 0, h => exact h | n + 1, h => simp at h) rfl rfl ?_; clear H; intro b110 a w hb110 H
          first
            | refine s_append (Li := [_, _, _] ++ (M4 ++ M7)) (Lo := M5) (news := [vi ((k : Int) + 1), vi 1]) un41mtk ty48mtk rfl rfl (H.perm (permY [_, _, _] M4 M5 M7)) wn rfl rfl hq5 rfl ((H.perm (permY [_, _, _] M4 M5 M7)).hp.ocells 0 rfl rfl) rfl (by omega) (by omega) rfl ?_
            | refine s_append (Li := [_, _, _] ++ (M4 ++ M7)) (Lo := M5) (news := [vi ((k : Int) + 1), vi (min (tok.to - tok.from_) 1000)]) un41mtk ty48mtk rfl rfl (H.perm (permY [_, _, _] M4 M5 M7)) wn rfl rfl hq5 rfl ((H.perm (permY [_, _, _] M4 M5 M7)).hp.ocells 0 rfl rfl) rfl (by omega) (by omega) rfl ?_
            | refine s_append (Li := [_, _] ++ (M4 ++ M6)) (Lo := M5) (news := [vi ((k : Int) + 1), vi 1]) un41mtk ty48mtk rfl rfl (H.perm (permY [_, _] M4 M5 M6)) wn rfl rfl hq5 rfl ((H.perm (permY [_, _] M4 M5 M6)).hp.ocells 0 rfl rfl) rfl (by omega) (by omega) rfl ?_
            | refine s_append (Li := [_, _] ++ (M4 ++ M6)) (Lo := M5) (news := [vi ((k : Int) + 1), vi (min (tok.to - tok.from_) 1000)]) un41mtk ty48mtk rfl rfl (H.perm (permY [_, _] M4 M5 M6)) wn rfl rfl hq5 rfl ((H.perm (permY [_, _] M4 M5 M6)).hp.ocells 0 rfl rfl) rfl (by omega) (by omega) rfl ?_
          clear H; intro v111 M9 a w hqn H; replace H := H.perm (by first | exact (permY [_, _, _] M4 M9 M7).symm | exact (permY [_, _] M4 M9 M6).symm); dsimp only [List.cons_append, List.nil_append] at H
          have hq5n : IsRow 48 2 v111 (outY s t 1 (i + 1)).length (tokC (outY s t 1 (i + 1))) M9 := by
            rw [eY, hwt, List.length_append, tokC, List.map_append, List.flatten_append]; exact hqn
          refine s_assign H wn rfl rfl ?_; clear H; intro a H; refine wl_nil ?_; refine hK13 _ _ ?_; clear hK13; refine c_region ?_; refine s_move H wn rfl rfl ?_; clear H; intro a H; refine s_add _ H wn rfl rfl rfl (by omega) (by omega) rfl ?_; clear H; intro a H; refine s_assign H wn rfl rfl ?_; clear H; intro a H; refine wl_nil ?_; refine loop_end ((i + 1, w4, v111, .slice (some ⟨nb, 0, none⟩) K.length nc, M4, M9, M6, G)) (by exact (H.pickT (Pl := [_, _]) (Pl' := [_]) [1] (by decide) rfl).sub ⟨rfl, rfl, rfl, rfl, rfl, rfl, rfl, rfl, rfl, trivial⟩) ?_ ?_
          · (try dsimp only); exact ⟨by omega, hq4n, hq5n, hq6n, fun b o h => hGm16 b o (hGx b o (hgm2 b o h)), fun b o h => hGm16 b o (hGx b o (hgt b o h))⟩
          first | omega | (dsimp only; omega)
        intro h60
        try have p60 := of_decide_eq_false h60
        (iterate 6 refine s_skip H rfl rfl h60 rfl ?_; clear H; intro a H); refine s_pick_f H wn rfl h60 rfl rfl ?_; clear H; intro a H; refine wl_nil ?_; refine hK18 _ _ ?_; clear hK18; refine c_cond_f H rfl rfl ?_; refine c_exit ?_; refine hK16 _ _ ?_; clear hK16; refine c_seq (fun _ hK26 => ?_); refine c_seq (fun _ hK27 => ?_)
        have hkey := key_at (x := x) (l := K) hk hne (fun h => by
          first
            | exact absurd p60 (by omega)
            | (have h2 : (!(K[k].toList == x.toList)) = false := by simpa using h67
               simpa [str_beq] using h2))
        have hcur2 : (cur s t d (i + 1)).2 = (if k = K.length then K ++ [x] else K) := by rw [hst, ← hkey.2]; simp [tokStep, ← hK]
        have hcur1 : (cur s t d (i + 1)).1 = (cur s t d i).1 ++ [⟨((k + 1 : Nat) : Int), wtK tok⟩] := by rw [hst, ← hkey.1]; simp [tokStep, ← hK]
        have hoK2 : outK s t d (i + 1) = (if k = K.length then K ++ [x] else K) := by rw [outK, if_pos hd1, hcur2]
        refine c_region ?_; (iterate 2 refine s_move H wn rfl rfl ?_; clear H; intro a H); refine s_len un59mtk H wn rfl rfl ?_; clear H; intro a H; refine s_cmp H wn rfl rfl rfl rfl ?_; clear H; intro a H; refine wl_nil ?_; refine hK27 _ _ ?_; clear hK27; refine c_cond H rfl ?_ ?_
        · intro h73
          try have p73 := of_decide_eq_true h73
          have hkl : k = K.length := by omega
          refine c_region ?_; (iterate 2 refine s_move H wn rfl rfl ?_; clear H; intro a H); refine s_buildSlice un59mtk ty9mtk [_] [_] H wn rfl rfl rfl rfl rfl (by intro i q h; match i, h with | 0, h => exact h | n + 1, h => simp at h) rfl rfl ?_; clear H; intro b76 a w hb76 H; have H := H.perm (permZ [_, _] M4 M5 M6); refine s_append (Li := [_, _] ++ (M4 ++ M5)) (Lo := M6) (news := [.string x]) un59mtk ty9mtk rfl rfl H wn rfl rfl hq6 rfl (H.hp.ocells 0 rfl rfl) rfl (by omega) (by omega) rfl ?_; clear H; intro v77 M7 a w hq77 H; have H := H.perm (permZ [_, _] M4 M5 M7).symm; dsimp only [List.cons_append, List.nil_append] at H
          have hq6n : IsRow 9 1 v77 (outK s t d (i + 1)).length ((outK s t d (i + 1)).map Value.string) M7 := by
            rw [hoK2, if_pos hkl, List.length_append, List.map_append]; exact hq77
          refine s_assign H wn rfl rfl ?_; clear H; intro a H; refine wl_nil ?_; refine hK26 _ _ ?_; clear hK26; refine c_seq (fun _ hK28 => ?_)
          have hprm16 : ∀ (ix_ : Nat) (v : Value) (G G' : GH), (∀ k o, G k = some o → G' k = some o) → (fun (ix_ : Nat) (v : Value) (G : GH) => match ix_ with | 0 => v = .slice (some ⟨tb, tof, none⟩) (tkS (cluS (sdS s t d))).length tc | 1 => v = vi i | 2 => v = .pointer (some ⟨tb, tof + i * 3, none⟩) | 3 => v = .pointer (some ⟨tb, tof + i * 3 + 2, none⟩) | 4 => v = vi tok.to | 5 => v = .slice (some ⟨tb, tof, none⟩) (tkS (cluS (sdS s t d))).length tc | 6 => v = vi i | 7 => v = .pointer (some ⟨tb, tof + i * 3, none⟩) | 8 => v = .pointer (some ⟨tb, tof + i * 3 + 1, none⟩) | 9 => v = vi tok.from_ | 10 => v = vi (tok.to - tok.from_) | 11 => v = vi (min (tok.to - tok.from_) 1000) | _ => True) ix_ v G → (fun (ix_ : Nat) (v : Value) (G : GH) => match ix_ with | 0 => v = .slice (some ⟨tb, tof, none⟩) (tkS (cluS (sdS s t d))).length tc | 1 => v = vi i | 2 => v = .pointer (some ⟨tb, tof + i * 3, none⟩) | 3 => v = .pointer (some ⟨tb, tof + i * 3 + 2, none⟩) | 4 => v = vi tok.to | 5 => v = .slice (some ⟨tb, tof, none⟩) (tkS (cluS (sdS s t d))).length tc | 6 => v = vi i | 7 => v = .pointer (some ⟨tb, tof + i * 3, none⟩) | 8 => v = .pointer (some ⟨tb, tof + i * 3 + 1, none⟩) | 9 => v = vi tok.from_ | 10 => v = vi (tok.to - tok.from_) | 11 => v = vi (min (tok.to - tok.from_) 1000) | _ => True) ix_ v G' := by
            intro ix_ v G G' hm h
            match ix_, h with
            | 0, h => exact h
            | 1, h => exact h
            | 2, h => exact h
            | 3, h => exact h
            | 4, h => exact h
            | 5, h => exact h
            | 6, h => exact h
            | 7, h => exact h
            | 8, h => exact h
            | 9, h => exact h
            | 10, h => exact h
            | 11, h => exact h
            | 12, h => exact trivial
            | _ + 13, h => exact trivial
          refine c_drawI (hmxb) [[], [], [0, 1], [0, 1, 2], [0, 1, 2, 3], [], [], [5, 6], [5, 6, 7], [5, 6, 7, 8], [0, 1, 2, 3, 4, 5, 6, 7, 8, 9], [0, 1, 2, 3, 4, 5, 6, 7, 8, 9, 10], [0, 1, 2, 3, 4, 5, 6, 7, 8, 9, 10, 11]] [12] (by kernel_rfl) (by kernel_rfl) (fun (ix_ : Nat) (v : Value) (G : GH) => match ix_ with | 0 => v = .slice (some ⟨tb, tof, none⟩) (tkS (cluS (sdS s t d))).length tc | 1 => v = vi i | 2 => v = .pointer (some ⟨tb, tof + i * 3, none⟩) | 3 => v = .pointer (some ⟨tb, tof + i * 3 + 2, none⟩) | 4 => v = vi tok.to | 5 => v = .slice (some ⟨tb, tof, none⟩) (tkS (cluS (sdS s t d))).length tc | 6 => v = vi i | 7 => v = .pointer (some ⟨tb, tof + i * 3, none⟩) | 8 => v = .pointer (some ⟨tb, tof + i * 3 + 1, none⟩) | 9 => v = vi tok.from_ | 10 => v = vi (tok.to - tok.from_) | 11 => v = vi (min (tok.to - tok.from_) 1000) | _ => True) hprm16 H ?_ ?_
          · clear H; refine (allI_cons ?_ (allI_cons ?_ (allI_cons ?_ (allI_cons ?_ (allI_cons ?_ (allI_cons ?_ (allI_cons ?_ (allI_cons ?_ (allI_cons ?_ (allI_cons ?_ (allI_cons ?_ (allI_cons ?_ (allI_cons ?_ allI_nil)))))))))))))
            · intro Sd_ a w G1 _ hSi hc hG HT hv; have H := HT; clear hSi; have Hb := H.full; have H := Hb; clear hc; refine s_move H wn rfl rfl ?_; clear H; intro a H; refine wl_nil ⟨rfl, ?_⟩; exact draw_val (by kernel_rfl) hprm16 rfl rfl HT Hb hG hv (fun _ _ h => h) (rfl) H
            · intro Sd_ a w G1 _ hSi hc hG HT hv; have H := HT; clear hSi; have Hb := H.full; have H := Hb; clear hc; refine s_move H wn rfl rfl ?_; clear H; intro a H; refine wl_nil ⟨rfl, ?_⟩; exact draw_val (by kernel_rfl) hprm16 rfl rfl HT Hb hG hv (fun _ _ h => h) (rfl) H
            · intro Sd_ a w G1 _ hSi hc hG HT hv; have H := HT; clear hSi; obtain ⟨u78, hu78, hp78⟩ := hv 0 78 (hc 0 (by decide)) rfl; obtain rfl : u78 = .slice (some ⟨tb, tof, none⟩) (tkS (cluS (sdS s t d))).length tc := hp78; have H := H.addS hu78; obtain ⟨u79, hu79, hp79⟩ := hv 1 79 (hc 1 (by decide)) rfl; obtain rfl : u79 = vi i := hp79; have H := H.addS hu79; have Hb := H.full; have H := Hb; clear hc; refine s_index un60mtk ty66mtk i H wn rfl rfl rfl (by omega) rfl ?_; clear H; intro a H; refine wl_nil ⟨rfl, ?_⟩; exact draw_val (by kernel_rfl) hprm16 rfl rfl HT Hb hG hv (fun _ _ h => h) (rfl) H
            · intro Sd_ a w G1 _ hSi hc hG HT hv; have H := HT; clear hSi; obtain ⟨u80, hu80, hp80⟩ := hv 2 80 (hc 2 (by decide)) rfl; obtain rfl : u80 = .pointer (some ⟨tb, tof + i * 3, none⟩) := hp80; have H := H.addS hu80; have Hb := H.full; have H := Hb; clear hc; refine s_field fd66_2mtk H wn rfl rfl ?_; clear H; intro a H; refine wl_nil ⟨rfl, ?_⟩; exact draw_val (by kernel_rfl) hprm16 rfl rfl HT Hb hG hv (fun _ _ h => h) (rfl) H
            · intro Sd_ a w G1 _ hSi hc hG HT hv; have H := HT; clear hSi; obtain ⟨u81, hu81, hp81⟩ := hv 3 81 (hc 3 (by decide)) rfl; obtain rfl : u81 = .pointer (some ⟨tb, tof + i * 3 + 2, none⟩) := hp81; have H := H.addS hu81; have Hb := H.full; have H := Hb; clear hc; refine s_load ty3mtk H wn rfl (H.hp.gcell (gcell_mono hG (gcell_mono hGx (hrow 2 _ rfl)))) rfl ?_; clear H; intro a H; refine wl_nil ⟨rfl, ?_⟩; exact draw_val (by kernel_rfl) hprm16 rfl rfl HT Hb hG hv (fun _ _ h => h) (rfl) H
            · intro Sd_ a w G1 _ hSi hc hG HT hv; have H := HT; clear hSi; have Hb := H.full; have H := Hb; clear hc; refine s_move H wn rfl rfl ?_; clear H; intro a H; refine wl_nil ⟨rfl, ?_⟩; exact draw_val (by kernel_rfl) hprm16 rfl rfl HT Hb hG hv (fun _ _ h => h) (rfl) H
            · intro Sd_ a w G1 _ hSi hc hG HT hv; have H := HT; clear hSi; have Hb := H.full; have H := Hb; clear hc; refine s_move H wn rfl rfl ?_; clear H; intro a H; refine wl_nil ⟨rfl, ?_⟩; exact draw_val (by kernel_rfl) hprm16 rfl rfl HT Hb hG hv (fun _ _ h => h) (rfl) H
            · intro Sd_ a w G1 _ hSi hc hG HT hv; have H := HT; clear hSi; obtain ⟨u83, hu83, hp83⟩ := hv 5 83 (hc 5 (by decide)) rfl; obtain rfl : u83 = .slice (some ⟨tb, tof, none⟩) (tkS (cluS (sdS s t d))).length tc := hp83; have H := H.addS hu83; obtain ⟨u84, hu84, hp84⟩ := hv 6 84 (hc 6 (by decide)) rfl; obtain rfl : u84 = vi i := hp84; have H := H.addS hu84; have Hb := H.full; have H := Hb; clear hc; refine s_index un60mtk ty66mtk i H wn rfl rfl rfl (by omega) rfl ?_; clear H; intro a H; refine wl_nil ⟨rfl, ?_⟩; exact draw_val (by kernel_rfl) hprm16 rfl rfl HT Hb hG hv (fun _ _ h => h) (rfl) H
            · intro Sd_ a w G1 _ hSi hc hG HT hv; have H := HT; clear hSi; obtain ⟨u85, hu85, hp85⟩ := hv 7 85 (hc 7 (by decide)) rfl; obtain rfl : u85 = .pointer (some ⟨tb, tof + i * 3, none⟩) := hp85; have H := H.addS hu85; have Hb := H.full; have H := Hb; clear hc; refine s_field fd66_1mtk H wn rfl rfl ?_; clear H; intro a H; refine wl_nil ⟨rfl, ?_⟩; exact draw_val (by kernel_rfl) hprm16 rfl rfl HT Hb hG hv (fun _ _ h => h) (rfl) H
            · intro Sd_ a w G1 _ hSi hc hG HT hv; have H := HT; clear hSi; obtain ⟨u86, hu86, hp86⟩ := hv 8 86 (hc 8 (by decide)) rfl; obtain rfl : u86 = .pointer (some ⟨tb, tof + i * 3 + 1, none⟩) := hp86; have H := H.addS hu86; have Hb := H.full; have H := Hb; clear hc; refine s_load ty3mtk H wn rfl (H.hp.gcell (gcell_mono hG (gcell_mono hGx (hrow 1 _ rfl)))) rfl ?_; clear H; intro a H; refine wl_nil ⟨rfl, ?_⟩; exact draw_val (by kernel_rfl) hprm16 rfl rfl HT Hb hG hv (fun _ _ h => h) (rfl) H
            · intro Sd_ a w G1 _ hSi hc hG HT hv; have H := HT; clear hSi; obtain ⟨u82, hu82, hp82⟩ := hv 4 82 (hc 4 (by decide)) rfl; obtain rfl : u82 = vi tok.to := hp82; have H := H.addS hu82; obtain ⟨u87, hu87, hp87⟩ := hv 9 87 (hc 9 (by decide)) rfl; obtain rfl : u87 = vi tok.from_ := hp87; have H := H.addS hu87; have Hb := H.full; have H := Hb; clear hc; refine s_sub _ H wn rfl rfl rfl (by omega) (by omega) rfl ?_; clear H; intro a H; refine wl_nil ⟨rfl, ?_⟩; exact draw_val (by kernel_rfl) hprm16 rfl rfl HT Hb hG hv (fun _ _ h => h) (rfl) H
            · intro Sd_ a w G1 _ hSi hc hG HT hv; have H := HT; clear hSi; obtain ⟨u88, hu88, hp88⟩ := hv 10 88 (hc 10 (by decide)) rfl; obtain rfl : u88 = vi (tok.to - tok.from_) := hp88; have H := H.addS hu88; have Hb := H.full; have H := Hb; clear hc; refine s_min H wn rfl rfl rfl ?_; clear H; intro a H; refine wl_nil ⟨rfl, ?_⟩; exact draw_val (by kernel_rfl) hprm16 rfl rfl HT Hb hG hv (fun _ _ h => h) (rfl) H
            intro _ _ _ _ hB; exact absurd hB (by decide)
          clear H; intro a w G hGm16 H hv; obtain ⟨u89, hu89, hp89⟩ := hv 11 89 (by decide) rfl; obtain rfl : u89 = vi (min (tok.to - tok.from_) 1000) := hp89; have H := H.addS hu89; clear hv; refine s_assign H wn rfl rfl ?_; clear H; intro a H; refine wl_nil ⟨rfl, ?_⟩; refine hK28 _ _ ?_; clear hK28; refine c_seq (fun _ hK29 => ?_); refine c_seq (fun _ hK30 => ?_); refine c_region ?_; (iterate 2 refine s_move H wn rfl rfl ?_; clear H; intro a H); refine s_index un60mtk ty66mtk i H wn rfl rfl rfl (by omega) rfl ?_; clear H; intro a H; refine s_field fd66_0mtk H wn rfl rfl ?_; clear H; intro a H; refine s_load ty3mtk H wn rfl (H.hp.gcell (gcell_mono hGm16 (gcell_mono hGx (hrow 0 _ rfl)))) rfl ?_; clear H; intro a H; refine s_cmp H wn rfl rfl rfl rfl ?_; clear H; intro a H; refine wl_nil ?_; refine hK30 _ _ ?_; clear hK30; refine c_cond H rfl ?_ ?_
          · intro h95
            try have p95 := of_decide_eq_true h95
            have hwt : wtK tok = 1 := if_pos (by simpa using h95); refine c_region ?_; refine s_assign H wn rfl rfl ?_; clear H; intro a H; refine wl_nil ?_; refine hK29 _ _ ?_; clear hK29; refine c_seq (fun _ hK31 => ?_); refine c_region ?_; refine s_move H wn rfl rfl ?_; clear H; intro a H; refine s_cmp H wn rfl rfl rfl rfl ?_; clear H; intro a H; refine wl_nil ?_; refine hK31 _ _ ?_; clear hK31; refine c_cond H rfl ?_ ?_
            · intro h97
              try have p97 := of_decide_eq_true h97
              have hd0 : d = 0 := by omega
              subst hd0
              have eX : outX s t 0 (i + 1) = outX s t 0 i ++ [⟨((k + 1 : Nat) : Int), wtK tok⟩] := by simp only [outX, if_true]; exact hcur1
              have hq5n : IsRow 48 2 w5 (outY s t 0 (i + 1)).length (tokC (outY s t 0 (i + 1))) M5 := hq5; refine c_region ?_; (iterate 2 refine s_move H wn rfl rfl ?_; clear H; intro a H); refine s_add _ H wn rfl rfl rfl (by omega) (by omega) rfl ?_; clear H; intro a H; refine s_move H wn rfl rfl ?_; clear H; intro a H; refine s_build sr48mtk [_, _] H wn rfl rfl rfl rfl ?_; clear H; intro a H; refine s_buildSlice un41mtk ty48mtk [_, _] [_, _] H wn rfl rfl rfl rfl rfl (by intro i q h; match i, h with | 0, h => exact h | n + 1, h => simp at h) rfl rfl ?_; clear H; intro b103 a w hb103 H
              first
                | refine s_append (Li := [_, _, _] ++ (M5 ++ M7)) (Lo := M4) (news := [vi ((k : Int) + 1), vi 1]) un41mtk ty48mtk rfl rfl (H.perm (permX [_, _, _] M4 M5 M7)) wn rfl rfl hq4 rfl ((H.perm (permX [_, _, _] M4 M5 M7)).hp.ocells 0 rfl rfl) rfl (by omega) (by omega) rfl ?_
                | refine s_append (Li := [_, _, _] ++ (M5 ++ M7)) (Lo := M4) (news := [vi ((k : Int) + 1), vi (min (tok.to - tok.from_) 1000)]) un41mtk ty48mtk rfl rfl (H.perm (permX [_, _, _] M4 M5 M7)) wn rfl rfl hq4 rfl ((H.perm (permX [_, _, _] M4 M5 M7)).hp.ocells 0 rfl rfl) rfl (by omega) (by omega) rfl ?_
                | refine s_append (Li := [_, _] ++ (M5 ++ M6)) (Lo := M4) (news := [vi ((k : Int) + 1), vi 1]) un41mtk ty48mtk rfl rfl (H.perm (permX [_, _] M4 M5 M6)) wn rfl rfl hq4 rfl ((H.perm (permX [_, _] M4 M5 M6)).hp.ocells 0 rfl rfl) rfl (by omega) (by omega) rfl ?_
                | refine s_append (Li := [_, _] ++ (M5 ++ M6)) (Lo := M4) (news := [vi ((k : Int) + 1), vi (min (tok.to - tok.from_) 1000)]) un41mtk ty48mtk rfl rfl (H.perm (permX [_, _] M4 M5 M6)) wn rfl rfl hq4 rfl ((H.perm (permX [_, _] M4 M5 M6)).hp.ocells 0 rfl rfl) rfl (by omega) (by omega) rfl ?_
              clear H; intro v104 M8 a w hqn H; replace H := H.perm (by first | exact (permX [_, _, _] M8 M5 M7).symm | exact (permX [_, _] M8 M5 M6).symm); dsimp only [List.cons_append, List.nil_append] at H
              have hq4n : IsRow 48 2 v104 (outX s t 0 (i + 1)).length (tokC (outX s t 0 (i + 1))) M8 := by
                rw [eX, hwt, List.length_append, tokC, List.map_append, List.flatten_append]; exact hqn
              refine s_assign H wn rfl rfl ?_; clear H; intro a H; refine wl_nil ?_; refine hK13 _ _ ?_; clear hK13; refine c_region ?_; refine s_move H wn rfl rfl ?_; clear H; intro a H; refine s_add _ H wn rfl rfl rfl (by omega) (by omega) rfl ?_; clear H; intro a H; refine s_assign H wn rfl rfl ?_; clear H; intro a H; refine wl_nil ?_; refine loop_end ((i + 1, v104, w5, v77, M8, M5, M7, G)) (by exact (H.pickT (Pl := [_, _, _]) (Pl' := [_]) [2] (by decide) rfl).sub ⟨rfl, rfl, rfl, rfl, rfl, rfl, rfl, rfl, rfl, trivial⟩) ?_ ?_
              · (try dsimp only); exact ⟨by omega, hq4n, hq5n, hq6n, fun b o h => hGm16 b o (hGx b o (hgm2 b o h)), fun b o h => hGm16 b o (hGx b o (hgt b o h))⟩
              first | omega | (dsimp only; omega)
            intro h97
            try have p97 := of_decide_eq_false h97
            have hd0 : d = 1 := by omega
            subst hd0
            have eY : outY s t 1 (i + 1) = outY s t 1 i ++ [⟨((k + 1 : Nat) : Int), wtK tok⟩] := by simp only [outY, if_true]; exact hcur1
            have hq4n : IsRow 48 2 w4 (outX s t 1 (i + 1)).length (tokC (outX s t 1 (i + 1))) M4 := hq4; refine c_region ?_; (iterate 2 refine s_move H wn rfl rfl ?_; clear H; intro a H); refine s_add _ H wn rfl rfl rfl (by omega) (by omega) rfl ?_; clear H; intro a H; refine s_move H wn rfl rfl ?_; clear H; intro a H; refine s_build sr48mtk [_, _] H wn rfl rfl rfl rfl ?_; clear H; intro a H; refine s_buildSlice un41mtk ty48mtk [_, _] [_, _] H wn rfl rfl rfl rfl rfl (by intro i q h; match i, h with | 0, h => exact h | n + 1, h => simp at h) rfl rfl ?_; clear H; intro b110 a w hb110 H
            first
              | refine s_append (Li := [_, _, _] ++ (M4 ++ M7)) (Lo := M5) (news := [vi ((k : Int) + 1), vi 1]) un41mtk ty48mtk rfl rfl (H.perm (permY [_, _, _] M4 M5 M7)) wn rfl rfl hq5 rfl ((H.perm (permY [_, _, _] M4 M5 M7)).hp.ocells 0 rfl rfl) rfl (by omega) (by omega) rfl ?_
              | refine s_append (Li := [_, _, _] ++ (M4 ++ M7)) (Lo := M5) (news := [vi ((k : Int) + 1), vi (min (tok.to - tok.from_) 1000)]) un41mtk ty48mtk rfl rfl (H.perm (permY [_, _, _] M4 M5 M7)) wn rfl rfl hq5 rfl ((H.perm (permY [_, _, _] M4 M5 M7)).hp.ocells 0 rfl rfl) rfl (by omega) (by omega) rfl ?_
              | refine s_append (Li := [_, _] ++ (M4 ++ M6)) (Lo := M5) (news := [vi ((k : Int) + 1), vi 1]) un41mtk ty48mtk rfl rfl (H.perm (permY [_, _] M4 M5 M6)) wn rfl rfl hq5 rfl ((H.perm (permY [_, _] M4 M5 M6)).hp.ocells 0 rfl rfl) rfl (by omega) (by omega) rfl ?_
              | refine s_append (Li := [_, _] ++ (M4 ++ M6)) (Lo := M5) (news := [vi ((k : Int) + 1), vi (min (tok.to - tok.from_) 1000)]) un41mtk ty48mtk rfl rfl (H.perm (permY [_, _] M4 M5 M6)) wn rfl rfl hq5 rfl ((H.perm (permY [_, _] M4 M5 M6)).hp.ocells 0 rfl rfl) rfl (by omega) (by omega) rfl ?_
            clear H; intro v111 M9 a w hqn H; replace H := H.perm (by first | exact (permY [_, _, _] M4 M9 M7).symm | exact (permY [_, _] M4 M9 M6).symm); dsimp only [List.cons_append, List.nil_append] at H
            have hq5n : IsRow 48 2 v111 (outY s t 1 (i + 1)).length (tokC (outY s t 1 (i + 1))) M9 := by
              rw [eY, hwt, List.length_append, tokC, List.map_append, List.flatten_append]; exact hqn
            refine s_assign H wn rfl rfl ?_; clear H; intro a H; refine wl_nil ?_; refine hK13 _ _ ?_; clear hK13; refine c_region ?_; refine s_move H wn rfl rfl ?_; clear H; intro a H; refine s_add _ H wn rfl rfl rfl (by omega) (by omega) rfl ?_; clear H; intro a H; refine s_assign H wn rfl rfl ?_; clear H; intro a H; refine wl_nil ?_; refine loop_end ((i + 1, w4, v111, v77, M4, M9, M7, G)) (by exact (H.pickT (Pl := [_, _, _]) (Pl' := [_]) [2] (by decide) rfl).sub ⟨rfl, rfl, rfl, rfl, rfl, rfl, rfl, rfl, rfl, trivial⟩) ?_ ?_
            · (try dsimp only); exact ⟨by omega, hq4n, hq5n, hq6n, fun b o h => hGm16 b o (hGx b o (hgm2 b o h)), fun b o h => hGm16 b o (hGx b o (hgt b o h))⟩
            first | omega | (dsimp only; omega)
          intro h95
          try have p95 := of_decide_eq_false h95
          have hwt : wtK tok = min (tok.to - tok.from_) 1000 := if_neg (by simpa using h95); refine c_skip ?_; refine hK29 _ _ ?_; clear hK29; refine c_seq (fun _ hK32 => ?_); refine c_region ?_; refine s_move H wn rfl rfl ?_; clear H; intro a H; refine s_cmp H wn rfl rfl rfl rfl ?_; clear H; intro a H; refine wl_nil ?_; refine hK32 _ _ ?_; clear hK32; refine c_cond H rfl ?_ ?_
          · intro h97
            try have p97 := of_decide_eq_true h97
            have hd0 : d = 0 := by omega
            subst hd0
            have eX : outX s t 0 (i + 1) = outX s t 0 i ++ [⟨((k + 1 : Nat) : Int), wtK tok⟩] := by simp only [outX, if_true]; exact hcur1
            have hq5n : IsRow 48 2 w5 (outY s t 0 (i + 1)).length (tokC (outY s t 0 (i + 1))) M5 := hq5; refine c_region ?_; (iterate 2 refine s_move H wn rfl rfl ?_; clear H; intro a H); refine s_add _ H wn rfl rfl rfl (by omega) (by omega) rfl ?_; clear H; intro a H; refine s_move H wn rfl rfl ?_; clear H; intro a H; refine s_build sr48mtk [_, _] H wn rfl rfl rfl rfl ?_; clear H; intro a H; refine s_buildSlice un41mtk ty48mtk [_, _] [_, _] H wn rfl rfl rfl rfl rfl (by intro i q h; match i, h with | 0, h => exact h | n + 1, h => simp at h) rfl rfl ?_; clear H; intro b103 a w hb103 H
            first
              | refine s_append (Li := [_, _, _] ++ (M5 ++ M7)) (Lo := M4) (news := [vi ((k : Int) + 1), vi 1]) un41mtk ty48mtk rfl rfl (H.perm (permX [_, _, _] M4 M5 M7)) wn rfl rfl hq4 rfl ((H.perm (permX [_, _, _] M4 M5 M7)).hp.ocells 0 rfl rfl) rfl (by omega) (by omega) rfl ?_
              | refine s_append (Li := [_, _, _] ++ (M5 ++ M7)) (Lo := M4) (news := [vi ((k : Int) + 1), vi (min (tok.to - tok.from_) 1000)]) un41mtk ty48mtk rfl rfl (H.perm (permX [_, _, _] M4 M5 M7)) wn rfl rfl hq4 rfl ((H.perm (permX [_, _, _] M4 M5 M7)).hp.ocells 0 rfl rfl) rfl (by omega) (by omega) rfl ?_
              | refine s_append (Li := [_, _] ++ (M5 ++ M6)) (Lo := M4) (news := [vi ((k : Int) + 1), vi 1]) un41mtk ty48mtk rfl rfl (H.perm (permX [_, _] M4 M5 M6)) wn rfl rfl hq4 rfl ((H.perm (permX [_, _] M4 M5 M6)).hp.ocells 0 rfl rfl) rfl (by omega) (by omega) rfl ?_
              | refine s_append (Li := [_, _] ++ (M5 ++ M6)) (Lo := M4) (news := [vi ((k : Int) + 1), vi (min (tok.to - tok.from_) 1000)]) un41mtk ty48mtk rfl rfl (H.perm (permX [_, _] M4 M5 M6)) wn rfl rfl hq4 rfl ((H.perm (permX [_, _] M4 M5 M6)).hp.ocells 0 rfl rfl) rfl (by omega) (by omega) rfl ?_
            clear H; intro v104 M8 a w hqn H; replace H := H.perm (by first | exact (permX [_, _, _] M8 M5 M7).symm | exact (permX [_, _] M8 M5 M6).symm); dsimp only [List.cons_append, List.nil_append] at H
            have hq4n : IsRow 48 2 v104 (outX s t 0 (i + 1)).length (tokC (outX s t 0 (i + 1))) M8 := by
              rw [eX, hwt, List.length_append, tokC, List.map_append, List.flatten_append]; exact hqn
            refine s_assign H wn rfl rfl ?_; clear H; intro a H; refine wl_nil ?_; refine hK13 _ _ ?_; clear hK13; refine c_region ?_; refine s_move H wn rfl rfl ?_; clear H; intro a H; refine s_add _ H wn rfl rfl rfl (by omega) (by omega) rfl ?_; clear H; intro a H; refine s_assign H wn rfl rfl ?_; clear H; intro a H; refine wl_nil ?_; refine loop_end ((i + 1, v104, w5, v77, M8, M5, M7, G)) (by exact (H.pickT (Pl := [_, _, _]) (Pl' := [_]) [2] (by decide) rfl).sub ⟨rfl, rfl, rfl, rfl, rfl, rfl, rfl, rfl, rfl, trivial⟩) ?_ ?_
            · (try dsimp only); exact ⟨by omega, hq4n, hq5n, hq6n, fun b o h => hGm16 b o (hGx b o (hgm2 b o h)), fun b o h => hGm16 b o (hGx b o (hgt b o h))⟩
            first | omega | (dsimp only; omega)
          intro h97
          try have p97 := of_decide_eq_false h97
          have hd0 : d = 1 := by omega
          subst hd0
          have eY : outY s t 1 (i + 1) = outY s t 1 i ++ [⟨((k + 1 : Nat) : Int), wtK tok⟩] := by simp only [outY, if_true]; exact hcur1
          have hq4n : IsRow 48 2 w4 (outX s t 1 (i + 1)).length (tokC (outX s t 1 (i + 1))) M4 := hq4; refine c_region ?_; (iterate 2 refine s_move H wn rfl rfl ?_; clear H; intro a H); refine s_add _ H wn rfl rfl rfl (by omega) (by omega) rfl ?_; clear H; intro a H; refine s_move H wn rfl rfl ?_; clear H; intro a H; refine s_build sr48mtk [_, _] H wn rfl rfl rfl rfl ?_; clear H; intro a H; refine s_buildSlice un41mtk ty48mtk [_, _] [_, _] H wn rfl rfl rfl rfl rfl (by intro i q h; match i, h with | 0, h => exact h | n + 1, h => simp at h) rfl rfl ?_; clear H; intro b110 a w hb110 H
          first
            | refine s_append (Li := [_, _, _] ++ (M4 ++ M7)) (Lo := M5) (news := [vi ((k : Int) + 1), vi 1]) un41mtk ty48mtk rfl rfl (H.perm (permY [_, _, _] M4 M5 M7)) wn rfl rfl hq5 rfl ((H.perm (permY [_, _, _] M4 M5 M7)).hp.ocells 0 rfl rfl) rfl (by omega) (by omega) rfl ?_
            | refine s_append (Li := [_, _, _] ++ (M4 ++ M7)) (Lo := M5) (news := [vi ((k : Int) + 1), vi (min (tok.to - tok.from_) 1000)]) un41mtk ty48mtk rfl rfl (H.perm (permY [_, _, _] M4 M5 M7)) wn rfl rfl hq5 rfl ((H.perm (permY [_, _, _] M4 M5 M7)).hp.ocells 0 rfl rfl) rfl (by omega) (by omega) rfl ?_
            | refine s_append (Li := [_, _] ++ (M4 ++ M6)) (Lo := M5) (news := [vi ((k : Int) + 1), vi 1]) un41mtk ty48mtk rfl rfl (H.perm (permY [_, _] M4 M5 M6)) wn rfl rfl hq5 rfl ((H.perm (permY [_, _] M4 M5 M6)).hp.ocells 0 rfl rfl) rfl (by omega) (by omega) rfl ?_
            | refine s_append (Li := [_, _] ++ (M4 ++ M6)) (Lo := M5) (news := [vi ((k : Int) + 1), vi (min (tok.to - tok.from_) 1000)]) un41mtk ty48mtk rfl rfl (H.perm (permY [_, _] M4 M5 M6)) wn rfl rfl hq5 rfl ((H.perm (permY [_, _] M4 M5 M6)).hp.ocells 0 rfl rfl) rfl (by omega) (by omega) rfl ?_
          clear H; intro v111 M9 a w hqn H; replace H := H.perm (by first | exact (permY [_, _, _] M4 M9 M7).symm | exact (permY [_, _] M4 M9 M6).symm); dsimp only [List.cons_append, List.nil_append] at H
          have hq5n : IsRow 48 2 v111 (outY s t 1 (i + 1)).length (tokC (outY s t 1 (i + 1))) M9 := by
            rw [eY, hwt, List.length_append, tokC, List.map_append, List.flatten_append]; exact hqn
          refine s_assign H wn rfl rfl ?_; clear H; intro a H; refine wl_nil ?_; refine hK13 _ _ ?_; clear hK13; refine c_region ?_; refine s_move H wn rfl rfl ?_; clear H; intro a H; refine s_add _ H wn rfl rfl rfl (by omega) (by omega) rfl ?_; clear H; intro a H; refine s_assign H wn rfl rfl ?_; clear H; intro a H; refine wl_nil ?_; refine loop_end ((i + 1, w4, v111, v77, M4, M9, M7, G)) (by exact (H.pickT (Pl := [_, _, _]) (Pl' := [_]) [2] (by decide) rfl).sub ⟨rfl, rfl, rfl, rfl, rfl, rfl, rfl, rfl, rfl, trivial⟩) ?_ ?_
          · (try dsimp only); exact ⟨by omega, hq4n, hq5n, hq6n, fun b o h => hGm16 b o (hGx b o (hgm2 b o h)), fun b o h => hGm16 b o (hGx b o (hgt b o h))⟩
          first | omega | (dsimp only; omega)
        intro h73
        try have p73 := of_decide_eq_false h73
        exact absurd p73 (by omega)
      intro h38
      try have p38 := of_decide_eq_false h38
      refine c_exit ?_; refine hK7 _ _ ?_; clear hK7; refine c_region ?_; refine s_move H wn rfl rfl ?_; clear H; intro a H; refine s_add _ H wn rfl rfl rfl (by omega) (by omega) rfl ?_; clear H; intro a H; refine s_assign H wn rfl rfl ?_; clear H; intro a H; refine wl_nil ?_; refine loop_end ((d + 1, w4, w5, w6, M4, M5, M6, g2)) (by exact (H.pickT (Pl := [_]) (Pl' := []) [] (by decide) rfl).sub ⟨rfl, rfl, rfl, rfl, rfl, rfl, trivial⟩) ?_ ?_
      · try dsimp only
        have hie : i = (tkL (sdS s t d)).length := by omega
        subst hie; obtain ⟨o1, o2, o3⟩ := out_next (a := s) (b := t) hd1; rw [o1] at hq4; rw [o2] at hq5; rw [o3] at hq6; exact ⟨by omega, hq4, hq5, hq6, hgm2⟩
      first | omega | (dsimp only; omega)
    intro h35
    try have p35 := of_decide_eq_false h35
    (iterate 2 refine s_skip H rfl rfl h35 rfl ?_; clear H; intro a H); refine s_pick_f H wn rfl h35 rfl rfl ?_; clear H; intro a H; refine wl_nil ?_; refine hK12 _ _ ?_; clear hK12; refine c_cond_f H rfl rfl ?_; refine c_exit ?_; refine hK7 _ _ ?_; clear hK7; refine c_region ?_; refine s_move H wn rfl rfl ?_; clear H; intro a H; refine s_add _ H wn rfl rfl rfl (by omega) (by omega) rfl ?_; clear H; intro a H; refine s_assign H wn rfl rfl ?_; clear H; intro a H; refine wl_nil ?_; refine loop_end ((d + 1, w4, w5, w6, M4, M5, M6, g2)) (by exact (H.pickT (Pl := [_]) (Pl' := []) [] (by decide) rfl).sub ⟨rfl, rfl, rfl, rfl, rfl, rfl, trivial⟩) ?_ ?_
    · try dsimp only
      have hie : i = (tkL (sdS s t d)).length := by omega
      subst hie; obtain ⟨o1, o2, o3⟩ := out_next (a := s) (b := t) hd1; rw [o1] at hq4; rw [o2] at hq5; rw [o3] at hq6; exact ⟨by omega, hq4, hq5, hq6, hgm2⟩
    first | omega | (dsimp only; omega)
  intro h17
  try have p17 := of_decide_eq_false h17
  refine c_exit ?_; refine hK3 _ _ ?_; clear hK3; refine c_seq (fun _ hK33 => ?_); refine c_region ?_; (iterate 2 refine s_move H wn rfl rfl ?_; clear H; intro a H); (iterate 2 refine s_assign H wn rfl rfl ?_; clear H; intro a H); refine wl_nil ?_; refine hK33 _ _ ?_; clear hK33; refine c_ret ?_
  have hde : d = 2 := by omega
  subst hde; have H := H.perm (permX [] L4 L5 L6); obtain ⟨Ga, hma, hra, H⟩ := St.giveRow (Li := [] ++ (L5 ++ L6)) (Lo := L4) H hr4 (rows := (twoA s).map TokD.dat) (by simp [outX]) (by have := toks_cat2 g (twoA s); simpa [outX] using this); have H := H.perm (List.perm_append_comm (l₁ := L5) (l₂ := L6)); obtain ⟨Gb, hmb, hrb, H⟩ := St.giveRow (Li := L6) (Lo := L5) H hr5 (rows := (twoB s t).map TokD.dat) (by simp [outY]) (by have := toks_cat2 Ga (twoB s t); simpa [outY] using this); refine (leaveT H Tryd.results19 (.cons (rv_tmp H rfl) (.cons (rv_tmp H rfl) .nil)) ?_).1; exact H.hp.ret ⟨_, _, rfl, hra.mono hmb, hrb⟩
end Go.Proofs.YtpmcdlhhfbobfaaDoor
