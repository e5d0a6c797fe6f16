/-
  Package codepoint: begins, Slice; strings.Clone.
-/
import Derived.Test.YtpmcdlhhfbobfaaDoorUtf2
import Derived.Test.YtpmcdlhhfbobfaaDoorCy
import Derived.Test.YtpmcdlhhfbobfaaDoorMk
namespace Go.Proofs.YtpmcdlhhfbobfaaDoor
open Go.RowKit
theorem un84slc : Tryd.prog.underlying 84 = some (.slice 5) := by kernel_rfl
theorem ty5slc : Ty Tryd.prog 5 1 1 [.int .u8 0] false := ⟨by kernel_rfl, by kernel_rfl⟩
theorem un120slc : Tryd.prog.underlying 120 = some (.pointer 5) := by kernel_rfl
theorem un9slc : Tryd.prog.underlying 9 = some .string := by kernel_rfl
theorem en49slc : ∀ args w, (callFunc 49 args).run Tryd.prog w = .ok (.enter 49 args) w := enters Tryd.func49 rfl (by kernel_rfl)
theorem un32slc : Tryd.prog.underlying 32 = some (.slice 3) := by kernel_rfl
theorem ty3slc : Ty Tryd.prog 3 1 8 [.int .i64 0] false := ⟨by kernel_rfl, by kernel_rfl⟩
theorem en34slc : ∀ args w, (callFunc 34 args).run Tryd.prog w = .ok (.enter 34 args) w := enters Tryd.func34 rfl (by kernel_rfl)
theorem en35slc : ∀ args w, (callFunc 35 args).run Tryd.prog w = .ok (.enter 35 args) w := enters Tryd.func35 rfl (by kernel_rfl)
theorem en18slc : ∀ args w, (callFunc 18 args).run Tryd.prog w = .ok (.enter 18 args) w := enters Tryd.func18 rfl (by kernel_rfl)
theorem size_u8 : (Tryd.prog.info? 5).map (·.size) = some 1 := by kernel_rfl
theorem clone1_spec (G : GH) (w0 : World) (hG : Hold G w0) (s : ByteArray) (hs : s.size ≤ 1073741824) : Calls Tryd.prog 49 #[.string s] w0 (Ret w0 G fun u G' => u = .string s) := by
  refine enter (N := 18) (T := [(0, _)]) (F := fun k => k < w0.heap.size) (L := []) Tryd.func49 rfl Tryd.ntmps49 rfl rfl hG (fun _ h => h) (fun _ h => by cases h) (fun _ h => by cases h) (fun _ h => by cases h) List.Pairwise.nil ?_; intro a H; refine c_seq (fun _ hK1 => ?_); refine c_region ?_; refine s_assign H wn rfl rfl ?_; clear H; intro a H; refine wl_nil ?_; refine hK1 _ _ ?_; clear hK1; refine c_seq (fun _ hK2 => ?_); refine c_seq (fun _ hK3 => ?_); refine c_region ?_; refine s_move H wn rfl rfl ?_; clear H; intro a H; refine s_lens un9slc H wn rfl rfl ?_; clear H; intro a H; refine s_cmp H wn rfl rfl rfl rfl ?_; clear H; intro a H; refine wl_nil ?_; refine hK3 _ _ ?_; clear hK3; refine c_cond H rfl ?_ ?_
  · intro h6
    try have p6 := of_decide_eq_true h6
    have he : s = ⟨#[]⟩ := by
      have h0 : s.size = 0 := by omega
      have h1 : s.data.size = 0 := h0; exact ByteArray.ext (Array.eq_empty_of_size_eq_zero h1)
    refine c_seq (fun _ hK4 => ?_); refine c_region ?_; refine s_assign H wn rfl rfl ?_; clear H; intro a H; refine wl_nil ?_; refine hK4 _ _ ?_; clear hK4; refine c_ret ?_; refine (leave1 H Tryd.results49 (.cons (rv_tmp H rfl) .nil) ?_).1; exact H.hp.ret (by rw [he])
  intro h6
  try have p6 := of_decide_eq_false h6
  refine c_skip ?_; refine hK2 _ _ ?_; clear hK2; refine c_seq (fun _ hK5 => ?_); refine c_region ?_; refine s_move H wn rfl rfl ?_; clear H; intro a H; refine s_lens un9slc H wn rfl rfl ?_; clear H; intro a H; refine s_make1 s.size un84slc ty5slc H wn rfl rfl rfl (by omega) (by omega) rfl ?_; clear H; intro b9 a w hb9 H; refine s_assign H wn rfl rfl ?_; clear H; intro a H; refine wl_nil ?_; refine hK5 _ _ ?_; clear hK5; refine c_seq (fun _ hK6 => ?_); refine c_region ?_; (iterate 2 refine s_move H wn rfl rfl ?_; clear H; intro a H); refine s_copyStr (i := 0) un84slc size_u8 H wn rfl rfl rfl rfl (by simp) rfl ?_; clear H; intro a w H; dsimp only [List.set] at H; refine wl_nil ?_; refine hK6 _ _ ?_; clear hK6; refine c_seq (fun _ hK7 => ?_); refine c_region ?_; refine s_move H wn rfl rfl ?_; clear H; intro a H; refine s_index un84slc ty5slc 0 H wn rfl rfl rfl (by omega) rfl ?_; clear H; intro a H; refine s_move H wn rfl rfl ?_; clear H; intro a H; refine s_len un84slc H wn rfl rfl ?_; clear H; intro a H; have hl : s.data.toList.length = s.size := (Go.Lib.size_eq s).symm; refine s_unsafeString (i := 0) s.data.toList un120slc (by kernel_rfl) (by intro e; rw [e] at hl; simp at hl; omega) (by omega) H wn rfl (by rw [hl]; rfl) rfl (by rw [List.toList_toArray]; exact List.take_of_length_le (by rw [Go.Lib.byteCells_length]; exact Nat.le_refl _)) rfl ?_; clear H; intro fz a w H; refine s_assign H wn rfl rfl ?_; clear H; intro a H; refine wl_nil ?_; refine hK7 _ _ ?_; clear hK7; refine c_ret ?_; refine (leave1 H Tryd.results49 (.cons (rv_tmp H rfl) .nil) ?_).1; exact H.hp.ret (by simp)
theorem clone_spec (G : GH) (w0 : World) (hG : Hold G w0) (s : ByteArray) (hs : s.size ≤ 1073741824) : Calls Tryd.prog 35 #[.string s] w0 (Ret w0 G fun u G' => u = .string s) := by
  refine enter (N := 5) (T := [(0, _)]) (F := fun k => k < w0.heap.size) (L := []) Tryd.func35 rfl Tryd.ntmps35 rfl rfl hG (fun _ h => h) (fun _ h => by cases h) (fun _ h => by cases h) (fun _ h => by cases h) List.Pairwise.nil ?_; intro a H; refine c_seq (fun _ hK1 => ?_); refine c_region ?_; refine s_assign H wn rfl rfl ?_; clear H; intro a H; refine wl_nil ?_; refine hK1 _ _ ?_; clear hK1; refine c_seq (fun _ hK2 => ?_); refine c_region ?_; refine s_move H wn rfl rfl ?_; clear H; intro a H; refine s_call en49slc H wn rfl (clone1_spec _ _ H.hp.ro s hs) rfl ?_; clear H; rintro v4 G4 a w rfl hm4 H; refine s_assign H wn rfl rfl ?_; clear H; intro a H; refine wl_nil ?_; refine hK2 _ _ ?_; clear hK2; refine c_ret ?_; refine (leave1 H Tryd.results35 (.cons (rv_tmp H rfl) .nil) ?_).1; exact H.hp.ret rfl
set_option maxRecDepth 10000 in
theorem and192 : ∀ X : Fin 256, bitI .and .u8 ((X.val : Nat) : Int) 192 = 128 ↔ (128 ≤ X.val ∧ X.val ≤ 191) := by decide
theorem isB_bits {s : ByteArray} {i : Nat} (h : i < s.size) : (¬ bitI .and .u8 (s[i].toNat : Int) 192 = 128) ↔ isB s i = true := by
  have h1 := and192 ⟨s[i].toNat, s[i].toNat_lt⟩; dsimp only at h1; rw [h1, isB, byteAt_lt h]
  simp only [decide_eq_true_eq]
  omega
def begP (s : ByteArray) (k : Nat) : List Nat := (List.range k).filter (isB s)
theorem begP_succ (s : ByteArray) (k : Nat) : begP s (k + 1) = begP s k ++ (if isB s k = true then [k] else []) := by
  rw [begP, List.range_succ, List.filter_append, List.filter_cons]
  rfl
theorem begP_len (s : ByteArray) (k : Nat) : (begP s k).length ≤ k := by
  have := List.length_filter_le (isB s) (List.range k)
  rwa [List.length_range] at this
theorem begins_spec (G : GH) (w0 : World) (hG : Hold G w0) (s : ByteArray) (hs : s.size ≤ 1073741824) : Calls Tryd.prog 34 #[.string s] w0 (Ret w0 G fun u G' => RepV G' (.sl 1 (((begS s).map fun x : Nat => (x : Int)).map numDat)) u) := by
  have hml : maxLen = 9223372036854775807 := rfl; refine enter (N := 25) (T := [(0, _)]) (F := fun k => k < w0.heap.size) (L := []) Tryd.func34 rfl Tryd.ntmps34 rfl rfl hG (fun _ h => h) (fun _ h => by cases h) (fun _ h => by cases h) (fun _ h => by cases h) List.Pairwise.nil ?_; intro a H; refine c_seq (fun _ hK1 => ?_); refine c_region ?_; refine s_assign H wn rfl rfl ?_; clear H; intro a H; refine wl_nil ?_; refine hK1 _ _ ?_; clear hK1; refine c_seq (fun _ hK2 => ?_); refine c_region ?_; refine s_assign H wn rfl rfl ?_; clear H; intro a H; refine wl_nil ?_; refine hK2 _ _ ?_; clear hK2; refine c_seq (fun _ hK3 => ?_); refine c_seq (fun _ hK4 => ?_); refine c_region ?_; refine s_move H wn rfl rfl ?_; clear H; intro a H; refine s_lens un9slc H wn rfl rfl ?_; clear H; intro a H; refine s_move H wn rfl rfl ?_; clear H; intro a H; refine wl_nil ?_; refine hK4 _ _ ?_; clear hK4; refine c_block ?_; skip; refine c_loopS (ι := Nat × Value × OL) (Tc := [(0, _), (6, _)]) (Lc := []) (fun (gh : Nat × Value × OL) => [(3, gh.2.1), (7, vi gh.1)]) (fun (gh : Nat × Value × OL) => [] ++ gh.2.2) (fun (gh : Nat × Value × OL) => G) (fun (gh : Nat × Value × OL) => gh.1 ≤ s.size ∧ IsRow 3 1 gh.2.1 (begP s gh.1).length (((begP s gh.1).map fun x : Nat => (x : Int)).map vi) gh.2.2) (fun (gh : Nat × Value × OL) => s.size - gh.1) ((0, .slice none 0 0, [])) (by exact (H).sub ⟨rfl, rfl, rfl, rfl, trivial⟩) ?_ ?_
  · exact ⟨Nat.zero_le _, IsRow.nil⟩
  clear H; intro gh a w hI H; obtain ⟨k, v, Lo⟩ := gh; dsimp only at hI H; obtain ⟨hk, hrw⟩ := hI; have hbl := begP_len s k; dsimp only [List.cons_append, List.nil_append, List.append_nil] at H; refine c_seq (fun _ hK5 => ?_); refine c_region ?_; refine s_cmp H wn rfl rfl rfl rfl ?_; clear H; intro a H; refine wl_nil ?_; refine hK5 _ _ ?_; clear hK5; refine c_seq (fun _ hK6 => ?_); refine c_cond H rfl ?_ ?_
  · intro h8
    try have p8 := of_decide_eq_true h8
    have hk1 : k < s.size := by omega
    refine c_skip ?_; refine hK6 _ _ ?_; clear hK6; refine c_seq (fun _ hK7 => ?_); refine c_block ?_; refine c_seq (fun _ hK8 => ?_); refine c_region ?_; refine s_move H wn rfl rfl ?_; clear H; intro a H; refine s_assign H wn rfl rfl ?_; clear H; intro a H; refine wl_nil ?_; refine hK8 _ _ ?_; clear hK8; refine c_seq (fun _ hK9 => ?_); refine c_region ?_; (iterate 2 refine s_move H wn rfl rfl ?_; clear H; intro a H); refine s_indexs _ un9slc H wn rfl rfl rfl (by first | assumption | omega) rfl ?_; clear H; intro a H; refine s_bits rfl H wn rfl rfl rfl ?_; clear H; intro a H; refine s_cmp H wn rfl rfl rfl rfl ?_; clear H; intro a H; refine wl_nil ?_; refine hK9 _ _ ?_; clear hK9; refine c_cond H rfl ?_ ?_
    · intro h14
      try have p14 := of_decide_eq_true h14
      refine c_region ?_; (iterate 2 refine s_move H wn rfl rfl ?_; clear H; intro a H); refine s_buildSlice un32slc ty3slc [_] [_] H wn rfl rfl rfl rfl rfl (by intro i q h; match i, h with | 0, h => exact h | n + 1, h => simp at h) rfl rfl ?_; clear H; intro b17 a w hb17 H; refine s_append (Li := [_]) (Lo := Lo) (news := [vi k]) un32slc ty3slc rfl rfl H wn rfl rfl hrw rfl (H.hp.ocells 0 rfl rfl) rfl (by omega) (by omega) rfl ?_; clear H; intro v18 Lo18 a w hrw18 H; refine s_assign H wn rfl rfl ?_; clear H; intro a H; refine wl_nil ?_; refine hK7 _ _ ?_; clear hK7; refine c_region ?_; refine s_add _ H wn rfl rfl rfl (by omega) (by omega) rfl ?_; clear H; intro a H; refine s_move H wn rfl rfl ?_; clear H; intro a H; refine wl_nil ?_; refine loop_end ((k + 1, v18, Lo18)) (by exact (H.pickT (Pl := [_]) (Pl' := []) [] (by decide) rfl).sub ⟨rfl, rfl, rfl, rfl, trivial⟩) ?_ ?_
      · (try dsimp only); exact ⟨by omega, by rw [begP_succ, if_pos ((isB_bits hk1).1 p14), List.length_append, List.map_append, List.map_append]; exact hrw18⟩
      first | omega | (dsimp only; omega)
    intro h14
    try have p14 := of_decide_eq_false h14
    refine c_skip ?_; refine hK7 _ _ ?_; clear hK7; refine c_region ?_; refine s_add _ H wn rfl rfl rfl (by omega) (by omega) rfl ?_; clear H; intro a H; refine s_move H wn rfl rfl ?_; clear H; intro a H; refine wl_nil ?_; refine loop_end ((k + 1, v, Lo)) (by exact (H).sub ⟨rfl, rfl, rfl, rfl, trivial⟩) ?_ ?_
    · (try dsimp only); exact ⟨by omega, by rw [begP_succ, if_neg (by rw [← isB_bits (by omega)]; exact p14), List.append_nil]; exact hrw⟩
    first | omega | (dsimp only; omega)
  intro h8
  try have p8 := of_decide_eq_false h8
  refine c_exit ?_; refine hK3 _ _ ?_; clear hK3; refine c_seq (fun _ hK10 => ?_); refine c_region ?_; (iterate 2 refine s_move H wn rfl rfl ?_; clear H; intro a H); refine s_lens un9slc H wn rfl rfl ?_; clear H; intro a H; refine s_buildSlice un32slc ty3slc [_] [_] H wn rfl rfl rfl rfl rfl (by intro i q h; match i, h with | 0, h => exact h | n + 1, h => simp at h) rfl rfl ?_; clear H; intro b23 a w hb23 H
  have hke : k = s.size := by omega
  refine s_append (Li := [_]) (Lo := Lo) (news := [vi s.size]) un32slc ty3slc rfl rfl H wn rfl rfl hrw rfl (H.hp.ocells 0 rfl rfl) rfl (by omega) (by omega) rfl ?_; clear H; intro v24 Lo24 a w hrw24 H; rw [hke] at hrw24; obtain ⟨Gr, hmr, hrep, H⟩ := St.giveRow (Li := [_]) (Lo := Lo24) H hrw24 (rows := ((begS s).map fun x : Nat => (x : Int)).map numDat) (by simp [begS, begP]) (by have := nums_cat G ((begS s).map fun x : Nat => (x : Int)); rw [begS] at this ⊢; simpa [begP] using this); refine s_assign H wn rfl rfl ?_; clear H; intro a H; refine wl_nil ?_; refine hK10 _ _ ?_; clear hK10; refine c_ret ?_; refine (leave1 H Tryd.results34 (.cons (rv_tmp H rfl) .nil) ?_).1; exact H.hp.ret hrep
theorem slice_spec (G : GH) (w0 : World) (hG : Hold G w0) (s : ByteArray) (hs : s.size ≤ 1073741824) (hv : validS s = true) (u vv : Nat) (huv : u ≤ vv) (hvl : vv ≤ (rnS s).length) :
    Calls Tryd.prog 27 #[.string s, vi u, vi vv] w0 (Ret w0 G fun r G' => r = .tuple #[.string (s.extract (advS s 0 u) (advS s 0 vv)), vi 0]) := by
  have hf : firstS s 0 < 0 := by simpa [validS] using hv
  have hol : (begS s).length = (rnS s).length + 1 := by rw [begS_eq hv]; simp [offS]
  have hau := adv_le u 0 hf (Nat.zero_le _); have hav := adv_le vv 0 hf (Nat.zero_le _)
  have huv2 : advS s 0 u ≤ advS s 0 vv := by
    have h1 := adv_add (s := s) u 0 (vv - u); rw [show u + (vv - u) = vv by omega] at h1; rw [h1]; exact (adv_le (vv - u) (advS s 0 u) (adv_ok u 0 hf (Nat.zero_le _)) hau.2).1
  have eu := offS_at hv (show u ≤ (rnS s).length by omega); have ev := offS_at hv hvl; rw [← begS_eq hv] at eu ev; refine enter (N := 38) (T := [(0, _), (1, _), (2, _)]) (F := fun k => k < w0.heap.size) (L := []) Tryd.func27 rfl Tryd.ntmps27 rfl rfl hG (fun _ h => h) (fun _ h => by cases h) (fun _ h => by cases h) (fun _ h => by cases h) List.Pairwise.nil ?_; intro a H; refine c_seq (fun _ hK1 => ?_); refine c_region ?_; (iterate 2 refine s_assign H wn rfl rfl ?_; clear H; intro a H); refine wl_nil ?_; refine hK1 _ _ ?_; clear hK1; refine c_seq (fun _ hK2 => ?_); refine c_seq (fun _ hK3 => ?_); refine c_region ?_; refine s_move H wn rfl rfl ?_; clear H; intro a H; refine s_call en18slc H wn rfl (valid_spec _ _ H.hp.ro s (by omega)) rfl ?_; clear H; rintro v10 _ a w ⟨rfl, rfl⟩ - H; rw [hv] at H; refine s_not H wn rfl rfl ?_; clear H; intro a H; refine wl_nil ?_; refine hK3 _ _ ?_; clear hK3; refine c_cond H rfl ?_ ?_
  · intro h11
    try have p11 := of_decide_eq_true h11
    exact absurd h11 (by decide)
  intro h11
  try have p11 := of_decide_eq_false h11
  refine c_skip ?_; refine hK2 _ _ ?_; clear hK2; refine c_seq (fun _ hK4 => ?_); refine c_region ?_; refine s_move H wn rfl rfl ?_; clear H; intro a H; refine s_call en34slc H wn rfl (begins_spec _ _ H.hp.ro s hs) rfl ?_; clear H; rintro v13 G13 a w hr13 hm13 H; obtain ⟨bA, bc, rfl, -, -, -⟩ := hr13.slice; rw [List.length_map, List.length_map, hol] at H; refine s_assign H wn rfl rfl ?_; clear H; intro a H; refine wl_nil ?_; refine hK4 _ _ ?_; clear hK4; refine c_seq (fun _ hK5 => ?_); refine c_seq (fun _ hK6 => ?_); refine c_region ?_; refine s_move H wn rfl rfl ?_; clear H; intro a H; refine s_cmp H wn rfl rfl rfl rfl ?_; clear H; intro a H; refine s_move H wn rfl rfl ?_; clear H; intro a H; refine s_split H 16 rfl ?_ ?_
  · intro h16
    try have p16 := of_decide_eq_true h16
    exfalso; omega
  intro h16
  try have p16 := of_decide_eq_false h16
  (iterate 2 refine s_move H (wg H rfl rfl h16) rfl rfl ?_; clear H; intro a H); refine s_cmp H (wg H rfl rfl h16) rfl rfl rfl rfl ?_; clear H; intro a H; refine s_pick_f H wn rfl h16 rfl rfl ?_; clear H; intro a H; refine s_move H wn rfl rfl ?_; clear H; intro a H; refine s_split H 21 rfl ?_ ?_
  · intro h21
    try have p21 := of_decide_eq_true h21
    exfalso; omega
  intro h21
  try have p21 := of_decide_eq_false h21
  (iterate 2 refine s_move H (wg H rfl rfl h21) rfl rfl ?_; clear H; intro a H); refine s_len un32slc H (wg H rfl rfl h21) rfl rfl ?_; clear H; intro a H; refine s_cmp H (wg H rfl rfl h21) rfl rfl rfl rfl ?_; clear H; intro a H; refine s_pick_f H wn rfl h21 rfl rfl ?_; clear H; intro a H; refine wl_nil ?_; refine hK6 _ _ ?_; clear hK6; refine c_cond H rfl ?_ ?_
  · intro h26
    try have p26 := of_decide_eq_true h26
    exfalso; omega
  intro h26
  try have p26 := of_decide_eq_false h26
  refine c_skip ?_; refine hK5 _ _ ?_; clear hK5; refine c_seq (fun _ hK7 => ?_); obtain ⟨lb, lo, rfl, gu⟩ := num_at (k := u) hr13 (by rw [List.length_map]; omega); obtain ⟨_, _, e0, gv⟩ := num_at (k := vv) hr13 (by rw [List.length_map]; omega)
  injection e0 with e0; injection e0 with e1 e2; subst e1; subst e2
  rw [show ((begS s).map fun x : Nat => (x : Int))[u]'(by rw [List.length_map]; omega) = ((advS s 0 u : Nat) : Int) by rw [List.getElem_map, (List.getElem?_eq_some_iff.1 eu).2]] at gu; rw [show ((begS s).map fun x : Nat => (x : Int))[vv]'(by rw [List.length_map]; omega) = ((advS s 0 vv : Nat) : Int) by rw [List.getElem_map, (List.getElem?_eq_some_iff.1 ev).2]] at gv
  have hprm6 : ∀ (ix_ : Nat) (v : Value) (G G' : GH), (∀ k o, G k = some o → G' k = some o) → (fun (ix_ : Nat) (v : Value) (G : GH) => match ix_ with | 0 => v = .string s | 1 => v = .slice (some ⟨lb, lo, none⟩) ((rnS s).length + 1) bc | 2 => v = vi u | 3 => v = .pointer (some ⟨lb, lo + u * 1, none⟩) | 4 => v = vi ((advS s 0 u : Nat) : Int) | 5 => v = .slice (some ⟨lb, lo, none⟩) ((rnS s).length + 1) bc | 6 => v = vi vv | 7 => v = .pointer (some ⟨lb, lo + vv * 1, none⟩) | 8 => v = vi ((advS s 0 vv : Nat) : Int) | 9 => v = .string (s.extract (advS s 0 u) (advS s 0 vv)) | 10 => v = .string (s.extract (advS s 0 u) (advS s 0 vv)) | _ => True) ix_ v G → (fun (ix_ : Nat) (v : Value) (G : GH) => match ix_ with | 0 => v = .string s | 1 => v = .slice (some ⟨lb, lo, none⟩) ((rnS s).length + 1) bc | 2 => v = vi u | 3 => v = .pointer (some ⟨lb, lo + u * 1, none⟩) | 4 => v = vi ((advS s 0 u : Nat) : Int) | 5 => v = .slice (some ⟨lb, lo, none⟩) ((rnS s).length + 1) bc | 6 => v = vi vv | 7 => v = .pointer (some ⟨lb, lo + vv * 1, none⟩) | 8 => v = vi ((advS s 0 vv : Nat) : Int) | 9 => v = .string (s.extract (advS s 0 u) (advS s 0 vv)) | 10 => v = .string (s.extract (advS s 0 u) (advS s 0 vv)) | _ => True) ix_ v G' := by
    intro ix_ v G G' hm h
    match ix_, h with
    | 0, h => exact h
    | 1, h => exact h
    | 2, h => exact h
    | 3, h => exact h
    | 4, h => exact h
    | 5, h => exact h
    | 6, h => exact h
    | 7, h => exact h
    | 8, h => exact h
    | 9, h => exact h
    | 10, h => exact h
    | 11, h => exact trivial
    | 12, h => exact trivial
    | _ + 13, h => exact trivial
  refine c_drawI (hmxb) [[], [], [], [1, 2], [1, 2, 3], [], [], [5, 6], [5, 6, 7], [0, 1, 2, 3, 4, 5, 6, 7, 8], [0, 1, 2, 3, 4, 5, 6, 7, 8, 9], [0, 1, 2, 3, 4, 5, 6, 7, 8, 9, 10], [0, 1, 2, 3, 4, 5, 6, 7, 8, 9, 10, 11]] [11, 12] (by kernel_rfl) (by kernel_rfl) (fun (ix_ : Nat) (v : Value) (G : GH) => match ix_ with | 0 => v = .string s | 1 => v = .slice (some ⟨lb, lo, none⟩) ((rnS s).length + 1) bc | 2 => v = vi u | 3 => v = .pointer (some ⟨lb, lo + u * 1, none⟩) | 4 => v = vi ((advS s 0 u : Nat) : Int) | 5 => v = .slice (some ⟨lb, lo, none⟩) ((rnS s).length + 1) bc | 6 => v = vi vv | 7 => v = .pointer (some ⟨lb, lo + vv * 1, none⟩) | 8 => v = vi ((advS s 0 vv : Nat) : Int) | 9 => v = .string (s.extract (advS s 0 u) (advS s 0 vv)) | 10 => v = .string (s.extract (advS s 0 u) (advS s 0 vv)) | _ => True) hprm6 H ?_ ?_
  · clear H; refine (allI_cons ?_ (allI_cons ?_ (allI_cons ?_ (allI_cons ?_ (allI_cons ?_ (allI_cons ?_ (allI_cons ?_ (allI_cons ?_ (allI_cons ?_ (allI_cons ?_ (allI_cons ?_ (allI_cons ?_ (allI_cons ?_ allI_nil)))))))))))))
    · intro Sd_ a w G1 _ hSi hc hG HT hv; have H := HT; clear hSi; have Hb := H.full; have H := Hb; clear hc; refine s_move H wn rfl rfl ?_; clear H; intro a H; refine wl_nil ⟨rfl, ?_⟩; exact draw_val (by kernel_rfl) hprm6 rfl rfl HT Hb hG hv (fun _ _ h => h) (rfl) H
    · intro Sd_ a w G1 _ hSi hc hG HT hv; have H := HT; clear hSi; have Hb := H.full; have H := Hb; clear hc; refine s_move H wn rfl rfl ?_; clear H; intro a H; refine wl_nil ⟨rfl, ?_⟩; exact draw_val (by kernel_rfl) hprm6 rfl rfl HT Hb hG hv (fun _ _ h => h) (rfl) H
    · intro Sd_ a w G1 _ hSi hc hG HT hv; have H := HT; clear hSi; have Hb := H.full; have H := Hb; clear hc; refine s_move H wn rfl rfl ?_; clear H; intro a H; refine wl_nil ⟨rfl, ?_⟩; exact draw_val (by kernel_rfl) hprm6 rfl rfl HT Hb hG hv (fun _ _ h => h) (rfl) H
    · intro Sd_ a w G1 _ hSi hc hG HT hv; have H := HT; clear hSi; obtain ⟨u28, hu28, hp28⟩ := hv 1 28 (hc 1 (by decide)) rfl; obtain rfl : u28 = .slice (some ⟨lb, lo, none⟩) ((rnS s).length + 1) bc := hp28; have H := H.addS hu28; obtain ⟨u29, hu29, hp29⟩ := hv 2 29 (hc 2 (by decide)) rfl; obtain rfl : u29 = vi u := hp29; have H := H.addS hu29; have Hb := H.full; have H := Hb; clear hc; refine s_index un32slc ty3slc u H wn rfl rfl rfl (by omega) rfl ?_; clear H; intro a H; refine wl_nil ⟨rfl, ?_⟩; exact draw_val (by kernel_rfl) hprm6 rfl rfl HT Hb hG hv (fun _ _ h => h) (rfl) H
    · intro Sd_ a w G1 _ hSi hc hG HT hv; have H := HT; clear hSi; obtain ⟨u30, hu30, hp30⟩ := hv 3 30 (hc 3 (by decide)) rfl; obtain rfl : u30 = .pointer (some ⟨lb, lo + u * 1, none⟩) := hp30; have H := H.addS hu30; have Hb := H.full; have H := Hb; clear hc; refine s_load ty3slc H wn rfl (H.hp.gcell (gcell_mono hG gu)) rfl ?_; clear H; intro a H; refine wl_nil ⟨rfl, ?_⟩; exact draw_val (by kernel_rfl) hprm6 rfl rfl HT Hb hG hv (fun _ _ h => h) (rfl) H
    · intro Sd_ a w G1 _ hSi hc hG HT hv; have H := HT; clear hSi; have Hb := H.full; have H := Hb; clear hc; refine s_move H wn rfl rfl ?_; clear H; intro a H; refine wl_nil ⟨rfl, ?_⟩; exact draw_val (by kernel_rfl) hprm6 rfl rfl HT Hb hG hv (fun _ _ h => h) (rfl) H
    · intro Sd_ a w G1 _ hSi hc hG HT hv; have H := HT; clear hSi; have Hb := H.full; have H := Hb; clear hc; refine s_move H wn rfl rfl ?_; clear H; intro a H; refine wl_nil ⟨rfl, ?_⟩; exact draw_val (by kernel_rfl) hprm6 rfl rfl HT Hb hG hv (fun _ _ h => h) (rfl) H
    · intro Sd_ a w G1 _ hSi hc hG HT hv; have H := HT; clear hSi; obtain ⟨u32, hu32, hp32⟩ := hv 5 32 (hc 5 (by decide)) rfl; obtain rfl : u32 = .slice (some ⟨lb, lo, none⟩) ((rnS s).length + 1) bc := hp32; have H := H.addS hu32; obtain ⟨u33, hu33, hp33⟩ := hv 6 33 (hc 6 (by decide)) rfl; obtain rfl : u33 = vi vv := hp33; have H := H.addS hu33; have Hb := H.full; have H := Hb; clear hc; refine s_index un32slc ty3slc vv H wn rfl rfl rfl (by omega) rfl ?_; clear H; intro a H; refine wl_nil ⟨rfl, ?_⟩; exact draw_val (by kernel_rfl) hprm6 rfl rfl HT Hb hG hv (fun _ _ h => h) (rfl) H
    · intro Sd_ a w G1 _ hSi hc hG HT hv; have H := HT; clear hSi; obtain ⟨u34, hu34, hp34⟩ := hv 7 34 (hc 7 (by decide)) rfl; obtain rfl : u34 = .pointer (some ⟨lb, lo + vv * 1, none⟩) := hp34; have H := H.addS hu34; have Hb := H.full; have H := Hb; clear hc; refine s_load ty3slc H wn rfl (H.hp.gcell (gcell_mono hG gv)) rfl ?_; clear H; intro a H; refine wl_nil ⟨rfl, ?_⟩; exact draw_val (by kernel_rfl) hprm6 rfl rfl HT Hb hG hv (fun _ _ h => h) (rfl) H
    · intro Sd_ a w G1 _ hSi hc hG HT hv; have H := HT; clear hSi; obtain ⟨u27, hu27, hp27⟩ := hv 0 27 (hc 0 (by decide)) rfl; obtain rfl : u27 = .string s := hp27; have H := H.addS hu27; obtain ⟨u31, hu31, hp31⟩ := hv 4 31 (hc 4 (by decide)) rfl; obtain rfl : u31 = vi ((advS s 0 u : Nat) : Int) := hp31; have H := H.addS hu31; obtain ⟨u35, hu35, hp35⟩ := hv 8 35 (hc 8 (by decide)) rfl; obtain rfl : u35 = vi ((advS s 0 vv : Nat) : Int) := hp35; have H := H.addS hu35; have Hb := H.full; have H := Hb; clear hc; refine s_strSlice (advS s 0 u) (advS s 0 vv) un9slc H wn rfl rfl rfl rfl rfl huv2 hav.2 rfl ?_; clear H; intro a H; refine wl_nil ⟨rfl, ?_⟩; exact draw_val (by kernel_rfl) hprm6 rfl rfl HT Hb hG hv (fun _ _ h => h) (rfl) H
    · intro Sd_ a w G1 _ hSi hc hG HT hv; have H := HT; clear hSi; obtain ⟨u36, hu36, hp36⟩ := hv 9 36 (hc 9 (by decide)) rfl; obtain rfl : u36 = .string (s.extract (advS s 0 u) (advS s 0 vv)) := hp36; have H := H.addS hu36; have Hb := H.full; have H := Hb; clear hc; refine s_call en35slc H wn rfl (clone_spec _ _ H.hp.ro _ (by rw [ByteArray.size_extract]; omega)) rfl ?_; clear H; rintro v37 G37 a w rfl hGm37 H; refine wl_nil ⟨rfl, ?_⟩; exact draw_val (by kernel_rfl) hprm6 rfl rfl HT Hb hG hv hGm37 (rfl) H
    · intro _ _ _ _ hB; exact absurd hB (by decide)
    intro _ _ _ _ hB; exact absurd hB (by decide)
  clear H; intro a w G hGm6 H hv; obtain ⟨u37, hu37, hp37⟩ := hv 10 37 (by decide) rfl; obtain rfl : u37 = .string (s.extract (advS s 0 u) (advS s 0 vv)) := hp37; have H := H.addS hu37; clear hv; (iterate 2 refine s_assign H wn rfl rfl ?_; clear H; intro a H); refine wl_nil ⟨rfl, ?_⟩; refine hK7 _ _ ?_; clear hK7; refine c_ret ?_; refine (leaveT H Tryd.results27 (.cons (rv_tmp H rfl) (.cons (rv_tmp H rfl) .nil)) ?_).1; exact H.hp.ret rfl
end Go.Proofs.YtpmcdlhhfbobfaaDoor
