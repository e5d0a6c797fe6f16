/-
  Package codepoint: Points of a valid string.
-/
import Derived.Test.YtpmcdlhhfbobfaaDoorCp
import Derived.Test.YtpmcdlhhfbobfaaDoorGcl
namespace Go.Proofs.YtpmcdlhhfbobfaaDoor
open Go.RowKit
theorem un32pts : Tryd.prog.underlying 32 = some (.slice 3) := by kernel_rfl
theorem ty3pts : Ty Tryd.prog 3 1 8 [.int .i64 0] false := ⟨by kernel_rfl, by kernel_rfl⟩
theorem un9pts : Tryd.prog.underlying 9 = some .string := by kernel_rfl
theorem en30pts : ∀ args w, (callFunc 30 args).run Tryd.prog w = .ok (.enter 30 args) w := enters Tryd.func30 rfl (by kernel_rfl)
/-- The code points from a byte on. -/
def ptF (s : ByteArray) : Nat → Nat → List Int
  | 0, _ => []
  | f + 1, i => if i < s.size then (decS s i).1 :: ptF s f (i + (decS s i).2.1) else []
def ptS (s : ByteArray) : List Int := ptF s s.size 0
theorem ptF_len (s : ByteArray) : ∀ f i, (ptF s f i).length ≤ f
  | 0, _ => by simp [ptF]
  | f + 1, i => by
    rw [ptF]; split
    · rw [List.length_cons]; have := ptF_len s f (i + (decS s i).2.1); omega
    simp
theorem ptF_in {s : ByteArray} {f i : Nat} (hf : s.size - i ≤ f) (h : i < s.size) : ptF s f i = (decS s i).1 :: ptF s (f - 1) (i + (decS s i).2.1) := by
  match f, hf with
  | 0, hf => omega
  | f + 1, _ => rw [ptF, if_pos h]; rfl
theorem ptF_end {s : ByteArray} {f i : Nat} (h : ¬ i < s.size) : ptF s f i = [] := by
  match f with
  | 0 => rfl
  | f + 1 => rw [ptF, if_neg h]
theorem points_spec (G : GH) (w0 : World) (hG : Hold G w0) (s : ByteArray) (hs : s.size ≤ 1073741824) (hv : validS s = true) :
    Calls Tryd.prog 42 #[.string s] w0 (Ret w0 G fun u G' => ∃ x, u = .tuple #[x, vi 0] ∧ RepV G' (.sl 1 ((ptS s).map numDat)) x) := by
  have hv1 : firstS s 0 < 0 := by simpa [validS] using hv
  have hpl := ptF_len s s.size 0; have hml : maxLen = 9223372036854775807 := rfl; refine enter (N := 29) (T := [(0, _)]) (F := fun k => k < w0.heap.size) (L := []) Tryd.func42 rfl Tryd.ntmps42 rfl rfl hG (fun _ h => h) (fun _ h => by cases h) (fun _ h => by cases h) (fun _ h => by cases h) List.Pairwise.nil ?_; intro a H; refine c_seq (fun _ hK1 => ?_); refine c_region ?_; (iterate 2 refine s_assign H wn rfl rfl ?_; clear H; intro a H); refine wl_nil ?_; refine hK1 _ _ ?_; clear hK1; refine c_seq (fun _ hK2 => ?_); refine c_seq (fun _ hK3 => ?_); refine c_region ?_; refine s_assign H wn rfl rfl ?_; clear H; intro a H; refine wl_nil ?_; refine hK3 _ _ ?_; clear hK3; refine c_block ?_; skip; refine c_loopS (ι := Nat × Nat × List Int × Value × OL) (Tc := [(0, _)]) (Lc := []) (fun (gh : Nat × Nat × List Int × Value × OL) => [(2, gh.2.2.2.1), (4, vi gh.1)]) (fun (gh : Nat × Nat × List Int × Value × OL) => [] ++ gh.2.2.2.2) (fun (gh : Nat × Nat × List Int × Value × OL) => G) (fun (gh : Nat × Nat × List Int × Value × OL) => gh.1 ≤ s.size ∧ firstS s 0 = firstS s gh.1 ∧ s.size - gh.1 ≤ gh.2.1 ∧ gh.2.2.1 ++ ptF s gh.2.1 gh.1 = ptS s ∧ IsRow 3 1 gh.2.2.2.1 gh.2.2.1.length (gh.2.2.1.map vi) gh.2.2.2.2) (fun (gh : Nat × Nat × List Int × Value × OL) => s.size - gh.1) ((0, s.size, [], .slice none 0 0, [])) (by exact (H).sub ⟨rfl, rfl, rfl, trivial⟩) ?_ ?_
  · exact ⟨Nat.zero_le _, rfl, Nat.sub_le _ _, rfl, IsRow.nil⟩
  clear H; intro gh a w hI H; obtain ⟨i, f, B, v, Lo⟩ := gh; dsimp only at hI H; obtain ⟨hi, hf, hfu, heq, hrw⟩ := hI
  have hBl : B.length ≤ s.size := by have := congrArg List.length heq; rw [List.length_append] at this; unfold ptS at this; omega
  dsimp only [List.cons_append, List.nil_append, List.append_nil] at H; refine c_seq (fun _ hK4 => ?_); refine c_seq (fun _ hK5 => ?_); refine c_region ?_; (iterate 2 refine s_move H wn rfl rfl ?_; clear H; intro a H); refine s_lens un9pts H wn rfl rfl ?_; clear H; intro a H; refine s_cmp H wn rfl rfl rfl rfl ?_; clear H; intro a H; refine wl_nil ?_; refine hK5 _ _ ?_; clear hK5; refine c_cond H rfl ?_ ?_
  · intro h11
    try have p11 := of_decide_eq_true h11
    refine c_skip ?_; refine hK4 _ _ ?_; clear hK4; refine c_block ?_; refine c_seq (fun _ hK6 => ?_); refine c_region ?_; (iterate 2 refine s_move H wn rfl rfl ?_; clear H; intro a H); refine s_call en30pts H wn rfl (decode_spec _ _ H.hp.ro s i (by omega) (by omega)) rfl ?_; clear H; rintro v15 _ a w ⟨rfl, rfl⟩ - H; have hd := decS_size s i (by omega)
    have hok : (decS s i).2.2 = true := by
      by_cases h : (decS s i).2.2 = true
      · exact h
      have h3 : firstS s i = i := by rw [firstS, dif_pos (by omega), dif_neg h]
      omega
    have hd2 := hd.2 hok; refine s_move H wn rfl rfl ?_; clear H; intro a H; (iterate 3 refine s_extract H wn rfl rfl rfl ?_; clear H; intro a H); (iterate 3 refine s_assign H wn rfl rfl ?_; clear H; intro a H); refine wl_nil ?_; refine hK6 _ _ ?_; clear hK6; refine c_seq (fun _ hK7 => ?_); refine c_seq (fun _ hK8 => ?_); refine c_region ?_; refine s_move H wn rfl rfl ?_; clear H; intro a H; refine s_not H wn rfl rfl ?_; clear H; intro a H; refine wl_nil ?_; refine hK8 _ _ ?_; clear hK8; refine c_cond H rfl ?_ ?_
    · intro h20
      try have p20 := of_decide_eq_true h20
      exact absurd h20 (by rw [hok]; decide)
    intro h20
    try have p20 := of_decide_eq_false h20
    refine c_skip ?_; refine hK7 _ _ ?_; clear hK7; refine c_seq (fun _ hK9 => ?_); refine c_region ?_; (iterate 2 refine s_move H wn rfl rfl ?_; clear H; intro a H); refine s_buildSlice un32pts ty3pts [_] [_] H wn rfl rfl rfl rfl rfl (by intro i q h; match i, h with | 0, h => exact h | n + 1, h => simp at h) rfl rfl ?_; clear H; intro b23 a w hb23 H; refine s_append (Li := [_]) (Lo := Lo) (news := [vi (decS s i).1]) un32pts ty3pts rfl rfl H wn rfl rfl hrw rfl (H.hp.ocells 0 rfl rfl) rfl (by omega) (by omega) rfl ?_; clear H; intro v24 Lo24 a w hrw24 H; obtain ⟨vA24, vc24, e24, -, -⟩ := hrw24.shape; refine s_assign H wn rfl rfl ?_; clear H; intro a H; refine wl_nil ?_; refine hK9 _ _ ?_; clear hK9; refine c_region ?_; (iterate 2 refine s_move H wn rfl rfl ?_; clear H; intro a H); refine s_add _ H wn rfl rfl rfl (by omega) (by omega) rfl ?_; clear H; intro a H; refine s_assign H wn rfl rfl ?_; clear H; intro a H; refine wl_nil ?_; refine loop_end ((i + (decS s i).2.1, f - 1, B ++ [(decS s i).1], v24, Lo24)) (by exact (H.pickT (Pl := [_]) (Pl' := []) [] (by decide) rfl).sub ⟨rfl, rfl, rfl, trivial⟩) ?_ ?_
    · (try dsimp only); exact ⟨by omega, by rw [hf, firstS, dif_pos (by omega), dif_pos hok], by omega, by rw [ptF_in hfu (by omega)] at heq; simpa using heq, by rw [List.length_append, List.map_append]; exact hrw24⟩
    omega
  intro h11
  try have p11 := of_decide_eq_false h11
  refine c_exit ?_; refine hK2 _ _ ?_; clear hK2; refine c_seq (fun _ hK10 => ?_); refine c_region ?_; refine s_move H wn rfl rfl ?_; clear H; intro a H; (iterate 2 refine s_assign H wn rfl rfl ?_; clear H; intro a H); refine wl_nil ?_; refine hK10 _ _ ?_; clear hK10; refine c_ret ?_; rw [ptF_end (by omega), List.append_nil] at heq; obtain ⟨Gr, hmr, hrep, H⟩ := St.giveRow (Li := []) (Lo := Lo) H hrw (rows := B.map numDat) (by simp) (nums_cat _ _); rw [heq] at hrep; refine (leaveT H Tryd.results42 (.cons (rv_tmp H rfl) (.cons (rv_tmp H rfl) .nil)) ?_).1; exact H.hp.ret ⟨_, rfl, hrep⟩
end Go.Proofs.YtpmcdlhhfbobfaaDoor
