/-
  utf8.ValidString of a short string of ASCII bytes.
-/
import Derived.Test.YtpmcdlhhfbobfaaDoorMac
namespace Go.Proofs.YtpmcdlhhfbobfaaDoor
open Go.RowKit
theorem un9val : Tryd.prog.underlying 9 = some .string := by kernel_rfl
theorem ext_size {s : ByteArray} {k : Nat} : (s.extract k s.size).size = s.size - k := by simp
theorem ext_at {s : ByteArray} {k : Nat} (h : k < s.size) (h2 : 0 < (s.extract k s.size).size) : (s.extract k s.size)[0]'h2 = s[k] := by
  rw [ByteArray.getElem_extract]; rfl
theorem ext_ext {s : ByteArray} {k : Nat} (h : k ≤ s.size) : (s.extract k s.size).extract 1 (s.extract k s.size).size = s.extract (k + 1) s.size := by
  rw [ext_size, ByteArray.extract_extract]
  congr 1
  omega
theorem valid_ascii (G : GH) (w0 : World) (hG : Hold G w0) (s : ByteArray) (hs : s.size ≤ 8) (ha : ∀ i (h : i < s.size), s[i].toNat < 128) : Calls Tryd.prog 54 #[.string s] w0 (Ret w0 G fun u G' => u = .bool true ∧ G = G') := by
  refine enter (N := 169) (T := [(0, _)]) (F := fun k => k < w0.heap.size) (L := []) Tryd.func54 rfl Tryd.ntmps54 rfl rfl hG (fun _ h => h) (fun _ h => by cases h) (fun _ h => by cases h) (fun _ h => by cases h) List.Pairwise.nil ?_; intro a H; refine c_seq (fun _ hK1 => ?_); refine c_region ?_; refine s_assign H wn rfl rfl ?_; clear H; intro a H; rw [show Value.string s = Value.string (s.extract 0 s.size) by rw [ByteArray.extract_zero_size]] at H; refine wl_nil ?_; refine hK1 _ _ ?_; clear hK1; refine c_seq (fun _ hK2 => ?_); refine c_block ?_; skip; refine c_loopS (ι := Nat) (Tc := []) (Lc := []) (fun (gh : Nat) => [(0, .string (s.extract gh s.size))]) (fun (gh : Nat) => []) (fun (gh : Nat) => G) (fun (gh : Nat) => gh ≤ s.size) (fun (gh : Nat) => s.size - gh) (0) (by exact (H).sub ⟨rfl, trivial⟩) ?_ ?_
  · exact Nat.zero_le _
  clear H; intro gh a w hI H; obtain ⟨k, hgh⟩ : ∃ x, x = gh := ⟨_, rfl⟩; subst hgh; skip; dsimp only [List.cons_append, List.nil_append, List.append_nil] at H; refine c_seq (fun _ hK3 => ?_); refine c_seq (fun _ hK4 => ?_); refine c_region ?_; refine s_move H wn rfl rfl ?_; clear H; intro a H; refine s_lens un9val H wn rfl rfl ?_; clear H; intro a H; rw [ext_size] at H; refine s_cmp H wn rfl rfl rfl rfl ?_; clear H; intro a H; refine wl_nil ?_; refine hK4 _ _ ?_; clear hK4; refine c_cond H rfl ?_ ?_
  · intro h9
    try have p9 := of_decide_eq_true h9
    have hk : k < s.size := by omega
    have hb := ext_at (s := s) (k := k) hk (by rw [ext_size]; omega); have hb2 := ha k hk; refine c_skip ?_; refine hK3 _ _ ?_; clear hK3; refine c_block ?_; refine c_seq (fun _ hK5 => ?_); refine c_region ?_; refine s_move H wn rfl rfl ?_; clear H; intro a H; refine s_indexs 0 un9val H wn rfl rfl rfl (by rw [ext_size]; omega) rfl ?_; clear H; intro a H; rw [hb] at H; refine s_assign H wn rfl rfl ?_; clear H; intro a H; refine wl_nil ?_; refine hK5 _ _ ?_; clear hK5; refine c_seq (fun _ hK6 => ?_); refine c_seq (fun _ hK7 => ?_); refine c_region ?_; refine s_move H wn rfl rfl ?_; clear H; intro a H; refine s_cmp H wn rfl rfl rfl rfl ?_; clear H; intro a H; refine wl_nil ?_; refine hK7 _ _ ?_; clear hK7; refine c_cond H rfl ?_ ?_
    · intro h13
      try have p13 := of_decide_eq_true h13
      refine c_seq (fun _ hK8 => ?_); refine c_region ?_; refine s_move H wn rfl rfl ?_; clear H; intro a H; refine s_strFrom 1 un9val H wn rfl rfl rfl (by rw [ext_size]; omega) rfl ?_; clear H; intro a H; rw [ext_ext (by omega)] at H; refine s_assign H wn rfl rfl ?_; clear H; intro a H; refine wl_nil ?_; refine hK8 _ _ ?_; clear hK8; refine c_seq (fun _ hK9 => ?_); refine c_seq (fun _ hK10 => ?_); refine c_region ?_; refine s_move H wn rfl rfl ?_; clear H; intro a H; refine s_lens un9val H wn rfl rfl ?_; clear H; intro a H; rw [ext_size] at H; refine s_cmp H wn rfl rfl rfl rfl ?_; clear H; intro a H; refine s_move H wn rfl rfl ?_; clear H; intro a H; refine s_split H 19 rfl ?_ ?_
      · intro h19
        try have p19 := of_decide_eq_true h19
        exact absurd p19 (by omega)
      intro h19
      try have p19 := of_decide_eq_false h19
      (iterate 4 refine s_skip H rfl rfl h19 rfl ?_; clear H; intro a H); refine s_pick_f H wn rfl h19 rfl rfl ?_; clear H; intro a H; refine wl_nil ?_; refine hK10 _ _ ?_; clear hK10; refine c_cond_f H rfl rfl ?_; refine c_skip ?_; refine hK9 _ _ ?_; clear hK9; refine c_exit ?_; refine loop_end ((k + 1)) (by exact (H).sub ⟨rfl, trivial⟩) ?_ ?_
      · omega
      first | omega | (dsimp only; omega)
    intro h13
    try have p13 := of_decide_eq_false h13
    exact absurd p13 (by omega)
  intro h9
  try have p9 := of_decide_eq_false h9
  refine c_exit ?_; refine hK2 _ _ ?_; clear hK2; refine c_seq (fun _ hK11 => ?_); refine c_region ?_; refine s_assign H wn rfl rfl ?_; clear H; intro a H; refine wl_nil ?_; refine hK11 _ _ ?_; clear hK11; refine c_ret ?_; refine (leave1 H Tryd.results54 (.cons (rv_tmp H rfl) .nil) ?_).1; exact H.hp.ret ⟨rfl, rfl⟩
end Go.Proofs.YtpmcdlhhfbobfaaDoor
