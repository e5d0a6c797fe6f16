/-
  The model of layer 14: at.
-/
import Derived.Test.YtbfdhlakbdadhaaPas
import Derived.Test.YtbfdhlakbdadhaaPlr
namespace Go.Proofs.Ytbfdhlakbdadhaa
open Go.RowKit
theorem un33l14 : Try.prog.underlying 33 = some (.slice 37) := by kernel_rfl
theorem ty37l14 : Ty Try.prog 37 4 32 [.int .i64 0, .int .i64 0, .int .i64 0, .bool false] true := ⟨by kernel_rfl, by kernel_rfl⟩
theorem fd37_1l14 : Fld Try.prog 37 1 1 := ⟨by kernel_rfl⟩
theorem ty3l14 : Ty Try.prog 3 1 8 [.int .i64 0] false := ⟨by kernel_rfl, by kernel_rfl⟩
theorem fd37_2l14 : Fld Try.prog 37 2 2 := ⟨by kernel_rfl⟩
theorem at14_spec (G : GH) (w0 : World) (hG : Hold G w0) (A : List BlkD) (unit : Int) (v : Value) (hv : RepV G (.sl 4 (A.map bkDat)) v) :
    Calls Try.prog 16 #[v, vi unit] w0 (Ret w0 G fun u G' => G = G' ∧ u = vi (ixI (A.findIdx? (inBlk unit)))) := by
  obtain ⟨vA, c, rfl, hc1, hc2, hg⟩ := hv.slice
  have hml : maxLen = 9223372036854775807 := rfl
  rw [List.length_map] at *
  refine enter (N := 29) (T := [(0, _), (1, _)]) (F := fun k => k < w0.heap.size) (L := []) Try.func16 rfl Try.ntmps16 rfl rfl hG (fun _ h => h) (fun _ h => by cases h) (fun _ h => by cases h) (fun _ h => by cases h) List.Pairwise.nil ?_
  intro a H
  refine c_seq (fun _ hK1 => ?_)
  refine c_region ?_
  refine s_assign H wn rfl rfl ?_; clear H; intro a H
  refine wl_nil ?_
  refine hK1 _ _ ?_; clear hK1
  refine c_seq (fun _ hK2 => ?_)
  refine c_seq (fun _ hK3 => ?_)
  refine c_region ?_
  refine s_assign H wn rfl rfl ?_; clear H; intro a H
  refine wl_nil ?_
  refine hK3 _ _ ?_; clear hK3
  refine c_block ?_
  skip
  refine c_loopS (ι := Nat) (Tc := [(0, _), (1, _)]) (Lc := []) (fun (gh : Nat) => [(5, vi gh)]) (fun (gh : Nat) => []) (fun (gh : Nat) => G) (fun (gh : Nat) => gh ≤ A.length ∧ (A.take gh).findIdx? (inBlk unit) = none) (fun (gh : Nat) => A.length - gh) (0) (by exact (H).sub ⟨rfl, rfl, rfl, trivial⟩) ?_ ?_
  · exact ⟨by omega, rfl⟩
  · clear H; intro gh a w hI H
    obtain ⟨k, hgh⟩ : ∃ x, x = gh := ⟨_, rfl⟩; subst hgh
    obtain ⟨hk, hno⟩ := hI
    dsimp only [List.cons_append, List.nil_append, List.append_nil] at H
    refine c_seq (fun _ hK4 => ?_)
    refine c_seq (fun _ hK5 => ?_)
    refine c_region ?_
    refine s_move H wn rfl rfl ?_; clear H; intro a H
    refine s_move H wn rfl rfl ?_; clear H; intro a H
    refine s_len un33l14 H wn rfl rfl ?_; clear H; intro a H
    refine s_cmp H wn rfl rfl rfl rfl ?_; clear H; intro a H
    refine wl_nil ?_
    refine hK5 _ _ ?_; clear hK5
    refine c_cond H rfl ?_ ?_
    · intro h9
      try have p9 := of_decide_eq_true h9
      have hk2 : k < A.length := by omega
      obtain ⟨b, o, cs, rfl, hcl, hrow, hr⟩ := hg k (bkDat A[k]) (by simp [hk2])
      obtain rfl := bk_of hr
      have r1 : gcell G b (o + k * 4 + 1) = some (vi A[k].from_) := hrow 1 _ rfl
      have r2 : gcell G b (o + k * 4 + 2) = some (vi A[k].to) := hrow 2 _ rfl
      refine c_skip ?_
      refine hK4 _ _ ?_; clear hK4
      refine c_seq (fun _ hK6 => ?_)
      refine c_block ?_
      refine c_seq (fun _ hK7 => ?_)
      refine c_region ?_
      refine s_move H wn rfl rfl ?_; clear H; intro a H
      refine s_move H wn rfl rfl ?_; clear H; intro a H
      refine s_move H wn rfl rfl ?_; clear H; intro a H
      refine s_index un33l14 ty37l14 _ H wn rfl rfl rfl (by first | assumption | omega) rfl ?_; clear H; intro a H
      refine s_field fd37_1l14 H wn rfl rfl ?_; clear H; intro a H
      refine s_load ty3l14 H wn rfl (H.hp.gcell (by assumption)) rfl ?_; clear H; intro a H
      refine s_cmp H wn rfl rfl rfl rfl ?_; clear H; intro a H
      refine s_move H wn rfl rfl ?_; clear H; intro a H
      refine s_split H 19 rfl ?_ ?_
      · intro h19
        try have p19 := of_decide_eq_true h19
        refine s_move H (wg H rfl rfl h19) rfl rfl ?_; clear H; intro a H
        refine s_move H (wg H rfl rfl h19) rfl rfl ?_; clear H; intro a H
        refine s_move H (wg H rfl rfl h19) rfl rfl ?_; clear H; intro a H
        refine s_index un33l14 ty37l14 _ H (wg H rfl rfl h19) rfl rfl rfl (by first | assumption | omega) rfl ?_; clear H; intro a H
        refine s_field fd37_2l14 H (wg H rfl rfl h19) rfl rfl ?_; clear H; intro a H
        refine s_load ty3l14 H (wg H rfl rfl h19) rfl (H.hp.gcell (by assumption)) rfl ?_; clear H; intro a H
        refine s_cmp H (wg H rfl rfl h19) rfl rfl rfl rfl ?_; clear H; intro a H
        refine s_pick_t H wn rfl h19 rfl rfl ?_; clear H; intro a H
        refine wl_nil ?_
        refine hK7 _ _ ?_; clear hK7
        refine c_cond H rfl ?_ ?_
        · intro h27
          try have p27 := of_decide_eq_true h27
          refine c_seq (fun _ hK8 => ?_)
          refine c_region ?_
          refine s_move H wn rfl rfl ?_; clear H; intro a H
          refine s_assign H wn rfl rfl ?_; clear H; intro a H
          refine wl_nil ?_
          refine hK8 _ _ ?_; clear hK8
          refine c_ret ?_
          refine (leave1 H Try.results16 (.cons (rv_tmp H rfl) .nil) ?_).1
          exact H.hp.ret ⟨rfl, by rw [idx_stop hk2 hno (by simp only [inBlk, h19, h27, Bool.true_and])]; rfl⟩
        · intro h27
          try have p27 := of_decide_eq_false h27
          refine c_skip ?_
          refine hK6 _ _ ?_; clear hK6
          refine c_region ?_
          refine s_move H wn rfl rfl ?_; clear H; intro a H
          refine s_add _ H wn rfl rfl rfl (by omega) (by omega) rfl ?_; clear H; intro a H
          refine s_assign H wn rfl rfl ?_; clear H; intro a H
          refine wl_nil ?_
          refine loop_end ((k + 1)) (by exact (H).sub ⟨rfl, rfl, rfl, trivial⟩) ?_ ?_
          · exact ⟨by omega, idx_next hk2 hno (by simp only [inBlk, h19, h27, Bool.true_and])⟩
          · first | omega | (dsimp only; omega)
      · intro h19
        try have p19 := of_decide_eq_false h19
        refine s_skip H rfl rfl h19 rfl ?_; clear H; intro a H
        refine s_skip H rfl rfl h19 rfl ?_; clear H; intro a H
        refine s_skip H rfl rfl h19 rfl ?_; clear H; intro a H
        refine s_skip H rfl rfl h19 rfl ?_; clear H; intro a H
        refine s_skip H rfl rfl h19 rfl ?_; clear H; intro a H
        refine s_skip H rfl rfl h19 rfl ?_; clear H; intro a H
        refine s_skip H rfl rfl h19 rfl ?_; clear H; intro a H
        refine s_pick_f H wn rfl h19 rfl rfl ?_; clear H; intro a H
        refine wl_nil ?_
        refine hK7 _ _ ?_; clear hK7
        refine c_cond_f H rfl rfl ?_
        refine c_skip ?_
        refine hK6 _ _ ?_; clear hK6
        refine c_region ?_
        refine s_move H wn rfl rfl ?_; clear H; intro a H
        refine s_add _ H wn rfl rfl rfl (by omega) (by omega) rfl ?_; clear H; intro a H
        refine s_assign H wn rfl rfl ?_; clear H; intro a H
        refine wl_nil ?_
        refine loop_end ((k + 1)) (by exact (H).sub ⟨rfl, rfl, rfl, trivial⟩) ?_ ?_
        · exact ⟨by omega, idx_next hk2 hno (by simp only [inBlk, h19, Bool.false_and])⟩
        · first | omega | (dsimp only; omega)
    · intro h9
      try have p9 := of_decide_eq_false h9
      refine c_exit ?_
      refine hK2 _ _ ?_; clear hK2
      refine c_seq (fun _ hK9 => ?_)
      refine c_region ?_
      refine s_assign H wn rfl rfl ?_; clear H; intro a H
      refine wl_nil ?_
      refine hK9 _ _ ?_; clear hK9
      refine c_ret ?_
      refine (leave1 H Try.results16 (.cons (rv_tmp H rfl) .nil) ?_).1
      exact H.hp.ret ⟨rfl, by rw [show A.take k = A from List.take_of_length_le (by omega)] at hno; rw [hno]; rfl⟩
end Go.Proofs.Ytbfdhlakbdadhaa
