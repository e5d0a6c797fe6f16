import Derived.Test.YtbfdhlakbdadhaaRows
import Derived.Test.YtbfdhlakbdadhaaOq
namespace Go.Proofs.Ytbfdhlakbdadhaa
open Go.RowKit
theorem fd23_0w1 : Fld Try.prog 23 0 0 := ⟨by kernel_rfl⟩
theorem ty3w1 : Ty Try.prog 3 1 8 [.int .i64 0] false := ⟨by kernel_rfl, by kernel_rfl⟩
theorem fd23_1w1 : Fld Try.prog 23 1 1 := ⟨by kernel_rfl⟩
theorem fd23_2w1 : Fld Try.prog 23 2 2 := ⟨by kernel_rfl⟩
theorem contains_spec (G : GH) (w0 : World) (hG : Hold G w0) (af afr ato bf bfr bto : Int) :
    Calls Try.prog 8 #[.agg #[.int .i64 af, .int .i64 afr, .int .i64 ato], .agg #[.int .i64 bf, .int .i64 bfr, .int .i64 bto]] w0 (Ret w0 G fun v G' => v = .bool (decide (af = bf ∧ afr ≤ bfr ∧ bfr ≤ bto ∧ bto ≤ ato)) ∧ G' = G) := by
  refine enter (N := 31) (T := [(0, _), (1, _)]) (F := fun k => k < w0.heap.size) (L := []) Try.func8 rfl Try.ntmps8 rfl rfl hG (fun _ h => h) (fun _ h => by cases h) (fun _ h => by cases h) (fun _ h => by cases h) List.Pairwise.nil ?_
  intro a H
  refine c_seq (fun _ hK1 => ?_)
  refine c_region ?_
  refine s_box (cs := [_, _, _]) H wn rfl rfl rfl ?_; clear H; intro b2 a w hb2 H
  refine s_box (cs := [_, _, _]) H wn rfl rfl rfl ?_; clear H; intro b3 a w hb3 H
  refine s_assign H wn rfl rfl ?_; clear H; intro a H
  refine wl_nil ?_
  refine hK1 _ _ ?_; clear hK1
  refine c_seq (fun _ hK2 => ?_)
  refine c_region ?_
  refine s_field fd23_0w1 H wn rfl rfl ?_; clear H; intro a H
  refine s_load ty3w1 H wn rfl (H.hp.ocell 1 rfl rfl) rfl ?_; clear H; intro a H
  refine s_field fd23_0w1 H wn rfl rfl ?_; clear H; intro a H
  refine s_load ty3w1 H wn rfl (H.hp.ocell 0 rfl rfl) rfl ?_; clear H; intro a H
  refine s_cmp H wn rfl rfl rfl rfl ?_; clear H; intro a H
  refine s_move H wn rfl rfl ?_; clear H; intro a H
  refine s_split H 10 rfl ?_ ?_
  · intro h10
    try have p10 := of_decide_eq_true h10
    refine s_field fd23_1w1 H (wg H rfl rfl h10) rfl rfl ?_; clear H; intro a H
    refine s_load ty3w1 H (wg H rfl rfl h10) rfl (H.hp.ocell 1 rfl rfl) rfl ?_; clear H; intro a H
    refine s_field fd23_1w1 H (wg H rfl rfl h10) rfl rfl ?_; clear H; intro a H
    refine s_load ty3w1 H (wg H rfl rfl h10) rfl (H.hp.ocell 0 rfl rfl) rfl ?_; clear H; intro a H
    refine s_cmp H (wg H rfl rfl h10) rfl rfl rfl rfl ?_; clear H; intro a H
    refine s_pick_t H wn rfl h10 rfl rfl ?_; clear H; intro a H
    refine s_move H wn rfl rfl ?_; clear H; intro a H
    refine s_split H 17 rfl ?_ ?_
    · intro h17
      try have p17 := of_decide_eq_true h17
      refine s_field fd23_1w1 H (wg H rfl rfl h17) rfl rfl ?_; clear H; intro a H
      refine s_load ty3w1 H (wg H rfl rfl h17) rfl (H.hp.ocell 0 rfl rfl) rfl ?_; clear H; intro a H
      refine s_field fd23_2w1 H (wg H rfl rfl h17) rfl rfl ?_; clear H; intro a H
      refine s_load ty3w1 H (wg H rfl rfl h17) rfl (H.hp.ocell 0 rfl rfl) rfl ?_; clear H; intro a H
      refine s_cmp H (wg H rfl rfl h17) rfl rfl rfl rfl ?_; clear H; intro a H
      refine s_pick_t H wn rfl h17 rfl rfl ?_; clear H; intro a H
      refine s_move H wn rfl rfl ?_; clear H; intro a H
      refine s_split H 24 rfl ?_ ?_
      · intro h24
        try have p24 := of_decide_eq_true h24
        refine s_field fd23_2w1 H (wg H rfl rfl h24) rfl rfl ?_; clear H; intro a H
        refine s_load ty3w1 H (wg H rfl rfl h24) rfl (H.hp.ocell 0 rfl rfl) rfl ?_; clear H; intro a H
        refine s_field fd23_2w1 H (wg H rfl rfl h24) rfl rfl ?_; clear H; intro a H
        refine s_load ty3w1 H (wg H rfl rfl h24) rfl (H.hp.ocell 1 rfl rfl) rfl ?_; clear H; intro a H
        refine s_cmp H (wg H rfl rfl h24) rfl rfl rfl rfl ?_; clear H; intro a H
        refine s_pick_t H wn rfl h24 rfl rfl ?_; clear H; intro a H
        refine s_assign H wn rfl rfl ?_; clear H; intro a H
        refine wl_nil ?_
        refine hK2 _ _ ?_; clear hK2
        refine c_ret ?_
        refine (leave1 H Try.results8 (.cons (rv_tmp H rfl) .nil) ?_).1
        exact H.hp.ret ⟨by first | (congr 1; simp_all; done) | (congr 1; simp_all; omega), rfl⟩
      · intro h24
        try have p24 := of_decide_eq_false h24
        refine s_skip H rfl rfl h24 rfl ?_; clear H; intro a H
        refine s_skip H rfl rfl h24 rfl ?_; clear H; intro a H
        refine s_skip H rfl rfl h24 rfl ?_; clear H; intro a H
        refine s_skip H rfl rfl h24 rfl ?_; clear H; intro a H
        refine s_skip H rfl rfl h24 rfl ?_; clear H; intro a H
        refine s_pick_f H wn rfl h24 rfl rfl ?_; clear H; intro a H
        refine s_assign H wn rfl rfl ?_; clear H; intro a H
        refine wl_nil ?_
        refine hK2 _ _ ?_; clear hK2
        refine c_ret ?_
        refine (leave1 H Try.results8 (.cons (rv_tmp H rfl) .nil) ?_).1
        exact H.hp.ret ⟨by first | (congr 1; simp_all; done) | (congr 1; simp_all; omega), rfl⟩
    · intro h17
      try have p17 := of_decide_eq_false h17
      refine s_skip H rfl rfl h17 rfl ?_; clear H; intro a H
      refine s_skip H rfl rfl h17 rfl ?_; clear H; intro a H
      refine s_skip H rfl rfl h17 rfl ?_; clear H; intro a H
      refine s_skip H rfl rfl h17 rfl ?_; clear H; intro a H
      refine s_skip H rfl rfl h17 rfl ?_; clear H; intro a H
      refine s_pick_f H wn rfl h17 rfl rfl ?_; clear H; intro a H
      refine s_move H wn rfl rfl ?_; clear H; intro a H
      refine s_skip H rfl rfl rfl rfl ?_; clear H; intro a H
      refine s_skip H rfl rfl rfl rfl ?_; clear H; intro a H
      refine s_skip H rfl rfl rfl rfl ?_; clear H; intro a H
      refine s_skip H rfl rfl rfl rfl ?_; clear H; intro a H
      refine s_skip H rfl rfl rfl rfl ?_; clear H; intro a H
      refine s_pick_f H wn rfl rfl rfl rfl ?_; clear H; intro a H
      refine s_assign H wn rfl rfl ?_; clear H; intro a H
      refine wl_nil ?_
      refine hK2 _ _ ?_; clear hK2
      refine c_ret ?_
      refine (leave1 H Try.results8 (.cons (rv_tmp H rfl) .nil) ?_).1
      exact H.hp.ret ⟨by first | (congr 1; simp_all; done) | (congr 1; simp_all; omega), rfl⟩
  · intro h10
    try have p10 := of_decide_eq_false h10
    refine s_skip H rfl rfl h10 rfl ?_; clear H; intro a H
    refine s_skip H rfl rfl h10 rfl ?_; clear H; intro a H
    refine s_skip H rfl rfl h10 rfl ?_; clear H; intro a H
    refine s_skip H rfl rfl h10 rfl ?_; clear H; intro a H
    refine s_skip H rfl rfl h10 rfl ?_; clear H; intro a H
    refine s_pick_f H wn rfl h10 rfl rfl ?_; clear H; intro a H
    refine s_move H wn rfl rfl ?_; clear H; intro a H
    refine s_skip H rfl rfl rfl rfl ?_; clear H; intro a H
    refine s_skip H rfl rfl rfl rfl ?_; clear H; intro a H
    refine s_skip H rfl rfl rfl rfl ?_; clear H; intro a H
    refine s_skip H rfl rfl rfl rfl ?_; clear H; intro a H
    refine s_skip H rfl rfl rfl rfl ?_; clear H; intro a H
    refine s_pick_f H wn rfl rfl rfl rfl ?_; clear H; intro a H
    refine s_move H wn rfl rfl ?_; clear H; intro a H
    refine s_skip H rfl rfl rfl rfl ?_; clear H; intro a H
    refine s_skip H rfl rfl rfl rfl ?_; clear H; intro a H
    refine s_skip H rfl rfl rfl rfl ?_; clear H; intro a H
    refine s_skip H rfl rfl rfl rfl ?_; clear H; intro a H
    refine s_skip H rfl rfl rfl rfl ?_; clear H; intro a H
    refine s_pick_f H wn rfl rfl rfl rfl ?_; clear H; intro a H
    refine s_assign H wn rfl rfl ?_; clear H; intro a H
    refine wl_nil ?_
    refine hK2 _ _ ?_; clear hK2
    refine c_ret ?_
    refine (leave1 H Try.results8 (.cons (rv_tmp H rfl) .nil) ?_).1
    exact H.hp.ret ⟨by first | (congr 1; simp_all; done) | (congr 1; simp_all; omega), rfl⟩
end Go.Proofs.Ytbfdhlakbdadhaa
