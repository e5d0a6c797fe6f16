/-
  Package blockmatch: Tokens of strings that are not valid; the first bytes of a string.
-/
import Derived.Test.YtpmcdlhhfbobfaaDoorMtk
import Derived.Test.YtpmcdlhhfbobfaaDoorKw
import Derived.Test.YtpmcdlhhfbobfaaDoorDv
namespace Go.Proofs.YtpmcdlhhfbobfaaDoor
open Go.RowKit
theorem en18bpr : ∀ args w, (callFunc 18 args).run Tryd.prog w = .ok (.enter 18 args) w := enters Tryd.func18 rfl (by kernel_rfl)
theorem btwo_bad (G : GH) (w0 : World) (hG : Hold G w0) (s t : ByteArray) (hz1 : s.size ≤ 2000) (hz2 : t.size ≤ 2000) (hb : ¬ (validS s = true ∧ validS t = true)) :
    Calls Tryd.prog 17 #[.string s, .string t] w0 (Ret w0 G fun u G' => u = .tuple #[.slice none 0 0, .slice none 0 0, vi 12]) := by
  refine enter (N := 23) (T := [(0, _), (1, _)]) (F := fun k => k < w0.heap.size) (L := []) Tryd.func17 rfl Tryd.ntmps17 rfl rfl hG (fun _ h => h) (fun _ h => by cases h) (fun _ h => by cases h) (fun _ h => by cases h) List.Pairwise.nil ?_; intro a H; refine c_seq (fun _ hK1 => ?_); refine c_region ?_; (iterate 3 refine s_assign H wn rfl rfl ?_; clear H; intro a H); refine wl_nil ?_; refine hK1 _ _ ?_; clear hK1; refine c_seq (fun _ hK2 => ?_); refine c_seq (fun _ hK3 => ?_); refine c_region ?_; refine s_move H wn rfl rfl ?_; clear H; intro a H; refine s_call en18bpr H wn rfl (valid_spec _ _ H.hp.ro s (by omega)) rfl ?_; clear H; rintro v9 _ a w ⟨rfl, rfl⟩ - H; refine s_not H wn rfl rfl ?_; clear H; intro a H; refine s_move H wn rfl rfl ?_; clear H; intro a H; refine s_split H 11 rfl ?_ ?_
  · intro h11
    try have p11 := of_decide_eq_true h11
    (iterate 3 refine s_skip H rfl rfl h11 rfl ?_; clear H; intro a H); refine s_pick_t H wn rfl h11 rfl rfl ?_; clear H; intro a H; refine wl_nil ?_; refine hK3 _ _ ?_; clear hK3; refine c_cond_t H rfl rfl ?_; refine c_seq (fun _ hK4 => ?_); refine c_region ?_; (iterate 3 refine s_assign H wn rfl rfl ?_; clear H; intro a H); refine wl_nil ?_; refine hK4 _ _ ?_; clear hK4; refine c_ret ?_; refine (leaveT H Tryd.results17 (.cons (rv_tmp H rfl) (.cons (rv_tmp H rfl) (.cons (rv_tmp H rfl) .nil))) ?_).1; exact H.hp.ret rfl
  intro h11
  try have p11 := of_decide_eq_false h11
  refine s_move H (wg H rfl rfl h11) rfl rfl ?_; clear H; intro a H; refine s_call en18bpr H (wg H rfl rfl h11) rfl (valid_spec _ _ H.hp.ro t (by omega)) rfl ?_; clear H; rintro v13 _ a w ⟨rfl, rfl⟩ - H; refine s_not H (wg H rfl rfl h11) rfl rfl ?_; clear H; intro a H; refine s_pick_f H wn rfl h11 rfl rfl ?_; clear H; intro a H; refine wl_nil ?_; refine hK3 _ _ ?_; clear hK3; refine c_cond H rfl ?_ ?_
  · intro h15
    try have p15 := of_decide_eq_true h15
    refine c_seq (fun _ hK5 => ?_); refine c_region ?_; (iterate 3 refine s_assign H wn rfl rfl ?_; clear H; intro a H); refine wl_nil ?_; refine hK5 _ _ ?_; clear hK5; refine c_ret ?_; refine (leaveT H Tryd.results17 (.cons (rv_tmp H rfl) (.cons (rv_tmp H rfl) (.cons (rv_tmp H rfl) .nil))) ?_).1; exact H.hp.ret rfl
  intro h15
  try have p15 := of_decide_eq_false h15
  exact absurd (show validS s = true ∧ validS t = true from ⟨by simpa using h11, by simpa using h15⟩) hb
/-- The first bytes of a string. -/
def preS (s : ByteArray) : ByteArray := s.extract 0 (min s.size 200)
theorem preS_size (s : ByteArray) : (preS s).size ≤ 200 := by rw [preS, ByteArray.size_extract]; omega
end Go.Proofs.YtpmcdlhhfbobfaaDoor
