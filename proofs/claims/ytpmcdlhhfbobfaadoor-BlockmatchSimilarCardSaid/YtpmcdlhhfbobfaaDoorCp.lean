/-
  Package codepoint: what its functions compute.
-/
import Derived.Test.YtpmcdlhhfbobfaaDoorRows
import Derived.Test.YtpmcdlhhfbobfaaDoorRep
namespace Go.Proofs.YtpmcdlhhfbobfaaDoor
open Go.RowKit
theorem un3cp : Tryd.prog.underlying 3 = some (.int .i64) := by kernel_rfl
theorem un5cp : Tryd.prog.underlying 5 = some (.int .u8) := by kernel_rfl
theorem un9cp : Tryd.prog.underlying 9 = some .string := by kernel_rfl
theorem en41cp : ∀ args w, (callFunc 41 args).run Tryd.prog w = .ok (.enter 41 args) w := enters Tryd.func41 rfl (by kernel_rfl)
theorem en30cp : ∀ args w, (callFunc 30 args).run Tryd.prog w = .ok (.enter 30 args) w := enters Tryd.func30 rfl (by kernel_rfl)
theorem en25cp : ∀ args w, (callFunc 25 args).run Tryd.prog w = .ok (.enter 25 args) w := enters Tryd.func25 rfl (by kernel_rfl)
/-- The bounds of the second byte behind a first one, and the number of bytes of the encoding. -/
def tailS (b : Int) : Int × Int × Int :=
  (if b = 224 then 160 else if b = 240 then 144 else 128, if b = 237 then 159 else if b = 244 then 143 else 191,
   if b < 128 then 1 else if b < 194 ∨ 244 < b then 0 else if b < 224 then 2 else if b < 240 then 3 else 4)
theorem tailS_n (b : Int) : 0 ≤ (tailS b).2.2 ∧ (tailS b).2.2 ≤ 4 := by
  simp only [tailS]; split
  · omega
  split
  · omega
  split
  · omega
  split <;> omega
theorem tail_spec (G : GH) (w0 : World) (hG : Hold G w0) (b : Int) :
    Calls Tryd.prog 41 #[.int .u8 b] w0 (Ret w0 G fun v G' => v = .tuple #[.int .u8 (tailS b).1, .int .u8 (tailS b).2.1, .int .i64 (tailS b).2.2] ∧ G = G') := by
  refine enter (N := 33) (T := [(0, _)]) (F := fun k => k < w0.heap.size) (L := []) Tryd.func41 rfl Tryd.ntmps41 rfl rfl hG (fun _ h => h) (fun _ h => by cases h) (fun _ h => by cases h) (fun _ h => by cases h) List.Pairwise.nil ?_; intro a H; refine c_seq (fun _ hK1 => ?_); refine c_region ?_; (iterate 3 refine s_assign H wn rfl rfl ?_; clear H; intro a H); refine wl_nil ?_; refine hK1 _ _ ?_; clear hK1; refine c_seq (fun _ hK2 => ?_); refine c_region ?_; (iterate 2 refine s_assign H wn rfl rfl ?_; clear H; intro a H); refine wl_nil ?_; refine hK2 _ _ ?_; clear hK2; refine c_seq (fun _ hK3 => ?_); refine c_block ?_; refine c_seq (fun _ hK4 => ?_); refine c_region ?_; refine s_move H wn rfl rfl ?_; clear H; intro a H; refine s_cmp H wn rfl rfl rfl rfl ?_; clear H; intro a H; refine s_assign H wn rfl rfl ?_; clear H; intro a H; refine wl_nil ?_; refine hK4 _ _ ?_; clear hK4; refine c_cond H rfl ?_ ?_
  · intro h5
    try have p5 := of_decide_eq_true h5
    refine c_region ?_; refine s_assign H wn rfl rfl ?_; clear H; intro a H; refine wl_nil ?_; refine hK3 _ _ ?_; clear hK3; refine c_seq (fun _ hK5 => ?_); refine c_seq (fun _ hK6 => ?_); refine c_region ?_; refine s_move H wn rfl rfl ?_; clear H; intro a H; refine wl_nil ?_; refine hK6 _ _ ?_; clear hK6; refine c_block ?_; refine c_seq (fun _ hK7 => ?_); refine c_region ?_; refine s_cmp H wn rfl rfl rfl rfl ?_; clear H; intro a H; refine s_assign H wn rfl rfl ?_; clear H; intro a H; refine wl_nil ?_; refine hK7 _ _ ?_; clear hK7; refine c_cond H rfl ?_ ?_
    · intro h22
      try have p22 := of_decide_eq_true h22
      refine c_region ?_; refine s_assign H wn rfl rfl ?_; clear H; intro a H; refine wl_nil ?_; refine hK5 _ _ ?_; clear hK5; refine c_seq (fun _ hK8 => ?_); refine c_region ?_; (iterate 3 refine s_move H wn rfl rfl ?_; clear H; intro a H); (iterate 3 refine s_assign H wn rfl rfl ?_; clear H; intro a H); refine wl_nil ?_; refine hK8 _ _ ?_; clear hK8; refine c_ret ?_; refine (leaveT H Tryd.results41 (.cons (rv_tmp H rfl) (.cons (rv_tmp H rfl) (.cons (rv_tmp H rfl) .nil))) ?_).1
      first | (exfalso; omega) | exact H.hp.ret ⟨by simp only [tailS]; repeat (first | rw [if_pos (by omega)] | rw [if_neg (by omega)]), rfl⟩
    intro h22
    try have p22 := of_decide_eq_false h22
    refine c_seq (fun _ hK9 => ?_); refine c_region ?_; refine s_cmp H wn rfl rfl rfl rfl ?_; clear H; intro a H; refine s_assign H wn rfl rfl ?_; clear H; intro a H; refine wl_nil ?_; refine hK9 _ _ ?_; clear hK9; refine c_cond H rfl ?_ ?_
    · intro h24
      try have p24 := of_decide_eq_true h24
      refine c_region ?_; refine s_assign H wn rfl rfl ?_; clear H; intro a H; refine wl_nil ?_; refine hK5 _ _ ?_; clear hK5; refine c_seq (fun _ hK10 => ?_); refine c_region ?_; (iterate 3 refine s_move H wn rfl rfl ?_; clear H; intro a H); (iterate 3 refine s_assign H wn rfl rfl ?_; clear H; intro a H); refine wl_nil ?_; refine hK10 _ _ ?_; clear hK10; refine c_ret ?_; refine (leaveT H Tryd.results41 (.cons (rv_tmp H rfl) (.cons (rv_tmp H rfl) (.cons (rv_tmp H rfl) .nil))) ?_).1
      first | (exfalso; omega) | exact H.hp.ret ⟨by simp only [tailS]; repeat (first | rw [if_pos (by omega)] | rw [if_neg (by omega)]), rfl⟩
    intro h24
    try have p24 := of_decide_eq_false h24
    refine c_seq (fun _ hK11 => ?_); refine c_region ?_; refine s_cmp H wn rfl rfl rfl rfl ?_; clear H; intro a H; refine s_assign H wn rfl rfl ?_; clear H; intro a H; refine wl_nil ?_; refine hK11 _ _ ?_; clear hK11; refine c_cond H rfl ?_ ?_
    · intro h26
      try have p26 := of_decide_eq_true h26
      refine c_region ?_; refine s_assign H wn rfl rfl ?_; clear H; intro a H; refine wl_nil ?_; refine hK5 _ _ ?_; clear hK5; refine c_seq (fun _ hK12 => ?_); refine c_region ?_; (iterate 3 refine s_move H wn rfl rfl ?_; clear H; intro a H); (iterate 3 refine s_assign H wn rfl rfl ?_; clear H; intro a H); refine wl_nil ?_; refine hK12 _ _ ?_; clear hK12; refine c_ret ?_; refine (leaveT H Tryd.results41 (.cons (rv_tmp H rfl) (.cons (rv_tmp H rfl) (.cons (rv_tmp H rfl) .nil))) ?_).1
      first | (exfalso; omega) | exact H.hp.ret ⟨by simp only [tailS]; repeat (first | rw [if_pos (by omega)] | rw [if_neg (by omega)]), rfl⟩
    intro h26
    try have p26 := of_decide_eq_false h26
    refine c_seq (fun _ hK13 => ?_); refine c_region ?_; refine s_cmp H wn rfl rfl rfl rfl ?_; clear H; intro a H; refine s_assign H wn rfl rfl ?_; clear H; intro a H; refine wl_nil ?_; refine hK13 _ _ ?_; clear hK13; refine c_cond H rfl ?_ ?_
    · intro h28
      try have p28 := of_decide_eq_true h28
      refine c_region ?_; refine s_assign H wn rfl rfl ?_; clear H; intro a H; refine wl_nil ?_; refine hK5 _ _ ?_; clear hK5; refine c_seq (fun _ hK14 => ?_); refine c_region ?_; (iterate 3 refine s_move H wn rfl rfl ?_; clear H; intro a H); (iterate 3 refine s_assign H wn rfl rfl ?_; clear H; intro a H); refine wl_nil ?_; refine hK14 _ _ ?_; clear hK14; refine c_ret ?_; refine (leaveT H Tryd.results41 (.cons (rv_tmp H rfl) (.cons (rv_tmp H rfl) (.cons (rv_tmp H rfl) .nil))) ?_).1
      first | (exfalso; omega) | exact H.hp.ret ⟨by simp only [tailS]; repeat (first | rw [if_pos (by omega)] | rw [if_neg (by omega)]), rfl⟩
    intro h28
    try have p28 := of_decide_eq_false h28
    refine c_skip ?_; refine hK5 _ _ ?_; clear hK5; refine c_seq (fun _ hK15 => ?_); refine c_region ?_; (iterate 3 refine s_move H wn rfl rfl ?_; clear H; intro a H); (iterate 3 refine s_assign H wn rfl rfl ?_; clear H; intro a H); refine wl_nil ?_; refine hK15 _ _ ?_; clear hK15; refine c_ret ?_; refine (leaveT H Tryd.results41 (.cons (rv_tmp H rfl) (.cons (rv_tmp H rfl) (.cons (rv_tmp H rfl) .nil))) ?_).1
    first | (exfalso; omega) | exact H.hp.ret ⟨by simp only [tailS]; repeat (first | rw [if_pos (by omega)] | rw [if_neg (by omega)]), rfl⟩
  intro h5
  try have p5 := of_decide_eq_false h5
  refine c_seq (fun _ hK16 => ?_); refine c_region ?_; refine s_move H wn rfl rfl ?_; clear H; intro a H; refine s_cmp H wn rfl rfl rfl rfl ?_; clear H; intro a H; refine s_move H wn rfl rfl ?_; clear H; intro a H; refine s_split H 11 rfl ?_ ?_
  · intro h11
    try have p11 := of_decide_eq_true h11
    (iterate 2 refine s_skip H rfl rfl h11 rfl ?_; clear H; intro a H); refine s_pick_t H wn rfl h11 rfl rfl ?_; clear H; intro a H; refine s_assign H wn rfl rfl ?_; clear H; intro a H; refine wl_nil ?_; refine hK16 _ _ ?_; clear hK16; refine c_cond_t H rfl rfl ?_; refine c_region ?_; refine s_assign H wn rfl rfl ?_; clear H; intro a H; refine wl_nil ?_; refine hK3 _ _ ?_; clear hK3; refine c_seq (fun _ hK17 => ?_); refine c_seq (fun _ hK18 => ?_); refine c_region ?_; refine s_move H wn rfl rfl ?_; clear H; intro a H; refine wl_nil ?_; refine hK18 _ _ ?_; clear hK18; refine c_block ?_; refine c_seq (fun _ hK19 => ?_); refine c_region ?_; refine s_cmp H wn rfl rfl rfl rfl ?_; clear H; intro a H; refine s_assign H wn rfl rfl ?_; clear H; intro a H; refine wl_nil ?_; refine hK19 _ _ ?_; clear hK19; refine c_cond H rfl ?_ ?_
    · intro h22
      try have p22 := of_decide_eq_true h22
      refine c_region ?_; refine s_assign H wn rfl rfl ?_; clear H; intro a H; refine wl_nil ?_; refine hK17 _ _ ?_; clear hK17; refine c_seq (fun _ hK20 => ?_); refine c_region ?_; (iterate 3 refine s_move H wn rfl rfl ?_; clear H; intro a H); (iterate 3 refine s_assign H wn rfl rfl ?_; clear H; intro a H); refine wl_nil ?_; refine hK20 _ _ ?_; clear hK20; refine c_ret ?_; refine (leaveT H Tryd.results41 (.cons (rv_tmp H rfl) (.cons (rv_tmp H rfl) (.cons (rv_tmp H rfl) .nil))) ?_).1
      first | (exfalso; omega) | exact H.hp.ret ⟨by simp only [tailS]; repeat (first | rw [if_pos (by omega)] | rw [if_neg (by omega)]), rfl⟩
    intro h22
    try have p22 := of_decide_eq_false h22
    refine c_seq (fun _ hK21 => ?_); refine c_region ?_; refine s_cmp H wn rfl rfl rfl rfl ?_; clear H; intro a H; refine s_assign H wn rfl rfl ?_; clear H; intro a H; refine wl_nil ?_; refine hK21 _ _ ?_; clear hK21; refine c_cond H rfl ?_ ?_
    · intro h24
      try have p24 := of_decide_eq_true h24
      refine c_region ?_; refine s_assign H wn rfl rfl ?_; clear H; intro a H; refine wl_nil ?_; refine hK17 _ _ ?_; clear hK17; refine c_seq (fun _ hK22 => ?_); refine c_region ?_; (iterate 3 refine s_move H wn rfl rfl ?_; clear H; intro a H); (iterate 3 refine s_assign H wn rfl rfl ?_; clear H; intro a H); refine wl_nil ?_; refine hK22 _ _ ?_; clear hK22; refine c_ret ?_; refine (leaveT H Tryd.results41 (.cons (rv_tmp H rfl) (.cons (rv_tmp H rfl) (.cons (rv_tmp H rfl) .nil))) ?_).1
      first | (exfalso; omega) | exact H.hp.ret ⟨by simp only [tailS]; repeat (first | rw [if_pos (by omega)] | rw [if_neg (by omega)]), rfl⟩
    intro h24
    try have p24 := of_decide_eq_false h24
    refine c_seq (fun _ hK23 => ?_); refine c_region ?_; refine s_cmp H wn rfl rfl rfl rfl ?_; clear H; intro a H; refine s_assign H wn rfl rfl ?_; clear H; intro a H; refine wl_nil ?_; refine hK23 _ _ ?_; clear hK23; refine c_cond H rfl ?_ ?_
    · intro h26
      try have p26 := of_decide_eq_true h26
      refine c_region ?_; refine s_assign H wn rfl rfl ?_; clear H; intro a H; refine wl_nil ?_; refine hK17 _ _ ?_; clear hK17; refine c_seq (fun _ hK24 => ?_); refine c_region ?_; (iterate 3 refine s_move H wn rfl rfl ?_; clear H; intro a H); (iterate 3 refine s_assign H wn rfl rfl ?_; clear H; intro a H); refine wl_nil ?_; refine hK24 _ _ ?_; clear hK24; refine c_ret ?_; refine (leaveT H Tryd.results41 (.cons (rv_tmp H rfl) (.cons (rv_tmp H rfl) (.cons (rv_tmp H rfl) .nil))) ?_).1
      first | (exfalso; omega) | exact H.hp.ret ⟨by simp only [tailS]; repeat (first | rw [if_pos (by omega)] | rw [if_neg (by omega)]), rfl⟩
    intro h26
    try have p26 := of_decide_eq_false h26
    refine c_seq (fun _ hK25 => ?_); refine c_region ?_; refine s_cmp H wn rfl rfl rfl rfl ?_; clear H; intro a H; refine s_assign H wn rfl rfl ?_; clear H; intro a H; refine wl_nil ?_; refine hK25 _ _ ?_; clear hK25; refine c_cond H rfl ?_ ?_
    · intro h28
      try have p28 := of_decide_eq_true h28
      refine c_region ?_; refine s_assign H wn rfl rfl ?_; clear H; intro a H; refine wl_nil ?_; refine hK17 _ _ ?_; clear hK17; refine c_seq (fun _ hK26 => ?_); refine c_region ?_; (iterate 3 refine s_move H wn rfl rfl ?_; clear H; intro a H); (iterate 3 refine s_assign H wn rfl rfl ?_; clear H; intro a H); refine wl_nil ?_; refine hK26 _ _ ?_; clear hK26; refine c_ret ?_; refine (leaveT H Tryd.results41 (.cons (rv_tmp H rfl) (.cons (rv_tmp H rfl) (.cons (rv_tmp H rfl) .nil))) ?_).1
      first | (exfalso; omega) | exact H.hp.ret ⟨by simp only [tailS]; repeat (first | rw [if_pos (by omega)] | rw [if_neg (by omega)]), rfl⟩
    intro h28
    try have p28 := of_decide_eq_false h28
    refine c_skip ?_; refine hK17 _ _ ?_; clear hK17; refine c_seq (fun _ hK27 => ?_); refine c_region ?_; (iterate 3 refine s_move H wn rfl rfl ?_; clear H; intro a H); (iterate 3 refine s_assign H wn rfl rfl ?_; clear H; intro a H); refine wl_nil ?_; refine hK27 _ _ ?_; clear hK27; refine c_ret ?_; refine (leaveT H Tryd.results41 (.cons (rv_tmp H rfl) (.cons (rv_tmp H rfl) (.cons (rv_tmp H rfl) .nil))) ?_).1
    first | (exfalso; omega) | exact H.hp.ret ⟨by simp only [tailS]; repeat (first | rw [if_pos (by omega)] | rw [if_neg (by omega)]), rfl⟩
  intro h11
  try have p11 := of_decide_eq_false h11
  refine s_move H (wg H rfl rfl h11) rfl rfl ?_; clear H; intro a H; refine s_cmp H (wg H rfl rfl h11) rfl rfl rfl rfl ?_; clear H; intro a H; refine s_pick_f H wn rfl h11 rfl rfl ?_; clear H; intro a H; refine s_assign H wn rfl rfl ?_; clear H; intro a H; refine wl_nil ?_; refine hK16 _ _ ?_; clear hK16; refine c_cond H rfl ?_ ?_
  · intro h8
    try have p8 := of_decide_eq_true h8
    refine c_region ?_; refine s_assign H wn rfl rfl ?_; clear H; intro a H; refine wl_nil ?_; refine hK3 _ _ ?_; clear hK3; refine c_seq (fun _ hK28 => ?_); refine c_seq (fun _ hK29 => ?_); refine c_region ?_; refine s_move H wn rfl rfl ?_; clear H; intro a H; refine wl_nil ?_; refine hK29 _ _ ?_; clear hK29; refine c_block ?_; refine c_seq (fun _ hK30 => ?_); refine c_region ?_; refine s_cmp H wn rfl rfl rfl rfl ?_; clear H; intro a H; refine s_assign H wn rfl rfl ?_; clear H; intro a H; refine wl_nil ?_; refine hK30 _ _ ?_; clear hK30; refine c_cond H rfl ?_ ?_
    · intro h22
      try have p22 := of_decide_eq_true h22
      refine c_region ?_; refine s_assign H wn rfl rfl ?_; clear H; intro a H; refine wl_nil ?_; refine hK28 _ _ ?_; clear hK28; refine c_seq (fun _ hK31 => ?_); refine c_region ?_; (iterate 3 refine s_move H wn rfl rfl ?_; clear H; intro a H); (iterate 3 refine s_assign H wn rfl rfl ?_; clear H; intro a H); refine wl_nil ?_; refine hK31 _ _ ?_; clear hK31; refine c_ret ?_; refine (leaveT H Tryd.results41 (.cons (rv_tmp H rfl) (.cons (rv_tmp H rfl) (.cons (rv_tmp H rfl) .nil))) ?_).1
      first | (exfalso; omega) | exact H.hp.ret ⟨by simp only [tailS]; repeat (first | rw [if_pos (by omega)] | rw [if_neg (by omega)]), rfl⟩
    intro h22
    try have p22 := of_decide_eq_false h22
    refine c_seq (fun _ hK32 => ?_); refine c_region ?_; refine s_cmp H wn rfl rfl rfl rfl ?_; clear H; intro a H; refine s_assign H wn rfl rfl ?_; clear H; intro a H; refine wl_nil ?_; refine hK32 _ _ ?_; clear hK32; refine c_cond H rfl ?_ ?_
    · intro h24
      try have p24 := of_decide_eq_true h24
      refine c_region ?_; refine s_assign H wn rfl rfl ?_; clear H; intro a H; refine wl_nil ?_; refine hK28 _ _ ?_; clear hK28; refine c_seq (fun _ hK33 => ?_); refine c_region ?_; (iterate 3 refine s_move H wn rfl rfl ?_; clear H; intro a H); (iterate 3 refine s_assign H wn rfl rfl ?_; clear H; intro a H); refine wl_nil ?_; refine hK33 _ _ ?_; clear hK33; refine c_ret ?_; refine (leaveT H Tryd.results41 (.cons (rv_tmp H rfl) (.cons (rv_tmp H rfl) (.cons (rv_tmp H rfl) .nil))) ?_).1
      first | (exfalso; omega) | exact H.hp.ret ⟨by simp only [tailS]; repeat (first | rw [if_pos (by omega)] | rw [if_neg (by omega)]), rfl⟩
    intro h24
    try have p24 := of_decide_eq_false h24
    refine c_seq (fun _ hK34 => ?_); refine c_region ?_; refine s_cmp H wn rfl rfl rfl rfl ?_; clear H; intro a H; refine s_assign H wn rfl rfl ?_; clear H; intro a H; refine wl_nil ?_; refine hK34 _ _ ?_; clear hK34; refine c_cond H rfl ?_ ?_
    · intro h26
      try have p26 := of_decide_eq_true h26
      refine c_region ?_; refine s_assign H wn rfl rfl ?_; clear H; intro a H; refine wl_nil ?_; refine hK28 _ _ ?_; clear hK28; refine c_seq (fun _ hK35 => ?_); refine c_region ?_; (iterate 3 refine s_move H wn rfl rfl ?_; clear H; intro a H); (iterate 3 refine s_assign H wn rfl rfl ?_; clear H; intro a H); refine wl_nil ?_; refine hK35 _ _ ?_; clear hK35; refine c_ret ?_; refine (leaveT H Tryd.results41 (.cons (rv_tmp H rfl) (.cons (rv_tmp H rfl) (.cons (rv_tmp H rfl) .nil))) ?_).1
      first | (exfalso; omega) | exact H.hp.ret ⟨by simp only [tailS]; repeat (first | rw [if_pos (by omega)] | rw [if_neg (by omega)]), rfl⟩
    intro h26
    try have p26 := of_decide_eq_false h26
    refine c_seq (fun _ hK36 => ?_); refine c_region ?_; refine s_cmp H wn rfl rfl rfl rfl ?_; clear H; intro a H; refine s_assign H wn rfl rfl ?_; clear H; intro a H; refine wl_nil ?_; refine hK36 _ _ ?_; clear hK36; refine c_cond H rfl ?_ ?_
    · intro h28
      try have p28 := of_decide_eq_true h28
      refine c_region ?_; refine s_assign H wn rfl rfl ?_; clear H; intro a H; refine wl_nil ?_; refine hK28 _ _ ?_; clear hK28; refine c_seq (fun _ hK37 => ?_); refine c_region ?_; (iterate 3 refine s_move H wn rfl rfl ?_; clear H; intro a H); (iterate 3 refine s_assign H wn rfl rfl ?_; clear H; intro a H); refine wl_nil ?_; refine hK37 _ _ ?_; clear hK37; refine c_ret ?_; refine (leaveT H Tryd.results41 (.cons (rv_tmp H rfl) (.cons (rv_tmp H rfl) (.cons (rv_tmp H rfl) .nil))) ?_).1
      first | (exfalso; omega) | exact H.hp.ret ⟨by simp only [tailS]; repeat (first | rw [if_pos (by omega)] | rw [if_neg (by omega)]), rfl⟩
    intro h28
    try have p28 := of_decide_eq_false h28
    refine c_skip ?_; refine hK28 _ _ ?_; clear hK28; refine c_seq (fun _ hK38 => ?_); refine c_region ?_; (iterate 3 refine s_move H wn rfl rfl ?_; clear H; intro a H); (iterate 3 refine s_assign H wn rfl rfl ?_; clear H; intro a H); refine wl_nil ?_; refine hK38 _ _ ?_; clear hK38; refine c_ret ?_; refine (leaveT H Tryd.results41 (.cons (rv_tmp H rfl) (.cons (rv_tmp H rfl) (.cons (rv_tmp H rfl) .nil))) ?_).1
    first | (exfalso; omega) | exact H.hp.ret ⟨by simp only [tailS]; repeat (first | rw [if_pos (by omega)] | rw [if_neg (by omega)]), rfl⟩
  intro h8
  try have p8 := of_decide_eq_false h8
  refine c_seq (fun _ hK39 => ?_); refine c_region ?_; refine s_move H wn rfl rfl ?_; clear H; intro a H; refine s_cmp H wn rfl rfl rfl rfl ?_; clear H; intro a H; refine s_assign H wn rfl rfl ?_; clear H; intro a H; refine wl_nil ?_; refine hK39 _ _ ?_; clear hK39; refine c_cond H rfl ?_ ?_
  · intro h15
    try have p15 := of_decide_eq_true h15
    refine c_region ?_; refine s_assign H wn rfl rfl ?_; clear H; intro a H; refine wl_nil ?_; refine hK3 _ _ ?_; clear hK3; refine c_seq (fun _ hK40 => ?_); refine c_seq (fun _ hK41 => ?_); refine c_region ?_; refine s_move H wn rfl rfl ?_; clear H; intro a H; refine wl_nil ?_; refine hK41 _ _ ?_; clear hK41; refine c_block ?_; refine c_seq (fun _ hK42 => ?_); refine c_region ?_; refine s_cmp H wn rfl rfl rfl rfl ?_; clear H; intro a H; refine s_assign H wn rfl rfl ?_; clear H; intro a H; refine wl_nil ?_; refine hK42 _ _ ?_; clear hK42; refine c_cond H rfl ?_ ?_
    · intro h22
      try have p22 := of_decide_eq_true h22
      refine c_region ?_; refine s_assign H wn rfl rfl ?_; clear H; intro a H; refine wl_nil ?_; refine hK40 _ _ ?_; clear hK40; refine c_seq (fun _ hK43 => ?_); refine c_region ?_; (iterate 3 refine s_move H wn rfl rfl ?_; clear H; intro a H); (iterate 3 refine s_assign H wn rfl rfl ?_; clear H; intro a H); refine wl_nil ?_; refine hK43 _ _ ?_; clear hK43; refine c_ret ?_; refine (leaveT H Tryd.results41 (.cons (rv_tmp H rfl) (.cons (rv_tmp H rfl) (.cons (rv_tmp H rfl) .nil))) ?_).1
      first | (exfalso; omega) | exact H.hp.ret ⟨by simp only [tailS]; repeat (first | rw [if_pos (by omega)] | rw [if_neg (by omega)]), rfl⟩
    intro h22
    try have p22 := of_decide_eq_false h22
    refine c_seq (fun _ hK44 => ?_); refine c_region ?_; refine s_cmp H wn rfl rfl rfl rfl ?_; clear H; intro a H; refine s_assign H wn rfl rfl ?_; clear H; intro a H; refine wl_nil ?_; refine hK44 _ _ ?_; clear hK44; refine c_cond H rfl ?_ ?_
    · intro h24
      try have p24 := of_decide_eq_true h24
      refine c_region ?_; refine s_assign H wn rfl rfl ?_; clear H; intro a H; refine wl_nil ?_; refine hK40 _ _ ?_; clear hK40; refine c_seq (fun _ hK45 => ?_); refine c_region ?_; (iterate 3 refine s_move H wn rfl rfl ?_; clear H; intro a H); (iterate 3 refine s_assign H wn rfl rfl ?_; clear H; intro a H); refine wl_nil ?_; refine hK45 _ _ ?_; clear hK45; refine c_ret ?_; refine (leaveT H Tryd.results41 (.cons (rv_tmp H rfl) (.cons (rv_tmp H rfl) (.cons (rv_tmp H rfl) .nil))) ?_).1
      first | (exfalso; omega) | exact H.hp.ret ⟨by simp only [tailS]; repeat (first | rw [if_pos (by omega)] | rw [if_neg (by omega)]), rfl⟩
    intro h24
    try have p24 := of_decide_eq_false h24
    refine c_seq (fun _ hK46 => ?_); refine c_region ?_; refine s_cmp H wn rfl rfl rfl rfl ?_; clear H; intro a H; refine s_assign H wn rfl rfl ?_; clear H; intro a H; refine wl_nil ?_; refine hK46 _ _ ?_; clear hK46; refine c_cond H rfl ?_ ?_
    · intro h26
      try have p26 := of_decide_eq_true h26
      refine c_region ?_; refine s_assign H wn rfl rfl ?_; clear H; intro a H; refine wl_nil ?_; refine hK40 _ _ ?_; clear hK40; refine c_seq (fun _ hK47 => ?_); refine c_region ?_; (iterate 3 refine s_move H wn rfl rfl ?_; clear H; intro a H); (iterate 3 refine s_assign H wn rfl rfl ?_; clear H; intro a H); refine wl_nil ?_; refine hK47 _ _ ?_; clear hK47; refine c_ret ?_; refine (leaveT H Tryd.results41 (.cons (rv_tmp H rfl) (.cons (rv_tmp H rfl) (.cons (rv_tmp H rfl) .nil))) ?_).1
      first | (exfalso; omega) | exact H.hp.ret ⟨by simp only [tailS]; repeat (first | rw [if_pos (by omega)] | rw [if_neg (by omega)]), rfl⟩
    intro h26
    try have p26 := of_decide_eq_false h26
    refine c_seq (fun _ hK48 => ?_); refine c_region ?_; refine s_cmp H wn rfl rfl rfl rfl ?_; clear H; intro a H; refine s_assign H wn rfl rfl ?_; clear H; intro a H; refine wl_nil ?_; refine hK48 _ _ ?_; clear hK48; refine c_cond H rfl ?_ ?_
    · intro h28
      try have p28 := of_decide_eq_true h28
      refine c_region ?_; refine s_assign H wn rfl rfl ?_; clear H; intro a H; refine wl_nil ?_; refine hK40 _ _ ?_; clear hK40; refine c_seq (fun _ hK49 => ?_); refine c_region ?_; (iterate 3 refine s_move H wn rfl rfl ?_; clear H; intro a H); (iterate 3 refine s_assign H wn rfl rfl ?_; clear H; intro a H); refine wl_nil ?_; refine hK49 _ _ ?_; clear hK49; refine c_ret ?_; refine (leaveT H Tryd.results41 (.cons (rv_tmp H rfl) (.cons (rv_tmp H rfl) (.cons (rv_tmp H rfl) .nil))) ?_).1
      first | (exfalso; omega) | exact H.hp.ret ⟨by simp only [tailS]; repeat (first | rw [if_pos (by omega)] | rw [if_neg (by omega)]), rfl⟩
    intro h28
    try have p28 := of_decide_eq_false h28
    refine c_skip ?_; refine hK40 _ _ ?_; clear hK40; refine c_seq (fun _ hK50 => ?_); refine c_region ?_; (iterate 3 refine s_move H wn rfl rfl ?_; clear H; intro a H); (iterate 3 refine s_assign H wn rfl rfl ?_; clear H; intro a H); refine wl_nil ?_; refine hK50 _ _ ?_; clear hK50; refine c_ret ?_; refine (leaveT H Tryd.results41 (.cons (rv_tmp H rfl) (.cons (rv_tmp H rfl) (.cons (rv_tmp H rfl) .nil))) ?_).1
    first | (exfalso; omega) | exact H.hp.ret ⟨by simp only [tailS]; repeat (first | rw [if_pos (by omega)] | rw [if_neg (by omega)]), rfl⟩
  intro h15
  try have p15 := of_decide_eq_false h15
  refine c_seq (fun _ hK51 => ?_); refine c_region ?_; refine s_move H wn rfl rfl ?_; clear H; intro a H; refine s_cmp H wn rfl rfl rfl rfl ?_; clear H; intro a H; refine s_assign H wn rfl rfl ?_; clear H; intro a H; refine wl_nil ?_; refine hK51 _ _ ?_; clear hK51; refine c_cond H rfl ?_ ?_
  · intro h18
    try have p18 := of_decide_eq_true h18
    refine c_region ?_; refine s_assign H wn rfl rfl ?_; clear H; intro a H; refine wl_nil ?_; refine hK3 _ _ ?_; clear hK3; refine c_seq (fun _ hK52 => ?_); refine c_seq (fun _ hK53 => ?_); refine c_region ?_; refine s_move H wn rfl rfl ?_; clear H; intro a H; refine wl_nil ?_; refine hK53 _ _ ?_; clear hK53; refine c_block ?_; refine c_seq (fun _ hK54 => ?_); refine c_region ?_; refine s_cmp H wn rfl rfl rfl rfl ?_; clear H; intro a H; refine s_assign H wn rfl rfl ?_; clear H; intro a H; refine wl_nil ?_; refine hK54 _ _ ?_; clear hK54; refine c_cond H rfl ?_ ?_
    · intro h22
      try have p22 := of_decide_eq_true h22
      refine c_region ?_; refine s_assign H wn rfl rfl ?_; clear H; intro a H; refine wl_nil ?_; refine hK52 _ _ ?_; clear hK52; refine c_seq (fun _ hK55 => ?_); refine c_region ?_; (iterate 3 refine s_move H wn rfl rfl ?_; clear H; intro a H); (iterate 3 refine s_assign H wn rfl rfl ?_; clear H; intro a H); refine wl_nil ?_; refine hK55 _ _ ?_; clear hK55; refine c_ret ?_; refine (leaveT H Tryd.results41 (.cons (rv_tmp H rfl) (.cons (rv_tmp H rfl) (.cons (rv_tmp H rfl) .nil))) ?_).1
      first | (exfalso; omega) | exact H.hp.ret ⟨by simp only [tailS]; repeat (first | rw [if_pos (by omega)] | rw [if_neg (by omega)]), rfl⟩
    intro h22
    try have p22 := of_decide_eq_false h22
    refine c_seq (fun _ hK56 => ?_); refine c_region ?_; refine s_cmp H wn rfl rfl rfl rfl ?_; clear H; intro a H; refine s_assign H wn rfl rfl ?_; clear H; intro a H; refine wl_nil ?_; refine hK56 _ _ ?_; clear hK56; refine c_cond H rfl ?_ ?_
    · intro h24
      try have p24 := of_decide_eq_true h24
      refine c_region ?_; refine s_assign H wn rfl rfl ?_; clear H; intro a H; refine wl_nil ?_; refine hK52 _ _ ?_; clear hK52; refine c_seq (fun _ hK57 => ?_); refine c_region ?_; (iterate 3 refine s_move H wn rfl rfl ?_; clear H; intro a H); (iterate 3 refine s_assign H wn rfl rfl ?_; clear H; intro a H); refine wl_nil ?_; refine hK57 _ _ ?_; clear hK57; refine c_ret ?_; refine (leaveT H Tryd.results41 (.cons (rv_tmp H rfl) (.cons (rv_tmp H rfl) (.cons (rv_tmp H rfl) .nil))) ?_).1
      first | (exfalso; omega) | exact H.hp.ret ⟨by simp only [tailS]; repeat (first | rw [if_pos (by omega)] | rw [if_neg (by omega)]), rfl⟩
    intro h24
    try have p24 := of_decide_eq_false h24
    refine c_seq (fun _ hK58 => ?_); refine c_region ?_; refine s_cmp H wn rfl rfl rfl rfl ?_; clear H; intro a H; refine s_assign H wn rfl rfl ?_; clear H; intro a H; refine wl_nil ?_; refine hK58 _ _ ?_; clear hK58; refine c_cond H rfl ?_ ?_
    · intro h26
      try have p26 := of_decide_eq_true h26
      refine c_region ?_; refine s_assign H wn rfl rfl ?_; clear H; intro a H; refine wl_nil ?_; refine hK52 _ _ ?_; clear hK52; refine c_seq (fun _ hK59 => ?_); refine c_region ?_; (iterate 3 refine s_move H wn rfl rfl ?_; clear H; intro a H); (iterate 3 refine s_assign H wn rfl rfl ?_; clear H; intro a H); refine wl_nil ?_; refine hK59 _ _ ?_; clear hK59; refine c_ret ?_; refine (leaveT H Tryd.results41 (.cons (rv_tmp H rfl) (.cons (rv_tmp H rfl) (.cons (rv_tmp H rfl) .nil))) ?_).1
      first | (exfalso; omega) | exact H.hp.ret ⟨by simp only [tailS]; repeat (first | rw [if_pos (by omega)] | rw [if_neg (by omega)]), rfl⟩
    intro h26
    try have p26 := of_decide_eq_false h26
    refine c_seq (fun _ hK60 => ?_); refine c_region ?_; refine s_cmp H wn rfl rfl rfl rfl ?_; clear H; intro a H; refine s_assign H wn rfl rfl ?_; clear H; intro a H; refine wl_nil ?_; refine hK60 _ _ ?_; clear hK60; refine c_cond H rfl ?_ ?_
    · intro h28
      try have p28 := of_decide_eq_true h28
      refine c_region ?_; refine s_assign H wn rfl rfl ?_; clear H; intro a H; refine wl_nil ?_; refine hK52 _ _ ?_; clear hK52; refine c_seq (fun _ hK61 => ?_); refine c_region ?_; (iterate 3 refine s_move H wn rfl rfl ?_; clear H; intro a H); (iterate 3 refine s_assign H wn rfl rfl ?_; clear H; intro a H); refine wl_nil ?_; refine hK61 _ _ ?_; clear hK61; refine c_ret ?_; refine (leaveT H Tryd.results41 (.cons (rv_tmp H rfl) (.cons (rv_tmp H rfl) (.cons (rv_tmp H rfl) .nil))) ?_).1
      first | (exfalso; omega) | exact H.hp.ret ⟨by simp only [tailS]; repeat (first | rw [if_pos (by omega)] | rw [if_neg (by omega)]), rfl⟩
    intro h28
    try have p28 := of_decide_eq_false h28
    refine c_skip ?_; refine hK52 _ _ ?_; clear hK52; refine c_seq (fun _ hK62 => ?_); refine c_region ?_; (iterate 3 refine s_move H wn rfl rfl ?_; clear H; intro a H); (iterate 3 refine s_assign H wn rfl rfl ?_; clear H; intro a H); refine wl_nil ?_; refine hK62 _ _ ?_; clear hK62; refine c_ret ?_; refine (leaveT H Tryd.results41 (.cons (rv_tmp H rfl) (.cons (rv_tmp H rfl) (.cons (rv_tmp H rfl) .nil))) ?_).1
    first | (exfalso; omega) | exact H.hp.ret ⟨by simp only [tailS]; repeat (first | rw [if_pos (by omega)] | rw [if_neg (by omega)]), rfl⟩
  intro h18
  try have p18 := of_decide_eq_false h18
  refine c_region ?_; refine s_assign H wn rfl rfl ?_; clear H; intro a H; refine wl_nil ?_; refine hK3 _ _ ?_; clear hK3; refine c_seq (fun _ hK63 => ?_); refine c_seq (fun _ hK64 => ?_); refine c_region ?_; refine s_move H wn rfl rfl ?_; clear H; intro a H; refine wl_nil ?_; refine hK64 _ _ ?_; clear hK64; refine c_block ?_; refine c_seq (fun _ hK65 => ?_); refine c_region ?_; refine s_cmp H wn rfl rfl rfl rfl ?_; clear H; intro a H; refine s_assign H wn rfl rfl ?_; clear H; intro a H; refine wl_nil ?_; refine hK65 _ _ ?_; clear hK65; refine c_cond H rfl ?_ ?_
  · intro h22
    try have p22 := of_decide_eq_true h22
    refine c_region ?_; refine s_assign H wn rfl rfl ?_; clear H; intro a H; refine wl_nil ?_; refine hK63 _ _ ?_; clear hK63; refine c_seq (fun _ hK66 => ?_); refine c_region ?_; (iterate 3 refine s_move H wn rfl rfl ?_; clear H; intro a H); (iterate 3 refine s_assign H wn rfl rfl ?_; clear H; intro a H); refine wl_nil ?_; refine hK66 _ _ ?_; clear hK66; refine c_ret ?_; refine (leaveT H Tryd.results41 (.cons (rv_tmp H rfl) (.cons (rv_tmp H rfl) (.cons (rv_tmp H rfl) .nil))) ?_).1
    first | (exfalso; omega) | exact H.hp.ret ⟨by simp only [tailS]; repeat (first | rw [if_pos (by omega)] | rw [if_neg (by omega)]), rfl⟩
  intro h22
  try have p22 := of_decide_eq_false h22
  refine c_seq (fun _ hK67 => ?_); refine c_region ?_; refine s_cmp H wn rfl rfl rfl rfl ?_; clear H; intro a H; refine s_assign H wn rfl rfl ?_; clear H; intro a H; refine wl_nil ?_; refine hK67 _ _ ?_; clear hK67; refine c_cond H rfl ?_ ?_
  · intro h24
    try have p24 := of_decide_eq_true h24
    refine c_region ?_; refine s_assign H wn rfl rfl ?_; clear H; intro a H; refine wl_nil ?_; refine hK63 _ _ ?_; clear hK63; refine c_seq (fun _ hK68 => ?_); refine c_region ?_; (iterate 3 refine s_move H wn rfl rfl ?_; clear H; intro a H); (iterate 3 refine s_assign H wn rfl rfl ?_; clear H; intro a H); refine wl_nil ?_; refine hK68 _ _ ?_; clear hK68; refine c_ret ?_; refine (leaveT H Tryd.results41 (.cons (rv_tmp H rfl) (.cons (rv_tmp H rfl) (.cons (rv_tmp H rfl) .nil))) ?_).1
    first | (exfalso; omega) | exact H.hp.ret ⟨by simp only [tailS]; repeat (first | rw [if_pos (by omega)] | rw [if_neg (by omega)]), rfl⟩
  intro h24
  try have p24 := of_decide_eq_false h24
  refine c_seq (fun _ hK69 => ?_); refine c_region ?_; refine s_cmp H wn rfl rfl rfl rfl ?_; clear H; intro a H; refine s_assign H wn rfl rfl ?_; clear H; intro a H; refine wl_nil ?_; refine hK69 _ _ ?_; clear hK69; refine c_cond H rfl ?_ ?_
  · intro h26
    try have p26 := of_decide_eq_true h26
    refine c_region ?_; refine s_assign H wn rfl rfl ?_; clear H; intro a H; refine wl_nil ?_; refine hK63 _ _ ?_; clear hK63; refine c_seq (fun _ hK70 => ?_); refine c_region ?_; (iterate 3 refine s_move H wn rfl rfl ?_; clear H; intro a H); (iterate 3 refine s_assign H wn rfl rfl ?_; clear H; intro a H); refine wl_nil ?_; refine hK70 _ _ ?_; clear hK70; refine c_ret ?_; refine (leaveT H Tryd.results41 (.cons (rv_tmp H rfl) (.cons (rv_tmp H rfl) (.cons (rv_tmp H rfl) .nil))) ?_).1
    first | (exfalso; omega) | exact H.hp.ret ⟨by simp only [tailS]; repeat (first | rw [if_pos (by omega)] | rw [if_neg (by omega)]), rfl⟩
  intro h26
  try have p26 := of_decide_eq_false h26
  refine c_seq (fun _ hK71 => ?_); refine c_region ?_; refine s_cmp H wn rfl rfl rfl rfl ?_; clear H; intro a H; refine s_assign H wn rfl rfl ?_; clear H; intro a H; refine wl_nil ?_; refine hK71 _ _ ?_; clear hK71; refine c_cond H rfl ?_ ?_
  · intro h28
    try have p28 := of_decide_eq_true h28
    refine c_region ?_; refine s_assign H wn rfl rfl ?_; clear H; intro a H; refine wl_nil ?_; refine hK63 _ _ ?_; clear hK63; refine c_seq (fun _ hK72 => ?_); refine c_region ?_; (iterate 3 refine s_move H wn rfl rfl ?_; clear H; intro a H); (iterate 3 refine s_assign H wn rfl rfl ?_; clear H; intro a H); refine wl_nil ?_; refine hK72 _ _ ?_; clear hK72; refine c_ret ?_; refine (leaveT H Tryd.results41 (.cons (rv_tmp H rfl) (.cons (rv_tmp H rfl) (.cons (rv_tmp H rfl) .nil))) ?_).1
    first | (exfalso; omega) | exact H.hp.ret ⟨by simp only [tailS]; repeat (first | rw [if_pos (by omega)] | rw [if_neg (by omega)]), rfl⟩
  intro h28
  try have p28 := of_decide_eq_false h28
  refine c_skip ?_; refine hK63 _ _ ?_; clear hK63; refine c_seq (fun _ hK73 => ?_); refine c_region ?_; (iterate 3 refine s_move H wn rfl rfl ?_; clear H; intro a H); (iterate 3 refine s_assign H wn rfl rfl ?_; clear H; intro a H); refine wl_nil ?_; refine hK73 _ _ ?_; clear hK73; refine c_ret ?_; refine (leaveT H Tryd.results41 (.cons (rv_tmp H rfl) (.cons (rv_tmp H rfl) (.cons (rv_tmp H rfl) .nil))) ?_).1
  first | (exfalso; omega) | exact H.hp.ret ⟨by simp only [tailS]; repeat (first | rw [if_pos (by omega)] | rw [if_neg (by omega)]), rfl⟩
def byteAt (s : ByteArray) (i : Nat) : Int := if h : i < s.size then (s[i].toNat : Int) else 0
theorem byteAt_lt {s : ByteArray} {i : Nat} (h : i < s.size) : byteAt s i = (s[i].toNat : Int) := by simp [byteAt, h]
/-- The bytes behind the first one: how far they are right; the number so far. -/
def decLoop (s : ByteArray) (at_ n : Nat) : (fuel k : Nat) → (low high p : Int) → Int × Nat × Bool
  | 0, k, _, _, p => (p, k, true)
  | f + 1, k, low, high, p =>
    if n ≤ k then (p, k, true)
    else if s.size ≤ at_ + k ∨ byteAt s (at_ + k) < low ∨ high < byteAt s (at_ + k) then (0, k, false)
    else decLoop s at_ n f (k + 1) 128 191 (bitI .or .i64 (IntKind.i64.wrap (p * 2 ^ 6)) (bitI .and .i64 (byteAt s (at_ + k)) 63))
/-- decode: the code point, the bytes that belong to it, whether it is complete. -/
def decS (s : ByteArray) (at_ : Nat) : Int × Nat × Bool :=
  let b := byteAt s at_
  let t := tailS b
  if t.2.2 = 0 then (0, 0, false) else if t.2.2 = 1 then (b, 1, true)
  else decLoop s at_ t.2.2.toNat 4 1 t.1 t.2.1 (bitI .and .i64 b ((127 : Int).fdiv (2 ^ t.2.2.toNat)))
theorem u8_i64 (n : UInt8) : IntKind.i64.wrap (n.toNat : Int) = (n.toNat : Int) := i64_wrap (by omega) (by have := n.toNat_lt; omega)
set_option maxHeartbeats 1000000 in
theorem decode_spec (G : GH) (w0 : World) (hG : Hold G w0) (s : ByteArray) (i : Nat) (hi : i < s.size) (hs : s.size < 4611686018427387904) :
    Calls Tryd.prog 30 #[.string s, .int .i64 i] w0 (Ret w0 G fun v G' => v = .tuple #[.int .i64 (decS s i).1, .int .i64 (decS s i).2.1, .bool (decS s i).2.2] ∧ G = G') := by
  have hb := byteAt_lt hi; obtain ⟨n, hn⟩ : ∃ n : Nat, (tailS (byteAt s i)).2.2 = (n : Int) := ⟨(tailS (byteAt s i)).2.2.toNat, by have := tailS_n (byteAt s i); omega⟩
  have hn4 : n ≤ 4 := by have := tailS_n (byteAt s i); omega
  refine enter (N := 74) (T := [(0, _), (1, _)]) (F := fun k => k < w0.heap.size) (L := []) Tryd.func30 rfl Tryd.ntmps30 rfl rfl hG (fun _ h => h) (fun _ h => by cases h) (fun _ h => by cases h) (fun _ h => by cases h) List.Pairwise.nil ?_; intro a H; refine c_seq (fun _ hK1 => ?_); refine c_region ?_; (iterate 3 refine s_assign H wn rfl rfl ?_; clear H; intro a H); refine wl_nil ?_; refine hK1 _ _ ?_; clear hK1; refine c_seq (fun _ hK2 => ?_); refine c_region ?_; (iterate 2 refine s_move H wn rfl rfl ?_; clear H; intro a H); refine s_indexs _ un9cp H wn rfl rfl rfl (by first | assumption | omega) rfl ?_; clear H; intro a H; refine s_assign H wn rfl rfl ?_; clear H; intro a H; rw [← hb] at H; refine wl_nil ?_; refine hK2 _ _ ?_; clear hK2; refine c_seq (fun _ hK3 => ?_); refine c_region ?_; refine s_move H wn rfl rfl ?_; clear H; intro a H; refine s_call en41cp H wn rfl (tail_spec _ _ H.hp.ro _) rfl ?_; clear H; rintro v16 _ a w ⟨rfl, rfl⟩ - H; refine s_move H wn rfl rfl ?_; clear H; intro a H; (iterate 3 refine s_extract H wn rfl rfl rfl ?_; clear H; intro a H); (iterate 3 refine s_assign H wn rfl rfl ?_; clear H; intro a H); refine wl_nil ?_; refine hK3 _ _ ?_; clear hK3; refine c_seq (fun _ hK4 => ?_); refine c_seq (fun _ hK5 => ?_); refine c_region ?_; refine s_move H wn rfl rfl ?_; clear H; intro a H; refine wl_nil ?_; refine hK5 _ _ ?_; clear hK5; refine c_block ?_; refine c_seq (fun _ hK6 => ?_); refine c_region ?_; refine s_cmp H wn rfl rfl rfl rfl ?_; clear H; intro a H; refine s_assign H wn rfl rfl ?_; clear H; intro a H; refine wl_nil ?_; refine hK6 _ _ ?_; clear hK6; refine c_cond H rfl ?_ ?_
  · intro h21
    try have p21 := of_decide_eq_true h21
    refine c_seq (fun _ hK7 => ?_); refine c_region ?_; (iterate 3 refine s_assign H wn rfl rfl ?_; clear H; intro a H); refine wl_nil ?_; refine hK7 _ _ ?_; clear hK7; refine c_ret ?_; skip; refine (leaveT H Tryd.results30 (.cons (rv_tmp H rfl) (.cons (rv_tmp H rfl) (.cons (rv_tmp H rfl) .nil))) ?_).1; exact H.hp.ret ⟨by simp [decS, p21], rfl⟩
  intro h21
  try have p21 := of_decide_eq_false h21
  refine c_seq (fun _ hK8 => ?_); refine c_region ?_; refine s_cmp H wn rfl rfl rfl rfl ?_; clear H; intro a H; refine s_assign H wn rfl rfl ?_; clear H; intro a H; refine wl_nil ?_; refine hK8 _ _ ?_; clear hK8; refine c_cond H rfl ?_ ?_
  · intro h23
    try have p23 := of_decide_eq_true h23
    refine c_seq (fun _ hK9 => ?_); refine c_region ?_; refine s_move H wn rfl rfl ?_; clear H; intro a H; refine s_conv (byteAt s i) un3cp un5cp H wn rfl (by rw [hb]; exact u8_i64 _) rfl ?_; clear H; intro a H; (iterate 3 refine s_assign H wn rfl rfl ?_; clear H; intro a H); refine wl_nil ?_; refine hK9 _ _ ?_; clear hK9; refine c_ret ?_; skip; refine (leaveT H Tryd.results30 (.cons (rv_tmp H rfl) (.cons (rv_tmp H rfl) (.cons (rv_tmp H rfl) .nil))) ?_).1; exact H.hp.ret ⟨by simp [decS, p21, p23], rfl⟩
  intro h23
  try have p23 := of_decide_eq_false h23
  refine c_skip ?_; refine hK4 _ _ ?_; clear hK4; refine c_seq (fun _ hK10 => ?_); refine c_region ?_; refine s_move H wn rfl rfl ?_; clear H; intro a H; refine s_conv (byteAt s i) un3cp un5cp H wn rfl (by rw [hb]; exact u8_i64 _) rfl ?_; clear H; intro a H; refine s_move H wn rfl rfl ?_; clear H; intro a H; refine s_shr n H wn rfl rfl (by rw [hn]) (by show n ≤ 64; omega) rfl ?_; clear H; intro a H; refine s_bits rfl H wn rfl rfl rfl ?_; clear H; intro a H; refine s_assign H wn rfl rfl ?_; clear H; intro a H; refine wl_nil ?_; refine hK10 _ _ ?_; clear hK10; refine c_seq (fun _ hK11 => ?_); refine c_seq (fun _ hK12 => ?_); refine c_region ?_; refine s_assign H wn rfl rfl ?_; clear H; intro a H; refine wl_nil ?_; refine hK12 _ _ ?_; clear hK12; refine c_block ?_; skip; refine c_loopS (ι := Nat × Int × Int × Int) (Tc := [(0, _), (1, _), (10, _)]) (Lc := []) (fun (gh : Nat × Int × Int × Int) => [(4, .int .i64 gh.2.2.2), (5, .int .i64 (gh.1 : Int)), (8, .int .u8 gh.2.1), (9, .int .u8 gh.2.2.1)]) (fun (gh : Nat × Int × Int × Int) => []) (fun (gh : Nat × Int × Int × Int) => G) (fun (gh : Nat × Int × Int × Int) => gh.1 ≤ 4 ∧ decS s i = decLoop s i n (5 - gh.1) gh.1 gh.2.1 gh.2.2.1 gh.2.2.2) (fun (gh : Nat × Int × Int × Int) => 5 - gh.1) ((1, _, _, _)) (by exact (H).sub ⟨rfl, rfl, rfl, rfl, rfl, rfl, rfl, trivial⟩) ?_ ?_
  · refine ⟨by omega, ?_⟩; simp only [decS, hn]; rw [if_neg (by omega), if_neg (by omega)]; rfl
  clear H; intro gh a w hI H; obtain ⟨k, low, high, p⟩ := gh; dsimp only at hI H; obtain ⟨hk, hdec⟩ := hI; dsimp only [List.cons_append, List.nil_append, List.append_nil] at H; refine c_seq (fun _ hK13 => ?_); refine c_seq (fun _ hK14 => ?_); refine c_region ?_; (iterate 2 refine s_move H wn rfl rfl ?_; clear H; intro a H); refine s_cmp H wn rfl rfl rfl rfl ?_; clear H; intro a H; refine wl_nil ?_; refine hK14 _ _ ?_; clear hK14; refine c_cond H rfl ?_ ?_
  · intro h34
    try have p34 := of_decide_eq_true h34
    refine c_skip ?_; refine hK13 _ _ ?_; clear hK13; refine c_seq (fun _ hK15 => ?_); refine c_block ?_; refine c_seq (fun _ hK16 => ?_); refine c_seq (fun _ hK17 => ?_); refine c_region ?_; (iterate 2 refine s_move H wn rfl rfl ?_; clear H; intro a H); refine s_add _ H wn rfl rfl rfl (by omega) (by omega) rfl ?_; clear H; intro a H; refine s_move H wn rfl rfl ?_; clear H; intro a H; refine s_lens un9cp H wn rfl rfl ?_; clear H; intro a H; refine s_cmp H wn rfl rfl rfl rfl ?_; clear H; intro a H; refine s_move H wn rfl rfl ?_; clear H; intro a H; refine s_split H 43 rfl ?_ ?_
    · intro h43
      try have p43 := of_decide_eq_true h43
      (iterate 7 refine s_skip H rfl rfl h43 rfl ?_; clear H; intro a H); refine s_pick_t H wn rfl h43 rfl rfl ?_; clear H; intro a H; refine s_move H wn rfl rfl ?_; clear H; intro a H; (iterate 7 refine s_skip H rfl rfl rfl rfl ?_; clear H; intro a H); refine s_pick_t H wn rfl rfl rfl rfl ?_; clear H; intro a H; refine wl_nil ?_; refine hK17 _ _ ?_; clear hK17; refine c_cond_t H rfl rfl ?_; refine c_seq (fun _ hK18 => ?_); refine c_region ?_; refine s_move H wn rfl rfl ?_; clear H; intro a H; (iterate 3 refine s_assign H wn rfl rfl ?_; clear H; intro a H); refine wl_nil ?_; refine hK18 _ _ ?_; clear hK18; refine c_ret ?_
      have hfin : decS s i = (if n ≤ k then (p, k, true) else (0, k, false)) := by
        rw [hdec]; have e : 5 - k = (4 - k) + 1 := by omega
        rw [e, decLoop]
        by_cases hk2 : n ≤ k
        · rw [if_pos hk2, if_pos hk2]
        rw [if_neg hk2, if_neg hk2, if_pos (by first | omega | (rw [byteAt_lt (by omega)]; omega))]
      refine (leaveT H Tryd.results30 (.cons (rv_tmp H rfl) (.cons (rv_tmp H rfl) (.cons (rv_tmp H rfl) .nil))) ?_).1; exact H.hp.ret ⟨by rw [hfin]; first | rw [if_pos (by omega)] | rw [if_neg (by omega)], rfl⟩
    intro h43
    try have p43 := of_decide_eq_false h43
    (iterate 3 refine s_move H (wg H rfl rfl h43) rfl rfl ?_; clear H; intro a H); refine s_add _ H (wg H rfl rfl h43) rfl rfl rfl (by omega) (by omega) rfl ?_; clear H; intro a H; refine s_indexs _ un9cp H (wg H rfl rfl h43) rfl rfl rfl (by first | assumption | omega) rfl ?_; clear H; intro a H; refine s_move H (wg H rfl rfl h43) rfl rfl ?_; clear H; intro a H; refine s_cmp H (wg H rfl rfl h43) rfl rfl rfl rfl ?_; clear H; intro a H; refine s_pick_f H wn rfl h43 rfl rfl ?_; clear H; intro a H; refine s_move H wn rfl rfl ?_; clear H; intro a H; refine s_split H 52 rfl ?_ ?_
    · intro h52
      try have p52 := of_decide_eq_true h52
      (iterate 7 refine s_skip H rfl rfl h52 rfl ?_; clear H; intro a H); refine s_pick_t H wn rfl h52 rfl rfl ?_; clear H; intro a H; refine wl_nil ?_; refine hK17 _ _ ?_; clear hK17; refine c_cond_t H rfl rfl ?_; refine c_seq (fun _ hK19 => ?_); refine c_region ?_; refine s_move H wn rfl rfl ?_; clear H; intro a H; (iterate 3 refine s_assign H wn rfl rfl ?_; clear H; intro a H); refine wl_nil ?_; refine hK19 _ _ ?_; clear hK19; refine c_ret ?_
      have hfin : decS s i = (if n ≤ k then (p, k, true) else (0, k, false)) := by
        rw [hdec]; have e : 5 - k = (4 - k) + 1 := by omega
        rw [e, decLoop]
        by_cases hk2 : n ≤ k
        · rw [if_pos hk2, if_pos hk2]
        rw [if_neg hk2, if_neg hk2, if_pos (by first | omega | (rw [byteAt_lt (by omega)]; omega))]
      refine (leaveT H Tryd.results30 (.cons (rv_tmp H rfl) (.cons (rv_tmp H rfl) (.cons (rv_tmp H rfl) .nil))) ?_).1; exact H.hp.ret ⟨by rw [hfin]; first | rw [if_pos (by omega)] | rw [if_neg (by omega)], rfl⟩
    intro h52
    try have p52 := of_decide_eq_false h52
    (iterate 3 refine s_move H (wg H rfl rfl h52) rfl rfl ?_; clear H; intro a H); refine s_add _ H (wg H rfl rfl h52) rfl rfl rfl (by omega) (by omega) rfl ?_; clear H; intro a H; refine s_indexs _ un9cp H (wg H rfl rfl h52) rfl rfl rfl (by first | assumption | omega) rfl ?_; clear H; intro a H; refine s_move H (wg H rfl rfl h52) rfl rfl ?_; clear H; intro a H; refine s_cmp H (wg H rfl rfl h52) rfl rfl rfl rfl ?_; clear H; intro a H; refine s_pick_f H wn rfl h52 rfl rfl ?_; clear H; intro a H; refine wl_nil ?_; refine hK17 _ _ ?_; clear hK17; refine c_cond H rfl ?_ ?_
    · intro h60
      try have p60 := of_decide_eq_true h60
      refine c_seq (fun _ hK20 => ?_); refine c_region ?_; refine s_move H wn rfl rfl ?_; clear H; intro a H; (iterate 3 refine s_assign H wn rfl rfl ?_; clear H; intro a H); refine wl_nil ?_; refine hK20 _ _ ?_; clear hK20; refine c_ret ?_
      have hfin : decS s i = (if n ≤ k then (p, k, true) else (0, k, false)) := by
        rw [hdec]; have e : 5 - k = (4 - k) + 1 := by omega
        rw [e, decLoop]
        by_cases hk2 : n ≤ k
        · rw [if_pos hk2, if_pos hk2]
        rw [if_neg hk2, if_neg hk2, if_pos (by first | omega | (rw [byteAt_lt (by omega)]; omega))]
      refine (leaveT H Tryd.results30 (.cons (rv_tmp H rfl) (.cons (rv_tmp H rfl) (.cons (rv_tmp H rfl) .nil))) ?_).1; exact H.hp.ret ⟨by rw [hfin]; first | rw [if_pos (by omega)] | rw [if_neg (by omega)], rfl⟩
    intro h60
    try have p60 := of_decide_eq_false h60
    refine c_skip ?_; refine hK16 _ _ ?_; clear hK16; refine c_seq (fun _ hK21 => ?_); refine c_region ?_; refine s_move H wn rfl rfl ?_; clear H; intro a H; refine s_shl _ H wn rfl rfl rfl (by decide) rfl ?_; clear H; intro a H; (iterate 3 refine s_move H wn rfl rfl ?_; clear H; intro a H); refine s_add _ H wn rfl rfl rfl (by omega) (by omega) rfl ?_; clear H; intro a H; refine s_indexs _ un9cp H wn rfl rfl rfl (by first | assumption | omega) rfl ?_; clear H; intro a H; refine s_conv (byteAt s (i + k)) un3cp un5cp H wn rfl (by rw [byteAt_lt (by omega)]; exact u8_i64 _) rfl ?_; clear H; intro a H; (iterate 2 refine s_bits rfl H wn rfl rfl rfl ?_; clear H; intro a H); refine s_assign H wn rfl rfl ?_; clear H; intro a H; refine wl_nil ?_; refine hK21 _ _ ?_; clear hK21; refine c_region ?_; (iterate 2 refine s_assign H wn rfl rfl ?_; clear H; intro a H); refine wl_nil ?_; refine hK15 _ _ ?_; clear hK15; refine c_region ?_; refine s_move H wn rfl rfl ?_; clear H; intro a H; refine s_add _ H wn rfl rfl rfl (by omega) (by omega) rfl ?_; clear H; intro a H; refine s_assign H wn rfl rfl ?_; clear H; intro a H; refine wl_nil ?_; refine loop_end ((k + 1, 128, 191, bitI .or .i64 (IntKind.i64.wrap (p * 2 ^ 6)) (bitI .and .i64 (byteAt s (i + k)) 63))) (by exact (H).sub ⟨rfl, rfl, rfl, rfl, rfl, rfl, rfl, trivial⟩) ?_ ?_
    · (try dsimp only); refine ⟨by omega, ?_⟩
      have e : 5 - k = (5 - (k + 1)) + 1 := by omega
      rw [hdec, e, decLoop, if_neg (by omega), byteAt_lt (by omega), if_neg (by omega)]
    first | omega | (dsimp only; omega)
  intro h34
  try have p34 := of_decide_eq_false h34
  refine c_exit ?_; refine hK11 _ _ ?_; clear hK11; refine c_seq (fun _ hK22 => ?_); refine c_region ?_; (iterate 2 refine s_move H wn rfl rfl ?_; clear H; intro a H); (iterate 3 refine s_assign H wn rfl rfl ?_; clear H; intro a H); refine wl_nil ?_; refine hK22 _ _ ?_; clear hK22; refine c_ret ?_
  have hfin : decS s i = (if n ≤ k then (p, k, true) else (0, k, false)) := by
    rw [hdec]; have e : 5 - k = (4 - k) + 1 := by omega
    rw [e, decLoop]
    by_cases hk2 : n ≤ k
    · rw [if_pos hk2, if_pos hk2]
    rw [if_neg hk2, if_neg hk2, if_pos (by first | omega | (rw [byteAt_lt (by omega)]; omega))]
  refine (leaveT H Tryd.results30 (.cons (rv_tmp H rfl) (.cons (rv_tmp H rfl) (.cons (rv_tmp H rfl) .nil))) ?_).1; exact H.hp.ret ⟨by rw [hfin]; first | rw [if_pos (by omega)] | rw [if_neg (by omega)], rfl⟩
theorem decLoop_size (s : ByteArray) (at_ n : Nat) : ∀ (f k : Nat) (low high p : Int), n ≤ k + f → k ≤ n → k ≤ (decLoop s at_ n f k low high p).2.1 ∧ (decLoop s at_ n f k low high p).2.1 ≤ n ∧ ((decLoop s at_ n f k low high p).2.2 = true → at_ + k ≤ s.size → at_ + (decLoop s at_ n f k low high p).2.1 ≤ s.size)
  | 0, k, low, high, p, h1, h2 => by simp only [decLoop]; omega
  | f + 1, k, low, high, p, h1, h2 => by
    unfold decLoop
    split
    · simp only []; omega
    split
    · simp only []; omega
    have ih := decLoop_size s at_ n f (k + 1) 128 191 (bitI .or .i64 (IntKind.i64.wrap (p * 2 ^ 6)) (bitI .and .i64 (byteAt s (at_ + k)) 63)) (by omega) (by omega); refine ⟨by have := ih.1; omega, ih.2.1, fun h3 h4 => ih.2.2 h3 (by omega)⟩
/-- What decode reads lies within the string. -/
theorem decS_size (s : ByteArray) (i : Nat) (hi : i < s.size) : (decS s i).2.1 ≤ 4 ∧ ((decS s i).2.2 = true → 1 ≤ (decS s i).2.1 ∧ i + (decS s i).2.1 ≤ s.size) := by
  have ht := tailS_n (byteAt s i)
  unfold decS
  simp only []
  split
  · simp
  split
  · simp; omega
  have := decLoop_size s i (tailS (byteAt s i)).2.2.toNat 4 1 (tailS (byteAt s i)).1 (tailS (byteAt s i)).2.1 (bitI .and .i64 (byteAt s i) ((127 : Int).fdiv (2 ^ (tailS (byteAt s i)).2.2.toNat))) (by omega) (by omega); refine ⟨by omega, fun h => ⟨by omega, this.2.2 h (by omega)⟩⟩
/-- The offset of the first byte that is not right, or -1. -/
def firstS (s : ByteArray) (i : Nat) : Int :=
  if h : i < s.size then (if h2 : (decS s i).2.2 = true then firstS s (i + (decS s i).2.1) else i) else -1
  termination_by s.size - i
  decreasing_by have := (decS_size s i h).2 h2; omega
theorem first_spec (G : GH) (w0 : World) (hG : Hold G w0) (s : ByteArray) (hs : s.size < 4611686018427387904) :
    Calls Tryd.prog 25 #[.string s] w0 (Ret w0 G fun v G' => v = .int .i64 (firstS s 0) ∧ G = G') := by
  refine enter (N := 24) (T := [(0, _)]) (F := fun k => k < w0.heap.size) (L := []) Tryd.func25 rfl Tryd.ntmps25 rfl rfl hG (fun _ h => h) (fun _ h => by cases h) (fun _ h => by cases h) (fun _ h => by cases h) List.Pairwise.nil ?_; intro a H; refine c_seq (fun _ hK1 => ?_); refine c_region ?_; refine s_assign H wn rfl rfl ?_; clear H; intro a H; refine wl_nil ?_; refine hK1 _ _ ?_; clear hK1; refine c_seq (fun _ hK2 => ?_); refine c_seq (fun _ hK3 => ?_); refine c_region ?_; refine s_assign H wn rfl rfl ?_; clear H; intro a H; refine wl_nil ?_; refine hK3 _ _ ?_; clear hK3; refine c_block ?_; skip; refine c_loopS (ι := Nat) (Tc := [(0, _)]) (Lc := []) (fun (gh : Nat) => [(3, .int .i64 (gh : Int))]) (fun (gh : Nat) => []) (fun (gh : Nat) => G) (fun (gh : Nat) => gh ≤ s.size ∧ firstS s 0 = firstS s gh) (fun (gh : Nat) => s.size - gh) (0) (by exact (H).sub ⟨rfl, rfl, trivial⟩) ?_ ?_
  · exact ⟨by omega, rfl⟩
  clear H; intro gh a w hI H; obtain ⟨i, hgh⟩ : ∃ x, x = gh := ⟨_, rfl⟩; subst hgh; obtain ⟨hk, hf⟩ := hI; dsimp only [List.cons_append, List.nil_append, List.append_nil] at H; refine c_seq (fun _ hK4 => ?_); refine c_seq (fun _ hK5 => ?_); refine c_region ?_; (iterate 2 refine s_move H wn rfl rfl ?_; clear H; intro a H); refine s_lens un9cp H wn rfl rfl ?_; clear H; intro a H; refine s_cmp H wn rfl rfl rfl rfl ?_; clear H; intro a H; refine wl_nil ?_; refine hK5 _ _ ?_; clear hK5; refine c_cond H rfl ?_ ?_
  · intro h10
    try have p10 := of_decide_eq_true h10
    refine c_skip ?_; refine hK4 _ _ ?_; clear hK4; refine c_block ?_; refine c_seq (fun _ hK6 => ?_); refine c_region ?_; (iterate 2 refine s_move H wn rfl rfl ?_; clear H; intro a H); refine s_call en30cp H wn rfl (decode_spec _ _ H.hp.ro s i (by omega) hs) rfl ?_; clear H; rintro v14 _ a w ⟨rfl, rfl⟩ - H; have hd := decS_size s i (by omega); refine s_move H wn rfl rfl ?_; clear H; intro a H; (iterate 3 refine s_extract H wn rfl rfl rfl ?_; clear H; intro a H); (iterate 3 refine s_assign H wn rfl rfl ?_; clear H; intro a H); refine wl_nil ?_; refine hK6 _ _ ?_; clear hK6; refine c_seq (fun _ hK7 => ?_); refine c_seq (fun _ hK8 => ?_); refine c_region ?_; refine s_move H wn rfl rfl ?_; clear H; intro a H; refine s_not H wn rfl rfl ?_; clear H; intro a H; refine wl_nil ?_; refine hK8 _ _ ?_; clear hK8; refine c_cond H rfl ?_ ?_
    · intro h19
      try have p19 := of_decide_eq_true h19
      refine c_seq (fun _ hK9 => ?_); refine c_region ?_; refine s_move H wn rfl rfl ?_; clear H; intro a H; refine s_assign H wn rfl rfl ?_; clear H; intro a H; refine wl_nil ?_; refine hK9 _ _ ?_; clear hK9; refine c_ret ?_; refine (leave1 H Tryd.results25 (.cons (rv_tmp H rfl) .nil) ?_).1; exact H.hp.ret ⟨by rw [hf, firstS, dif_pos (by omega), dif_neg (by simpa using h19)], rfl⟩
    intro h19
    try have p19 := of_decide_eq_false h19
    refine c_skip ?_; refine hK7 _ _ ?_; clear hK7; refine c_region ?_; (iterate 2 refine s_move H wn rfl rfl ?_; clear H; intro a H); refine s_add _ H wn rfl rfl rfl (by omega) (by omega) rfl ?_; clear H; intro a H; refine s_assign H wn rfl rfl ?_; clear H; intro a H; refine wl_nil ?_; refine loop_end ((i + (decS s i).2.1)) (by exact (H).sub ⟨rfl, rfl, trivial⟩) ?_ ?_
    · have h1 : (decS s i).2.2 = true := by simpa using h19
      have h2 := hd.2 h1; refine ⟨by omega, ?_⟩; rw [hf, firstS, dif_pos (by omega), dif_pos h1]
    have h1 : (decS s i).2.2 = true := by simpa using h19
    have h2 := hd.2 h1
    omega
  intro h10
  try have p10 := of_decide_eq_false h10
  refine c_exit ?_; refine hK2 _ _ ?_; clear hK2; refine c_seq (fun _ hK10 => ?_); refine c_region ?_; refine s_assign H wn rfl rfl ?_; clear H; intro a H; refine wl_nil ?_; refine hK10 _ _ ?_; clear hK10; refine c_ret ?_; refine (leave1 H Tryd.results25 (.cons (rv_tmp H rfl) .nil) ?_).1; exact H.hp.ret ⟨by rw [hf, firstS, dif_neg (by omega)], rfl⟩
def validS (s : ByteArray) : Bool := decide (firstS s 0 < 0)
theorem valid_spec (G : GH) (w0 : World) (hG : Hold G w0) (s : ByteArray) (hs : s.size < 4611686018427387904) :
    Calls Tryd.prog 18 #[.string s] w0 (Ret w0 G fun v G' => v = .bool (validS s) ∧ G = G') := by
  refine enter (N := 6) (T := [(0, _)]) (F := fun k => k < w0.heap.size) (L := []) Tryd.func18 rfl Tryd.ntmps18 rfl rfl hG (fun _ h => h) (fun _ h => by cases h) (fun _ h => by cases h) (fun _ h => by cases h) List.Pairwise.nil ?_; intro a H; refine c_seq (fun _ hK1 => ?_); refine c_region ?_; refine s_assign H wn rfl rfl ?_; clear H; intro a H; refine wl_nil ?_; refine hK1 _ _ ?_; clear hK1; refine c_seq (fun _ hK2 => ?_); refine c_region ?_; refine s_move H wn rfl rfl ?_; clear H; intro a H; refine s_call en25cp H wn rfl (first_spec _ _ H.hp.ro s hs) rfl ?_; clear H; rintro v4 _ a w ⟨rfl, rfl⟩ - H; refine s_cmp H wn rfl rfl rfl rfl ?_; clear H; intro a H; refine s_assign H wn rfl rfl ?_; clear H; intro a H; refine wl_nil ?_; refine hK2 _ _ ?_; clear hK2; refine c_ret ?_; refine (leave1 H Tryd.results18 (.cons (rv_tmp H rfl) .nil) ?_).1; exact H.hp.ret ⟨rfl, rfl⟩
/-- How many bytes begin a code point, from i on. -/
def cntFrom (s : ByteArray) (i : Nat) : Nat :=
  if i < s.size then (if bitI .and .u8 (byteAt s i) 192 = 128 then 0 else 1) + cntFrom s (i + 1) else 0
  termination_by s.size - i
theorem cntFrom_le (s : ByteArray) : ∀ (n i : Nat), s.size - i = n → cntFrom s i ≤ n
  | 0, i, h => by rw [cntFrom, if_neg (by omega)]; exact Nat.le_refl _
  | n + 1, i, h => by
    have ih := cntFrom_le s n (i + 1) (by omega); rw [cntFrom, if_pos (by omega)]
    split <;> omega
def cntS (s : ByteArray) : Nat := if validS s then cntFrom s 0 else 0
/-- The error of a string. -/
def utfS (s : ByteArray) : Int := if validS s then 0 else 12
theorem cntS_le (s : ByteArray) : cntS s ≤ s.size := by unfold cntS; have := cntFrom_le s s.size 0 (by omega); split <;> omega
end Go.Proofs.YtpmcdlhhfbobfaaDoor
