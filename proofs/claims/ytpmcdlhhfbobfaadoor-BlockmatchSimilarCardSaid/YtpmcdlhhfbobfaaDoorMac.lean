/-
  Package grapheme: the machine that finds boundaries.
-/
import Derived.Test.YtpmcdlhhfbobfaaDoorCls
namespace Go.Proofs.YtpmcdlhhfbobfaaDoor
open Go.RowKit
theorem en71mac : ∀ args w, (callFunc 71 args).run Tryd.prog w = .ok (.enter 71 args) w := enters Tryd.func71 rfl (by kernel_rfl)
theorem en72mac : ∀ args w, (callFunc 72 args).run Tryd.prog w = .ok (.enter 72 args) w := enters Tryd.func72 rfl (by kernel_rfl)
theorem fd131_0mac : Fld Tryd.prog 131 0 0 := ⟨by kernel_rfl⟩
theorem ty3mac : Ty Tryd.prog 3 1 8 [.int .i64 0] false := ⟨by kernel_rfl, by kernel_rfl⟩
theorem fd131_2mac : Fld Tryd.prog 131 2 2 := ⟨by kernel_rfl⟩
theorem ty4mac : Ty Tryd.prog 4 1 1 [.bool false] false := ⟨by kernel_rfl, by kernel_rfl⟩
theorem fd131_3mac : Fld Tryd.prog 131 3 3 := ⟨by kernel_rfl⟩
theorem fd131_1mac : Fld Tryd.prog 131 1 1 := ⟨by kernel_rfl⟩
def ctlS (c : Int) : Bool := decide (c = 1 ∨ c = 2 ∨ c = 3)
theorem control_spec (G : GH) (w0 : World) (hG : Hold G w0) (c : Int) : Calls Tryd.prog 71 #[vi c] w0 (Ret w0 G fun u G' => u = .bool (ctlS c) ∧ G = G') := by
  refine enter (N := 13) (T := [(0, _)]) (F := fun k => k < w0.heap.size) (L := []) Tryd.func71 rfl Tryd.ntmps71 rfl rfl hG (fun _ h => h) (fun _ h => by cases h) (fun _ h => by cases h) (fun _ h => by cases h) List.Pairwise.nil ?_; intro a H; refine c_seq (fun _ hK1 => ?_); refine c_region ?_; refine s_assign H wn rfl rfl ?_; clear H; intro a H; refine wl_nil ?_; refine hK1 _ _ ?_; clear hK1; refine c_seq (fun _ hK2 => ?_); refine c_region ?_; refine s_move H wn rfl rfl ?_; clear H; intro a H; refine s_cmp H wn rfl rfl rfl rfl ?_; clear H; intro a H; refine s_move H wn rfl rfl ?_; clear H; intro a H; refine s_split H 5 rfl ?_ ?_
  · intro h5
    try have p5 := of_decide_eq_true h5
    (iterate 2 refine s_skip H rfl rfl h5 rfl ?_; clear H; intro a H); refine s_pick_t H wn rfl h5 rfl rfl ?_; clear H; intro a H; refine s_move H wn rfl rfl ?_; clear H; intro a H; (iterate 2 refine s_skip H rfl rfl rfl rfl ?_; clear H; intro a H); refine s_pick_t H wn rfl rfl rfl rfl ?_; clear H; intro a H; refine s_assign H wn rfl rfl ?_; clear H; intro a H; refine wl_nil ?_; refine hK2 _ _ ?_; clear hK2; refine c_ret ?_; refine (leave1 H Tryd.results71 (.cons (rv_tmp H rfl) .nil) ?_).1; exact H.hp.ret ⟨by simp only [ctlS]; congr 1; first | (rw [decide_eq_decide]; omega) | (symm; rw [decide_eq_true_eq]; omega) | (symm; rw [decide_eq_false_iff_not]; omega), rfl⟩
  intro h5
  try have p5 := of_decide_eq_false h5
  refine s_move H (wg H rfl rfl h5) rfl rfl ?_; clear H; intro a H; refine s_cmp H (wg H rfl rfl h5) rfl rfl rfl rfl ?_; clear H; intro a H; refine s_pick_f H wn rfl h5 rfl rfl ?_; clear H; intro a H; refine s_move H wn rfl rfl ?_; clear H; intro a H; refine s_split H 9 rfl ?_ ?_
  · intro h9
    try have p9 := of_decide_eq_true h9
    (iterate 2 refine s_skip H rfl rfl h9 rfl ?_; clear H; intro a H); refine s_pick_t H wn rfl h9 rfl rfl ?_; clear H; intro a H; refine s_assign H wn rfl rfl ?_; clear H; intro a H; refine wl_nil ?_; refine hK2 _ _ ?_; clear hK2; refine c_ret ?_; refine (leave1 H Tryd.results71 (.cons (rv_tmp H rfl) .nil) ?_).1; exact H.hp.ret ⟨by simp only [ctlS]; congr 1; first | (rw [decide_eq_decide]; omega) | (symm; rw [decide_eq_true_eq]; omega) | (symm; rw [decide_eq_false_iff_not]; omega), rfl⟩
  intro h9
  try have p9 := of_decide_eq_false h9
  refine s_move H (wg H rfl rfl h9) rfl rfl ?_; clear H; intro a H; refine s_cmp H (wg H rfl rfl h9) rfl rfl rfl rfl ?_; clear H; intro a H; refine s_pick_f H wn rfl h9 rfl rfl ?_; clear H; intro a H; refine s_assign H wn rfl rfl ?_; clear H; intro a H; refine wl_nil ?_; refine hK2 _ _ ?_; clear hK2; refine c_ret ?_; refine (leave1 H Tryd.results71 (.cons (rv_tmp H rfl) .nil) ?_).1; exact H.hp.ret ⟨by simp only [ctlS]; congr 1; first | (rw [decide_eq_decide]; omega) | (symm; rw [decide_eq_true_eq]; omega) | (symm; rw [decide_eq_false_iff_not]; omega), rfl⟩
def hanS (a b : Int) : Bool := decide ((a = 8 ∧ (b = 8 ∨ b = 9 ∨ b = 11 ∨ b = 12)) ∨ ((a = 11 ∨ a = 9) ∧ (b = 9 ∨ b = 10)) ∨ ((a = 12 ∨ a = 10) ∧ b = 10))
theorem hangul_spec (G : GH) (w0 : World) (hG : Hold G w0) (a b : Int) : Calls Tryd.prog 72 #[vi a, vi b] w0 (Ret w0 G fun u G' => u = .bool (hanS a b) ∧ G = G') := by
  refine enter (N := 36) (T := [(0, _), (1, _)]) (F := fun k => k < w0.heap.size) (L := []) Tryd.func72 rfl Tryd.ntmps72 rfl rfl hG (fun _ h => h) (fun _ h => by cases h) (fun _ h => by cases h) (fun _ h => by cases h) List.Pairwise.nil ?_; intro a H; refine c_seq (fun _ hK1 => ?_); refine c_region ?_; refine s_assign H wn rfl rfl ?_; clear H; intro a H; refine wl_nil ?_; refine hK1 _ _ ?_; clear hK1; refine c_seq (fun _ hK2 => ?_); refine c_seq (fun _ hK3 => ?_); refine c_region ?_; refine s_move H wn rfl rfl ?_; clear H; intro a H; refine wl_nil ?_; refine hK3 _ _ ?_; clear hK3; refine c_block ?_; refine c_seq (fun _ hK4 => ?_); refine c_region ?_; refine s_cmp H wn rfl rfl rfl rfl ?_; clear H; intro a H; refine s_assign H wn rfl rfl ?_; clear H; intro a H; refine wl_nil ?_; refine hK4 _ _ ?_; clear hK4; refine c_cond H rfl ?_ ?_
  · intro h6
    try have p6 := of_decide_eq_true h6
    refine c_seq (fun _ hK5 => ?_); refine c_region ?_; refine s_move H wn rfl rfl ?_; clear H; intro a H; refine s_cmp H wn rfl rfl rfl rfl ?_; clear H; intro a H; refine s_move H wn rfl rfl ?_; clear H; intro a H; refine s_split H 10 rfl ?_ ?_
    · intro h10
      try have p10 := of_decide_eq_true h10
      (iterate 2 refine s_skip H rfl rfl h10 rfl ?_; clear H; intro a H); refine s_pick_t H wn rfl h10 rfl rfl ?_; clear H; intro a H; refine s_move H wn rfl rfl ?_; clear H; intro a H; (iterate 2 refine s_skip H rfl rfl rfl rfl ?_; clear H; intro a H); refine s_pick_t H wn rfl rfl rfl rfl ?_; clear H; intro a H; refine s_move H wn rfl rfl ?_; clear H; intro a H; (iterate 2 refine s_skip H rfl rfl rfl rfl ?_; clear H; intro a H); refine s_pick_t H wn rfl rfl rfl rfl ?_; clear H; intro a H; refine s_assign H wn rfl rfl ?_; clear H; intro a H; refine wl_nil ?_; refine hK5 _ _ ?_; clear hK5; refine c_ret ?_; refine (leave1 H Tryd.results72 (.cons (rv_tmp H rfl) .nil) ?_).1; exact H.hp.ret ⟨by simp only [hanS]; congr 1; first | (rw [decide_eq_decide]; omega) | (symm; rw [decide_eq_true_eq]; omega) | (symm; rw [decide_eq_false_iff_not]; omega), rfl⟩
    intro h10
    try have p10 := of_decide_eq_false h10
    refine s_move H (wg H rfl rfl h10) rfl rfl ?_; clear H; intro a H; refine s_cmp H (wg H rfl rfl h10) rfl rfl rfl rfl ?_; clear H; intro a H; refine s_pick_f H wn rfl h10 rfl rfl ?_; clear H; intro a H; refine s_move H wn rfl rfl ?_; clear H; intro a H; refine s_split H 14 rfl ?_ ?_
    · intro h14
      try have p14 := of_decide_eq_true h14
      (iterate 2 refine s_skip H rfl rfl h14 rfl ?_; clear H; intro a H); refine s_pick_t H wn rfl h14 rfl rfl ?_; clear H; intro a H; refine s_move H wn rfl rfl ?_; clear H; intro a H; (iterate 2 refine s_skip H rfl rfl rfl rfl ?_; clear H; intro a H); refine s_pick_t H wn rfl rfl rfl rfl ?_; clear H; intro a H; refine s_assign H wn rfl rfl ?_; clear H; intro a H; refine wl_nil ?_; refine hK5 _ _ ?_; clear hK5; refine c_ret ?_; refine (leave1 H Tryd.results72 (.cons (rv_tmp H rfl) .nil) ?_).1; exact H.hp.ret ⟨by simp only [hanS]; congr 1; first | (rw [decide_eq_decide]; omega) | (symm; rw [decide_eq_true_eq]; omega) | (symm; rw [decide_eq_false_iff_not]; omega), rfl⟩
    intro h14
    try have p14 := of_decide_eq_false h14
    refine s_move H (wg H rfl rfl h14) rfl rfl ?_; clear H; intro a H; refine s_cmp H (wg H rfl rfl h14) rfl rfl rfl rfl ?_; clear H; intro a H; refine s_pick_f H wn rfl h14 rfl rfl ?_; clear H; intro a H; refine s_move H wn rfl rfl ?_; clear H; intro a H; refine s_split H 18 rfl ?_ ?_
    · intro h18
      try have p18 := of_decide_eq_true h18
      (iterate 2 refine s_skip H rfl rfl h18 rfl ?_; clear H; intro a H); refine s_pick_t H wn rfl h18 rfl rfl ?_; clear H; intro a H; refine s_assign H wn rfl rfl ?_; clear H; intro a H; refine wl_nil ?_; refine hK5 _ _ ?_; clear hK5; refine c_ret ?_; refine (leave1 H Tryd.results72 (.cons (rv_tmp H rfl) .nil) ?_).1; exact H.hp.ret ⟨by simp only [hanS]; congr 1; first | (rw [decide_eq_decide]; omega) | (symm; rw [decide_eq_true_eq]; omega) | (symm; rw [decide_eq_false_iff_not]; omega), rfl⟩
    intro h18
    try have p18 := of_decide_eq_false h18
    refine s_move H (wg H rfl rfl h18) rfl rfl ?_; clear H; intro a H; refine s_cmp H (wg H rfl rfl h18) rfl rfl rfl rfl ?_; clear H; intro a H; refine s_pick_f H wn rfl h18 rfl rfl ?_; clear H; intro a H; refine s_assign H wn rfl rfl ?_; clear H; intro a H; refine wl_nil ?_; refine hK5 _ _ ?_; clear hK5; refine c_ret ?_; refine (leave1 H Tryd.results72 (.cons (rv_tmp H rfl) .nil) ?_).1; exact H.hp.ret ⟨by simp only [hanS]; congr 1; first | (rw [decide_eq_decide]; omega) | (symm; rw [decide_eq_true_eq]; omega) | (symm; rw [decide_eq_false_iff_not]; omega), rfl⟩
  intro h6
  try have p6 := of_decide_eq_false h6
  refine c_seq (fun _ hK6 => ?_); refine c_seq (fun _ hK7 => ?_); refine c_region ?_; refine s_cmp H wn rfl rfl rfl rfl ?_; clear H; intro a H; refine s_assign H wn rfl rfl ?_; clear H; intro a H; refine wl_nil ?_; refine hK7 _ _ ?_; clear hK7; refine c_cond H rfl ?_ ?_
  · intro h22
    try have p22 := of_decide_eq_true h22
    refine c_skip ?_; refine hK6 _ _ ?_; clear hK6; refine c_cond_t H rfl h22 ?_; refine c_seq (fun _ hK8 => ?_); refine c_region ?_; refine s_move H wn rfl rfl ?_; clear H; intro a H; refine s_cmp H wn rfl rfl rfl rfl ?_; clear H; intro a H; refine s_move H wn rfl rfl ?_; clear H; intro a H; refine s_split H 27 rfl ?_ ?_
    · intro h27
      try have p27 := of_decide_eq_true h27
      (iterate 2 refine s_skip H rfl rfl h27 rfl ?_; clear H; intro a H); refine s_pick_t H wn rfl h27 rfl rfl ?_; clear H; intro a H; refine s_assign H wn rfl rfl ?_; clear H; intro a H; refine wl_nil ?_; refine hK8 _ _ ?_; clear hK8; refine c_ret ?_; refine (leave1 H Tryd.results72 (.cons (rv_tmp H rfl) .nil) ?_).1; exact H.hp.ret ⟨by simp only [hanS]; congr 1; first | (rw [decide_eq_decide]; omega) | (symm; rw [decide_eq_true_eq]; omega) | (symm; rw [decide_eq_false_iff_not]; omega), rfl⟩
    intro h27
    try have p27 := of_decide_eq_false h27
    refine s_move H (wg H rfl rfl h27) rfl rfl ?_; clear H; intro a H; refine s_cmp H (wg H rfl rfl h27) rfl rfl rfl rfl ?_; clear H; intro a H; refine s_pick_f H wn rfl h27 rfl rfl ?_; clear H; intro a H; refine s_assign H wn rfl rfl ?_; clear H; intro a H; refine wl_nil ?_; refine hK8 _ _ ?_; clear hK8; refine c_ret ?_; refine (leave1 H Tryd.results72 (.cons (rv_tmp H rfl) .nil) ?_).1; exact H.hp.ret ⟨by simp only [hanS]; congr 1; first | (rw [decide_eq_decide]; omega) | (symm; rw [decide_eq_true_eq]; omega) | (symm; rw [decide_eq_false_iff_not]; omega), rfl⟩
  intro h22
  try have p22 := of_decide_eq_false h22
  refine c_region ?_; refine s_cmp H wn rfl rfl rfl rfl ?_; clear H; intro a H; refine s_assign H wn rfl rfl ?_; clear H; intro a H; refine wl_nil ?_; refine hK6 _ _ ?_; clear hK6; refine c_cond H rfl ?_ ?_
  · intro h22
    try have p22 := of_decide_eq_true h22
    refine c_seq (fun _ hK9 => ?_); refine c_region ?_; refine s_move H wn rfl rfl ?_; clear H; intro a H; refine s_cmp H wn rfl rfl rfl rfl ?_; clear H; intro a H; refine s_move H wn rfl rfl ?_; clear H; intro a H; refine s_split H 27 rfl ?_ ?_
    · intro h27
      try have p27 := of_decide_eq_true h27
      (iterate 2 refine s_skip H rfl rfl h27 rfl ?_; clear H; intro a H); refine s_pick_t H wn rfl h27 rfl rfl ?_; clear H; intro a H; refine s_assign H wn rfl rfl ?_; clear H; intro a H; refine wl_nil ?_; refine hK9 _ _ ?_; clear hK9; refine c_ret ?_; refine (leave1 H Tryd.results72 (.cons (rv_tmp H rfl) .nil) ?_).1; exact H.hp.ret ⟨by simp only [hanS]; congr 1; first | (rw [decide_eq_decide]; omega) | (symm; rw [decide_eq_true_eq]; omega) | (symm; rw [decide_eq_false_iff_not]; omega), rfl⟩
    intro h27
    try have p27 := of_decide_eq_false h27
    refine s_move H (wg H rfl rfl h27) rfl rfl ?_; clear H; intro a H; refine s_cmp H (wg H rfl rfl h27) rfl rfl rfl rfl ?_; clear H; intro a H; refine s_pick_f H wn rfl h27 rfl rfl ?_; clear H; intro a H; refine s_assign H wn rfl rfl ?_; clear H; intro a H; refine wl_nil ?_; refine hK9 _ _ ?_; clear hK9; refine c_ret ?_; refine (leave1 H Tryd.results72 (.cons (rv_tmp H rfl) .nil) ?_).1; exact H.hp.ret ⟨by simp only [hanS]; congr 1; first | (rw [decide_eq_decide]; omega) | (symm; rw [decide_eq_true_eq]; omega) | (symm; rw [decide_eq_false_iff_not]; omega), rfl⟩
  intro h22
  try have p22 := of_decide_eq_false h22
  refine c_seq (fun _ hK10 => ?_); refine c_seq (fun _ hK11 => ?_); refine c_region ?_; refine s_cmp H wn rfl rfl rfl rfl ?_; clear H; intro a H; refine s_assign H wn rfl rfl ?_; clear H; intro a H; refine wl_nil ?_; refine hK11 _ _ ?_; clear hK11; refine c_cond H rfl ?_ ?_
  · intro h31
    try have p31 := of_decide_eq_true h31
    refine c_skip ?_; refine hK10 _ _ ?_; clear hK10; refine c_cond_t H rfl h31 ?_; refine c_seq (fun _ hK12 => ?_); refine c_region ?_; refine s_move H wn rfl rfl ?_; clear H; intro a H; refine s_cmp H wn rfl rfl rfl rfl ?_; clear H; intro a H; refine s_assign H wn rfl rfl ?_; clear H; intro a H; refine wl_nil ?_; refine hK12 _ _ ?_; clear hK12; refine c_ret ?_; refine (leave1 H Tryd.results72 (.cons (rv_tmp H rfl) .nil) ?_).1; exact H.hp.ret ⟨by simp only [hanS]; congr 1; first | (rw [decide_eq_decide]; omega) | (symm; rw [decide_eq_true_eq]; omega) | (symm; rw [decide_eq_false_iff_not]; omega), rfl⟩
  intro h31
  try have p31 := of_decide_eq_false h31
  refine c_region ?_; refine s_cmp H wn rfl rfl rfl rfl ?_; clear H; intro a H; refine s_assign H wn rfl rfl ?_; clear H; intro a H; refine wl_nil ?_; refine hK10 _ _ ?_; clear hK10; refine c_cond H rfl ?_ ?_
  · intro h31
    try have p31 := of_decide_eq_true h31
    refine c_seq (fun _ hK13 => ?_); refine c_region ?_; refine s_move H wn rfl rfl ?_; clear H; intro a H; refine s_cmp H wn rfl rfl rfl rfl ?_; clear H; intro a H; refine s_assign H wn rfl rfl ?_; clear H; intro a H; refine wl_nil ?_; refine hK13 _ _ ?_; clear hK13; refine c_ret ?_; refine (leave1 H Tryd.results72 (.cons (rv_tmp H rfl) .nil) ?_).1; exact H.hp.ret ⟨by simp only [hanS]; congr 1; first | (rw [decide_eq_decide]; omega) | (symm; rw [decide_eq_true_eq]; omega) | (symm; rw [decide_eq_false_iff_not]; omega), rfl⟩
  intro h31
  try have p31 := of_decide_eq_false h31
  refine c_skip ?_; refine hK2 _ _ ?_; clear hK2; refine c_seq (fun _ hK14 => ?_); refine c_region ?_; refine s_assign H wn rfl rfl ?_; clear H; intro a H; refine wl_nil ?_; refine hK14 _ _ ?_; clear hK14; refine c_ret ?_; refine (leave1 H Tryd.results72 (.cons (rv_tmp H rfl) .nil) ?_).1; exact H.hp.ret ⟨by simp only [hanS]; congr 1; first | (rw [decide_eq_decide]; omega) | (symm; rw [decide_eq_true_eq]; omega) | (symm; rw [decide_eq_false_iff_not]; omega), rfl⟩
structure MacD where
  before : Int
  picture : Bool
  pictured : Bool
  regionals : Int
abbrev bM (b : Nat) (m : MacD) : Nat × Obj := (b, .cells #[vi m.before, .bool m.picture, .bool m.pictured, vi m.regionals] 131 (0, 0))
def bndS (m : MacD) (b : Int) : Bool :=
  if m.before = 1 ∧ b = 2 then false
  else if (m.before = 1 ∨ m.before = 2 ∨ m.before = 3) ∨ (b = 1 ∨ b = 2 ∨ b = 3) then true
  else if ((m.before = 8 ∧ (b = 8 ∨ b = 9 ∨ b = 11 ∨ b = 12)) ∨ ((m.before = 11 ∨ m.before = 9) ∧ (b = 9 ∨ b = 10)) ∨ ((m.before = 12 ∨ m.before = 10) ∧ b = 10)) ∨ b = 4 ∨ b = 5 ∨ b = 7 ∨ m.before = 6 then false
  else if m.before = 5 ∧ b = 14 ∧ m.pictured = true then false
  else if m.before = 13 ∧ b = 13 ∧ m.regionals.tmod 2 = 1 then false
  else true
def takeS (m : MacD) (c : Int) : MacD := ⟨c, decide (c = 14) || (decide (c = 4) && m.picture), decide (c = 5) && m.picture, if c = 13 then m.regionals + 1 else 0⟩
set_option maxHeartbeats 4000000 in
theorem boundary_spec {G : GH} {w0 : World} {bm : Nat} (m : MacD) (b : Int) (hO : Owns G [bM bm m] w0) :
    Calls Tryd.prog 66 #[.pointer (some ⟨bm, 0, none⟩), vi b] w0 (RetL w0 G [bM bm m] fun u G' L' => G = G' ∧ L' = [bM bm m] ∧ u = .bool (bndS m b)) := by
  refine enterL (N := 64) (T := [(0, _), (1, _)]) Tryd.func66 rfl Tryd.ntmps66 rfl rfl hO ?_; intro a H; refine c_seq (fun _ hK1 => ?_); refine c_region ?_; refine s_assign H wn rfl rfl ?_; clear H; intro a H; refine wl_nil ?_; refine hK1 _ _ ?_; clear hK1; refine c_seq (fun _ hK2 => ?_); refine c_region ?_; refine s_move H wn rfl rfl ?_; clear H; intro a H; refine s_nilCheck H wn rfl rfl ?_; clear H; intro a H; refine s_field fd131_0mac H wn rfl rfl ?_; clear H; intro a H; refine s_load ty3mac H wn rfl (H.hp.ocell 0 rfl rfl) rfl ?_; clear H; intro a H; refine s_assign H wn rfl rfl ?_; clear H; intro a H; refine wl_nil ?_; refine hK2 _ _ ?_; clear hK2; refine c_seq (fun _ hK3 => ?_); refine c_block ?_; refine c_seq (fun _ hK4 => ?_); refine c_region ?_; refine s_move H wn rfl rfl ?_; clear H; intro a H; refine s_cmp H wn rfl rfl rfl rfl ?_; clear H; intro a H; refine s_move H wn rfl rfl ?_; clear H; intro a H; refine s_split H 13 rfl ?_ ?_
  · intro h13
    try have p13 := of_decide_eq_true h13
    first
    | (exfalso; omega)
    | (exact absurd h13 (by decide))
    | (exfalso; omega)
    | skip
      refine s_move H (wg H rfl rfl h13) rfl rfl ?_; clear H; intro a H; refine s_cmp H (wg H rfl rfl h13) rfl rfl rfl rfl ?_; clear H; intro a H; refine s_pick_t H wn rfl h13 rfl rfl ?_; clear H; intro a H; refine s_assign H wn rfl rfl ?_; clear H; intro a H; refine wl_nil ?_; refine hK4 _ _ ?_; clear hK4; refine c_cond H rfl ?_ ?_
      · intro h10
        try have p10 := of_decide_eq_true h10
        first
        | (exfalso; omega)
        | (exact absurd h10 (by decide))
        | (exfalso; omega)
        | skip
          refine c_seq (fun _ hK5 => ?_); refine c_region ?_; refine s_assign H wn rfl rfl ?_; clear H; intro a H; refine wl_nil ?_; refine hK5 _ _ ?_; clear hK5; refine c_ret ?_; refine (leave1 H Tryd.results66 (.cons (rv_tmp H rfl) .nil) ?_).1
          exact H.hp.retL ⟨rfl, rfl, by clear H; unfold bndS; (repeat' split) <;> first | rfl | (exfalso; omega) | (exfalso; simp_all; done)⟩
      intro h10
      try have p10 := of_decide_eq_false h10
      first
      | (exfalso; omega)
      | (exact absurd h10 (by decide))
      | (exfalso; omega)
      | skip
        refine c_seq (fun _ hK6 => ?_); refine c_region ?_; refine s_move H wn rfl rfl ?_; clear H; intro a H; refine s_call en71mac H wn rfl (control_spec _ _ H.hp.ro m.before) rfl ?_; clear H; rintro v19 _ a w ⟨rfl, rfl⟩ - H; refine s_move H wn rfl rfl ?_; clear H; intro a H; refine s_split H 20 rfl ?_ ?_
        · intro h20
          try have p20 := of_decide_eq_true h20
          first
          | (exfalso; omega)
          | (exact absurd h20 (by decide))
          | (exfalso; omega)
          | skip
            (iterate 2 refine s_skip H rfl rfl h20 rfl ?_; clear H; intro a H); refine s_pick_t H wn rfl h20 rfl rfl ?_; clear H; intro a H; refine s_assign H wn rfl rfl ?_; clear H; intro a H; refine wl_nil ?_; refine hK6 _ _ ?_; clear hK6; refine c_cond_t H rfl rfl ?_; refine c_seq (fun _ hK7 => ?_); refine c_region ?_; refine s_assign H wn rfl rfl ?_; clear H; intro a H; refine wl_nil ?_; refine hK7 _ _ ?_; clear hK7; refine c_ret ?_; refine (leave1 H Tryd.results66 (.cons (rv_tmp H rfl) .nil) ?_).1
            exact H.hp.retL ⟨rfl, rfl, by clear H; unfold bndS; (repeat' split) <;> first | rfl | (exfalso; omega) | (exfalso; simp_all; done)⟩
        intro h20
        try have p20 := of_decide_eq_false h20
        first
        | (exfalso; omega)
        | (exact absurd h20 (by decide))
        | (exfalso; omega)
        | skip
          refine s_move H (wg H rfl rfl h20) rfl rfl ?_; clear H; intro a H; refine s_call en71mac H (wg H rfl rfl h20) rfl (control_spec _ _ H.hp.ro b) rfl ?_; clear H; rintro v22 _ a w ⟨rfl, rfl⟩ - H; refine s_pick_f H wn rfl h20 rfl rfl ?_; clear H; intro a H; refine s_assign H wn rfl rfl ?_; clear H; intro a H; refine wl_nil ?_; refine hK6 _ _ ?_; clear hK6; refine c_cond H rfl ?_ ?_
          · intro h17
            try have p17 := of_decide_eq_true h17
            first
            | (exfalso; omega)
            | (exact absurd h17 (by decide))
            | (exfalso; omega)
            | skip
              refine c_seq (fun _ hK8 => ?_); refine c_region ?_; refine s_assign H wn rfl rfl ?_; clear H; intro a H; refine wl_nil ?_; refine hK8 _ _ ?_; clear hK8; refine c_ret ?_; refine (leave1 H Tryd.results66 (.cons (rv_tmp H rfl) .nil) ?_).1
              exact H.hp.retL ⟨rfl, rfl, by clear H; unfold bndS; (repeat' split) <;> first | rfl | (exfalso; omega) | (exfalso; simp_all; done)⟩
          intro h17
          try have p17 := of_decide_eq_false h17
          first
          | (exfalso; omega)
          | (exact absurd h17 (by decide))
          | (exfalso; omega)
          | skip
            refine c_seq (fun _ hK9 => ?_); refine c_seq (fun _ hK10 => ?_); refine c_region ?_; (iterate 2 refine s_move H wn rfl rfl ?_; clear H; intro a H); refine s_call en72mac H wn rfl (hangul_spec _ _ H.hp.ro m.before b) rfl ?_; clear H; rintro v27 _ a w ⟨rfl, rfl⟩ - H; refine s_assign H wn rfl rfl ?_; clear H; intro a H; refine wl_nil ?_; refine hK10 _ _ ?_; clear hK10; refine c_cond H rfl ?_ ?_
            · intro h24
              try have p24 := of_decide_eq_true h24
              first
              | (exfalso; omega)
              | (exact absurd h24 (by decide))
              | (exfalso; omega)
              | skip
                refine c_skip ?_; refine hK9 _ _ ?_; clear hK9; refine c_cond_t H rfl h24 ?_; refine c_seq (fun _ hK11 => ?_); refine c_region ?_; refine s_assign H wn rfl rfl ?_; clear H; intro a H; refine wl_nil ?_; refine hK11 _ _ ?_; clear hK11; refine c_ret ?_; refine (leave1 H Tryd.results66 (.cons (rv_tmp H rfl) .nil) ?_).1
                exact H.hp.retL ⟨rfl, rfl, by clear H; unfold bndS; (repeat' split) <;> first | rfl | (exfalso; omega) | (exfalso; simp_all; done)⟩
            intro h24
            try have p24 := of_decide_eq_false h24
            first
            | (exfalso; omega)
            | (exact absurd h24 (by decide))
            | (exfalso; omega)
            | skip
              refine c_seq (fun _ hK12 => ?_); refine c_region ?_; refine s_move H wn rfl rfl ?_; clear H; intro a H; refine s_cmp H wn rfl rfl rfl rfl ?_; clear H; intro a H; refine s_assign H wn rfl rfl ?_; clear H; intro a H; refine wl_nil ?_; refine hK12 _ _ ?_; clear hK12; refine c_cond H rfl ?_ ?_
              · intro h24
                try have p24 := of_decide_eq_true h24
                first
                | (exfalso; omega)
                | (exact absurd h24 (by decide))
                | (exfalso; omega)
                | skip
                  refine c_skip ?_; refine hK9 _ _ ?_; clear hK9; refine c_cond_t H rfl h24 ?_; refine c_seq (fun _ hK13 => ?_); refine c_region ?_; refine s_assign H wn rfl rfl ?_; clear H; intro a H; refine wl_nil ?_; refine hK13 _ _ ?_; clear hK13; refine c_ret ?_; refine (leave1 H Tryd.results66 (.cons (rv_tmp H rfl) .nil) ?_).1
                  exact H.hp.retL ⟨rfl, rfl, by clear H; unfold bndS; (repeat' split) <;> first | rfl | (exfalso; omega) | (exfalso; simp_all; done)⟩
              intro h24
              try have p24 := of_decide_eq_false h24
              first
              | (exfalso; omega)
              | (exact absurd h24 (by decide))
              | (exfalso; omega)
              | skip
                refine c_seq (fun _ hK14 => ?_); refine c_region ?_; refine s_move H wn rfl rfl ?_; clear H; intro a H; refine s_cmp H wn rfl rfl rfl rfl ?_; clear H; intro a H; refine s_assign H wn rfl rfl ?_; clear H; intro a H; refine wl_nil ?_; refine hK14 _ _ ?_; clear hK14; refine c_cond H rfl ?_ ?_
                · intro h24
                  try have p24 := of_decide_eq_true h24
                  first
                  | (exfalso; omega)
                  | (exact absurd h24 (by decide))
                  | (exfalso; omega)
                  | skip
                    refine c_skip ?_; refine hK9 _ _ ?_; clear hK9; refine c_cond_t H rfl h24 ?_; refine c_seq (fun _ hK15 => ?_); refine c_region ?_; refine s_assign H wn rfl rfl ?_; clear H; intro a H; refine wl_nil ?_; refine hK15 _ _ ?_; clear hK15; refine c_ret ?_; refine (leave1 H Tryd.results66 (.cons (rv_tmp H rfl) .nil) ?_).1
                    exact H.hp.retL ⟨rfl, rfl, by clear H; unfold bndS; (repeat' split) <;> first | rfl | (exfalso; omega) | (exfalso; simp_all; done)⟩
                intro h24
                try have p24 := of_decide_eq_false h24
                first
                | (exfalso; omega)
                | (exact absurd h24 (by decide))
                | (exfalso; omega)
                | skip
                  refine c_seq (fun _ hK16 => ?_); refine c_region ?_; refine s_move H wn rfl rfl ?_; clear H; intro a H; refine s_cmp H wn rfl rfl rfl rfl ?_; clear H; intro a H; refine s_assign H wn rfl rfl ?_; clear H; intro a H; refine wl_nil ?_; refine hK16 _ _ ?_; clear hK16; refine c_cond H rfl ?_ ?_
                  · intro h24
                    try have p24 := of_decide_eq_true h24
                    first
                    | (exfalso; omega)
                    | (exact absurd h24 (by decide))
                    | (exfalso; omega)
                    | skip
                      refine c_skip ?_; refine hK9 _ _ ?_; clear hK9; refine c_cond_t H rfl h24 ?_; refine c_seq (fun _ hK17 => ?_); refine c_region ?_; refine s_assign H wn rfl rfl ?_; clear H; intro a H; refine wl_nil ?_; refine hK17 _ _ ?_; clear hK17; refine c_ret ?_; refine (leave1 H Tryd.results66 (.cons (rv_tmp H rfl) .nil) ?_).1
                      exact H.hp.retL ⟨rfl, rfl, by clear H; unfold bndS; (repeat' split) <;> first | rfl | (exfalso; omega) | (exfalso; simp_all; done)⟩
                  intro h24
                  try have p24 := of_decide_eq_false h24
                  first
                  | (exfalso; omega)
                  | (exact absurd h24 (by decide))
                  | (exfalso; omega)
                  | skip
                    refine c_region ?_; refine s_move H wn rfl rfl ?_; clear H; intro a H; refine s_cmp H wn rfl rfl rfl rfl ?_; clear H; intro a H; refine s_assign H wn rfl rfl ?_; clear H; intro a H; refine wl_nil ?_; refine hK9 _ _ ?_; clear hK9; refine c_cond H rfl ?_ ?_
                    · intro h24
                      try have p24 := of_decide_eq_true h24
                      first
                      | (exfalso; omega)
                      | (exact absurd h24 (by decide))
                      | (exfalso; omega)
                      | skip
                        refine c_seq (fun _ hK18 => ?_); refine c_region ?_; refine s_assign H wn rfl rfl ?_; clear H; intro a H; refine wl_nil ?_; refine hK18 _ _ ?_; clear hK18; refine c_ret ?_; refine (leave1 H Tryd.results66 (.cons (rv_tmp H rfl) .nil) ?_).1
                        exact H.hp.retL ⟨rfl, rfl, by clear H; unfold bndS; (repeat' split) <;> first | rfl | (exfalso; omega) | (exfalso; simp_all; done)⟩
                    intro h24
                    try have p24 := of_decide_eq_false h24
                    first
                    | (exfalso; omega)
                    | (exact absurd h24 (by decide))
                    | (exfalso; omega)
                    | skip
                      refine c_seq (fun _ hK19 => ?_); refine c_region ?_; refine s_move H wn rfl rfl ?_; clear H; intro a H; refine s_cmp H wn rfl rfl rfl rfl ?_; clear H; intro a H; refine s_move H wn rfl rfl ?_; clear H; intro a H; refine s_split H 39 rfl ?_ ?_
                      · intro h39
                        try have p39 := of_decide_eq_true h39
                        first
                        | (exfalso; omega)
                        | (exact absurd h39 (by decide))
                        | (exfalso; omega)
                        | skip
                          refine s_move H (wg H rfl rfl h39) rfl rfl ?_; clear H; intro a H; refine s_cmp H (wg H rfl rfl h39) rfl rfl rfl rfl ?_; clear H; intro a H; refine s_pick_t H wn rfl h39 rfl rfl ?_; clear H; intro a H; refine s_move H wn rfl rfl ?_; clear H; intro a H; refine s_split H 43 rfl ?_ ?_
                          · intro h43
                            try have p43 := of_decide_eq_true h43
                            first
                            | (exfalso; omega)
                            | (exact absurd h43 (by decide))
                            | (exfalso; omega)
                            | skip
                              refine s_move H (wg H rfl rfl h43) rfl rfl ?_; clear H; intro a H; refine s_nilCheck H (wg H rfl rfl h43) rfl rfl ?_; clear H; intro a H; refine s_field fd131_2mac H (wg H rfl rfl h43) rfl rfl ?_; clear H; intro a H; refine s_load ty4mac H (wg H rfl rfl h43) rfl (H.hp.ocell 0 rfl rfl) rfl ?_; clear H; intro a H; refine s_pick_t H wn rfl h43 rfl rfl ?_; clear H; intro a H; refine s_assign H wn rfl rfl ?_; clear H; intro a H; refine wl_nil ?_; refine hK19 _ _ ?_; clear hK19; refine c_cond H rfl ?_ ?_
                              · intro h36
                                try have p36 := of_decide_eq_true h36
                                first
                                | (exfalso; omega)
                                | (exact absurd h36 (by decide))
                                | (exfalso; omega)
                                | skip
                                  refine c_seq (fun _ hK20 => ?_); refine c_region ?_; refine s_assign H wn rfl rfl ?_; clear H; intro a H; refine wl_nil ?_; refine hK20 _ _ ?_; clear hK20; refine c_ret ?_; refine (leave1 H Tryd.results66 (.cons (rv_tmp H rfl) .nil) ?_).1
                                  exact H.hp.retL ⟨rfl, rfl, by clear H; unfold bndS; (repeat' split) <;> first | rfl | (exfalso; omega) | (exfalso; simp_all; done)⟩
                              intro h36
                              try have p36 := of_decide_eq_false h36
                              first
                              | (exfalso; omega)
                              | (exact absurd h36 (by decide))
                              | (exfalso; omega)
                              | skip
                                refine c_seq (fun _ hK21 => ?_); refine c_region ?_; refine s_move H wn rfl rfl ?_; clear H; intro a H; refine s_cmp H wn rfl rfl rfl rfl ?_; clear H; intro a H; refine s_move H wn rfl rfl ?_; clear H; intro a H; refine s_split H 52 rfl ?_ ?_
                                · intro h52
                                  try have p52 := of_decide_eq_true h52
                                  first
                                  | (exfalso; omega)
                                  | (exact absurd h52 (by decide))
                                  | (exfalso; omega)
                                  | skip
                                    refine s_move H (wg H rfl rfl h52) rfl rfl ?_; clear H; intro a H; refine s_cmp H (wg H rfl rfl h52) rfl rfl rfl rfl ?_; clear H; intro a H; refine s_pick_t H wn rfl h52 rfl rfl ?_; clear H; intro a H; refine s_move H wn rfl rfl ?_; clear H; intro a H; refine s_split H 56 rfl ?_ ?_
                                    · intro h56
                                      try have p56 := of_decide_eq_true h56
                                      first
                                      | (exfalso; omega)
                                      | (exact absurd h56 (by decide))
                                      | (exfalso; omega)
                                      | skip
                                        refine s_move H (wg H rfl rfl h56) rfl rfl ?_; clear H; intro a H; refine s_nilCheck H (wg H rfl rfl h56) rfl rfl ?_; clear H; intro a H; refine s_field fd131_3mac H (wg H rfl rfl h56) rfl rfl ?_; clear H; intro a H; refine s_load ty3mac H (wg H rfl rfl h56) rfl (H.hp.ocell 0 rfl rfl) rfl ?_; clear H; intro a H; refine s_rem (m.regionals.tmod 2) H (wg H rfl rfl h56) rfl rfl (by decide) rfl rfl ?_; clear H; intro a H; refine s_cmp H (wg H rfl rfl h56) rfl rfl rfl rfl ?_; clear H; intro a H; refine s_pick_t H wn rfl h56 rfl rfl ?_; clear H; intro a H; refine s_assign H wn rfl rfl ?_; clear H; intro a H; refine wl_nil ?_; refine hK21 _ _ ?_; clear hK21; refine c_cond H rfl ?_ ?_
                                        · intro h49
                                          try have p49 := of_decide_eq_true h49
                                          first
                                          | (exfalso; omega)
                                          | (exact absurd h49 (by decide))
                                          | (exfalso; omega)
                                          | skip
                                            refine c_seq (fun _ hK22 => ?_); refine c_region ?_; refine s_assign H wn rfl rfl ?_; clear H; intro a H; refine wl_nil ?_; refine hK22 _ _ ?_; clear hK22; refine c_ret ?_; refine (leave1 H Tryd.results66 (.cons (rv_tmp H rfl) .nil) ?_).1
                                            exact H.hp.retL ⟨rfl, rfl, by clear H; unfold bndS; (repeat' split) <;> first | rfl | (exfalso; omega) | (exfalso; simp_all; done)⟩
                                        intro h49
                                        try have p49 := of_decide_eq_false h49
                                        first
                                        | (exfalso; omega)
                                        | (exact absurd h49 (by decide))
                                        | (exfalso; omega)
                                        | skip
                                          refine c_skip ?_; refine hK3 _ _ ?_; clear hK3; refine c_seq (fun _ hK23 => ?_); refine c_region ?_; refine s_assign H wn rfl rfl ?_; clear H; intro a H; refine wl_nil ?_; refine hK23 _ _ ?_; clear hK23; refine c_ret ?_; refine (leave1 H Tryd.results66 (.cons (rv_tmp H rfl) .nil) ?_).1
                                          exact H.hp.retL ⟨rfl, rfl, by clear H; unfold bndS; (repeat' split) <;> first | rfl | (exfalso; omega) | (exfalso; simp_all; done)⟩
                                    intro h56
                                    try have p56 := of_decide_eq_false h56
                                    first
                                    | (exfalso; omega)
                                    | (exact absurd h56 (by decide))
                                    | (exfalso; omega)
                                    | skip
                                      (iterate 6 refine s_skip H rfl rfl h56 rfl ?_; clear H; intro a H); refine s_pick_f H wn rfl h56 rfl rfl ?_; clear H; intro a H; refine s_assign H wn rfl rfl ?_; clear H; intro a H; refine wl_nil ?_; refine hK21 _ _ ?_; clear hK21; refine c_cond_f H rfl rfl ?_; refine c_skip ?_; refine hK3 _ _ ?_; clear hK3; refine c_seq (fun _ hK24 => ?_); refine c_region ?_; refine s_assign H wn rfl rfl ?_; clear H; intro a H; refine wl_nil ?_; refine hK24 _ _ ?_; clear hK24; refine c_ret ?_; refine (leave1 H Tryd.results66 (.cons (rv_tmp H rfl) .nil) ?_).1
                                      exact H.hp.retL ⟨rfl, rfl, by clear H; unfold bndS; (repeat' split) <;> first | rfl | (exfalso; omega) | (exfalso; simp_all; done)⟩
                                intro h52
                                try have p52 := of_decide_eq_false h52
                                first
                                | (exfalso; omega)
                                | (exact absurd h52 (by decide))
                                | (exfalso; omega)
                                | skip
                                  (iterate 2 refine s_skip H rfl rfl h52 rfl ?_; clear H; intro a H); refine s_pick_f H wn rfl h52 rfl rfl ?_; clear H; intro a H; refine s_move H wn rfl rfl ?_; clear H; intro a H; (iterate 6 refine s_skip H rfl rfl rfl rfl ?_; clear H; intro a H); refine s_pick_f H wn rfl rfl rfl rfl ?_; clear H; intro a H; refine s_assign H wn rfl rfl ?_; clear H; intro a H; refine wl_nil ?_; refine hK21 _ _ ?_; clear hK21; refine c_cond_f H rfl rfl ?_; refine c_skip ?_; refine hK3 _ _ ?_; clear hK3; refine c_seq (fun _ hK25 => ?_); refine c_region ?_; refine s_assign H wn rfl rfl ?_; clear H; intro a H; refine wl_nil ?_; refine hK25 _ _ ?_; clear hK25; refine c_ret ?_; refine (leave1 H Tryd.results66 (.cons (rv_tmp H rfl) .nil) ?_).1
                                  exact H.hp.retL ⟨rfl, rfl, by clear H; unfold bndS; (repeat' split) <;> first | rfl | (exfalso; omega) | (exfalso; simp_all; done)⟩
                          intro h43
                          try have p43 := of_decide_eq_false h43
                          first
                          | (exfalso; omega)
                          | (exact absurd h43 (by decide))
                          | (exfalso; omega)
                          | skip
                            (iterate 4 refine s_skip H rfl rfl h43 rfl ?_; clear H; intro a H); refine s_pick_f H wn rfl h43 rfl rfl ?_; clear H; intro a H; refine s_assign H wn rfl rfl ?_; clear H; intro a H; refine wl_nil ?_; refine hK19 _ _ ?_; clear hK19; refine c_cond_f H rfl rfl ?_; refine c_seq (fun _ hK26 => ?_); refine c_region ?_; refine s_move H wn rfl rfl ?_; clear H; intro a H; refine s_cmp H wn rfl rfl rfl rfl ?_; clear H; intro a H; refine s_move H wn rfl rfl ?_; clear H; intro a H; refine s_split H 52 rfl ?_ ?_
                            · intro h52
                              try have p52 := of_decide_eq_true h52
                              first
                              | (exfalso; omega)
                              | (exact absurd h52 (by decide))
                              | (exfalso; omega)
                              | skip
                                refine s_move H (wg H rfl rfl h52) rfl rfl ?_; clear H; intro a H; refine s_cmp H (wg H rfl rfl h52) rfl rfl rfl rfl ?_; clear H; intro a H; refine s_pick_t H wn rfl h52 rfl rfl ?_; clear H; intro a H; refine s_move H wn rfl rfl ?_; clear H; intro a H; refine s_split H 56 rfl ?_ ?_
                                · intro h56
                                  try have p56 := of_decide_eq_true h56
                                  first
                                  | (exfalso; omega)
                                  | (exact absurd h56 (by decide))
                                  | (exfalso; omega)
                                  | skip
                                    refine s_move H (wg H rfl rfl h56) rfl rfl ?_; clear H; intro a H; refine s_nilCheck H (wg H rfl rfl h56) rfl rfl ?_; clear H; intro a H; refine s_field fd131_3mac H (wg H rfl rfl h56) rfl rfl ?_; clear H; intro a H; refine s_load ty3mac H (wg H rfl rfl h56) rfl (H.hp.ocell 0 rfl rfl) rfl ?_; clear H; intro a H; refine s_rem (m.regionals.tmod 2) H (wg H rfl rfl h56) rfl rfl (by decide) rfl rfl ?_; clear H; intro a H; refine s_cmp H (wg H rfl rfl h56) rfl rfl rfl rfl ?_; clear H; intro a H; refine s_pick_t H wn rfl h56 rfl rfl ?_; clear H; intro a H; refine s_assign H wn rfl rfl ?_; clear H; intro a H; refine wl_nil ?_; refine hK26 _ _ ?_; clear hK26; refine c_cond H rfl ?_ ?_
                                    · intro h49
                                      try have p49 := of_decide_eq_true h49
                                      first
                                      | (exfalso; omega)
                                      | (exact absurd h49 (by decide))
                                      | (exfalso; omega)
                                      | skip
                                        refine c_seq (fun _ hK27 => ?_); refine c_region ?_; refine s_assign H wn rfl rfl ?_; clear H; intro a H; refine wl_nil ?_; refine hK27 _ _ ?_; clear hK27; refine c_ret ?_; refine (leave1 H Tryd.results66 (.cons (rv_tmp H rfl) .nil) ?_).1
                                        exact H.hp.retL ⟨rfl, rfl, by clear H; unfold bndS; (repeat' split) <;> first | rfl | (exfalso; omega) | (exfalso; simp_all; done)⟩
                                    intro h49
                                    try have p49 := of_decide_eq_false h49
                                    first
                                    | (exfalso; omega)
                                    | (exact absurd h49 (by decide))
                                    | (exfalso; omega)
                                    | skip
                                      refine c_skip ?_; refine hK3 _ _ ?_; clear hK3; refine c_seq (fun _ hK28 => ?_); refine c_region ?_; refine s_assign H wn rfl rfl ?_; clear H; intro a H; refine wl_nil ?_; refine hK28 _ _ ?_; clear hK28; refine c_ret ?_; refine (leave1 H Tryd.results66 (.cons (rv_tmp H rfl) .nil) ?_).1
                                      exact H.hp.retL ⟨rfl, rfl, by clear H; unfold bndS; (repeat' split) <;> first | rfl | (exfalso; omega) | (exfalso; simp_all; done)⟩
                                intro h56
                                try have p56 := of_decide_eq_false h56
                                first
                                | (exfalso; omega)
                                | (exact absurd h56 (by decide))
                                | (exfalso; omega)
                                | skip
                                  (iterate 6 refine s_skip H rfl rfl h56 rfl ?_; clear H; intro a H); refine s_pick_f H wn rfl h56 rfl rfl ?_; clear H; intro a H; refine s_assign H wn rfl rfl ?_; clear H; intro a H; refine wl_nil ?_; refine hK26 _ _ ?_; clear hK26; refine c_cond_f H rfl rfl ?_; refine c_skip ?_; refine hK3 _ _ ?_; clear hK3; refine c_seq (fun _ hK29 => ?_); refine c_region ?_; refine s_assign H wn rfl rfl ?_; clear H; intro a H; refine wl_nil ?_; refine hK29 _ _ ?_; clear hK29; refine c_ret ?_; refine (leave1 H Tryd.results66 (.cons (rv_tmp H rfl) .nil) ?_).1
                                  exact H.hp.retL ⟨rfl, rfl, by clear H; unfold bndS; (repeat' split) <;> first | rfl | (exfalso; omega) | (exfalso; simp_all; done)⟩
                            intro h52
                            try have p52 := of_decide_eq_false h52
                            first
                            | (exfalso; omega)
                            | (exact absurd h52 (by decide))
                            | (exfalso; omega)
                            | skip
                              (iterate 2 refine s_skip H rfl rfl h52 rfl ?_; clear H; intro a H); refine s_pick_f H wn rfl h52 rfl rfl ?_; clear H; intro a H; refine s_move H wn rfl rfl ?_; clear H; intro a H; (iterate 6 refine s_skip H rfl rfl rfl rfl ?_; clear H; intro a H); refine s_pick_f H wn rfl rfl rfl rfl ?_; clear H; intro a H; refine s_assign H wn rfl rfl ?_; clear H; intro a H; refine wl_nil ?_; refine hK26 _ _ ?_; clear hK26; refine c_cond_f H rfl rfl ?_; refine c_skip ?_; refine hK3 _ _ ?_; clear hK3; refine c_seq (fun _ hK30 => ?_); refine c_region ?_; refine s_assign H wn rfl rfl ?_; clear H; intro a H; refine wl_nil ?_; refine hK30 _ _ ?_; clear hK30; refine c_ret ?_; refine (leave1 H Tryd.results66 (.cons (rv_tmp H rfl) .nil) ?_).1
                              exact H.hp.retL ⟨rfl, rfl, by clear H; unfold bndS; (repeat' split) <;> first | rfl | (exfalso; omega) | (exfalso; simp_all; done)⟩
                      intro h39
                      try have p39 := of_decide_eq_false h39
                      first
                      | (exfalso; omega)
                      | (exact absurd h39 (by decide))
                      | (exfalso; omega)
                      | skip
                        (iterate 2 refine s_skip H rfl rfl h39 rfl ?_; clear H; intro a H); refine s_pick_f H wn rfl h39 rfl rfl ?_; clear H; intro a H; refine s_move H wn rfl rfl ?_; clear H; intro a H; (iterate 4 refine s_skip H rfl rfl rfl rfl ?_; clear H; intro a H); refine s_pick_f H wn rfl rfl rfl rfl ?_; clear H; intro a H; refine s_assign H wn rfl rfl ?_; clear H; intro a H; refine wl_nil ?_; refine hK19 _ _ ?_; clear hK19; refine c_cond_f H rfl rfl ?_; refine c_seq (fun _ hK31 => ?_); refine c_region ?_; refine s_move H wn rfl rfl ?_; clear H; intro a H; refine s_cmp H wn rfl rfl rfl rfl ?_; clear H; intro a H; refine s_move H wn rfl rfl ?_; clear H; intro a H; refine s_split H 52 rfl ?_ ?_
                        · intro h52
                          try have p52 := of_decide_eq_true h52
                          first
                          | (exfalso; omega)
                          | (exact absurd h52 (by decide))
                          | (exfalso; omega)
                          | skip
                            refine s_move H (wg H rfl rfl h52) rfl rfl ?_; clear H; intro a H; refine s_cmp H (wg H rfl rfl h52) rfl rfl rfl rfl ?_; clear H; intro a H; refine s_pick_t H wn rfl h52 rfl rfl ?_; clear H; intro a H; refine s_move H wn rfl rfl ?_; clear H; intro a H; refine s_split H 56 rfl ?_ ?_
                            · intro h56
                              try have p56 := of_decide_eq_true h56
                              first
                              | (exfalso; omega)
                              | (exact absurd h56 (by decide))
                              | (exfalso; omega)
                              | skip
                                refine s_move H (wg H rfl rfl h56) rfl rfl ?_; clear H; intro a H; refine s_nilCheck H (wg H rfl rfl h56) rfl rfl ?_; clear H; intro a H; refine s_field fd131_3mac H (wg H rfl rfl h56) rfl rfl ?_; clear H; intro a H; refine s_load ty3mac H (wg H rfl rfl h56) rfl (H.hp.ocell 0 rfl rfl) rfl ?_; clear H; intro a H; refine s_rem (m.regionals.tmod 2) H (wg H rfl rfl h56) rfl rfl (by decide) rfl rfl ?_; clear H; intro a H; refine s_cmp H (wg H rfl rfl h56) rfl rfl rfl rfl ?_; clear H; intro a H; refine s_pick_t H wn rfl h56 rfl rfl ?_; clear H; intro a H; refine s_assign H wn rfl rfl ?_; clear H; intro a H; refine wl_nil ?_; refine hK31 _ _ ?_; clear hK31; refine c_cond H rfl ?_ ?_
                                · intro h49
                                  try have p49 := of_decide_eq_true h49
                                  first
                                  | (exfalso; omega)
                                  | (exact absurd h49 (by decide))
                                  | (exfalso; omega)
                                  | skip
                                    refine c_seq (fun _ hK32 => ?_); refine c_region ?_; refine s_assign H wn rfl rfl ?_; clear H; intro a H; refine wl_nil ?_; refine hK32 _ _ ?_; clear hK32; refine c_ret ?_; refine (leave1 H Tryd.results66 (.cons (rv_tmp H rfl) .nil) ?_).1
                                    exact H.hp.retL ⟨rfl, rfl, by clear H; unfold bndS; (repeat' split) <;> first | rfl | (exfalso; omega) | (exfalso; simp_all; done)⟩
                                intro h49
                                try have p49 := of_decide_eq_false h49
                                first
                                | (exfalso; omega)
                                | (exact absurd h49 (by decide))
                                | (exfalso; omega)
                                | skip
                                  refine c_skip ?_; refine hK3 _ _ ?_; clear hK3; refine c_seq (fun _ hK33 => ?_); refine c_region ?_; refine s_assign H wn rfl rfl ?_; clear H; intro a H; refine wl_nil ?_; refine hK33 _ _ ?_; clear hK33; refine c_ret ?_; refine (leave1 H Tryd.results66 (.cons (rv_tmp H rfl) .nil) ?_).1
                                  exact H.hp.retL ⟨rfl, rfl, by clear H; unfold bndS; (repeat' split) <;> first | rfl | (exfalso; omega) | (exfalso; simp_all; done)⟩
                            intro h56
                            try have p56 := of_decide_eq_false h56
                            first
                            | (exfalso; omega)
                            | (exact absurd h56 (by decide))
                            | (exfalso; omega)
                            | skip
                              (iterate 6 refine s_skip H rfl rfl h56 rfl ?_; clear H; intro a H); refine s_pick_f H wn rfl h56 rfl rfl ?_; clear H; intro a H; refine s_assign H wn rfl rfl ?_; clear H; intro a H; refine wl_nil ?_; refine hK31 _ _ ?_; clear hK31; refine c_cond_f H rfl rfl ?_; refine c_skip ?_; refine hK3 _ _ ?_; clear hK3; refine c_seq (fun _ hK34 => ?_); refine c_region ?_; refine s_assign H wn rfl rfl ?_; clear H; intro a H; refine wl_nil ?_; refine hK34 _ _ ?_; clear hK34; refine c_ret ?_; refine (leave1 H Tryd.results66 (.cons (rv_tmp H rfl) .nil) ?_).1
                              exact H.hp.retL ⟨rfl, rfl, by clear H; unfold bndS; (repeat' split) <;> first | rfl | (exfalso; omega) | (exfalso; simp_all; done)⟩
                        intro h52
                        try have p52 := of_decide_eq_false h52
                        first
                        | (exfalso; omega)
                        | (exact absurd h52 (by decide))
                        | (exfalso; omega)
                        | skip
                          (iterate 2 refine s_skip H rfl rfl h52 rfl ?_; clear H; intro a H); refine s_pick_f H wn rfl h52 rfl rfl ?_; clear H; intro a H; refine s_move H wn rfl rfl ?_; clear H; intro a H; (iterate 6 refine s_skip H rfl rfl rfl rfl ?_; clear H; intro a H); refine s_pick_f H wn rfl rfl rfl rfl ?_; clear H; intro a H; refine s_assign H wn rfl rfl ?_; clear H; intro a H; refine wl_nil ?_; refine hK31 _ _ ?_; clear hK31; refine c_cond_f H rfl rfl ?_; refine c_skip ?_; refine hK3 _ _ ?_; clear hK3; refine c_seq (fun _ hK35 => ?_); refine c_region ?_; refine s_assign H wn rfl rfl ?_; clear H; intro a H; refine wl_nil ?_; refine hK35 _ _ ?_; clear hK35; refine c_ret ?_; refine (leave1 H Tryd.results66 (.cons (rv_tmp H rfl) .nil) ?_).1
                          exact H.hp.retL ⟨rfl, rfl, by clear H; unfold bndS; (repeat' split) <;> first | rfl | (exfalso; omega) | (exfalso; simp_all; done)⟩
  intro h13
  try have p13 := of_decide_eq_false h13
  first
  | (exfalso; omega)
  | (exact absurd h13 (by decide))
  | (exfalso; omega)
  | skip
    (iterate 2 refine s_skip H rfl rfl h13 rfl ?_; clear H; intro a H); refine s_pick_f H wn rfl h13 rfl rfl ?_; clear H; intro a H; refine s_assign H wn rfl rfl ?_; clear H; intro a H; refine wl_nil ?_; refine hK4 _ _ ?_; clear hK4; refine c_cond_f H rfl rfl ?_; refine c_seq (fun _ hK36 => ?_); refine c_region ?_; refine s_move H wn rfl rfl ?_; clear H; intro a H; refine s_call en71mac H wn rfl (control_spec _ _ H.hp.ro m.before) rfl ?_; clear H; rintro v19 _ a w ⟨rfl, rfl⟩ - H; refine s_move H wn rfl rfl ?_; clear H; intro a H; refine s_split H 20 rfl ?_ ?_
    · intro h20
      try have p20 := of_decide_eq_true h20
      first
      | (exfalso; omega)
      | (exact absurd h20 (by decide))
      | (exfalso; omega)
      | skip
        (iterate 2 refine s_skip H rfl rfl h20 rfl ?_; clear H; intro a H); refine s_pick_t H wn rfl h20 rfl rfl ?_; clear H; intro a H; refine s_assign H wn rfl rfl ?_; clear H; intro a H; refine wl_nil ?_; refine hK36 _ _ ?_; clear hK36; refine c_cond_t H rfl rfl ?_; refine c_seq (fun _ hK37 => ?_); refine c_region ?_; refine s_assign H wn rfl rfl ?_; clear H; intro a H; refine wl_nil ?_; refine hK37 _ _ ?_; clear hK37; refine c_ret ?_; refine (leave1 H Tryd.results66 (.cons (rv_tmp H rfl) .nil) ?_).1
        exact H.hp.retL ⟨rfl, rfl, by clear H; unfold bndS; (repeat' split) <;> first | rfl | (exfalso; omega) | (exfalso; simp_all; done)⟩
    intro h20
    try have p20 := of_decide_eq_false h20
    first
    | (exfalso; omega)
    | (exact absurd h20 (by decide))
    | (exfalso; omega)
    | skip
      refine s_move H (wg H rfl rfl h20) rfl rfl ?_; clear H; intro a H; refine s_call en71mac H (wg H rfl rfl h20) rfl (control_spec _ _ H.hp.ro b) rfl ?_; clear H; rintro v22 _ a w ⟨rfl, rfl⟩ - H; refine s_pick_f H wn rfl h20 rfl rfl ?_; clear H; intro a H; refine s_assign H wn rfl rfl ?_; clear H; intro a H; refine wl_nil ?_; refine hK36 _ _ ?_; clear hK36; refine c_cond H rfl ?_ ?_
      · intro h17
        try have p17 := of_decide_eq_true h17
        first
        | (exfalso; omega)
        | (exact absurd h17 (by decide))
        | (exfalso; omega)
        | skip
          refine c_seq (fun _ hK38 => ?_); refine c_region ?_; refine s_assign H wn rfl rfl ?_; clear H; intro a H; refine wl_nil ?_; refine hK38 _ _ ?_; clear hK38; refine c_ret ?_; refine (leave1 H Tryd.results66 (.cons (rv_tmp H rfl) .nil) ?_).1
          exact H.hp.retL ⟨rfl, rfl, by clear H; unfold bndS; (repeat' split) <;> first | rfl | (exfalso; omega) | (exfalso; simp_all; done)⟩
      intro h17
      try have p17 := of_decide_eq_false h17
      first
      | (exfalso; omega)
      | (exact absurd h17 (by decide))
      | (exfalso; omega)
      | skip
        refine c_seq (fun _ hK39 => ?_); refine c_seq (fun _ hK40 => ?_); refine c_region ?_; (iterate 2 refine s_move H wn rfl rfl ?_; clear H; intro a H); refine s_call en72mac H wn rfl (hangul_spec _ _ H.hp.ro m.before b) rfl ?_; clear H; rintro v27 _ a w ⟨rfl, rfl⟩ - H; refine s_assign H wn rfl rfl ?_; clear H; intro a H; refine wl_nil ?_; refine hK40 _ _ ?_; clear hK40; refine c_cond H rfl ?_ ?_
        · intro h24
          try have p24 := of_decide_eq_true h24
          first
          | (exfalso; omega)
          | (exact absurd h24 (by decide))
          | (exfalso; omega)
          | skip
            refine c_skip ?_; refine hK39 _ _ ?_; clear hK39; refine c_cond_t H rfl h24 ?_; refine c_seq (fun _ hK41 => ?_); refine c_region ?_; refine s_assign H wn rfl rfl ?_; clear H; intro a H; refine wl_nil ?_; refine hK41 _ _ ?_; clear hK41; refine c_ret ?_; refine (leave1 H Tryd.results66 (.cons (rv_tmp H rfl) .nil) ?_).1
            exact H.hp.retL ⟨rfl, rfl, by clear H; unfold bndS; (repeat' split) <;> first | rfl | (exfalso; omega) | (exfalso; simp_all; done)⟩
        intro h24
        try have p24 := of_decide_eq_false h24
        first
        | (exfalso; omega)
        | (exact absurd h24 (by decide))
        | (exfalso; omega)
        | skip
          refine c_seq (fun _ hK42 => ?_); refine c_region ?_; refine s_move H wn rfl rfl ?_; clear H; intro a H; refine s_cmp H wn rfl rfl rfl rfl ?_; clear H; intro a H; refine s_assign H wn rfl rfl ?_; clear H; intro a H; refine wl_nil ?_; refine hK42 _ _ ?_; clear hK42; refine c_cond H rfl ?_ ?_
          · intro h24
            try have p24 := of_decide_eq_true h24
            first
            | (exfalso; omega)
            | (exact absurd h24 (by decide))
            | (exfalso; omega)
            | skip
              refine c_skip ?_; refine hK39 _ _ ?_; clear hK39; refine c_cond_t H rfl h24 ?_; refine c_seq (fun _ hK43 => ?_); refine c_region ?_; refine s_assign H wn rfl rfl ?_; clear H; intro a H; refine wl_nil ?_; refine hK43 _ _ ?_; clear hK43; refine c_ret ?_; refine (leave1 H Tryd.results66 (.cons (rv_tmp H rfl) .nil) ?_).1
              exact H.hp.retL ⟨rfl, rfl, by clear H; unfold bndS; (repeat' split) <;> first | rfl | (exfalso; omega) | (exfalso; simp_all; done)⟩
          intro h24
          try have p24 := of_decide_eq_false h24
          first
          | (exfalso; omega)
          | (exact absurd h24 (by decide))
          | (exfalso; omega)
          | skip
            refine c_seq (fun _ hK44 => ?_); refine c_region ?_; refine s_move H wn rfl rfl ?_; clear H; intro a H; refine s_cmp H wn rfl rfl rfl rfl ?_; clear H; intro a H; refine s_assign H wn rfl rfl ?_; clear H; intro a H; refine wl_nil ?_; refine hK44 _ _ ?_; clear hK44; refine c_cond H rfl ?_ ?_
            · intro h24
              try have p24 := of_decide_eq_true h24
              first
              | (exfalso; omega)
              | (exact absurd h24 (by decide))
              | (exfalso; omega)
              | skip
                refine c_skip ?_; refine hK39 _ _ ?_; clear hK39; refine c_cond_t H rfl h24 ?_; refine c_seq (fun _ hK45 => ?_); refine c_region ?_; refine s_assign H wn rfl rfl ?_; clear H; intro a H; refine wl_nil ?_; refine hK45 _ _ ?_; clear hK45; refine c_ret ?_; refine (leave1 H Tryd.results66 (.cons (rv_tmp H rfl) .nil) ?_).1
                exact H.hp.retL ⟨rfl, rfl, by clear H; unfold bndS; (repeat' split) <;> first | rfl | (exfalso; omega) | (exfalso; simp_all; done)⟩
            intro h24
            try have p24 := of_decide_eq_false h24
            first
            | (exfalso; omega)
            | (exact absurd h24 (by decide))
            | (exfalso; omega)
            | skip
              refine c_seq (fun _ hK46 => ?_); refine c_region ?_; refine s_move H wn rfl rfl ?_; clear H; intro a H; refine s_cmp H wn rfl rfl rfl rfl ?_; clear H; intro a H; refine s_assign H wn rfl rfl ?_; clear H; intro a H; refine wl_nil ?_; refine hK46 _ _ ?_; clear hK46; refine c_cond H rfl ?_ ?_
              · intro h24
                try have p24 := of_decide_eq_true h24
                first
                | (exfalso; omega)
                | (exact absurd h24 (by decide))
                | (exfalso; omega)
                | skip
                  refine c_skip ?_; refine hK39 _ _ ?_; clear hK39; refine c_cond_t H rfl h24 ?_; refine c_seq (fun _ hK47 => ?_); refine c_region ?_; refine s_assign H wn rfl rfl ?_; clear H; intro a H; refine wl_nil ?_; refine hK47 _ _ ?_; clear hK47; refine c_ret ?_; refine (leave1 H Tryd.results66 (.cons (rv_tmp H rfl) .nil) ?_).1
                  exact H.hp.retL ⟨rfl, rfl, by clear H; unfold bndS; (repeat' split) <;> first | rfl | (exfalso; omega) | (exfalso; simp_all; done)⟩
              intro h24
              try have p24 := of_decide_eq_false h24
              first
              | (exfalso; omega)
              | (exact absurd h24 (by decide))
              | (exfalso; omega)
              | skip
                refine c_region ?_; refine s_move H wn rfl rfl ?_; clear H; intro a H; refine s_cmp H wn rfl rfl rfl rfl ?_; clear H; intro a H; refine s_assign H wn rfl rfl ?_; clear H; intro a H; refine wl_nil ?_; refine hK39 _ _ ?_; clear hK39; refine c_cond H rfl ?_ ?_
                · intro h24
                  try have p24 := of_decide_eq_true h24
                  first
                  | (exfalso; omega)
                  | (exact absurd h24 (by decide))
                  | (exfalso; omega)
                  | skip
                    refine c_seq (fun _ hK48 => ?_); refine c_region ?_; refine s_assign H wn rfl rfl ?_; clear H; intro a H; refine wl_nil ?_; refine hK48 _ _ ?_; clear hK48; refine c_ret ?_; refine (leave1 H Tryd.results66 (.cons (rv_tmp H rfl) .nil) ?_).1
                    exact H.hp.retL ⟨rfl, rfl, by clear H; unfold bndS; (repeat' split) <;> first | rfl | (exfalso; omega) | (exfalso; simp_all; done)⟩
                intro h24
                try have p24 := of_decide_eq_false h24
                first
                | (exfalso; omega)
                | (exact absurd h24 (by decide))
                | (exfalso; omega)
                | skip
                  refine c_seq (fun _ hK49 => ?_); refine c_region ?_; refine s_move H wn rfl rfl ?_; clear H; intro a H; refine s_cmp H wn rfl rfl rfl rfl ?_; clear H; intro a H; refine s_move H wn rfl rfl ?_; clear H; intro a H; refine s_split H 39 rfl ?_ ?_
                  · intro h39
                    try have p39 := of_decide_eq_true h39
                    first
                    | (exfalso; omega)
                    | (exact absurd h39 (by decide))
                    | (exfalso; omega)
                    | skip
                      refine s_move H (wg H rfl rfl h39) rfl rfl ?_; clear H; intro a H; refine s_cmp H (wg H rfl rfl h39) rfl rfl rfl rfl ?_; clear H; intro a H; refine s_pick_t H wn rfl h39 rfl rfl ?_; clear H; intro a H; refine s_move H wn rfl rfl ?_; clear H; intro a H; refine s_split H 43 rfl ?_ ?_
                      · intro h43
                        try have p43 := of_decide_eq_true h43
                        first
                        | (exfalso; omega)
                        | (exact absurd h43 (by decide))
                        | (exfalso; omega)
                        | skip
                          refine s_move H (wg H rfl rfl h43) rfl rfl ?_; clear H; intro a H; refine s_nilCheck H (wg H rfl rfl h43) rfl rfl ?_; clear H; intro a H; refine s_field fd131_2mac H (wg H rfl rfl h43) rfl rfl ?_; clear H; intro a H; refine s_load ty4mac H (wg H rfl rfl h43) rfl (H.hp.ocell 0 rfl rfl) rfl ?_; clear H; intro a H; refine s_pick_t H wn rfl h43 rfl rfl ?_; clear H; intro a H; refine s_assign H wn rfl rfl ?_; clear H; intro a H; refine wl_nil ?_; refine hK49 _ _ ?_; clear hK49; refine c_cond H rfl ?_ ?_
                          · intro h36
                            try have p36 := of_decide_eq_true h36
                            first
                            | (exfalso; omega)
                            | (exact absurd h36 (by decide))
                            | (exfalso; omega)
                            | skip
                              refine c_seq (fun _ hK50 => ?_); refine c_region ?_; refine s_assign H wn rfl rfl ?_; clear H; intro a H; refine wl_nil ?_; refine hK50 _ _ ?_; clear hK50; refine c_ret ?_; refine (leave1 H Tryd.results66 (.cons (rv_tmp H rfl) .nil) ?_).1
                              exact H.hp.retL ⟨rfl, rfl, by clear H; unfold bndS; (repeat' split) <;> first | rfl | (exfalso; omega) | (exfalso; simp_all; done)⟩
                          intro h36
                          try have p36 := of_decide_eq_false h36
                          first
                          | (exfalso; omega)
                          | (exact absurd h36 (by decide))
                          | (exfalso; omega)
                          | skip
                            refine c_seq (fun _ hK51 => ?_); refine c_region ?_; refine s_move H wn rfl rfl ?_; clear H; intro a H; refine s_cmp H wn rfl rfl rfl rfl ?_; clear H; intro a H; refine s_move H wn rfl rfl ?_; clear H; intro a H; refine s_split H 52 rfl ?_ ?_
                            · intro h52
                              try have p52 := of_decide_eq_true h52
                              first
                              | (exfalso; omega)
                              | (exact absurd h52 (by decide))
                              | (exfalso; omega)
                              | skip
                                refine s_move H (wg H rfl rfl h52) rfl rfl ?_; clear H; intro a H; refine s_cmp H (wg H rfl rfl h52) rfl rfl rfl rfl ?_; clear H; intro a H; refine s_pick_t H wn rfl h52 rfl rfl ?_; clear H; intro a H; refine s_move H wn rfl rfl ?_; clear H; intro a H; refine s_split H 56 rfl ?_ ?_
                                · intro h56
                                  try have p56 := of_decide_eq_true h56
                                  first
                                  | (exfalso; omega)
                                  | (exact absurd h56 (by decide))
                                  | (exfalso; omega)
                                  | skip
                                    refine s_move H (wg H rfl rfl h56) rfl rfl ?_; clear H; intro a H; refine s_nilCheck H (wg H rfl rfl h56) rfl rfl ?_; clear H; intro a H; refine s_field fd131_3mac H (wg H rfl rfl h56) rfl rfl ?_; clear H; intro a H; refine s_load ty3mac H (wg H rfl rfl h56) rfl (H.hp.ocell 0 rfl rfl) rfl ?_; clear H; intro a H; refine s_rem (m.regionals.tmod 2) H (wg H rfl rfl h56) rfl rfl (by decide) rfl rfl ?_; clear H; intro a H; refine s_cmp H (wg H rfl rfl h56) rfl rfl rfl rfl ?_; clear H; intro a H; refine s_pick_t H wn rfl h56 rfl rfl ?_; clear H; intro a H; refine s_assign H wn rfl rfl ?_; clear H; intro a H; refine wl_nil ?_; refine hK51 _ _ ?_; clear hK51; refine c_cond H rfl ?_ ?_
                                    · intro h49
                                      try have p49 := of_decide_eq_true h49
                                      first
                                      | (exfalso; omega)
                                      | (exact absurd h49 (by decide))
                                      | (exfalso; omega)
                                      | skip
                                        refine c_seq (fun _ hK52 => ?_); refine c_region ?_; refine s_assign H wn rfl rfl ?_; clear H; intro a H; refine wl_nil ?_; refine hK52 _ _ ?_; clear hK52; refine c_ret ?_; refine (leave1 H Tryd.results66 (.cons (rv_tmp H rfl) .nil) ?_).1
                                        exact H.hp.retL ⟨rfl, rfl, by clear H; unfold bndS; (repeat' split) <;> first | rfl | (exfalso; omega) | (exfalso; simp_all; done)⟩
                                    intro h49
                                    try have p49 := of_decide_eq_false h49
                                    first
                                    | (exfalso; omega)
                                    | (exact absurd h49 (by decide))
                                    | (exfalso; omega)
                                    | skip
                                      refine c_skip ?_; refine hK3 _ _ ?_; clear hK3; refine c_seq (fun _ hK53 => ?_); refine c_region ?_; refine s_assign H wn rfl rfl ?_; clear H; intro a H; refine wl_nil ?_; refine hK53 _ _ ?_; clear hK53; refine c_ret ?_; refine (leave1 H Tryd.results66 (.cons (rv_tmp H rfl) .nil) ?_).1
                                      exact H.hp.retL ⟨rfl, rfl, by clear H; unfold bndS; (repeat' split) <;> first | rfl | (exfalso; omega) | (exfalso; simp_all; done)⟩
                                intro h56
                                try have p56 := of_decide_eq_false h56
                                first
                                | (exfalso; omega)
                                | (exact absurd h56 (by decide))
                                | (exfalso; omega)
                                | skip
                                  (iterate 6 refine s_skip H rfl rfl h56 rfl ?_; clear H; intro a H); refine s_pick_f H wn rfl h56 rfl rfl ?_; clear H; intro a H; refine s_assign H wn rfl rfl ?_; clear H; intro a H; refine wl_nil ?_; refine hK51 _ _ ?_; clear hK51; refine c_cond_f H rfl rfl ?_; refine c_skip ?_; refine hK3 _ _ ?_; clear hK3; refine c_seq (fun _ hK54 => ?_); refine c_region ?_; refine s_assign H wn rfl rfl ?_; clear H; intro a H; refine wl_nil ?_; refine hK54 _ _ ?_; clear hK54; refine c_ret ?_; refine (leave1 H Tryd.results66 (.cons (rv_tmp H rfl) .nil) ?_).1
                                  exact H.hp.retL ⟨rfl, rfl, by clear H; unfold bndS; (repeat' split) <;> first | rfl | (exfalso; omega) | (exfalso; simp_all; done)⟩
                            intro h52
                            try have p52 := of_decide_eq_false h52
                            first
                            | (exfalso; omega)
                            | (exact absurd h52 (by decide))
                            | (exfalso; omega)
                            | skip
                              (iterate 2 refine s_skip H rfl rfl h52 rfl ?_; clear H; intro a H); refine s_pick_f H wn rfl h52 rfl rfl ?_; clear H; intro a H; refine s_move H wn rfl rfl ?_; clear H; intro a H; (iterate 6 refine s_skip H rfl rfl rfl rfl ?_; clear H; intro a H); refine s_pick_f H wn rfl rfl rfl rfl ?_; clear H; intro a H; refine s_assign H wn rfl rfl ?_; clear H; intro a H; refine wl_nil ?_; refine hK51 _ _ ?_; clear hK51; refine c_cond_f H rfl rfl ?_; refine c_skip ?_; refine hK3 _ _ ?_; clear hK3; refine c_seq (fun _ hK55 => ?_); refine c_region ?_; refine s_assign H wn rfl rfl ?_; clear H; intro a H; refine wl_nil ?_; refine hK55 _ _ ?_; clear hK55; refine c_ret ?_; refine (leave1 H Tryd.results66 (.cons (rv_tmp H rfl) .nil) ?_).1
                              exact H.hp.retL ⟨rfl, rfl, by clear H; unfold bndS; (repeat' split) <;> first | rfl | (exfalso; omega) | (exfalso; simp_all; done)⟩
                      intro h43
                      try have p43 := of_decide_eq_false h43
                      first
                      | (exfalso; omega)
                      | (exact absurd h43 (by decide))
                      | (exfalso; omega)
                      | skip
                        (iterate 4 refine s_skip H rfl rfl h43 rfl ?_; clear H; intro a H); refine s_pick_f H wn rfl h43 rfl rfl ?_; clear H; intro a H; refine s_assign H wn rfl rfl ?_; clear H; intro a H; refine wl_nil ?_; refine hK49 _ _ ?_; clear hK49; refine c_cond_f H rfl rfl ?_; refine c_seq (fun _ hK56 => ?_); refine c_region ?_; refine s_move H wn rfl rfl ?_; clear H; intro a H; refine s_cmp H wn rfl rfl rfl rfl ?_; clear H; intro a H; refine s_move H wn rfl rfl ?_; clear H; intro a H; refine s_split H 52 rfl ?_ ?_
                        · intro h52
                          try have p52 := of_decide_eq_true h52
                          first
                          | (exfalso; omega)
                          | (exact absurd h52 (by decide))
                          | (exfalso; omega)
                          | skip
                            refine s_move H (wg H rfl rfl h52) rfl rfl ?_; clear H; intro a H; refine s_cmp H (wg H rfl rfl h52) rfl rfl rfl rfl ?_; clear H; intro a H; refine s_pick_t H wn rfl h52 rfl rfl ?_; clear H; intro a H; refine s_move H wn rfl rfl ?_; clear H; intro a H; refine s_split H 56 rfl ?_ ?_
                            · intro h56
                              try have p56 := of_decide_eq_true h56
                              first
                              | (exfalso; omega)
                              | (exact absurd h56 (by decide))
                              | (exfalso; omega)
                              | skip
                                refine s_move H (wg H rfl rfl h56) rfl rfl ?_; clear H; intro a H; refine s_nilCheck H (wg H rfl rfl h56) rfl rfl ?_; clear H; intro a H; refine s_field fd131_3mac H (wg H rfl rfl h56) rfl rfl ?_; clear H; intro a H; refine s_load ty3mac H (wg H rfl rfl h56) rfl (H.hp.ocell 0 rfl rfl) rfl ?_; clear H; intro a H; refine s_rem (m.regionals.tmod 2) H (wg H rfl rfl h56) rfl rfl (by decide) rfl rfl ?_; clear H; intro a H; refine s_cmp H (wg H rfl rfl h56) rfl rfl rfl rfl ?_; clear H; intro a H; refine s_pick_t H wn rfl h56 rfl rfl ?_; clear H; intro a H; refine s_assign H wn rfl rfl ?_; clear H; intro a H; refine wl_nil ?_; refine hK56 _ _ ?_; clear hK56; refine c_cond H rfl ?_ ?_
                                · intro h49
                                  try have p49 := of_decide_eq_true h49
                                  first
                                  | (exfalso; omega)
                                  | (exact absurd h49 (by decide))
                                  | (exfalso; omega)
                                  | skip
                                    refine c_seq (fun _ hK57 => ?_); refine c_region ?_; refine s_assign H wn rfl rfl ?_; clear H; intro a H; refine wl_nil ?_; refine hK57 _ _ ?_; clear hK57; refine c_ret ?_; refine (leave1 H Tryd.results66 (.cons (rv_tmp H rfl) .nil) ?_).1
                                    exact H.hp.retL ⟨rfl, rfl, by clear H; unfold bndS; (repeat' split) <;> first | rfl | (exfalso; omega) | (exfalso; simp_all; done)⟩
                                intro h49
                                try have p49 := of_decide_eq_false h49
                                first
                                | (exfalso; omega)
                                | (exact absurd h49 (by decide))
                                | (exfalso; omega)
                                | skip
                                  refine c_skip ?_; refine hK3 _ _ ?_; clear hK3; refine c_seq (fun _ hK58 => ?_); refine c_region ?_; refine s_assign H wn rfl rfl ?_; clear H; intro a H; refine wl_nil ?_; refine hK58 _ _ ?_; clear hK58; refine c_ret ?_; refine (leave1 H Tryd.results66 (.cons (rv_tmp H rfl) .nil) ?_).1
                                  exact H.hp.retL ⟨rfl, rfl, by clear H; unfold bndS; (repeat' split) <;> first | rfl | (exfalso; omega) | (exfalso; simp_all; done)⟩
                            intro h56
                            try have p56 := of_decide_eq_false h56
                            first
                            | (exfalso; omega)
                            | (exact absurd h56 (by decide))
                            | (exfalso; omega)
                            | skip
                              (iterate 6 refine s_skip H rfl rfl h56 rfl ?_; clear H; intro a H); refine s_pick_f H wn rfl h56 rfl rfl ?_; clear H; intro a H; refine s_assign H wn rfl rfl ?_; clear H; intro a H; refine wl_nil ?_; refine hK56 _ _ ?_; clear hK56; refine c_cond_f H rfl rfl ?_; refine c_skip ?_; refine hK3 _ _ ?_; clear hK3; refine c_seq (fun _ hK59 => ?_); refine c_region ?_; refine s_assign H wn rfl rfl ?_; clear H; intro a H; refine wl_nil ?_; refine hK59 _ _ ?_; clear hK59; refine c_ret ?_; refine (leave1 H Tryd.results66 (.cons (rv_tmp H rfl) .nil) ?_).1
                              exact H.hp.retL ⟨rfl, rfl, by clear H; unfold bndS; (repeat' split) <;> first | rfl | (exfalso; omega) | (exfalso; simp_all; done)⟩
                        intro h52
                        try have p52 := of_decide_eq_false h52
                        first
                        | (exfalso; omega)
                        | (exact absurd h52 (by decide))
                        | (exfalso; omega)
                        | skip
                          (iterate 2 refine s_skip H rfl rfl h52 rfl ?_; clear H; intro a H); refine s_pick_f H wn rfl h52 rfl rfl ?_; clear H; intro a H; refine s_move H wn rfl rfl ?_; clear H; intro a H; (iterate 6 refine s_skip H rfl rfl rfl rfl ?_; clear H; intro a H); refine s_pick_f H wn rfl rfl rfl rfl ?_; clear H; intro a H; refine s_assign H wn rfl rfl ?_; clear H; intro a H; refine wl_nil ?_; refine hK56 _ _ ?_; clear hK56; refine c_cond_f H rfl rfl ?_; refine c_skip ?_; refine hK3 _ _ ?_; clear hK3; refine c_seq (fun _ hK60 => ?_); refine c_region ?_; refine s_assign H wn rfl rfl ?_; clear H; intro a H; refine wl_nil ?_; refine hK60 _ _ ?_; clear hK60; refine c_ret ?_; refine (leave1 H Tryd.results66 (.cons (rv_tmp H rfl) .nil) ?_).1
                          exact H.hp.retL ⟨rfl, rfl, by clear H; unfold bndS; (repeat' split) <;> first | rfl | (exfalso; omega) | (exfalso; simp_all; done)⟩
                  intro h39
                  try have p39 := of_decide_eq_false h39
                  first
                  | (exfalso; omega)
                  | (exact absurd h39 (by decide))
                  | (exfalso; omega)
                  | skip
                    (iterate 2 refine s_skip H rfl rfl h39 rfl ?_; clear H; intro a H); refine s_pick_f H wn rfl h39 rfl rfl ?_; clear H; intro a H; refine s_move H wn rfl rfl ?_; clear H; intro a H; (iterate 4 refine s_skip H rfl rfl rfl rfl ?_; clear H; intro a H); refine s_pick_f H wn rfl rfl rfl rfl ?_; clear H; intro a H; refine s_assign H wn rfl rfl ?_; clear H; intro a H; refine wl_nil ?_; refine hK49 _ _ ?_; clear hK49; refine c_cond_f H rfl rfl ?_; refine c_seq (fun _ hK61 => ?_); refine c_region ?_; refine s_move H wn rfl rfl ?_; clear H; intro a H; refine s_cmp H wn rfl rfl rfl rfl ?_; clear H; intro a H; refine s_move H wn rfl rfl ?_; clear H; intro a H; refine s_split H 52 rfl ?_ ?_
                    · intro h52
                      try have p52 := of_decide_eq_true h52
                      first
                      | (exfalso; omega)
                      | (exact absurd h52 (by decide))
                      | (exfalso; omega)
                      | skip
                        refine s_move H (wg H rfl rfl h52) rfl rfl ?_; clear H; intro a H; refine s_cmp H (wg H rfl rfl h52) rfl rfl rfl rfl ?_; clear H; intro a H; refine s_pick_t H wn rfl h52 rfl rfl ?_; clear H; intro a H; refine s_move H wn rfl rfl ?_; clear H; intro a H; refine s_split H 56 rfl ?_ ?_
                        · intro h56
                          try have p56 := of_decide_eq_true h56
                          first
                          | (exfalso; omega)
                          | (exact absurd h56 (by decide))
                          | (exfalso; omega)
                          | skip
                            refine s_move H (wg H rfl rfl h56) rfl rfl ?_; clear H; intro a H; refine s_nilCheck H (wg H rfl rfl h56) rfl rfl ?_; clear H; intro a H; refine s_field fd131_3mac H (wg H rfl rfl h56) rfl rfl ?_; clear H; intro a H; refine s_load ty3mac H (wg H rfl rfl h56) rfl (H.hp.ocell 0 rfl rfl) rfl ?_; clear H; intro a H; refine s_rem (m.regionals.tmod 2) H (wg H rfl rfl h56) rfl rfl (by decide) rfl rfl ?_; clear H; intro a H; refine s_cmp H (wg H rfl rfl h56) rfl rfl rfl rfl ?_; clear H; intro a H; refine s_pick_t H wn rfl h56 rfl rfl ?_; clear H; intro a H; refine s_assign H wn rfl rfl ?_; clear H; intro a H; refine wl_nil ?_; refine hK61 _ _ ?_; clear hK61; refine c_cond H rfl ?_ ?_
                            · intro h49
                              try have p49 := of_decide_eq_true h49
                              first
                              | (exfalso; omega)
                              | (exact absurd h49 (by decide))
                              | (exfalso; omega)
                              | skip
                                refine c_seq (fun _ hK62 => ?_); refine c_region ?_; refine s_assign H wn rfl rfl ?_; clear H; intro a H; refine wl_nil ?_; refine hK62 _ _ ?_; clear hK62; refine c_ret ?_; refine (leave1 H Tryd.results66 (.cons (rv_tmp H rfl) .nil) ?_).1
                                exact H.hp.retL ⟨rfl, rfl, by clear H; unfold bndS; (repeat' split) <;> first | rfl | (exfalso; omega) | (exfalso; simp_all; done)⟩
                            intro h49
                            try have p49 := of_decide_eq_false h49
                            first
                            | (exfalso; omega)
                            | (exact absurd h49 (by decide))
                            | (exfalso; omega)
                            | skip
                              refine c_skip ?_; refine hK3 _ _ ?_; clear hK3; refine c_seq (fun _ hK63 => ?_); refine c_region ?_; refine s_assign H wn rfl rfl ?_; clear H; intro a H; refine wl_nil ?_; refine hK63 _ _ ?_; clear hK63; refine c_ret ?_; refine (leave1 H Tryd.results66 (.cons (rv_tmp H rfl) .nil) ?_).1
                              exact H.hp.retL ⟨rfl, rfl, by clear H; unfold bndS; (repeat' split) <;> first | rfl | (exfalso; omega) | (exfalso; simp_all; done)⟩
                        intro h56
                        try have p56 := of_decide_eq_false h56
                        first
                        | (exfalso; omega)
                        | (exact absurd h56 (by decide))
                        | (exfalso; omega)
                        | skip
                          (iterate 6 refine s_skip H rfl rfl h56 rfl ?_; clear H; intro a H); refine s_pick_f H wn rfl h56 rfl rfl ?_; clear H; intro a H; refine s_assign H wn rfl rfl ?_; clear H; intro a H; refine wl_nil ?_; refine hK61 _ _ ?_; clear hK61; refine c_cond_f H rfl rfl ?_; refine c_skip ?_; refine hK3 _ _ ?_; clear hK3; refine c_seq (fun _ hK64 => ?_); refine c_region ?_; refine s_assign H wn rfl rfl ?_; clear H; intro a H; refine wl_nil ?_; refine hK64 _ _ ?_; clear hK64; refine c_ret ?_; refine (leave1 H Tryd.results66 (.cons (rv_tmp H rfl) .nil) ?_).1
                          exact H.hp.retL ⟨rfl, rfl, by clear H; unfold bndS; (repeat' split) <;> first | rfl | (exfalso; omega) | (exfalso; simp_all; done)⟩
                    intro h52
                    try have p52 := of_decide_eq_false h52
                    first
                    | (exfalso; omega)
                    | (exact absurd h52 (by decide))
                    | (exfalso; omega)
                    | skip
                      (iterate 2 refine s_skip H rfl rfl h52 rfl ?_; clear H; intro a H); refine s_pick_f H wn rfl h52 rfl rfl ?_; clear H; intro a H; refine s_move H wn rfl rfl ?_; clear H; intro a H; (iterate 6 refine s_skip H rfl rfl rfl rfl ?_; clear H; intro a H); refine s_pick_f H wn rfl rfl rfl rfl ?_; clear H; intro a H; refine s_assign H wn rfl rfl ?_; clear H; intro a H; refine wl_nil ?_; refine hK61 _ _ ?_; clear hK61; refine c_cond_f H rfl rfl ?_; refine c_skip ?_; refine hK3 _ _ ?_; clear hK3; refine c_seq (fun _ hK65 => ?_); refine c_region ?_; refine s_assign H wn rfl rfl ?_; clear H; intro a H; refine wl_nil ?_; refine hK65 _ _ ?_; clear hK65; refine c_ret ?_; refine (leave1 H Tryd.results66 (.cons (rv_tmp H rfl) .nil) ?_).1
                      exact H.hp.retL ⟨rfl, rfl, by clear H; unfold bndS; (repeat' split) <;> first | rfl | (exfalso; omega) | (exfalso; simp_all; done)⟩
theorem take_spec {G : GH} {w0 : World} {bm : Nat} (m : MacD) (c : Int) (hO : Owns G [bM bm m] w0) (hr : 0 ≤ m.regionals ∧ m.regionals ≤ 4294967296) :
    Calls Tryd.prog 67 #[.pointer (some ⟨bm, 0, none⟩), vi c] w0 (RetL w0 G [bM bm m] fun u G' L' => G = G' ∧ L' = [bM bm (takeS m c)]) := by
  refine enterL (N := 46) (T := [(0, _), (1, _)]) Tryd.func67 rfl Tryd.ntmps67 rfl rfl hO ?_; intro a H; refine c_seq (fun _ hK1 => ?_); refine c_region ?_; (iterate 2 refine s_move H wn rfl rfl ?_; clear H; intro a H); refine s_cmp H wn rfl rfl rfl rfl ?_; clear H; intro a H; refine s_move H wn rfl rfl ?_; clear H; intro a H; refine s_split H 7 rfl ?_ ?_
  · intro h7
    try have p7 := of_decide_eq_true h7
    first
    | (exfalso; omega)
    | (exact absurd h7 (by decide))
    | (exfalso; omega)
    | skip
      refine s_move H (wg H rfl rfl h7) rfl rfl ?_; clear H; intro a H; refine s_nilCheck H (wg H rfl rfl h7) rfl rfl ?_; clear H; intro a H; refine s_field fd131_1mac H (wg H rfl rfl h7) rfl rfl ?_; clear H; intro a H; refine s_load ty4mac H (wg H rfl rfl h7) rfl (H.hp.ocell 0 rfl rfl) rfl ?_; clear H; intro a H; refine s_pick_t H wn rfl h7 rfl rfl ?_; clear H; intro a H; refine s_nilCheck H wn rfl rfl ?_; clear H; intro a H; refine s_field fd131_2mac H wn rfl rfl ?_; clear H; intro a H; refine s_store ty4mac 0 (vs := [_]) _ H wn rfl rfl rfl rfl rfl rfl rfl rfl ?_; clear H; intro w H; dsimp only [List.set, setRow] at H; refine wl_nil ?_; refine hK1 _ _ ?_; clear hK1; refine c_seq (fun _ hK2 => ?_); refine c_region ?_; (iterate 2 refine s_move H wn rfl rfl ?_; clear H; intro a H); refine s_cmp H wn rfl rfl rfl rfl ?_; clear H; intro a H; refine s_move H wn rfl rfl ?_; clear H; intro a H; refine s_split H 18 rfl ?_ ?_
      · intro h18
        try have p18 := of_decide_eq_true h18
        first
        | (exfalso; omega)
        | (exact absurd h18 (by decide))
        | (exfalso; omega)
        | skip
          (iterate 3 refine s_skip H rfl rfl h18 rfl ?_; clear H; intro a H); (iterate 4 refine s_skipU H rfl rfl rfl ?_; clear H; intro a H); refine s_skip H rfl rfl h18 rfl ?_; clear H; intro a H; refine s_pick_t H wn rfl h18 rfl rfl ?_; clear H; intro a H; refine s_nilCheck H wn rfl rfl ?_; clear H; intro a H; refine s_field fd131_1mac H wn rfl rfl ?_; clear H; intro a H; refine s_store ty4mac 0 (vs := [_]) _ H wn rfl rfl rfl rfl rfl rfl rfl rfl ?_; clear H; intro w H; dsimp only [List.set, setRow] at H; refine wl_nil ?_; refine hK2 _ _ ?_; clear hK2; refine c_seq (fun _ hK3 => ?_); refine c_seq (fun _ hK4 => ?_); refine c_region ?_; refine s_move H wn rfl rfl ?_; clear H; intro a H; refine s_cmp H wn rfl rfl rfl rfl ?_; clear H; intro a H; refine wl_nil ?_; refine hK4 _ _ ?_; clear hK4; refine c_cond H rfl ?_ ?_
          · intro h31
            try have p31 := of_decide_eq_true h31
            first
            | (exfalso; omega)
            | (exact absurd h31 (by decide))
            | (exfalso; omega)
            | skip
              refine c_region ?_; refine s_move H wn rfl rfl ?_; clear H; intro a H; refine s_nilCheck H wn rfl rfl ?_; clear H; intro a H; refine s_field fd131_3mac H wn rfl rfl ?_; clear H; intro a H; refine s_load ty3mac H wn rfl (H.hp.ocell 0 rfl rfl) rfl ?_; clear H; intro a H; refine s_add _ H wn rfl rfl rfl (by omega) (by omega) rfl ?_; clear H; intro a H; refine s_nilCheck H wn rfl rfl ?_; clear H; intro a H; refine s_field fd131_3mac H wn rfl rfl ?_; clear H; intro a H; refine s_store ty3mac 0 (vs := [_]) _ H wn rfl rfl rfl rfl rfl rfl rfl rfl ?_; clear H; intro w H; dsimp only [List.set, setRow] at H; refine wl_nil ?_; refine hK3 _ _ ?_; clear hK3; refine c_region ?_; (iterate 2 refine s_move H wn rfl rfl ?_; clear H; intro a H); refine s_nilCheck H wn rfl rfl ?_; clear H; intro a H; refine s_field fd131_0mac H wn rfl rfl ?_; clear H; intro a H; refine s_store ty3mac 0 (vs := [_]) _ H wn rfl rfl rfl rfl rfl rfl rfl rfl ?_; clear H; intro w H; dsimp only [List.set, setRow] at H; refine wl_nil ?_; refine (leave0 H Tryd.results67 ?_).2; exact H.hp.retL ⟨rfl, by simp [takeS, *]⟩
          intro h31
          try have p31 := of_decide_eq_false h31
          first
          | (exfalso; omega)
          | (exact absurd h31 (by decide))
          | (exfalso; omega)
          | skip
            refine c_region ?_; refine s_move H wn rfl rfl ?_; clear H; intro a H; refine s_nilCheck H wn rfl rfl ?_; clear H; intro a H; refine s_field fd131_3mac H wn rfl rfl ?_; clear H; intro a H; refine s_store ty3mac 0 (vs := [_]) _ H wn rfl rfl rfl rfl rfl rfl rfl rfl ?_; clear H; intro w H; dsimp only [List.set, setRow] at H; refine wl_nil ?_; refine hK3 _ _ ?_; clear hK3; refine c_region ?_; (iterate 2 refine s_move H wn rfl rfl ?_; clear H; intro a H); refine s_nilCheck H wn rfl rfl ?_; clear H; intro a H; refine s_field fd131_0mac H wn rfl rfl ?_; clear H; intro a H; refine s_store ty3mac 0 (vs := [_]) _ H wn rfl rfl rfl rfl rfl rfl rfl rfl ?_; clear H; intro w H; dsimp only [List.set, setRow] at H; refine wl_nil ?_; refine (leave0 H Tryd.results67 ?_).2; exact H.hp.retL ⟨rfl, by simp [takeS, *]⟩
      intro h18
      try have p18 := of_decide_eq_false h18
      first
      | (exfalso; omega)
      | (exact absurd h18 (by decide))
      | (exfalso; omega)
      | skip
        refine s_move H (wg H rfl rfl h18) rfl rfl ?_; clear H; intro a H; refine s_cmp H (wg H rfl rfl h18) rfl rfl rfl rfl ?_; clear H; intro a H; refine s_move H (wg H rfl rfl h18) rfl rfl ?_; clear H; intro a H; refine s_split H 21 rfl ?_ ?_
        · intro h21
          try have p21 := of_decide_eq_true h21
          first
          | (exfalso; omega)
          | (exact absurd h21 (by decide))
          | (exfalso; omega)
          | skip
            refine s_move H (wg H rfl rfl h21) rfl rfl ?_; clear H; intro a H; refine s_nilCheck H (wg H rfl rfl h21) rfl rfl ?_; clear H; intro a H; refine s_field fd131_1mac H (wg H rfl rfl h21) rfl rfl ?_; clear H; intro a H; refine s_load ty4mac H (wg H rfl rfl h21) rfl (H.hp.ocell 0 rfl rfl) rfl ?_; clear H; intro a H; refine s_pick_t H (wg H rfl rfl h18) rfl h21 rfl rfl ?_; clear H; intro a H; refine s_pick_f H wn rfl h18 rfl rfl ?_; clear H; intro a H; refine s_nilCheck H wn rfl rfl ?_; clear H; intro a H; refine s_field fd131_1mac H wn rfl rfl ?_; clear H; intro a H; refine s_store ty4mac 0 (vs := [_]) _ H wn rfl rfl rfl rfl rfl rfl rfl rfl ?_; clear H; intro w H; dsimp only [List.set, setRow] at H; refine wl_nil ?_; refine hK2 _ _ ?_; clear hK2; refine c_seq (fun _ hK5 => ?_); refine c_seq (fun _ hK6 => ?_); refine c_region ?_; refine s_move H wn rfl rfl ?_; clear H; intro a H; refine s_cmp H wn rfl rfl rfl rfl ?_; clear H; intro a H; refine wl_nil ?_; refine hK6 _ _ ?_; clear hK6; refine c_cond H rfl ?_ ?_
            · intro h31
              try have p31 := of_decide_eq_true h31
              first
              | (exfalso; omega)
              | (exact absurd h31 (by decide))
              | (exfalso; omega)
              | skip
                refine c_region ?_; refine s_move H wn rfl rfl ?_; clear H; intro a H; refine s_nilCheck H wn rfl rfl ?_; clear H; intro a H; refine s_field fd131_3mac H wn rfl rfl ?_; clear H; intro a H; refine s_load ty3mac H wn rfl (H.hp.ocell 0 rfl rfl) rfl ?_; clear H; intro a H; refine s_add _ H wn rfl rfl rfl (by omega) (by omega) rfl ?_; clear H; intro a H; refine s_nilCheck H wn rfl rfl ?_; clear H; intro a H; refine s_field fd131_3mac H wn rfl rfl ?_; clear H; intro a H; refine s_store ty3mac 0 (vs := [_]) _ H wn rfl rfl rfl rfl rfl rfl rfl rfl ?_; clear H; intro w H; dsimp only [List.set, setRow] at H; refine wl_nil ?_; refine hK5 _ _ ?_; clear hK5; refine c_region ?_; (iterate 2 refine s_move H wn rfl rfl ?_; clear H; intro a H); refine s_nilCheck H wn rfl rfl ?_; clear H; intro a H; refine s_field fd131_0mac H wn rfl rfl ?_; clear H; intro a H; refine s_store ty3mac 0 (vs := [_]) _ H wn rfl rfl rfl rfl rfl rfl rfl rfl ?_; clear H; intro w H; dsimp only [List.set, setRow] at H; refine wl_nil ?_; refine (leave0 H Tryd.results67 ?_).2; exact H.hp.retL ⟨rfl, by simp [takeS, *]⟩
            intro h31
            try have p31 := of_decide_eq_false h31
            first
            | (exfalso; omega)
            | (exact absurd h31 (by decide))
            | (exfalso; omega)
            | skip
              refine c_region ?_; refine s_move H wn rfl rfl ?_; clear H; intro a H; refine s_nilCheck H wn rfl rfl ?_; clear H; intro a H; refine s_field fd131_3mac H wn rfl rfl ?_; clear H; intro a H; refine s_store ty3mac 0 (vs := [_]) _ H wn rfl rfl rfl rfl rfl rfl rfl rfl ?_; clear H; intro w H; dsimp only [List.set, setRow] at H; refine wl_nil ?_; refine hK5 _ _ ?_; clear hK5; refine c_region ?_; (iterate 2 refine s_move H wn rfl rfl ?_; clear H; intro a H); refine s_nilCheck H wn rfl rfl ?_; clear H; intro a H; refine s_field fd131_0mac H wn rfl rfl ?_; clear H; intro a H; refine s_store ty3mac 0 (vs := [_]) _ H wn rfl rfl rfl rfl rfl rfl rfl rfl ?_; clear H; intro w H; dsimp only [List.set, setRow] at H; refine wl_nil ?_; refine (leave0 H Tryd.results67 ?_).2; exact H.hp.retL ⟨rfl, by simp [takeS, *]⟩
        intro h21
        try have p21 := of_decide_eq_false h21
        first
        | (exfalso; omega)
        | (exact absurd h21 (by decide))
        | (exfalso; omega)
        | skip
          (iterate 4 refine s_skip H rfl rfl h21 rfl ?_; clear H; intro a H); refine s_pick_f H (wg H rfl rfl h18) rfl h21 rfl rfl ?_; clear H; intro a H; refine s_pick_f H wn rfl h18 rfl rfl ?_; clear H; intro a H; refine s_nilCheck H wn rfl rfl ?_; clear H; intro a H; refine s_field fd131_1mac H wn rfl rfl ?_; clear H; intro a H; refine s_store ty4mac 0 (vs := [_]) _ H wn rfl rfl rfl rfl rfl rfl rfl rfl ?_; clear H; intro w H; dsimp only [List.set, setRow] at H; refine wl_nil ?_; refine hK2 _ _ ?_; clear hK2; refine c_seq (fun _ hK7 => ?_); refine c_seq (fun _ hK8 => ?_); refine c_region ?_; refine s_move H wn rfl rfl ?_; clear H; intro a H; refine s_cmp H wn rfl rfl rfl rfl ?_; clear H; intro a H; refine wl_nil ?_; refine hK8 _ _ ?_; clear hK8; refine c_cond H rfl ?_ ?_
          · intro h31
            try have p31 := of_decide_eq_true h31
            first
            | (exfalso; omega)
            | (exact absurd h31 (by decide))
            | (exfalso; omega)
            | skip
              refine c_region ?_; refine s_move H wn rfl rfl ?_; clear H; intro a H; refine s_nilCheck H wn rfl rfl ?_; clear H; intro a H; refine s_field fd131_3mac H wn rfl rfl ?_; clear H; intro a H; refine s_load ty3mac H wn rfl (H.hp.ocell 0 rfl rfl) rfl ?_; clear H; intro a H; refine s_add _ H wn rfl rfl rfl (by omega) (by omega) rfl ?_; clear H; intro a H; refine s_nilCheck H wn rfl rfl ?_; clear H; intro a H; refine s_field fd131_3mac H wn rfl rfl ?_; clear H; intro a H; refine s_store ty3mac 0 (vs := [_]) _ H wn rfl rfl rfl rfl rfl rfl rfl rfl ?_; clear H; intro w H; dsimp only [List.set, setRow] at H; refine wl_nil ?_; refine hK7 _ _ ?_; clear hK7; refine c_region ?_; (iterate 2 refine s_move H wn rfl rfl ?_; clear H; intro a H); refine s_nilCheck H wn rfl rfl ?_; clear H; intro a H; refine s_field fd131_0mac H wn rfl rfl ?_; clear H; intro a H; refine s_store ty3mac 0 (vs := [_]) _ H wn rfl rfl rfl rfl rfl rfl rfl rfl ?_; clear H; intro w H; dsimp only [List.set, setRow] at H; refine wl_nil ?_; refine (leave0 H Tryd.results67 ?_).2; exact H.hp.retL ⟨rfl, by simp [takeS, *]⟩
          intro h31
          try have p31 := of_decide_eq_false h31
          first
          | (exfalso; omega)
          | (exact absurd h31 (by decide))
          | (exfalso; omega)
          | skip
            refine c_region ?_; refine s_move H wn rfl rfl ?_; clear H; intro a H; refine s_nilCheck H wn rfl rfl ?_; clear H; intro a H; refine s_field fd131_3mac H wn rfl rfl ?_; clear H; intro a H; refine s_store ty3mac 0 (vs := [_]) _ H wn rfl rfl rfl rfl rfl rfl rfl rfl ?_; clear H; intro w H; dsimp only [List.set, setRow] at H; refine wl_nil ?_; refine hK7 _ _ ?_; clear hK7; refine c_region ?_; (iterate 2 refine s_move H wn rfl rfl ?_; clear H; intro a H); refine s_nilCheck H wn rfl rfl ?_; clear H; intro a H; refine s_field fd131_0mac H wn rfl rfl ?_; clear H; intro a H; refine s_store ty3mac 0 (vs := [_]) _ H wn rfl rfl rfl rfl rfl rfl rfl rfl ?_; clear H; intro w H; dsimp only [List.set, setRow] at H; refine wl_nil ?_; refine (leave0 H Tryd.results67 ?_).2; exact H.hp.retL ⟨rfl, by simp [takeS, *]⟩
  intro h7
  try have p7 := of_decide_eq_false h7
  first
  | (exfalso; omega)
  | (exact absurd h7 (by decide))
  | (exfalso; omega)
  | skip
    (iterate 4 refine s_skip H rfl rfl h7 rfl ?_; clear H; intro a H); refine s_pick_f H wn rfl h7 rfl rfl ?_; clear H; intro a H; refine s_nilCheck H wn rfl rfl ?_; clear H; intro a H; refine s_field fd131_2mac H wn rfl rfl ?_; clear H; intro a H; refine s_store ty4mac 0 (vs := [_]) _ H wn rfl rfl rfl rfl rfl rfl rfl rfl ?_; clear H; intro w H; dsimp only [List.set, setRow] at H; refine wl_nil ?_; refine hK1 _ _ ?_; clear hK1; refine c_seq (fun _ hK9 => ?_); refine c_region ?_; (iterate 2 refine s_move H wn rfl rfl ?_; clear H; intro a H); refine s_cmp H wn rfl rfl rfl rfl ?_; clear H; intro a H; refine s_move H wn rfl rfl ?_; clear H; intro a H; refine s_split H 18 rfl ?_ ?_
    · intro h18
      try have p18 := of_decide_eq_true h18
      first
      | (exfalso; omega)
      | (exact absurd h18 (by decide))
      | (exfalso; omega)
      | skip
        (iterate 3 refine s_skip H rfl rfl h18 rfl ?_; clear H; intro a H); (iterate 4 refine s_skipU H rfl rfl rfl ?_; clear H; intro a H); refine s_skip H rfl rfl h18 rfl ?_; clear H; intro a H; refine s_pick_t H wn rfl h18 rfl rfl ?_; clear H; intro a H; refine s_nilCheck H wn rfl rfl ?_; clear H; intro a H; refine s_field fd131_1mac H wn rfl rfl ?_; clear H; intro a H; refine s_store ty4mac 0 (vs := [_]) _ H wn rfl rfl rfl rfl rfl rfl rfl rfl ?_; clear H; intro w H; dsimp only [List.set, setRow] at H; refine wl_nil ?_; refine hK9 _ _ ?_; clear hK9; refine c_seq (fun _ hK10 => ?_); refine c_seq (fun _ hK11 => ?_); refine c_region ?_; refine s_move H wn rfl rfl ?_; clear H; intro a H; refine s_cmp H wn rfl rfl rfl rfl ?_; clear H; intro a H; refine wl_nil ?_; refine hK11 _ _ ?_; clear hK11; refine c_cond H rfl ?_ ?_
        · intro h31
          try have p31 := of_decide_eq_true h31
          first
          | (exfalso; omega)
          | (exact absurd h31 (by decide))
          | (exfalso; omega)
          | skip
            refine c_region ?_; refine s_move H wn rfl rfl ?_; clear H; intro a H; refine s_nilCheck H wn rfl rfl ?_; clear H; intro a H; refine s_field fd131_3mac H wn rfl rfl ?_; clear H; intro a H; refine s_load ty3mac H wn rfl (H.hp.ocell 0 rfl rfl) rfl ?_; clear H; intro a H; refine s_add _ H wn rfl rfl rfl (by omega) (by omega) rfl ?_; clear H; intro a H; refine s_nilCheck H wn rfl rfl ?_; clear H; intro a H; refine s_field fd131_3mac H wn rfl rfl ?_; clear H; intro a H; refine s_store ty3mac 0 (vs := [_]) _ H wn rfl rfl rfl rfl rfl rfl rfl rfl ?_; clear H; intro w H; dsimp only [List.set, setRow] at H; refine wl_nil ?_; refine hK10 _ _ ?_; clear hK10; refine c_region ?_; (iterate 2 refine s_move H wn rfl rfl ?_; clear H; intro a H); refine s_nilCheck H wn rfl rfl ?_; clear H; intro a H; refine s_field fd131_0mac H wn rfl rfl ?_; clear H; intro a H; refine s_store ty3mac 0 (vs := [_]) _ H wn rfl rfl rfl rfl rfl rfl rfl rfl ?_; clear H; intro w H; dsimp only [List.set, setRow] at H; refine wl_nil ?_; refine (leave0 H Tryd.results67 ?_).2; exact H.hp.retL ⟨rfl, by simp [takeS, *]⟩
        intro h31
        try have p31 := of_decide_eq_false h31
        first
        | (exfalso; omega)
        | (exact absurd h31 (by decide))
        | (exfalso; omega)
        | skip
          refine c_region ?_; refine s_move H wn rfl rfl ?_; clear H; intro a H; refine s_nilCheck H wn rfl rfl ?_; clear H; intro a H; refine s_field fd131_3mac H wn rfl rfl ?_; clear H; intro a H; refine s_store ty3mac 0 (vs := [_]) _ H wn rfl rfl rfl rfl rfl rfl rfl rfl ?_; clear H; intro w H; dsimp only [List.set, setRow] at H; refine wl_nil ?_; refine hK10 _ _ ?_; clear hK10; refine c_region ?_; (iterate 2 refine s_move H wn rfl rfl ?_; clear H; intro a H); refine s_nilCheck H wn rfl rfl ?_; clear H; intro a H; refine s_field fd131_0mac H wn rfl rfl ?_; clear H; intro a H; refine s_store ty3mac 0 (vs := [_]) _ H wn rfl rfl rfl rfl rfl rfl rfl rfl ?_; clear H; intro w H; dsimp only [List.set, setRow] at H; refine wl_nil ?_; refine (leave0 H Tryd.results67 ?_).2; exact H.hp.retL ⟨rfl, by simp [takeS, *]⟩
    intro h18
    try have p18 := of_decide_eq_false h18
    first
    | (exfalso; omega)
    | (exact absurd h18 (by decide))
    | (exfalso; omega)
    | skip
      refine s_move H (wg H rfl rfl h18) rfl rfl ?_; clear H; intro a H; refine s_cmp H (wg H rfl rfl h18) rfl rfl rfl rfl ?_; clear H; intro a H; refine s_move H (wg H rfl rfl h18) rfl rfl ?_; clear H; intro a H; refine s_split H 21 rfl ?_ ?_
      · intro h21
        try have p21 := of_decide_eq_true h21
        first
        | (exfalso; omega)
        | (exact absurd h21 (by decide))
        | (exfalso; omega)
        | skip
          refine s_move H (wg H rfl rfl h21) rfl rfl ?_; clear H; intro a H; refine s_nilCheck H (wg H rfl rfl h21) rfl rfl ?_; clear H; intro a H; refine s_field fd131_1mac H (wg H rfl rfl h21) rfl rfl ?_; clear H; intro a H; refine s_load ty4mac H (wg H rfl rfl h21) rfl (H.hp.ocell 0 rfl rfl) rfl ?_; clear H; intro a H; refine s_pick_t H (wg H rfl rfl h18) rfl h21 rfl rfl ?_; clear H; intro a H; refine s_pick_f H wn rfl h18 rfl rfl ?_; clear H; intro a H; refine s_nilCheck H wn rfl rfl ?_; clear H; intro a H; refine s_field fd131_1mac H wn rfl rfl ?_; clear H; intro a H; refine s_store ty4mac 0 (vs := [_]) _ H wn rfl rfl rfl rfl rfl rfl rfl rfl ?_; clear H; intro w H; dsimp only [List.set, setRow] at H; refine wl_nil ?_; refine hK9 _ _ ?_; clear hK9; refine c_seq (fun _ hK12 => ?_); refine c_seq (fun _ hK13 => ?_); refine c_region ?_; refine s_move H wn rfl rfl ?_; clear H; intro a H; refine s_cmp H wn rfl rfl rfl rfl ?_; clear H; intro a H; refine wl_nil ?_; refine hK13 _ _ ?_; clear hK13; refine c_cond H rfl ?_ ?_
          · intro h31
            try have p31 := of_decide_eq_true h31
            first
            | (exfalso; omega)
            | (exact absurd h31 (by decide))
            | (exfalso; omega)
            | skip
              refine c_region ?_; refine s_move H wn rfl rfl ?_; clear H; intro a H; refine s_nilCheck H wn rfl rfl ?_; clear H; intro a H; refine s_field fd131_3mac H wn rfl rfl ?_; clear H; intro a H; refine s_load ty3mac H wn rfl (H.hp.ocell 0 rfl rfl) rfl ?_; clear H; intro a H; refine s_add _ H wn rfl rfl rfl (by omega) (by omega) rfl ?_; clear H; intro a H; refine s_nilCheck H wn rfl rfl ?_; clear H; intro a H; refine s_field fd131_3mac H wn rfl rfl ?_; clear H; intro a H; refine s_store ty3mac 0 (vs := [_]) _ H wn rfl rfl rfl rfl rfl rfl rfl rfl ?_; clear H; intro w H; dsimp only [List.set, setRow] at H; refine wl_nil ?_; refine hK12 _ _ ?_; clear hK12; refine c_region ?_; (iterate 2 refine s_move H wn rfl rfl ?_; clear H; intro a H); refine s_nilCheck H wn rfl rfl ?_; clear H; intro a H; refine s_field fd131_0mac H wn rfl rfl ?_; clear H; intro a H; refine s_store ty3mac 0 (vs := [_]) _ H wn rfl rfl rfl rfl rfl rfl rfl rfl ?_; clear H; intro w H; dsimp only [List.set, setRow] at H; refine wl_nil ?_; refine (leave0 H Tryd.results67 ?_).2; exact H.hp.retL ⟨rfl, by simp [takeS, *]⟩
          intro h31
          try have p31 := of_decide_eq_false h31
          first
          | (exfalso; omega)
          | (exact absurd h31 (by decide))
          | (exfalso; omega)
          | skip
            refine c_region ?_; refine s_move H wn rfl rfl ?_; clear H; intro a H; refine s_nilCheck H wn rfl rfl ?_; clear H; intro a H; refine s_field fd131_3mac H wn rfl rfl ?_; clear H; intro a H; refine s_store ty3mac 0 (vs := [_]) _ H wn rfl rfl rfl rfl rfl rfl rfl rfl ?_; clear H; intro w H; dsimp only [List.set, setRow] at H; refine wl_nil ?_; refine hK12 _ _ ?_; clear hK12; refine c_region ?_; (iterate 2 refine s_move H wn rfl rfl ?_; clear H; intro a H); refine s_nilCheck H wn rfl rfl ?_; clear H; intro a H; refine s_field fd131_0mac H wn rfl rfl ?_; clear H; intro a H; refine s_store ty3mac 0 (vs := [_]) _ H wn rfl rfl rfl rfl rfl rfl rfl rfl ?_; clear H; intro w H; dsimp only [List.set, setRow] at H; refine wl_nil ?_; refine (leave0 H Tryd.results67 ?_).2; exact H.hp.retL ⟨rfl, by simp [takeS, *]⟩
      intro h21
      try have p21 := of_decide_eq_false h21
      first
      | (exfalso; omega)
      | (exact absurd h21 (by decide))
      | (exfalso; omega)
      | skip
        (iterate 4 refine s_skip H rfl rfl h21 rfl ?_; clear H; intro a H); refine s_pick_f H (wg H rfl rfl h18) rfl h21 rfl rfl ?_; clear H; intro a H; refine s_pick_f H wn rfl h18 rfl rfl ?_; clear H; intro a H; refine s_nilCheck H wn rfl rfl ?_; clear H; intro a H; refine s_field fd131_1mac H wn rfl rfl ?_; clear H; intro a H; refine s_store ty4mac 0 (vs := [_]) _ H wn rfl rfl rfl rfl rfl rfl rfl rfl ?_; clear H; intro w H; dsimp only [List.set, setRow] at H; refine wl_nil ?_; refine hK9 _ _ ?_; clear hK9; refine c_seq (fun _ hK14 => ?_); refine c_seq (fun _ hK15 => ?_); refine c_region ?_; refine s_move H wn rfl rfl ?_; clear H; intro a H; refine s_cmp H wn rfl rfl rfl rfl ?_; clear H; intro a H; refine wl_nil ?_; refine hK15 _ _ ?_; clear hK15; refine c_cond H rfl ?_ ?_
        · intro h31
          try have p31 := of_decide_eq_true h31
          first
          | (exfalso; omega)
          | (exact absurd h31 (by decide))
          | (exfalso; omega)
          | skip
            refine c_region ?_; refine s_move H wn rfl rfl ?_; clear H; intro a H; refine s_nilCheck H wn rfl rfl ?_; clear H; intro a H; refine s_field fd131_3mac H wn rfl rfl ?_; clear H; intro a H; refine s_load ty3mac H wn rfl (H.hp.ocell 0 rfl rfl) rfl ?_; clear H; intro a H; refine s_add _ H wn rfl rfl rfl (by omega) (by omega) rfl ?_; clear H; intro a H; refine s_nilCheck H wn rfl rfl ?_; clear H; intro a H; refine s_field fd131_3mac H wn rfl rfl ?_; clear H; intro a H; refine s_store ty3mac 0 (vs := [_]) _ H wn rfl rfl rfl rfl rfl rfl rfl rfl ?_; clear H; intro w H; dsimp only [List.set, setRow] at H; refine wl_nil ?_; refine hK14 _ _ ?_; clear hK14; refine c_region ?_; (iterate 2 refine s_move H wn rfl rfl ?_; clear H; intro a H); refine s_nilCheck H wn rfl rfl ?_; clear H; intro a H; refine s_field fd131_0mac H wn rfl rfl ?_; clear H; intro a H; refine s_store ty3mac 0 (vs := [_]) _ H wn rfl rfl rfl rfl rfl rfl rfl rfl ?_; clear H; intro w H; dsimp only [List.set, setRow] at H; refine wl_nil ?_; refine (leave0 H Tryd.results67 ?_).2; exact H.hp.retL ⟨rfl, by simp [takeS, *]⟩
        intro h31
        try have p31 := of_decide_eq_false h31
        first
        | (exfalso; omega)
        | (exact absurd h31 (by decide))
        | (exfalso; omega)
        | skip
          refine c_region ?_; refine s_move H wn rfl rfl ?_; clear H; intro a H; refine s_nilCheck H wn rfl rfl ?_; clear H; intro a H; refine s_field fd131_3mac H wn rfl rfl ?_; clear H; intro a H; refine s_store ty3mac 0 (vs := [_]) _ H wn rfl rfl rfl rfl rfl rfl rfl rfl ?_; clear H; intro w H; dsimp only [List.set, setRow] at H; refine wl_nil ?_; refine hK14 _ _ ?_; clear hK14; refine c_region ?_; (iterate 2 refine s_move H wn rfl rfl ?_; clear H; intro a H); refine s_nilCheck H wn rfl rfl ?_; clear H; intro a H; refine s_field fd131_0mac H wn rfl rfl ?_; clear H; intro a H; refine s_store ty3mac 0 (vs := [_]) _ H wn rfl rfl rfl rfl rfl rfl rfl rfl ?_; clear H; intro w H; dsimp only [List.set, setRow] at H; refine wl_nil ?_; refine (leave0 H Tryd.results67 ?_).2; exact H.hp.retL ⟨rfl, by simp [takeS, *]⟩
end Go.Proofs.YtpmcdlhhfbobfaaDoor
