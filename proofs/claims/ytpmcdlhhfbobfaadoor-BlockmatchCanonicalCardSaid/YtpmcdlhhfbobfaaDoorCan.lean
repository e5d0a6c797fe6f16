/-
  Package obeluslaw31: BlockmatchCanonical.
-/
import Derived.Test.YtpmcdlhhfbobfaaDoorMb
namespace Go.Proofs.YtpmcdlhhfbobfaaDoor
open Go.RowKit
theorem en11can : ∀ args w, (callFunc 11 args).run Tryd.prog w = .ok (.enter 11 args) w := enters Tryd.func11 rfl (by kernel_rfl)
theorem un23can : Tryd.prog.underlying 23 = some (.slice 32) := by kernel_rfl
theorem ty32can : Ty Tryd.prog 32 1 24 [.slice none 0 0] false := ⟨by kernel_rfl, by kernel_rfl⟩
theorem en10can : ∀ args w, (callFunc 10 args).run Tryd.prog w = .ok (.enter 10 args) w := enters Tryd.func10 rfl (by kernel_rfl)
theorem en14can : ∀ args w, (callFunc 14 args).run Tryd.prog w = .ok (.enter 14 args) w := enters Tryd.func14 rfl (by kernel_rfl)
theorem en16can : ∀ args w, (callFunc 16 args).run Tryd.prog w = .ok (.enter 16 args) w := enters Tryd.func16 rfl (by kernel_rfl)
theorem en15can : ∀ args w, (callFunc 15 args).run Tryd.prog w = .ok (.enter 15 args) w := enters Tryd.func15 rfl (by kernel_rfl)
theorem un32can : Tryd.prog.underlying 32 = some (.slice 3) := by kernel_rfl
theorem un25can : Tryd.prog.underlying 25 = some (.slice 31) := by kernel_rfl
theorem fstErr_zero : ∀ {l : List Int}, fstErr l = 0 → ∀ e ∈ l, e = 0
  | [], _, e, h => by cases h
  | x :: l, h, e, he => by
    rw [fstErr] at h
    split at h
    · rename_i hx
      rcases List.mem_cons.1 he with rfl | he
      · exact hx
      exact fstErr_zero h e he
    exact absurd h (by assumption)
theorem chk_tab {S : List (List Int)} (h : chkS S = 0) : TabOk S (S.headD []).length := by
  rw [chkS] at h
  split at h
  · exact absurd h (by decide)
  rename_i hl
  have hr : ∀ r ∈ S, ¬ 1024 < r.length ∧ r.length = (S.headD []).length ∧ r.all okN = true := by
    intro r hr; have h0 := fstErr_zero h _ (List.mem_map.2 ⟨r, hr, rfl⟩); rw [rowChk] at h0
    split at h0
    · exact absurd h0 (by decide)
    split at h0
    · exact absurd h0 (by decide)
    rename_i h1 h2
    split at h0
    · rename_i h3; exact ⟨h1, Decidable.not_not.1 h2, h3⟩
    exact absurd h0 (by decide)
  refine ⟨fun r h => (hr r h).2.1, ⟨by omega, ?_⟩, fun i k hi hk => ?_⟩
  · cases S with
    | nil => exact Nat.zero_le _
    | cons r S => have := hr r (List.mem_cons_self ..); rw [List.headD_cons]; omega
  have hx := hr _ (List.getElem_mem hi)
  have hk2 : k < S[i].length := by omega
  rw [sAt_eq hi hk2]; have h3 := List.all_eq_true.1 hx.2.2 _ (List.getElem_mem hk2)
  simpa [okN] using h3
set_option maxHeartbeats 1000000 in
theorem canonical_true (G : GH) (w0 : World) (hG : Hold G w0) (S : List (List Int)) (v : Value) (hv : RepV G (.sl 1 (S.map rowDat)) v) :
    Calls Tryd.prog 4 #[v] w0 (Ret w0 G fun u G' => u = .bool true) := by
  obtain ⟨A, c, rfl, hc1, hc2, -⟩ := hv.slice; have hml : maxLen = 9223372036854775807 := rfl; rw [List.length_map] at *; refine enter (N := 52) (T := [(0, _)]) (F := fun k => k < w0.heap.size) (L := []) Tryd.func4 rfl Tryd.ntmps4 rfl rfl hG (fun _ h => h) (fun _ h => by cases h) (fun _ h => by cases h) (fun _ h => by cases h) List.Pairwise.nil ?_; intro a H; refine c_seq (fun _ hK1 => ?_); refine c_region ?_; refine s_assign H wn rfl rfl ?_; clear H; intro a H; refine wl_nil ?_; refine hK1 _ _ ?_; clear hK1; refine c_seq (fun _ hK2 => ?_); refine c_seq (fun _ hK3 => ?_); refine c_region ?_; refine s_call en11can H wn rfl (known_spec _ _ H.hp.ro) rfl ?_; clear H; rintro v7 G7 a w rfl hm7 H; refine s_not H wn rfl rfl ?_; clear H; intro a H; refine s_move H wn rfl rfl ?_; clear H; intro a H; refine s_split H 9 rfl ?_ ?_
  · intro h9
    try have p9 := of_decide_eq_true h9
    exact absurd h9 (by decide)
  intro h9
  try have p9 := of_decide_eq_false h9
  refine s_move H (wg H rfl rfl h9) rfl rfl ?_; clear H; intro a H; refine s_len un23can H (wg H rfl rfl h9) rfl rfl ?_; clear H; intro a H; refine s_cmp H (wg H rfl rfl h9) rfl rfl rfl rfl ?_; clear H; intro a H; refine s_pick_f H wn rfl h9 rfl rfl ?_; clear H; intro a H; refine wl_nil ?_; refine hK3 _ _ ?_; clear hK3; refine c_cond H rfl ?_ ?_
  · intro h13
    try have p13 := of_decide_eq_true h13
    refine c_seq (fun _ hK4 => ?_); refine c_region ?_; refine s_call en11can H wn rfl (known_spec _ _ H.hp.ro) rfl ?_; clear H; rintro v14 G14 a w rfl hm14 H; refine s_assign H wn rfl rfl ?_; clear H; intro a H; refine wl_nil ?_; refine hK4 _ _ ?_; clear hK4; refine c_ret ?_; refine (leave1 H Tryd.results4 (.cons (rv_tmp H rfl) .nil) ?_).1; exact H.hp.ret rfl
  intro h13
  try have p13 := of_decide_eq_false h13
  refine c_skip ?_; refine hK2 _ _ ?_; clear hK2; refine c_seq (fun _ hK5 => ?_); refine c_seq (fun _ hK6 => ?_); refine c_region ?_; refine s_assign H wn rfl rfl ?_; clear H; intro a H; refine wl_nil ?_; refine hK6 _ _ ?_; clear hK6; refine c_block ?_; skip; refine c_loopS (ι := Nat) (Tc := [(0, _)]) (Lc := []) (fun (gh : Nat) => [(3, vi gh)]) (fun (gh : Nat) => []) (fun (gh : Nat) => G7) (fun (gh : Nat) => gh ≤ S.length) (fun (gh : Nat) => S.length - gh) (0) (by exact (H).sub ⟨rfl, rfl, trivial⟩) ?_ ?_
  · exact Nat.zero_le _
  clear H; intro gh a w hI H; obtain ⟨i, hgh⟩ : ∃ x, x = gh := ⟨_, rfl⟩; subst hgh; have hi := hI; dsimp only [List.cons_append, List.nil_append, List.append_nil] at H; refine c_seq (fun _ hK7 => ?_); refine c_seq (fun _ hK8 => ?_); refine c_region ?_; (iterate 2 refine s_move H wn rfl rfl ?_; clear H; intro a H); refine s_len un23can H wn rfl rfl ?_; clear H; intro a H; refine s_cmp H wn rfl rfl rfl rfl ?_; clear H; intro a H; refine wl_nil ?_; refine hK8 _ _ ?_; clear hK8; refine c_cond H rfl ?_ ?_
  · intro h18
    try have p18 := of_decide_eq_true h18
    have hi1 : i < S.length := by omega
    obtain ⟨b, o, bA, bc, rfl, g1, g2⟩ := mat_row (hv.mono hm7) hi1; refine c_skip ?_; refine hK7 _ _ ?_; clear hK7; refine c_seq (fun _ hK9 => ?_); refine c_block ?_; refine c_seq (fun _ hK10 => ?_); refine c_region ?_; (iterate 2 refine s_move H wn rfl rfl ?_; clear H; intro a H); refine s_index un23can ty32can i H wn rfl rfl rfl hi1 rfl ?_; clear H; intro a H; refine s_load ty32can H wn rfl (H.hp.gcell g1) rfl ?_; clear H; intro a H; refine s_len un32can H wn rfl rfl ?_; clear H; intro a H; refine s_cmp H wn rfl rfl rfl rfl ?_; clear H; intro a H; refine wl_nil ?_; refine hK10 _ _ ?_; clear hK10; refine c_cond H rfl ?_ ?_
    · intro h26
      try have p26 := of_decide_eq_true h26
      refine c_seq (fun _ hK11 => ?_); refine c_region ?_; refine s_assign H wn rfl rfl ?_; clear H; intro a H; refine wl_nil ?_; refine hK11 _ _ ?_; clear hK11; refine c_ret ?_; refine (leave1 H Tryd.results4 (.cons (rv_tmp H rfl) .nil) ?_).1; exact H.hp.ret rfl
    intro h26
    try have p26 := of_decide_eq_false h26
    refine c_skip ?_; refine hK9 _ _ ?_; clear hK9; refine c_region ?_; refine s_move H wn rfl rfl ?_; clear H; intro a H; refine s_add _ H wn rfl rfl rfl (by omega) (by omega) rfl ?_; clear H; intro a H; refine s_assign H wn rfl rfl ?_; clear H; intro a H; refine wl_nil ?_; refine loop_end ((i + 1)) (by exact (H).sub ⟨rfl, rfl, trivial⟩) ?_ ?_
    · omega
    first | omega | (dsimp only; omega)
  intro h18
  try have p18 := of_decide_eq_false h18
  refine c_exit ?_; refine hK5 _ _ ?_; clear hK5; refine c_seq (fun _ hK12 => ?_); refine c_region ?_; refine s_move H wn rfl rfl ?_; clear H; intro a H; refine s_call en10can H wn rfl (best_spec _ _ H.hp.ro S _ (hv.mono hm7)) rfl ?_; clear H; rintro v29 G29 a w ⟨x29, rfl, hx29⟩ hm29 H; obtain ⟨xA, xn, xc, rfl⟩ := hx29.form; refine s_move H wn rfl rfl ?_; clear H; intro a H; (iterate 2 refine s_extract H wn rfl rfl rfl ?_; clear H; intro a H); (iterate 2 refine s_assign H wn rfl rfl ?_; clear H; intro a H); refine wl_nil ?_; refine hK12 _ _ ?_; clear hK12; refine c_seq (fun _ hK13 => ?_); refine c_seq (fun _ hK14 => ?_); refine c_region ?_; refine s_move H wn rfl rfl ?_; clear H; intro a H; refine s_call en14can H wn rfl (check_spec _ _ H.hp.ro S _ ((hv.mono hm7).mono hm29)) rfl ?_; clear H; rintro v33 G33 a w rfl hm33 H; refine s_assign H wn rfl rfl ?_; clear H; intro a H; refine wl_nil ?_; refine hK14 _ _ ?_; clear hK14; refine c_seq (fun _ hK15 => ?_); refine c_region ?_; refine s_move H wn rfl rfl ?_; clear H; intro a H; refine s_cmp H wn rfl rfl rfl rfl ?_; clear H; intro a H; refine wl_nil ?_; refine hK15 _ _ ?_; clear hK15; refine c_cond H rfl ?_ ?_
  · intro h35
    try have p35 := of_decide_eq_true h35
    have hbl : bestL S = [] := by rw [bestL, if_neg p35]
    have hxn : xn = 0 := by
      obtain ⟨_, _, e, -⟩ := hx29.slice; obtain ⟨-, e2, -⟩ := Value.slice.inj e; rw [hbl] at e2; simpa using e2
    subst hxn; refine c_seq (fun _ hK16 => ?_); refine c_region ?_; (iterate 2 refine s_move H wn rfl rfl ?_; clear H; intro a H); refine s_cmp H wn rfl rfl rfl rfl ?_; clear H; intro a H; refine s_move H wn rfl rfl ?_; clear H; intro a H; refine s_split H 39 rfl ?_ ?_
    · intro h39
      try have p39 := of_decide_eq_true h39
      refine s_move H (wg H rfl rfl h39) rfl rfl ?_; clear H; intro a H; refine s_len un25can H (wg H rfl rfl h39) rfl rfl ?_; clear H; intro a H; refine s_cmp H (wg H rfl rfl h39) rfl rfl rfl rfl ?_; clear H; intro a H; refine s_pick_t H wn rfl h39 rfl rfl ?_; clear H; intro a H; refine s_assign H wn rfl rfl ?_; clear H; intro a H; refine wl_nil ?_; refine hK16 _ _ ?_; clear hK16; refine c_ret ?_; refine (leave1 H Tryd.results4 (.cons (rv_tmp H rfl) .nil) ?_).1; exact H.hp.ret rfl
    intro h39
    try have p39 := of_decide_eq_false h39
    exact absurd h39 (by simp)
  intro h35
  try have p35 := of_decide_eq_false h35
  have hok0 : chkS S = 0 := Decidable.not_not.1 p35; rw [hok0] at H; have hTab := chk_tab hok0
  have hbl : bestL S = bestS (sAt S) S.length (S.headD []).length 0 0 := by rw [bestL, if_pos hok0]
  rw [hbl] at hx29; refine c_skip ?_; refine hK13 _ _ ?_; clear hK13; refine c_seq (fun _ hK17 => ?_); refine c_region ?_; refine s_move H wn rfl rfl ?_; clear H; intro a H; refine s_cmp H wn rfl rfl rfl rfl ?_; clear H; intro a H; refine s_move H wn rfl rfl ?_; clear H; intro a H; refine s_split H 46 rfl ?_ ?_
  · intro h46
    try have p46 := of_decide_eq_true h46
    (iterate 2 refine s_move H (wg H rfl rfl h46) rfl rfl ?_; clear H; intro a H); refine s_call en16can H (wg H rfl rfl h46) rfl (mbest_spec _ _ H.hp.ro hTab rfl _ (((hv.mono hm7).mono hm29).mono hm33)) rfl ?_; clear H; rintro v49 G49 a w hr49 hm49 H; refine s_call en15can H (wg H rfl rfl h46) rfl (same_spec _ _ H.hp.ro _ _ _ ((hx29.mono hm33).mono hm49) hr49) rfl ?_; clear H; rintro v50 G50 a w rfl hm50 H; refine s_pick_t H wn rfl h46 rfl rfl ?_; clear H; intro a H; refine s_assign H wn rfl rfl ?_; clear H; intro a H; refine wl_nil ?_; refine hK17 _ _ ?_; clear hK17; refine c_ret ?_; refine (leave1 H Tryd.results4 (.cons (rv_tmp H rfl) .nil) ?_).1; exact H.hp.ret rfl
  intro h46
  try have p46 := of_decide_eq_false h46
  exact absurd h46 (by decide)
end Go.Proofs.YtpmcdlhhfbobfaaDoor
