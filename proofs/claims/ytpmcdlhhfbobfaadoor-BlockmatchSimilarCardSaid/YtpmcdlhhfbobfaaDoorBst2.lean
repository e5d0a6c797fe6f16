/-
  Package blockmatch: Best, whole.
-/
import Derived.Test.YtpmcdlhhfbobfaaDoorBst
namespace Go.Proofs.YtpmcdlhhfbobfaaDoor
open Go.RowKit
theorem un23bst2 : Tryd.prog.underlying 23 = some (.slice 32) := by kernel_rfl
theorem ty32bst2 : Ty Tryd.prog 32 1 24 [.slice none 0 0] false := ⟨by kernel_rfl, by kernel_rfl⟩
theorem un32bst2 : Tryd.prog.underlying 32 = some (.slice 3) := by kernel_rfl
theorem ty3bst2 : Ty Tryd.prog 3 1 8 [.int .i64 0] false := ⟨by kernel_rfl, by kernel_rfl⟩
theorem ty23bst2 : Ty Tryd.prog 23 1 24 [.slice none 0 0] false := ⟨by kernel_rfl, by kernel_rfl⟩
theorem un25bst2 : Tryd.prog.underlying 25 = some (.slice 31) := by kernel_rfl
theorem ty31bst2 : Ty Tryd.prog 31 3 24 [.int .i64 0, .int .i64 0, .int .i64 0] true := ⟨by kernel_rfl, by kernel_rfl⟩
theorem sr31bst2 : Srt Tryd.prog 31 [(0, 1), (1, 1), (2, 1)] [.int .i64 0, .int .i64 0, .int .i64 0] := ⟨by kernel_rfl, by kernel_rfl⟩
def okN (x : Int) : Bool := decide (0 ≤ x) && decide (x ≤ 1000)
/-- The error of a row. -/
def rowChk (m : Nat) (r : List Int) : Int := if 1024 < r.length then 9 else if ¬ r.length = m then 15 else if r.all okN then 0 else 2
def fstErr : List Int → Int
  | [] => 0
  | e :: l => if e = 0 then fstErr l else e
/-- The error of a table. -/
def chkS (S : List (List Int)) : Int := if 1024 < S.length then 9 else fstErr (S.map (rowChk (S.headD []).length))
theorem fstErr_at {f : List Int → Int} : ∀ {S : List (List Int)} {i : Nat} (hi : i < S.length), (∀ j (hj : j < i), f (S[j]'(by omega)) = 0) → ¬ f S[i] = 0 → fstErr (S.map f) = f S[i]
  | [], i, hi, _, _ => by simp at hi
  | r :: S, 0, hi, _, h => by rw [List.map_cons, fstErr]; exact if_neg h
  | r :: S, i + 1, hi, h0, h => by
    have h1 : f r = 0 := h0 0 (by omega); rw [List.map_cons, fstErr, if_pos h1]; exact fstErr_at (S := S) (i := i) (by simpa using hi) (fun j hj => h0 (j + 1) (by omega)) h
theorem fstErr_all {f : List Int → Int} : ∀ {S : List (List Int)}, (∀ j (hj : j < S.length), f S[j] = 0) → fstErr (S.map f) = 0
  | [], _ => rfl
  | r :: S, h => by
    have h1 : f r = 0 := h 0 (by simp); rw [List.map_cons, fstErr, if_pos h1]; exact fstErr_all fun j hj => h (j + 1) (by simpa using hj)
/-- What Best gives. -/
def bestL (S : List (List Int)) : List MatchD := if chkS S = 0 then bestS (sAt S) S.length (S.headD []).length 0 0 else []
theorem bestL_nil : chkS [] = 0 ∧ bestL [] = [] := by
  have h : chkS [] = 0 := by decide
  refine ⟨h, ?_⟩; rw [bestL, if_pos h, bestS, dif_neg (by simp)]
def rowsC (bf n W j : Nat) : List Value := (List.range (n + 1)).map fun i => if i < j then .slice (some ⟨bf, i * W, none⟩) W ((n + 1) * W - i * W) else .slice none 0 0
theorem rowsC_zero (bf n W : Nat) : rowsC bf n W 0 = List.replicate (n + 1) (.slice none 0 0) := by
  apply List.ext_getElem
  · simp [rowsC]
  intro i h1 h2; simp [rowsC]
theorem rowsC_set {bf n W j : Nat} (hj : j < n + 1) : (rowsC bf n W j).set j (.slice (some ⟨bf, j * W, none⟩) W ((n + 1) * W - j * W)) = rowsC bf n W (j + 1) := by
  apply List.ext_getElem
  · simp [rowsC]
  intro i h1 h2; rw [List.getElem_set]
  by_cases e : j = i
  · subst e; simp [rowsC]
  have : (i < j + 1) = (i < j) := by apply propext; omega
  simp [rowsC, e, this]
theorem rowsC_get {bf n W i : Nat} (hi : i ≤ n) : (rowsC bf n W (n + 1))[i]? = some (.slice (some ⟨bf, i * W, none⟩) W ((n + 1) * W - i * W)) := by
  simp [rowsC, List.getElem?_range, show i < n + 1 by omega]
theorem rowsC_len (bf n W j : Nat) : (rowsC bf n W j).length = n + 1 := by simp [rowsC]
/-- What of the totals is there. -/
def FlOk (s : Nat → Nat → Int) (n m : Nat) (fl : List Int) (P : Nat → Nat → Prop) : Prop := fl.length = (n + 1) * (m + 1) ∧ ∀ i k, i ≤ n → k ≤ m → P i k → fl[i * (m + 1) + k]? = some (tot s n m i k)
theorem fl_zero {s : Nat → Nat → Int} {n m : Nat} : FlOk s n m (List.replicate ((n + 1) * (m + 1)) 0) (fun i k => n ≤ i ∨ k = m) := by
  refine ⟨by simp, fun i k hi hk hp => ?_⟩; rw [tot_out (by omega)]
  have : i * (m + 1) + k < (n + 1) * (m + 1) := by
    have := Nat.mul_le_mul_right (m + 1) hi; rw [Nat.succ_mul]; omega
  simp [List.getElem?_replicate, this]
theorem fl_set {s : Nat → Nat → Int} {n m i k : Nat} {fl : List Int} {P P' : Nat → Nat → Prop} (h : FlOk s n m fl P) (hi : i < n) (hk : k < m) (hP : ∀ i' k', P' i' k' → P i' k' ∨ (i' = i ∧ k' = k)) : FlOk s n m (fl.set (i * (m + 1) + k) (tot s n m i k)) P' := by
  have hlt : i * (m + 1) + k < (n + 1) * (m + 1) := by
    have := Nat.mul_le_mul_right (m + 1) (show i ≤ n by omega); rw [Nat.succ_mul]; omega
  refine ⟨by simp [h.1], fun i' k' hi' hk' hp => ?_⟩; rw [List.getElem?_set]
  by_cases e : i * (m + 1) + k = i' * (m + 1) + k'
  · obtain ⟨rfl, rfl⟩ := idx_inj (by omega) (by omega) e; rw [if_pos rfl, if_pos (by rw [h.1]; exact hlt)]
  rw [if_neg e]
  rcases hP i' k' hp with h2 | ⟨rfl, rfl⟩
  · exact h.2 i' k' hi' hk' h2
  exact absurd rfl e
theorem FlOk.weak {s : Nat → Nat → Int} {n m : Nat} {fl : List Int} {P P' : Nat → Nat → Prop} (h : FlOk s n m fl P) (hp : ∀ i k, i ≤ n → k ≤ m → P' i k → P i k) : FlOk s n m fl P' := ⟨h.1, fun i k hi hk h' => h.2 i k hi hk (hp i k hi hk h')⟩
set_option maxHeartbeats 4000000 in
theorem best_spec (G : GH) (w0 : World) (hG : Hold G w0) (S : List (List Int)) (v : Value) (hv : RepV G (.sl 1 (S.map rowDat)) v) :
    Calls Tryd.prog 10 #[v] w0 (Ret w0 G fun u G' => ∃ x, u = .tuple #[x, vi (chkS S)] ∧ RepV G' (.sl 3 ((bestL S).map MatchD.dat)) x) := by
  obtain ⟨A, c, rfl, hc1, hc2, -⟩ := hv.slice; have hml : maxLen = 9223372036854775807 := rfl; rw [List.length_map] at *; obtain ⟨m, hm⟩ : ∃ m, m = (S.headD []).length := ⟨_, rfl⟩; refine enter (N := 185) (T := [(0, _)]) (F := fun k => k < w0.heap.size) (L := []) Tryd.func10 rfl Tryd.ntmps10 rfl rfl hG (fun _ h => h) (fun _ h => by cases h) (fun _ h => by cases h) (fun _ h => by cases h) List.Pairwise.nil ?_; intro a H; refine c_seq (fun _ hK1 => ?_); refine c_region ?_; refine s_box (cs := [_]) H wn rfl rfl rfl ?_; clear H; intro b1 a w hb1 H; (iterate 2 refine s_assign H wn rfl rfl ?_; clear H; intro a H); refine wl_nil ?_; refine hK1 _ _ ?_; clear hK1; refine c_seq (fun _ hK2 => ?_); refine c_seq (fun _ hK3 => ?_); refine c_region ?_; refine s_load ty23bst2 H wn rfl (H.hp.ocell 0 rfl rfl) rfl ?_; clear H; intro a H; refine s_len un23bst2 H wn rfl rfl ?_; clear H; intro a H; refine s_cmp H wn rfl rfl rfl rfl ?_; clear H; intro a H; refine wl_nil ?_; refine hK3 _ _ ?_; clear hK3; refine c_cond H rfl ?_ ?_
  · intro h21
    try have p21 := of_decide_eq_true h21
    have hchk : chkS S = 9 := by rw [chkS, if_pos (by omega)]
    have hbl : bestL S = [] := by rw [bestL, if_neg (by rw [hchk]; decide)]
    refine c_seq (fun _ hK4 => ?_); refine c_region ?_; (iterate 2 refine s_assign H wn rfl rfl ?_; clear H; intro a H); refine wl_nil ?_; refine hK4 _ _ ?_; clear hK4; refine c_ret ?_; refine (leaveT H Tryd.results10 (.cons (rv_tmp H rfl) (.cons (rv_tmp H rfl) .nil)) ?_).1; exact H.hp.ret ⟨_, by rw [hchk], by rw [hbl]; exact RepV.nil_ rfl (by decide)⟩
  intro h21
  try have p21 := of_decide_eq_false h21
  refine c_skip ?_; refine hK2 _ _ ?_; clear hK2; refine c_seq (fun _ hK5 => ?_); refine c_seq (fun _ hK6 => ?_); refine c_region ?_; refine s_load ty23bst2 H wn rfl (H.hp.ocell 0 rfl rfl) rfl ?_; clear H; intro a H; refine s_len un23bst2 H wn rfl rfl ?_; clear H; intro a H; refine s_move H wn rfl rfl ?_; clear H; intro a H; refine wl_nil ?_; refine hK6 _ _ ?_; clear hK6; refine c_block ?_; skip; refine c_loopS (ι := Nat) (Tc := [(1, _), (22, _), (23, _)]) (Lc := [(_, _)]) (fun (gh : Nat) => [(24, vi gh)]) (fun (gh : Nat) => []) (fun (gh : Nat) => G) (fun (gh : Nat) => gh ≤ S.length ∧ ∀ j (hj : j < gh) (hj2 : j < S.length), rowChk m S[j] = 0) (fun (gh : Nat) => S.length - gh) (0) (by exact (H).sub ⟨rfl, rfl, rfl, rfl, trivial⟩) ?_ ?_
  · exact ⟨by omega, fun j hj => absurd hj (Nat.not_lt_zero _)⟩
  clear H; intro gh a w hI H; obtain ⟨i, hgh⟩ : ∃ x, x = gh := ⟨_, rfl⟩; subst hgh; obtain ⟨hi, hno⟩ := hI; dsimp only [List.cons_append, List.nil_append, List.append_nil] at H; refine c_seq (fun _ hK7 => ?_); refine c_region ?_; refine s_cmp H wn rfl rfl rfl rfl ?_; clear H; intro a H; refine wl_nil ?_; refine hK7 _ _ ?_; clear hK7; refine c_seq (fun _ hK8 => ?_); refine c_cond H rfl ?_ ?_
  · intro h25
    try have p25 := of_decide_eq_true h25
    have hi2 : i < S.length := by omega
    obtain ⟨b, o, rA, rc, hA, g1, g2⟩ := mat_row hv hi2; subst hA; obtain ⟨b', o', rA0, rc0, hA0, g3, g4⟩ := mat_row hv (show 0 < S.length by omega)
    obtain ⟨rfl, rfl⟩ : b = b' ∧ o = o' := by simpa using hA0
    have hm0 : S[0].length = m := by rw [hm]; cases S with | nil => simp at hi2 | cons r S => rfl
    have hfst : ∀ e, ¬ e = 0 → rowChk m S[i] = e → chkS S = e := fun e he h => by
      rw [chkS, if_neg (by omega), ← hm, fstErr_at hi2 (fun j hj => hno j hj (by omega)) (by rw [h]; exact he), h]
    have hbl : ∀ e, ¬ e = 0 → chkS S = e → bestL S = [] := fun e he h => by rw [bestL, if_neg (by rw [h]; exact he)]
    refine c_skip ?_; refine hK8 _ _ ?_; clear hK8; refine c_seq (fun _ hK9 => ?_); refine c_block ?_; refine c_seq (fun _ hK10 => ?_); refine c_region ?_; refine s_index un23bst2 ty32bst2 _ H wn rfl rfl rfl (by first | assumption | omega) rfl ?_; clear H; intro a H; refine s_load ty32bst2 H wn rfl (H.hp.gcell (by assumption)) rfl ?_; clear H; intro a H; refine s_assign H wn rfl rfl ?_; clear H; intro a H; refine wl_nil ?_; refine hK10 _ _ ?_; clear hK10; refine c_seq (fun _ hK11 => ?_); refine c_block ?_; refine c_seq (fun _ hK12 => ?_); refine c_region ?_; refine s_move H wn rfl rfl ?_; clear H; intro a H; refine s_len un32bst2 H wn rfl rfl ?_; clear H; intro a H; refine s_cmp H wn rfl rfl rfl rfl ?_; clear H; intro a H; refine s_assign H wn rfl rfl ?_; clear H; intro a H; refine wl_nil ?_; refine hK12 _ _ ?_; clear hK12; refine c_cond H rfl ?_ ?_
    · intro h28
      try have p28 := of_decide_eq_true h28
      refine c_seq (fun _ hK13 => ?_); refine c_region ?_; (iterate 2 refine s_assign H wn rfl rfl ?_; clear H; intro a H); refine wl_nil ?_; refine hK13 _ _ ?_; clear hK13; refine c_ret ?_; refine (leaveT H Tryd.results10 (.cons (rv_tmp H rfl) (.cons (rv_tmp H rfl) .nil)) ?_).1
      have hr : rowChk m S[i] = 9 := by rw [rowChk, if_pos (by omega)]
      exact H.hp.ret ⟨_, by rw [hfst 9 (by decide) hr], by rw [hbl 9 (by decide) (hfst 9 (by decide) hr)]; exact RepV.nil_ rfl (by decide)⟩
    intro h28
    try have p28 := of_decide_eq_false h28
    refine c_seq (fun _ hK14 => ?_); refine c_region ?_; refine s_move H wn rfl rfl ?_; clear H; intro a H; refine s_len un32bst2 H wn rfl rfl ?_; clear H; intro a H; refine s_load ty23bst2 H wn rfl (H.hp.ocell 0 rfl rfl) rfl ?_; clear H; intro a H; refine s_index un23bst2 ty32bst2 0 H wn rfl rfl rfl (by omega) rfl ?_; clear H; intro a H; refine s_load ty32bst2 H wn rfl (H.hp.gcell (by assumption)) rfl ?_; clear H; intro a H; refine s_len un32bst2 H wn rfl rfl ?_; clear H; intro a H; refine s_cmp H wn rfl rfl rfl rfl ?_; clear H; intro a H; refine s_assign H wn rfl rfl ?_; clear H; intro a H; refine wl_nil ?_; refine hK14 _ _ ?_; clear hK14; refine c_cond H rfl ?_ ?_
    · intro h32
      try have p32 := of_decide_eq_true h32
      refine c_seq (fun _ hK15 => ?_); refine c_region ?_; (iterate 2 refine s_assign H wn rfl rfl ?_; clear H; intro a H); refine wl_nil ?_; refine hK15 _ _ ?_; clear hK15; refine c_ret ?_; refine (leaveT H Tryd.results10 (.cons (rv_tmp H rfl) (.cons (rv_tmp H rfl) .nil)) ?_).1
      have hr : rowChk m S[i] = 15 := by rw [rowChk, if_neg (by omega), if_pos (by omega)]
      exact H.hp.ret ⟨_, by rw [hfst 15 (by decide) hr], by rw [hbl 15 (by decide) (hfst 15 (by decide) hr)]; exact RepV.nil_ rfl (by decide)⟩
    intro h32
    try have p32 := of_decide_eq_false h32
    refine c_skip ?_; refine hK11 _ _ ?_; clear hK11; refine c_seq (fun _ hK16 => ?_); refine c_region ?_; refine s_move H wn rfl rfl ?_; clear H; intro a H; refine s_len un32bst2 H wn rfl rfl ?_; clear H; intro a H; refine s_move H wn rfl rfl ?_; clear H; intro a H; refine wl_nil ?_; refine hK16 _ _ ?_; clear hK16; refine c_block ?_; skip; refine c_loopS (ι := Nat) (Tc := [(1, _), (22, _), (23, _), (24, _), (40, _), (41, _)]) (Lc := [(_, _)]) (fun (gh : Nat) => [(42, vi gh)]) (fun (gh : Nat) => []) (fun (gh : Nat) => G) (fun (gh : Nat) => gh ≤ S[i].length ∧ ∀ q (hq : q < gh) (hq2 : q < S[i].length), okN S[i][q] = true) (fun (gh : Nat) => S[i].length - gh) (0) (by exact (H).sub ⟨rfl, rfl, rfl, rfl, rfl, rfl, rfl, trivial⟩) ?_ ?_
    · exact ⟨by omega, fun q hq => absurd hq (Nat.not_lt_zero _)⟩
    clear H; intro gh a w hI H; obtain ⟨k, hgh⟩ : ∃ x, x = gh := ⟨_, rfl⟩; subst hgh; obtain ⟨hk, hoks⟩ := hI; dsimp only [List.cons_append, List.nil_append, List.append_nil] at H; refine c_seq (fun _ hK17 => ?_); refine c_region ?_; refine s_cmp H wn rfl rfl rfl rfl ?_; clear H; intro a H; refine wl_nil ?_; refine hK17 _ _ ?_; clear hK17; refine c_seq (fun _ hK18 => ?_); refine c_cond H rfl ?_ ?_
    · intro h43
      try have p43 := of_decide_eq_true h43
      have hk2 : k < S[i].length := by omega
      obtain ⟨b2, o2, hA2, g5⟩ := num_at g2 hk2; subst hA2; refine c_skip ?_; refine hK18 _ _ ?_; clear hK18; refine c_seq (fun _ hK19 => ?_); refine c_block ?_; refine c_seq (fun _ hK20 => ?_); refine c_region ?_; refine s_index un32bst2 ty3bst2 _ H wn rfl rfl rfl (by first | assumption | omega) rfl ?_; clear H; intro a H; refine s_load ty3bst2 H wn rfl (H.hp.gcell (by assumption)) rfl ?_; clear H; intro a H; refine s_assign H wn rfl rfl ?_; clear H; intro a H; refine wl_nil ?_; refine hK20 _ _ ?_; clear hK20; refine c_seq (fun _ hK21 => ?_); refine c_region ?_; refine s_move H wn rfl rfl ?_; clear H; intro a H; refine s_cmp H wn rfl rfl rfl rfl ?_; clear H; intro a H; refine s_move H wn rfl rfl ?_; clear H; intro a H; refine s_split H 48 rfl ?_ ?_
      · intro h48
        try have p48 := of_decide_eq_true h48
        (iterate 2 refine s_skip H rfl rfl h48 rfl ?_; clear H; intro a H); refine s_pick_t H wn rfl h48 rfl rfl ?_; clear H; intro a H; refine wl_nil ?_; refine hK21 _ _ ?_; clear hK21; refine c_cond_t H rfl rfl ?_; refine c_seq (fun _ hK22 => ?_); refine c_region ?_; (iterate 2 refine s_assign H wn rfl rfl ?_; clear H; intro a H); refine wl_nil ?_; refine hK22 _ _ ?_; clear hK22; refine c_ret ?_; refine (leaveT H Tryd.results10 (.cons (rv_tmp H rfl) (.cons (rv_tmp H rfl) .nil)) ?_).1
        first
          | (have hr : rowChk m S[i] = 2 := by
              rw [rowChk, if_neg (by omega), if_neg (by omega), if_neg (fun h => by
                have := List.all_eq_true.1 h _ (List.getElem_mem hk2)
                simp only [okN, Bool.and_eq_true, decide_eq_true_eq] at this
                omega)]
             exact H.hp.ret ⟨_, by rw [hfst 2 (by decide) hr], by rw [hbl 2 (by decide) (hfst 2 (by decide) hr)]; exact RepV.nil_ rfl (by decide)⟩)
          | (have hS : S = [] := List.eq_nil_of_length_eq_zero (by omega)
             subst hS
             exact H.hp.ret ⟨_, by rw [bestL_nil.1], by rw [bestL_nil.2]; exact RepV.nil_ rfl (by decide)⟩)
          | exact H.hp.ret ⟨_, by rw [hchk], by rw [bestL, if_pos hchk, ← hm]; exact hrep⟩
      intro h48
      try have p48 := of_decide_eq_false h48
      refine s_move H (wg H rfl rfl h48) rfl rfl ?_; clear H; intro a H; refine s_cmp H (wg H rfl rfl h48) rfl rfl rfl rfl ?_; clear H; intro a H; refine s_pick_f H wn rfl h48 rfl rfl ?_; clear H; intro a H; refine wl_nil ?_; refine hK21 _ _ ?_; clear hK21; refine c_cond H rfl ?_ ?_
      · intro h51
        try have p51 := of_decide_eq_true h51
        refine c_seq (fun _ hK23 => ?_); refine c_region ?_; (iterate 2 refine s_assign H wn rfl rfl ?_; clear H; intro a H); refine wl_nil ?_; refine hK23 _ _ ?_; clear hK23; refine c_ret ?_; refine (leaveT H Tryd.results10 (.cons (rv_tmp H rfl) (.cons (rv_tmp H rfl) .nil)) ?_).1
        first
          | (have hr : rowChk m S[i] = 2 := by
              rw [rowChk, if_neg (by omega), if_neg (by omega), if_neg (fun h => by
                have := List.all_eq_true.1 h _ (List.getElem_mem hk2)
                simp only [okN, Bool.and_eq_true, decide_eq_true_eq] at this
                omega)]
             exact H.hp.ret ⟨_, by rw [hfst 2 (by decide) hr], by rw [hbl 2 (by decide) (hfst 2 (by decide) hr)]; exact RepV.nil_ rfl (by decide)⟩)
          | (have hS : S = [] := List.eq_nil_of_length_eq_zero (by omega)
             subst hS
             exact H.hp.ret ⟨_, by rw [bestL_nil.1], by rw [bestL_nil.2]; exact RepV.nil_ rfl (by decide)⟩)
          | exact H.hp.ret ⟨_, by rw [hchk], by rw [bestL, if_pos hchk, ← hm]; exact hrep⟩
      intro h51
      try have p51 := of_decide_eq_false h51
      refine c_skip ?_; refine hK19 _ _ ?_; clear hK19; refine c_region ?_; refine s_add _ H wn rfl rfl rfl (by omega) (by omega) rfl ?_; clear H; intro a H; refine s_move H wn rfl rfl ?_; clear H; intro a H; refine wl_nil ?_; refine loop_end ((k + 1)) (by exact (H).sub ⟨rfl, rfl, rfl, rfl, rfl, rfl, rfl, trivial⟩) ?_ ?_
      · exact ⟨by omega, fun q hq hq2 => by
            by_cases e : q = k
            · subst e; simp only [okN, Bool.and_eq_true, decide_eq_true_eq]; omega
            exact hoks q (by omega) hq2⟩
      first | omega | (dsimp only; omega)
    intro h43
    try have p43 := of_decide_eq_false h43
    refine c_exit ?_; refine hK9 _ _ ?_; clear hK9; refine c_region ?_; refine s_add _ H wn rfl rfl rfl (by omega) (by omega) rfl ?_; clear H; intro a H; refine s_move H wn rfl rfl ?_; clear H; intro a H; refine wl_nil ?_; refine loop_end ((i + 1)) (by exact (H).sub ⟨rfl, rfl, rfl, rfl, trivial⟩) ?_ ?_
    · exact ⟨by omega, fun j hj hj2 => by
          by_cases e : j = i
          · subst e
            rw [rowChk, if_neg (by omega), if_neg (by omega), if_pos (List.all_eq_true.2 fun x hx => by
              obtain ⟨q, hq, rfl⟩ := List.getElem_of_mem hx
              exact hoks q (by omega) hq)]
          exact hno j (by omega) hj2⟩
    first | omega | (dsimp only; omega)
  intro h25
  try have p25 := of_decide_eq_false h25
  refine c_exit ?_; refine hK5 _ _ ?_; clear hK5; refine c_seq (fun _ hK24 => ?_); refine c_seq (fun _ hK25 => ?_); refine c_region ?_; refine s_load ty23bst2 H wn rfl (H.hp.ocell 0 rfl rfl) rfl ?_; clear H; intro a H; refine s_len un23bst2 H wn rfl rfl ?_; clear H; intro a H; refine s_cmp H wn rfl rfl rfl rfl ?_; clear H; intro a H; refine wl_nil ?_; refine hK25 _ _ ?_; clear hK25; refine c_cond H rfl ?_ ?_
  · intro h56
    try have p56 := of_decide_eq_true h56
    refine c_seq (fun _ hK26 => ?_); refine c_region ?_; (iterate 2 refine s_assign H wn rfl rfl ?_; clear H; intro a H); refine wl_nil ?_; refine hK26 _ _ ?_; clear hK26; refine c_ret ?_; refine (leaveT H Tryd.results10 (.cons (rv_tmp H rfl) (.cons (rv_tmp H rfl) .nil)) ?_).1
    first
      | (have hr : rowChk m S[i] = 2 := by
          rw [rowChk, if_neg (by omega), if_neg (by omega), if_neg (fun h => by
            have := List.all_eq_true.1 h _ (List.getElem_mem hk2)
            simp only [okN, Bool.and_eq_true, decide_eq_true_eq] at this
            omega)]
         exact H.hp.ret ⟨_, by rw [hfst 2 (by decide) hr], by rw [hbl 2 (by decide) (hfst 2 (by decide) hr)]; exact RepV.nil_ rfl (by decide)⟩)
      | (have hS : S = [] := List.eq_nil_of_length_eq_zero (by omega)
         subst hS
         exact H.hp.ret ⟨_, by rw [bestL_nil.1], by rw [bestL_nil.2]; exact RepV.nil_ rfl (by decide)⟩)
      | exact H.hp.ret ⟨_, by rw [hchk], by rw [bestL, if_pos hchk, ← hm]; exact hrep⟩
  intro h56
  try have p56 := of_decide_eq_false h56
  have hn0 : 0 < S.length := by omega
  have hno' : ∀ j (hj : j < S.length), rowChk m S[j] = 0 := fun j hj => hno j (by omega) hj
  have hchk : chkS S = 0 := by rw [chkS, if_neg (by omega), ← hm]; exact fstErr_all hno'
  have hwid : ∀ r ∈ S, r.length = m ∧ r.length ≤ 1024 ∧ r.all okN = true := fun r hr => by
    obtain ⟨j, hj, rfl⟩ := List.getElem_of_mem hr; have := hno' j hj; rw [rowChk] at this
    split at this
    · cases this
    split at this
    · cases this
    split at this
    · rename_i h1 h2 h3; exact ⟨by omega, by omega, h3⟩
    cases this
  obtain ⟨b, o, rA, rc, hA, g1, g2⟩ := mat_row hv hn0; subst hA; have hm0 : S[0].length = m := (hwid _ (List.getElem_mem hn0)).1
  have hm1 : m ≤ 1024 := by have := (hwid _ (List.getElem_mem hn0)).2.1; omega
  rw [hm0] at g1 g2; have hN : (S.length + 1) * (m + 1) ≤ 1025 * 1025 := Nat.mul_le_mul (by omega) (by omega)
  have hok : ∀ i k, i < S.length → k < m → 0 ≤ sAt S i k ∧ sAt S i k ≤ 1000 := fun i k hi hk => by
    have h1 := hwid _ (List.getElem_mem hi); rw [sAt_eq hi (by omega)]; have h2 := List.all_eq_true.1 h1.2.2 _ (List.getElem_mem (show k < S[i].length by omega))
    simpa [okN] using h2
  have htb := fun i k => tot_bound (n := S.length) (m := m) (fun i k hi hk => (hok i k hi hk).2) ((S.length - i) + (m - k)) i k (Nat.le_refl _); refine c_skip ?_; refine hK24 _ _ ?_; clear hK24; refine c_seq (fun _ hK27 => ?_)
  have hprm19 : ∀ (ix_ : Nat) (v : Value) (G G' : GH), (∀ k o, G k = some o → G' k = some o) → (fun (ix_ : Nat) (v : Value) (G : GH) => match ix_ with | 0 => v = .slice (some ⟨b, o, none⟩) S.length c | 1 => v = vi S.length | 2 => v = .slice (some ⟨b, o, none⟩) S.length c | 3 => v = .pointer (some ⟨b, o + 0 * 1, none⟩) | 4 => v = .slice rA m rc | 5 => v = vi m | 6 => v = vi S.length | 7 => v = vi m | _ => True) ix_ v G → (fun (ix_ : Nat) (v : Value) (G : GH) => match ix_ with | 0 => v = .slice (some ⟨b, o, none⟩) S.length c | 1 => v = vi S.length | 2 => v = .slice (some ⟨b, o, none⟩) S.length c | 3 => v = .pointer (some ⟨b, o + 0 * 1, none⟩) | 4 => v = .slice rA m rc | 5 => v = vi m | 6 => v = vi S.length | 7 => v = vi m | _ => True) ix_ v G' := by
    intro ix_ v G G' hm h
    match ix_, h with
    | 0, h => exact h
    | 1, h => exact h
    | 2, h => exact h
    | 3, h => exact h
    | 4, h => exact h
    | 5, h => exact h
    | 6, h => exact h
    | 7, h => exact h
    | _ + 8, h => exact trivial
  refine c_drawI (hmxb) [[], [0], [], [2], [2, 3], [2, 3, 4], [0, 1], [0, 1, 2, 3, 4, 5, 6]] [] (by kernel_rfl) (by kernel_rfl) (fun (ix_ : Nat) (v : Value) (G : GH) => match ix_ with | 0 => v = .slice (some ⟨b, o, none⟩) S.length c | 1 => v = vi S.length | 2 => v = .slice (some ⟨b, o, none⟩) S.length c | 3 => v = .pointer (some ⟨b, o + 0 * 1, none⟩) | 4 => v = .slice rA m rc | 5 => v = vi m | 6 => v = vi S.length | 7 => v = vi m | _ => True) hprm19 H ?_ ?_
  · clear H; refine (allI_cons ?_ (allI_cons ?_ (allI_cons ?_ (allI_cons ?_ (allI_cons ?_ (allI_cons ?_ (allI_cons ?_ (allI_cons ?_ allI_nil))))))))
    · intro Sd_ a w G1 _ hSi hc hG HT hv; have H := HT; clear hSi; have Hb := H.full; have H := Hb; clear hc; refine s_load ty23bst2 H wn rfl (H.hp.ocell 0 rfl rfl) rfl ?_; clear H; intro a H; refine wl_nil ⟨rfl, ?_⟩; exact draw_val (by kernel_rfl) hprm19 rfl rfl HT Hb hG hv (fun _ _ h => h) (rfl) H
    · intro Sd_ a w G1 _ hSi hc hG HT hv; have H := HT; clear hSi; obtain ⟨u57, hu57, hp57⟩ := hv 0 57 (hc 0 (by decide)) rfl; obtain rfl : u57 = .slice (some ⟨b, o, none⟩) S.length c := hp57; have H := H.addS hu57; have Hb := H.full; have H := Hb; clear hc; refine s_len un23bst2 H wn rfl rfl ?_; clear H; intro a H; refine wl_nil ⟨rfl, ?_⟩; exact draw_val (by kernel_rfl) hprm19 rfl rfl HT Hb hG hv (fun _ _ h => h) (rfl) H
    · intro Sd_ a w G1 _ hSi hc hG HT hv; have H := HT; clear hSi; have Hb := H.full; have H := Hb; clear hc; refine s_load ty23bst2 H wn rfl (H.hp.ocell 0 rfl rfl) rfl ?_; clear H; intro a H; refine wl_nil ⟨rfl, ?_⟩; exact draw_val (by kernel_rfl) hprm19 rfl rfl HT Hb hG hv (fun _ _ h => h) (rfl) H
    · intro Sd_ a w G1 _ hSi hc hG HT hv; have H := HT; clear hSi; obtain ⟨u59, hu59, hp59⟩ := hv 2 59 (hc 2 (by decide)) rfl; obtain rfl : u59 = .slice (some ⟨b, o, none⟩) S.length c := hp59; have H := H.addS hu59; have Hb := H.full; have H := Hb; clear hc; refine s_index un23bst2 ty32bst2 0 H wn rfl rfl rfl (by omega) rfl ?_; clear H; intro a H; refine wl_nil ⟨rfl, ?_⟩; exact draw_val (by kernel_rfl) hprm19 rfl rfl HT Hb hG hv (fun _ _ h => h) (rfl) H
    · intro Sd_ a w G1 _ hSi hc hG HT hv; have H := HT; clear hSi; obtain ⟨u60, hu60, hp60⟩ := hv 3 60 (hc 3 (by decide)) rfl; obtain rfl : u60 = .pointer (some ⟨b, o + 0 * 1, none⟩) := hp60; have H := H.addS hu60; have Hb := H.full; have H := Hb; clear hc; refine s_load ty32bst2 H wn rfl (H.hp.gcell (gcell_mono hG g1)) rfl ?_; clear H; intro a H; refine wl_nil ⟨rfl, ?_⟩; exact draw_val (by kernel_rfl) hprm19 rfl rfl HT Hb hG hv (fun _ _ h => h) (rfl) H
    · intro Sd_ a w G1 _ hSi hc hG HT hv; have H := HT; clear hSi; obtain ⟨u61, hu61, hp61⟩ := hv 4 61 (hc 4 (by decide)) rfl; obtain rfl : u61 = .slice rA m rc := hp61; have H := H.addS hu61; have Hb := H.full; have H := Hb; clear hc; refine s_len un32bst2 H wn rfl rfl ?_; clear H; intro a H; refine wl_nil ⟨rfl, ?_⟩; exact draw_val (by kernel_rfl) hprm19 rfl rfl HT Hb hG hv (fun _ _ h => h) (rfl) H
    · intro Sd_ a w G1 _ hSi hc hG HT hv; have H := HT; clear hSi; obtain ⟨u58, hu58, hp58⟩ := hv 1 58 (hc 1 (by decide)) rfl; obtain rfl : u58 = vi S.length := hp58; have H := H.addS hu58; have Hb := H.full; have H := Hb; clear hc; refine s_assign H wn rfl rfl ?_; clear H; intro a H; refine wl_nil ⟨rfl, ?_⟩; exact draw_val (by kernel_rfl) hprm19 rfl rfl HT Hb hG hv (fun _ _ h => h) (rfl) H
    intro Sd_ a w G1 _ hSi hc hG HT hv; have H := HT; clear hSi; obtain ⟨u62, hu62, hp62⟩ := hv 5 62 (hc 5 (by decide)) rfl; obtain rfl : u62 = vi m := hp62; have H := H.addS hu62; have Hb := H.full; have H := Hb; clear hc; refine s_assign H wn rfl rfl ?_; clear H; intro a H; refine wl_nil ⟨rfl, ?_⟩; exact draw_val (by kernel_rfl) hprm19 rfl rfl HT Hb hG hv (fun _ _ h => h) (rfl) H
  clear H; intro a w G hGm19 H hv; obtain ⟨u8, hu8, hp8⟩ := hv 6 8 (by decide) rfl; obtain rfl : u8 = vi S.length := hp8; have H := H.addS hu8; obtain ⟨u9, hu9, hp9⟩ := hv 7 9 (by decide) rfl; obtain rfl : u9 = vi m := hp9; have H := H.addS hu9; clear hv; refine wl_nil ⟨rfl, ?_⟩; refine hK27 _ _ ?_; clear hK27; refine c_seq (fun _ hK28 => ?_); replace hv := hv.mono hGm19; refine c_region ?_; refine s_move H wn rfl rfl ?_; clear H; intro a H; refine s_add _ H wn rfl rfl rfl (by omega) (by omega) rfl ?_; clear H; intro a H; refine s_move H wn rfl rfl ?_; clear H; intro a H; refine s_add _ H wn rfl rfl rfl (by omega) (by omega) rfl ?_; clear H; intro a H; refine s_mul (((S.length + 1) * (m + 1) : Nat) : Int) H wn rfl rfl (by push_cast; rfl) (by omega) (by omega) rfl ?_; clear H; intro a H; refine s_make1 ((S.length + 1) * (m + 1)) un32bst2 ty3bst2 H wn rfl rfl rfl (by omega) (by omega) rfl ?_; clear H; intro b68 a w hb68 H; refine s_assign H wn rfl rfl ?_; clear H; intro a H; refine wl_nil ?_; refine hK28 _ _ ?_; clear hK28; refine c_seq (fun _ hK29 => ?_); refine c_region ?_; refine s_move H wn rfl rfl ?_; clear H; intro a H; refine s_add _ H wn rfl rfl rfl (by omega) (by omega) rfl ?_; clear H; intro a H; refine s_make1 (S.length + 1) un23bst2 ty32bst2 H wn rfl rfl (by omega) (by omega) (by omega) rfl ?_; clear H; intro b71 a w hb71 H; rw [← rowsC_zero b68 S.length (m + 1)] at H; refine s_alloc ty23bst2 H wn rfl ?_; clear H; intro b11 a w hb11 H; refine s_store ty23bst2 0 (vs := [_]) _ H wn rfl rfl rfl rfl rfl rfl rfl rfl ?_; clear H; intro w H; dsimp only [List.set, setRow] at H; refine wl_nil ?_; refine hK29 _ _ ?_; clear hK29; refine c_seq (fun _ hK30 => ?_); refine c_seq (fun _ hK31 => ?_); refine c_region ?_; refine s_load ty23bst2 H wn rfl (H.hp.ocell 0 rfl rfl) rfl ?_; clear H; intro a H; refine s_len un23bst2 H wn rfl rfl ?_; clear H; intro a H; refine s_move H wn rfl rfl ?_; clear H; intro a H; refine wl_nil ?_; refine hK31 _ _ ?_; clear hK31; refine c_block ?_; skip; refine c_loopS (ι := Nat × GH) (Tc := [(1, _), (8, _), (9, _), (10, _), (11, _), (73, _)]) (Lc := [(_, _), (_, _), (_, _)]) (fun (gh : Nat × GH) => [(74, vi gh.1)]) (fun (gh : Nat × GH) => [(b71, .cells (rowsC b68 S.length (m + 1) gh.1).toArray 32 (0, 0))]) (fun (gh : Nat × GH) => gh.2) (fun (gh : Nat × GH) => gh.1 ≤ S.length + 1 ∧ (∀ b o, G b = some o → gh.2 b = some o)) (fun (gh : Nat × GH) => S.length + 1 - gh.1) ((0, G)) (by exact (H.pickT (Pl := [_, _, _, _]) (Pl' := [_, _, _, _]) [0, 2, 3, 1] (by decide) rfl).sub ⟨rfl, rfl, rfl, rfl, rfl, rfl, rfl, trivial⟩) ?_ ?_
  · exact ⟨Nat.zero_le _, fun _ _ h => h⟩
  clear H; intro gh a w hI H; obtain ⟨j, g⟩ := gh; dsimp only at hI H; obtain ⟨hj, hgm⟩ := hI; dsimp only [List.cons_append, List.nil_append, List.append_nil] at H; refine c_seq (fun _ hK32 => ?_); refine c_region ?_; refine s_cmp H wn rfl rfl rfl rfl ?_; clear H; intro a H; refine wl_nil ?_; refine hK32 _ _ ?_; clear hK32; refine c_seq (fun _ hK33 => ?_); refine c_cond H rfl ?_ ?_
  · intro h75
    try have p75 := of_decide_eq_true h75
    have hj2 : j < S.length + 1 := by omega
    have hmu : (j + 1) * (m + 1) ≤ (S.length + 1) * (m + 1) := Nat.mul_le_mul_right _ (by omega); have hmu2 : (j + 1) * (m + 1) = j * (m + 1) + (m + 1) := Nat.succ_mul _ _
    have hsub : (j + 1) * (m + 1) - j * (m + 1) = m + 1 := by omega
    have hne : ¬ (S.length + 1) * (m + 1) = j * (m + 1) := by omega
    refine c_skip ?_; refine hK33 _ _ ?_; clear hK33; refine c_seq (fun _ hK34 => ?_); refine c_block ?_; refine c_seq (fun _ hK35 => ?_); refine c_region ?_; refine s_move H wn rfl rfl ?_; clear H; intro a H; refine s_assign H wn rfl rfl ?_; clear H; intro a H; refine wl_nil ?_; refine hK35 _ _ ?_; clear hK35
    have hprm25 : ∀ (ix_ : Nat) (v : Value) (G G' : GH), (∀ k o, G k = some o → G' k = some o) → (fun (ix_ : Nat) (v : Value) (G : GH) => match ix_ with | 0 => v = .slice (some ⟨b71, 0, none⟩) (S.length + 1) (S.length + 1) | 1 => v = vi j | 2 => v = .slice (some ⟨b68, 0, none⟩) ((S.length + 1) * (m + 1)) ((S.length + 1) * (m + 1)) | 3 => v = vi j | 4 => v = vi m | 5 => v = vi ((m : Int) + 1) | 6 => v = vi ((j * (m + 1) : Nat) : Int) | 7 => v = vi j | 8 => v = vi ((j : Int) + 1) | 9 => v = vi m | 10 => v = vi ((m : Int) + 1) | 11 => v = vi (((j + 1) * (m + 1) : Nat) : Int) | 12 => v = .slice (some ⟨b68, j * (m + 1), none⟩) (m + 1) ((S.length + 1) * (m + 1) - j * (m + 1)) | 13 => v = .pointer (some ⟨b71, 0 + j * 1, none⟩) | _ => True) ix_ v G → (fun (ix_ : Nat) (v : Value) (G : GH) => match ix_ with | 0 => v = .slice (some ⟨b71, 0, none⟩) (S.length + 1) (S.length + 1) | 1 => v = vi j | 2 => v = .slice (some ⟨b68, 0, none⟩) ((S.length + 1) * (m + 1)) ((S.length + 1) * (m + 1)) | 3 => v = vi j | 4 => v = vi m | 5 => v = vi ((m : Int) + 1) | 6 => v = vi ((j * (m + 1) : Nat) : Int) | 7 => v = vi j | 8 => v = vi ((j : Int) + 1) | 9 => v = vi m | 10 => v = vi ((m : Int) + 1) | 11 => v = vi (((j + 1) * (m + 1) : Nat) : Int) | 12 => v = .slice (some ⟨b68, j * (m + 1), none⟩) (m + 1) ((S.length + 1) * (m + 1) - j * (m + 1)) | 13 => v = .pointer (some ⟨b71, 0 + j * 1, none⟩) | _ => True) ix_ v G' := by
      intro ix_ v G G' hm h
      match ix_, h with
      | 0, h => exact h
      | 1, h => exact h
      | 2, h => exact h
      | 3, h => exact h
      | 4, h => exact h
      | 5, h => exact h
      | 6, h => exact h
      | 7, h => exact h
      | 8, h => exact h
      | 9, h => exact h
      | 10, h => exact h
      | 11, h => exact h
      | 12, h => exact h
      | 13, h => exact h
      | 14, h => exact trivial
      | _ + 15, h => exact trivial
    refine c_drawI (hmxb) [[], [], [], [], [], [4], [3, 4, 5], [], [7], [], [9], [7, 8, 9, 10], [2, 3, 4, 5, 6, 7, 8, 9, 10, 11], [0, 1, 2, 3, 4, 5, 6, 7, 8, 9, 10, 11, 12], [0, 1, 2, 3, 4, 5, 6, 7, 8, 9, 10, 11, 12, 13]] [14] (by kernel_rfl) (by kernel_rfl) (fun (ix_ : Nat) (v : Value) (G : GH) => match ix_ with | 0 => v = .slice (some ⟨b71, 0, none⟩) (S.length + 1) (S.length + 1) | 1 => v = vi j | 2 => v = .slice (some ⟨b68, 0, none⟩) ((S.length + 1) * (m + 1)) ((S.length + 1) * (m + 1)) | 3 => v = vi j | 4 => v = vi m | 5 => v = vi ((m : Int) + 1) | 6 => v = vi ((j * (m + 1) : Nat) : Int) | 7 => v = vi j | 8 => v = vi ((j : Int) + 1) | 9 => v = vi m | 10 => v = vi ((m : Int) + 1) | 11 => v = vi (((j + 1) * (m + 1) : Nat) : Int) | 12 => v = .slice (some ⟨b68, j * (m + 1), none⟩) (m + 1) ((S.length + 1) * (m + 1) - j * (m + 1)) | 13 => v = .pointer (some ⟨b71, 0 + j * 1, none⟩) | _ => True) hprm25 H ?_ ?_
    · clear H; refine (allI_cons ?_ (allI_cons ?_ (allI_cons ?_ (allI_cons ?_ (allI_cons ?_ (allI_cons ?_ (allI_cons ?_ (allI_cons ?_ (allI_cons ?_ (allI_cons ?_ (allI_cons ?_ (allI_cons ?_ (allI_cons ?_ (allI_cons ?_ (allI_cons ?_ allI_nil)))))))))))))))
      · intro Sd_ a w G1 _ hSi hc hG HT hv; have H := HT; clear hSi; have Hb := H.full; have H := Hb; clear hc; refine s_load ty23bst2 H wn rfl (H.hp.ocell 0 rfl rfl) rfl ?_; clear H; intro a H; refine wl_nil ⟨rfl, ?_⟩; exact draw_val (by kernel_rfl) hprm25 rfl rfl HT Hb hG hv (fun _ _ h => h) (rfl) H
      · intro Sd_ a w G1 _ hSi hc hG HT hv; have H := HT; clear hSi; have Hb := H.full; have H := Hb; clear hc; refine s_move H wn rfl rfl ?_; clear H; intro a H; refine wl_nil ⟨rfl, ?_⟩; exact draw_val (by kernel_rfl) hprm25 rfl rfl HT Hb hG hv (fun _ _ h => h) (rfl) H
      · intro Sd_ a w G1 _ hSi hc hG HT hv; have H := HT; clear hSi; have Hb := H.full; have H := Hb; clear hc; refine s_move H wn rfl rfl ?_; clear H; intro a H; refine wl_nil ⟨rfl, ?_⟩; exact draw_val (by kernel_rfl) hprm25 rfl rfl HT Hb hG hv (fun _ _ h => h) (rfl) H
      · intro Sd_ a w G1 _ hSi hc hG HT hv; have H := HT; clear hSi; have Hb := H.full; have H := Hb; clear hc; refine s_move H wn rfl rfl ?_; clear H; intro a H; refine wl_nil ⟨rfl, ?_⟩; exact draw_val (by kernel_rfl) hprm25 rfl rfl HT Hb hG hv (fun _ _ h => h) (rfl) H
      · intro Sd_ a w G1 _ hSi hc hG HT hv; have H := HT; clear hSi; have Hb := H.full; have H := Hb; clear hc; refine s_move H wn rfl rfl ?_; clear H; intro a H; refine wl_nil ⟨rfl, ?_⟩; exact draw_val (by kernel_rfl) hprm25 rfl rfl HT Hb hG hv (fun _ _ h => h) (rfl) H
      · intro Sd_ a w G1 _ hSi hc hG HT hv; have H := HT; clear hSi; obtain ⟨u81, hu81, hp81⟩ := hv 4 81 (hc 4 (by decide)) rfl; obtain rfl : u81 = vi m := hp81; have H := H.addS hu81; have Hb := H.full; have H := Hb; clear hc; refine s_add _ H wn rfl rfl rfl (by omega) (by omega) rfl ?_; clear H; intro a H; refine wl_nil ⟨rfl, ?_⟩; exact draw_val (by kernel_rfl) hprm25 rfl rfl HT Hb hG hv (fun _ _ h => h) (rfl) H
      · intro Sd_ a w G1 _ hSi hc hG HT hv; have H := HT; clear hSi; obtain ⟨u80, hu80, hp80⟩ := hv 3 80 (hc 3 (by decide)) rfl; obtain rfl : u80 = vi j := hp80; have H := H.addS hu80; obtain ⟨u82, hu82, hp82⟩ := hv 5 82 (hc 5 (by decide)) rfl; obtain rfl : u82 = vi ((m : Int) + 1) := hp82; have H := H.addS hu82; have Hb := H.full; have H := Hb; clear hc; refine s_mul ((j * (m + 1) : Nat) : Int) H wn rfl rfl (by push_cast; rfl) (by omega) (by omega) rfl ?_; clear H; intro a H; refine wl_nil ⟨rfl, ?_⟩; exact draw_val (by kernel_rfl) hprm25 rfl rfl HT Hb hG hv (fun _ _ h => h) (rfl) H
      · intro Sd_ a w G1 _ hSi hc hG HT hv; have H := HT; clear hSi; have Hb := H.full; have H := Hb; clear hc; refine s_move H wn rfl rfl ?_; clear H; intro a H; refine wl_nil ⟨rfl, ?_⟩; exact draw_val (by kernel_rfl) hprm25 rfl rfl HT Hb hG hv (fun _ _ h => h) (rfl) H
      · intro Sd_ a w G1 _ hSi hc hG HT hv; have H := HT; clear hSi; obtain ⟨u84, hu84, hp84⟩ := hv 7 84 (hc 7 (by decide)) rfl; obtain rfl : u84 = vi j := hp84; have H := H.addS hu84; have Hb := H.full; have H := Hb; clear hc; refine s_add _ H wn rfl rfl rfl (by omega) (by omega) rfl ?_; clear H; intro a H; refine wl_nil ⟨rfl, ?_⟩; exact draw_val (by kernel_rfl) hprm25 rfl rfl HT Hb hG hv (fun _ _ h => h) (rfl) H
      · intro Sd_ a w G1 _ hSi hc hG HT hv; have H := HT; clear hSi; have Hb := H.full; have H := Hb; clear hc; refine s_move H wn rfl rfl ?_; clear H; intro a H; refine wl_nil ⟨rfl, ?_⟩; exact draw_val (by kernel_rfl) hprm25 rfl rfl HT Hb hG hv (fun _ _ h => h) (rfl) H
      · intro Sd_ a w G1 _ hSi hc hG HT hv; have H := HT; clear hSi; obtain ⟨u86, hu86, hp86⟩ := hv 9 86 (hc 9 (by decide)) rfl; obtain rfl : u86 = vi m := hp86; have H := H.addS hu86; have Hb := H.full; have H := Hb; clear hc; refine s_add _ H wn rfl rfl rfl (by omega) (by omega) rfl ?_; clear H; intro a H; refine wl_nil ⟨rfl, ?_⟩; exact draw_val (by kernel_rfl) hprm25 rfl rfl HT Hb hG hv (fun _ _ h => h) (rfl) H
      · intro Sd_ a w G1 _ hSi hc hG HT hv; have H := HT; clear hSi; obtain ⟨u85, hu85, hp85⟩ := hv 8 85 (hc 8 (by decide)) rfl; obtain rfl : u85 = vi ((j : Int) + 1) := hp85; have H := H.addS hu85; obtain ⟨u87, hu87, hp87⟩ := hv 10 87 (hc 10 (by decide)) rfl; obtain rfl : u87 = vi ((m : Int) + 1) := hp87; have H := H.addS hu87; have Hb := H.full; have H := Hb; clear hc; refine s_mul (((j + 1) * (m + 1) : Nat) : Int) H wn rfl rfl (by push_cast; rfl) (by omega) (by omega) rfl ?_; clear H; intro a H; refine wl_nil ⟨rfl, ?_⟩; exact draw_val (by kernel_rfl) hprm25 rfl rfl HT Hb hG hv (fun _ _ h => h) (rfl) H
      · intro Sd_ a w G1 _ hSi hc hG HT hv; have H := HT; clear hSi; obtain ⟨u79, hu79, hp79⟩ := hv 2 79 (hc 2 (by decide)) rfl; obtain rfl : u79 = .slice (some ⟨b68, 0, none⟩) ((S.length + 1) * (m + 1)) ((S.length + 1) * (m + 1)) := hp79; have H := H.addS hu79; obtain ⟨u83, hu83, hp83⟩ := hv 6 83 (hc 6 (by decide)) rfl; obtain rfl : u83 = vi ((j * (m + 1) : Nat) : Int) := hp83; have H := H.addS hu83; obtain ⟨u88, hu88, hp88⟩ := hv 11 88 (hc 11 (by decide)) rfl; obtain rfl : u88 = vi (((j + 1) * (m + 1) : Nat) : Int) := hp88; have H := H.addS hu88; have Hb := H.full; have H := Hb; clear hc; refine s_slice un32bst2 ty3bst2 (j * (m + 1)) ((j + 1) * (m + 1)) H wn rfl rfl rfl rfl rfl (by omega) hmu rfl ?_; clear H; intro a H; rw [if_neg hne, Option.map_some, add_lit, Nat.zero_add, Nat.mul_one, hsub] at H; refine wl_nil ⟨rfl, ?_⟩; exact draw_val (by kernel_rfl) hprm25 rfl rfl HT Hb hG hv (fun _ _ h => h) (rfl) H
      · intro Sd_ a w G1 _ hSi hc hG HT hv; have H := HT; clear hSi; obtain ⟨u77, hu77, hp77⟩ := hv 0 77 (hc 0 (by decide)) rfl; obtain rfl : u77 = .slice (some ⟨b71, 0, none⟩) (S.length + 1) (S.length + 1) := hp77; have H := H.addS hu77; obtain ⟨u78, hu78, hp78⟩ := hv 1 78 (hc 1 (by decide)) rfl; obtain rfl : u78 = vi j := hp78; have H := H.addS hu78; have Hb := H.full; have H := Hb; clear hc; refine s_index un23bst2 ty32bst2 j H wn rfl rfl rfl (by omega) rfl ?_; clear H; intro a H; refine wl_nil ⟨rfl, ?_⟩; exact draw_val (by kernel_rfl) hprm25 rfl rfl HT Hb hG hv (fun _ _ h => h) (rfl) H
      intro _ _ _ _ hB; exact absurd hB (by decide)
    clear H; intro a w G hGm25 H hv; obtain ⟨u89, hu89, hp89⟩ := hv 12 89 (by decide) rfl; obtain rfl : u89 = .slice (some ⟨b68, j * (m + 1), none⟩) (m + 1) ((S.length + 1) * (m + 1) - j * (m + 1)) := hp89; have H := H.addS hu89; obtain ⟨u90, hu90, hp90⟩ := hv 13 90 (by decide) rfl; obtain rfl : u90 = .pointer (some ⟨b71, 0 + j * 1, none⟩) := hp90; have H := H.addS hu90; clear hv; refine s_store ty32bst2 3 (c := rowsC b68 S.length (m + 1) j) (vs := [_]) (rowsC b68 S.length (m + 1) (j + 1)) H wn rfl rfl rfl rfl rfl rfl (Eq.mpr Nat.ble_eq (by rw [rowsC_len]; simp only [List.length_singleton]; omega)) (by rw [Nat.zero_add, Nat.mul_one]; exact rowsC_set hj2) ?_; clear H; intro w H; dsimp only [List.set] at H; refine wl_nil ⟨rfl, ?_⟩; refine hK34 _ _ ?_; clear hK34; refine c_region ?_; refine s_add _ H wn rfl rfl rfl (by omega) (by omega) rfl ?_; clear H; intro a H; refine s_move H wn rfl rfl ?_; clear H; intro a H; refine wl_nil ?_; refine loop_end ((j + 1, G)) (by exact (H).sub ⟨rfl, rfl, rfl, rfl, rfl, rfl, rfl, trivial⟩) ?_ ?_
    · (try dsimp only); exact ⟨by omega, fun b o h => hGm25 b o (hgm b o h)⟩
    first | omega | (dsimp only; omega)
  intro h75
  try have p75 := of_decide_eq_false h75
  refine c_exit ?_; refine hK30 _ _ ?_; clear hK30; refine c_seq (fun _ hK36 => ?_)
  have hje : j = S.length + 1 := by omega
  rw [hje] at H; have H := H.pickT (Pl := [_, _, _, _]) (Pl' := [_, _, _, _]) [0, 2, 3, 1] (by decide) rfl; obtain ⟨Ga, hma, hb11', H⟩ := H.giveBox; obtain ⟨Gb, hmb, hb1', H⟩ := H.giveBox; obtain ⟨Gc, hmc, hb71', H⟩ := H.giveBox; have hT : TabG Gc b1 b11 b71 b68 S m := ⟨⟨_, c, (by unfold gcell; rw [hmc _ _ hb1']; rfl), hv.mono fun b o h => hmc b o (hmb b o (hma b o (hgm b o h)))⟩, fun r hr => (hwid r hr).1, (by unfold gcell; rw [hmc _ _ (hmb _ _ hb11')]; rfl), (fun i hi => by unfold gcell; rw [hb71']; simpa using rowsC_get hi), ⟨by omega, hm1⟩, hok⟩; rw [show List.replicate ((S.length + 1) * (m + 1)) (Value.int .i64 0) = (List.replicate ((S.length + 1) * (m + 1)) (0 : Int)).map vi from List.map_replicate.symm] at H; refine c_region ?_; refine s_makeFunc H wn rfl rfl ?_; clear H; intro a H; refine s_assign H wn rfl rfl ?_; clear H; intro a H; refine wl_nil ?_; refine hK36 _ _ ?_; clear hK36; refine c_seq (fun _ hK37 => ?_); refine c_seq (fun _ hK38 => ?_); refine c_region ?_; refine s_move H wn rfl rfl ?_; clear H; intro a H; refine s_sub _ H wn rfl rfl rfl (by omega) (by omega) rfl ?_; clear H; intro a H; refine s_assign H wn rfl rfl ?_; clear H; intro a H; refine wl_nil ?_; refine hK38 _ _ ?_; clear hK38; refine c_block ?_; skip; refine c_loopS (ι := Nat × List Int × GH) (Tc := [(1, _), (8, _), (9, _), (11, _), (13, _)]) (Lc := []) (fun (gh : Nat × List Int × GH) => [(14, vi ((gh.1 : Int) - 1))]) (fun (gh : Nat × List Int × GH) => [bF b68 gh.2.1]) (fun (gh : Nat × List Int × GH) => gh.2.2) (fun (gh : Nat × List Int × GH) => gh.1 ≤ S.length ∧ FlOk (sAt S) S.length m gh.2.1 (fun i' k' => gh.1 ≤ i' ∨ k' = m) ∧ (∀ b o, Gc b = some o → gh.2.2 b = some o)) (fun (gh : Nat × List Int × GH) => gh.1) ((S.length, List.replicate ((S.length + 1) * (m + 1)) 0, Gc)) (by exact (H).sub ⟨rfl, rfl, rfl, rfl, rfl, rfl, trivial⟩) ?_ ?_
  · exact ⟨Nat.le_refl _, fl_zero, fun _ _ h => h⟩
  clear H; intro gh a w hI H; obtain ⟨j, fl, g⟩ := gh; dsimp only at hI H; obtain ⟨hj, hfl, hgm⟩ := hI; dsimp only [List.cons_append, List.nil_append, List.append_nil] at H; refine c_seq (fun _ hK39 => ?_); refine c_seq (fun _ hK40 => ?_); refine c_region ?_; refine s_move H wn rfl rfl ?_; clear H; intro a H; refine s_cmp H wn rfl rfl rfl rfl ?_; clear H; intro a H; refine wl_nil ?_; refine hK40 _ _ ?_; clear hK40; refine c_cond H rfl ?_ ?_
  · intro h96
    try have p96 := of_decide_eq_true h96
    obtain ⟨i, rfl⟩ : ∃ i, j = i + 1 := ⟨j - 1, by omega⟩; rw [show (((i + 1 : Nat) : Int) - 1) = (i : Int) by omega] at H
    have hi2 : i < S.length := by omega
    refine c_skip ?_; refine hK39 _ _ ?_; clear hK39; refine c_seq (fun _ hK41 => ?_); refine c_block ?_; refine c_seq (fun _ hK42 => ?_); refine c_region ?_; refine s_move H wn rfl rfl ?_; clear H; intro a H; refine s_sub _ H wn rfl rfl rfl (by omega) (by omega) rfl ?_; clear H; intro a H; refine s_assign H wn rfl rfl ?_; clear H; intro a H; refine wl_nil ?_; refine hK42 _ _ ?_; clear hK42; refine c_block ?_; skip; refine c_loopS (ι := Nat × List Int × GH) (Tc := [(1, _), (8, _), (9, _), (11, _), (13, _), (14, _)]) (Lc := []) (fun (gh : Nat × List Int × GH) => [(15, vi ((gh.1 : Int) - 1))]) (fun (gh : Nat × List Int × GH) => [bF b68 gh.2.1]) (fun (gh : Nat × List Int × GH) => gh.2.2) (fun (gh : Nat × List Int × GH) => gh.1 ≤ m ∧ FlOk (sAt S) S.length m gh.2.1 (fun i' k' => i + 1 ≤ i' ∨ k' = m ∨ (i' = i ∧ gh.1 ≤ k')) ∧ (∀ b o, Gc b = some o → gh.2.2 b = some o)) (fun (gh : Nat × List Int × GH) => gh.1) ((m, fl, g)) (by exact (H).sub ⟨rfl, rfl, rfl, rfl, rfl, rfl, rfl, trivial⟩) ?_ ?_
    · exact ⟨Nat.le_refl _, hfl.weak (fun i' k' h1 h2 h => by omega), hgm⟩
    clear H; intro gh a w hI H; obtain ⟨q, fl2, g2⟩ := gh; dsimp only at hI H; obtain ⟨hq, hfl2, hgm2⟩ := hI; dsimp only [List.cons_append, List.nil_append, List.append_nil] at H; refine c_seq (fun _ hK43 => ?_); refine c_seq (fun _ hK44 => ?_); refine c_region ?_; refine s_move H wn rfl rfl ?_; clear H; intro a H; refine s_cmp H wn rfl rfl rfl rfl ?_; clear H; intro a H; refine wl_nil ?_; refine hK44 _ _ ?_; clear hK44; refine c_cond H rfl ?_ ?_
    · intro h102
      try have p102 := of_decide_eq_true h102
      obtain ⟨k, rfl⟩ : ∃ k, q = k + 1 := ⟨q - 1, by omega⟩; rw [show (((k + 1 : Nat) : Int) - 1) = (k : Int) by omega] at H
      have hk2 : k < m := by omega
      have e1 := hfl2.2 (i + 1) k (by omega) (by omega) (.inl (Nat.le_refl _)); have e2 := hfl2.2 i (k + 1) (by omega) (by omega) (by omega); have e3 := hfl2.2 (i + 1) (k + 1) (by omega) (by omega) (.inl (Nat.le_refl _)); have hT2 := hT.mono hgm2; have t0 := hT2.tb; have t1 := hT2.rows i (by omega); have t2 := hT2.rows (i + 1) (by omega); have hb3 := htb (i + 1) (k + 1)
      have hlt : i * (m + 1) + k < (S.length + 1) * (m + 1) := by
        have := Nat.mul_le_mul_right (m + 1) (show i ≤ S.length by omega); rw [Nat.succ_mul]; omega
      refine c_skip ?_; refine hK43 _ _ ?_; clear hK43; refine c_seq (fun _ hK45 => ?_); refine c_block ?_
      have hprm34 : ∀ (ix_ : Nat) (v : Value) (G G' : GH), (∀ k o, G k = some o → G' k = some o) → (fun (ix_ : Nat) (v : Value) (G : GH) => match ix_ with | 0 => v = .slice (some ⟨b71, 0, none⟩) (S.length + 1) (S.length + 1) | 1 => v = vi i | 2 => v = .pointer (some ⟨b71, 0 + i * 1, none⟩) | 3 => v = .slice (some ⟨b68, i * (m + 1), none⟩) (m + 1) ((S.length + 1) * (m + 1) - i * (m + 1)) | 4 => v = vi k | 5 => v = .slice (some ⟨b71, 0, none⟩) (S.length + 1) (S.length + 1) | 6 => v = vi i | 7 => v = vi ((i : Int) + 1) | 8 => v = .pointer (some ⟨b71, 0 + (i + 1) * 1, none⟩) | 9 => v = .slice (some ⟨b68, (i + 1) * (m + 1), none⟩) (m + 1) ((S.length + 1) * (m + 1) - (i + 1) * (m + 1)) | 10 => v = vi k | 11 => v = .pointer (some ⟨b68, (i + 1) * (m + 1) + k * 1, none⟩) | 12 => v = vi (tot (sAt S) S.length m (i + 1) k) | 13 => v = .slice (some ⟨b71, 0, none⟩) (S.length + 1) (S.length + 1) | 14 => v = vi i | 15 => v = .pointer (some ⟨b71, 0 + i * 1, none⟩) | 16 => v = .slice (some ⟨b68, i * (m + 1), none⟩) (m + 1) ((S.length + 1) * (m + 1) - i * (m + 1)) | 17 => v = vi k | 18 => v = vi ((k : Int) + 1) | 19 => v = .pointer (some ⟨b68, i * (m + 1) + (k + 1) * 1, none⟩) | 20 => v = vi (tot (sAt S) S.length m i (k + 1)) | 21 => v = .func (.func 22) #[] #[.pointer (some ⟨b1, 0, none⟩), .pointer (some ⟨b11, 0, none⟩)] | 22 => v = vi i | 23 => v = vi k | 24 => v = vi (withS (sAt S) S.length m i k) | 25 => v = vi (tot (sAt S) S.length m i k) | 26 => v = .pointer (some ⟨b68, i * (m + 1) + k * 1, none⟩) | _ => True) ix_ v G → (fun (ix_ : Nat) (v : Value) (G : GH) => match ix_ with | 0 => v = .slice (some ⟨b71, 0, none⟩) (S.length + 1) (S.length + 1) | 1 => v = vi i | 2 => v = .pointer (some ⟨b71, 0 + i * 1, none⟩) | 3 => v = .slice (some ⟨b68, i * (m + 1), none⟩) (m + 1) ((S.length + 1) * (m + 1) - i * (m + 1)) | 4 => v = vi k | 5 => v = .slice (some ⟨b71, 0, none⟩) (S.length + 1) (S.length + 1) | 6 => v = vi i | 7 => v = vi ((i : Int) + 1) | 8 => v = .pointer (some ⟨b71, 0 + (i + 1) * 1, none⟩) | 9 => v = .slice (some ⟨b68, (i + 1) * (m + 1), none⟩) (m + 1) ((S.length + 1) * (m + 1) - (i + 1) * (m + 1)) | 10 => v = vi k | 11 => v = .pointer (some ⟨b68, (i + 1) * (m + 1) + k * 1, none⟩) | 12 => v = vi (tot (sAt S) S.length m (i + 1) k) | 13 => v = .slice (some ⟨b71, 0, none⟩) (S.length + 1) (S.length + 1) | 14 => v = vi i | 15 => v = .pointer (some ⟨b71, 0 + i * 1, none⟩) | 16 => v = .slice (some ⟨b68, i * (m + 1), none⟩) (m + 1) ((S.length + 1) * (m + 1) - i * (m + 1)) | 17 => v = vi k | 18 => v = vi ((k : Int) + 1) | 19 => v = .pointer (some ⟨b68, i * (m + 1) + (k + 1) * 1, none⟩) | 20 => v = vi (tot (sAt S) S.length m i (k + 1)) | 21 => v = .func (.func 22) #[] #[.pointer (some ⟨b1, 0, none⟩), .pointer (some ⟨b11, 0, none⟩)] | 22 => v = vi i | 23 => v = vi k | 24 => v = vi (withS (sAt S) S.length m i k) | 25 => v = vi (tot (sAt S) S.length m i k) | 26 => v = .pointer (some ⟨b68, i * (m + 1) + k * 1, none⟩) | _ => True) ix_ v G' := by
        intro ix_ v G G' hm h
        match ix_, h with
        | 0, h => exact h
        | 1, h => exact h
        | 2, h => exact h
        | 3, h => exact h
        | 4, h => exact h
        | 5, h => exact h
        | 6, h => exact h
        | 7, h => exact h
        | 8, h => exact h
        | 9, h => exact h
        | 10, h => exact h
        | 11, h => exact h
        | 12, h => exact h
        | 13, h => exact h
        | 14, h => exact h
        | 15, h => exact h
        | 16, h => exact h
        | 17, h => exact h
        | 18, h => exact h
        | 19, h => exact h
        | 20, h => exact h
        | 21, h => exact h
        | 22, h => exact h
        | 23, h => exact h
        | 24, h => exact h
        | 25, h => exact h
        | 26, h => exact h
        | 27, h => exact trivial
        | _ + 28, h => exact trivial
      refine c_drawI (hmxb) [[], [], [0, 1], [0, 1, 2], [], [], [], [6], [5, 6, 7], [5, 6, 7, 8], [], [5, 6, 7, 8, 9, 10], [5, 6, 7, 8, 9, 10, 11], [], [], [13, 14], [13, 14, 15], [], [17], [13, 14, 15, 16, 17, 18], [13, 14, 15, 16, 17, 18, 19], [], [], [], [21, 22, 23], [5, 6, 7, 8, 9, 10, 11, 12, 13, 14, 15, 16, 17, 18, 19, 20, 21, 22, 23, 24], [0, 1, 2, 3, 4, 5, 6, 7, 8, 9, 10, 11, 12, 13, 14, 15, 16, 17, 18, 19, 20, 21, 22, 23, 24, 25], [0, 1, 2, 3, 4, 5, 6, 7, 8, 9, 10, 11, 12, 13, 14, 15, 16, 17, 18, 19, 20, 21, 22, 23, 24, 25, 26]] [27] (by kernel_rfl) (by kernel_rfl) (fun (ix_ : Nat) (v : Value) (G : GH) => match ix_ with | 0 => v = .slice (some ⟨b71, 0, none⟩) (S.length + 1) (S.length + 1) | 1 => v = vi i | 2 => v = .pointer (some ⟨b71, 0 + i * 1, none⟩) | 3 => v = .slice (some ⟨b68, i * (m + 1), none⟩) (m + 1) ((S.length + 1) * (m + 1) - i * (m + 1)) | 4 => v = vi k | 5 => v = .slice (some ⟨b71, 0, none⟩) (S.length + 1) (S.length + 1) | 6 => v = vi i | 7 => v = vi ((i : Int) + 1) | 8 => v = .pointer (some ⟨b71, 0 + (i + 1) * 1, none⟩) | 9 => v = .slice (some ⟨b68, (i + 1) * (m + 1), none⟩) (m + 1) ((S.length + 1) * (m + 1) - (i + 1) * (m + 1)) | 10 => v = vi k | 11 => v = .pointer (some ⟨b68, (i + 1) * (m + 1) + k * 1, none⟩) | 12 => v = vi (tot (sAt S) S.length m (i + 1) k) | 13 => v = .slice (some ⟨b71, 0, none⟩) (S.length + 1) (S.length + 1) | 14 => v = vi i | 15 => v = .pointer (some ⟨b71, 0 + i * 1, none⟩) | 16 => v = .slice (some ⟨b68, i * (m + 1), none⟩) (m + 1) ((S.length + 1) * (m + 1) - i * (m + 1)) | 17 => v = vi k | 18 => v = vi ((k : Int) + 1) | 19 => v = .pointer (some ⟨b68, i * (m + 1) + (k + 1) * 1, none⟩) | 20 => v = vi (tot (sAt S) S.length m i (k + 1)) | 21 => v = .func (.func 22) #[] #[.pointer (some ⟨b1, 0, none⟩), .pointer (some ⟨b11, 0, none⟩)] | 22 => v = vi i | 23 => v = vi k | 24 => v = vi (withS (sAt S) S.length m i k) | 25 => v = vi (tot (sAt S) S.length m i k) | 26 => v = .pointer (some ⟨b68, i * (m + 1) + k * 1, none⟩) | _ => True) hprm34 H ?_ ?_
      · clear H; refine (allI_cons ?_ (allI_cons ?_ (allI_cons ?_ (allI_cons ?_ (allI_cons ?_ (allI_cons ?_ (allI_cons ?_ (allI_cons ?_ (allI_cons ?_ (allI_cons ?_ (allI_cons ?_ (allI_cons ?_ (allI_cons ?_ (allI_cons ?_ (allI_cons ?_ (allI_cons ?_ (allI_cons ?_ (allI_cons ?_ (allI_cons ?_ (allI_cons ?_ (allI_cons ?_ (allI_cons ?_ (allI_cons ?_ (allI_cons ?_ (allI_cons ?_ (allI_cons ?_ (allI_cons ?_ (allI_cons ?_ allI_nil))))))))))))))))))))))))))))
        · intro Sd_ a w G1 _ hSi hc hG HT hv; have H := HT; clear hSi; have Hb := H.full; have H := Hb; clear hc; refine s_load ty23bst2 H wn rfl (H.hp.gcell (gcell_mono hG t0)) rfl ?_; clear H; intro a H; refine wl_nil ⟨rfl, ?_⟩; exact draw_val (by kernel_rfl) hprm34 rfl rfl HT Hb hG hv (fun _ _ h => h) (rfl) H
        · intro Sd_ a w G1 _ hSi hc hG HT hv; have H := HT; clear hSi; have Hb := H.full; have H := Hb; clear hc; refine s_move H wn rfl rfl ?_; clear H; intro a H; refine wl_nil ⟨rfl, ?_⟩; exact draw_val (by kernel_rfl) hprm34 rfl rfl HT Hb hG hv (fun _ _ h => h) (rfl) H
        · intro Sd_ a w G1 _ hSi hc hG HT hv; have H := HT; clear hSi; obtain ⟨u105, hu105, hp105⟩ := hv 0 105 (hc 0 (by decide)) rfl; obtain rfl : u105 = .slice (some ⟨b71, 0, none⟩) (S.length + 1) (S.length + 1) := hp105; have H := H.addS hu105; obtain ⟨u106, hu106, hp106⟩ := hv 1 106 (hc 1 (by decide)) rfl; obtain rfl : u106 = vi i := hp106; have H := H.addS hu106; have Hb := H.full; have H := Hb; clear hc; refine s_index un23bst2 ty32bst2 i H wn rfl rfl rfl (by omega) rfl ?_; clear H; intro a H; refine wl_nil ⟨rfl, ?_⟩; exact draw_val (by kernel_rfl) hprm34 rfl rfl HT Hb hG hv (fun _ _ h => h) (rfl) H
        · intro Sd_ a w G1 _ hSi hc hG HT hv; have H := HT; clear hSi; obtain ⟨u107, hu107, hp107⟩ := hv 2 107 (hc 2 (by decide)) rfl; obtain rfl : u107 = .pointer (some ⟨b71, 0 + i * 1, none⟩) := hp107; have H := H.addS hu107; have Hb := H.full; have H := Hb; clear hc; refine s_load ty32bst2 H wn rfl (H.hp.gcell (gcell_mono hG (by rw [Nat.zero_add, Nat.mul_one]; exact t1))) rfl ?_; clear H; intro a H; refine wl_nil ⟨rfl, ?_⟩; exact draw_val (by kernel_rfl) hprm34 rfl rfl HT Hb hG hv (fun _ _ h => h) (rfl) H
        · intro Sd_ a w G1 _ hSi hc hG HT hv; have H := HT; clear hSi; have Hb := H.full; have H := Hb; clear hc; refine s_move H wn rfl rfl ?_; clear H; intro a H; refine wl_nil ⟨rfl, ?_⟩; exact draw_val (by kernel_rfl) hprm34 rfl rfl HT Hb hG hv (fun _ _ h => h) (rfl) H
        · intro Sd_ a w G1 _ hSi hc hG HT hv; have H := HT; clear hSi; have Hb := H.full; have H := Hb; clear hc; refine s_load ty23bst2 H wn rfl (H.hp.gcell (gcell_mono hG t0)) rfl ?_; clear H; intro a H; refine wl_nil ⟨rfl, ?_⟩; exact draw_val (by kernel_rfl) hprm34 rfl rfl HT Hb hG hv (fun _ _ h => h) (rfl) H
        · intro Sd_ a w G1 _ hSi hc hG HT hv; have H := HT; clear hSi; have Hb := H.full; have H := Hb; clear hc; refine s_move H wn rfl rfl ?_; clear H; intro a H; refine wl_nil ⟨rfl, ?_⟩; exact draw_val (by kernel_rfl) hprm34 rfl rfl HT Hb hG hv (fun _ _ h => h) (rfl) H
        · intro Sd_ a w G1 _ hSi hc hG HT hv; have H := HT; clear hSi; obtain ⟨u111, hu111, hp111⟩ := hv 6 111 (hc 6 (by decide)) rfl; obtain rfl : u111 = vi i := hp111; have H := H.addS hu111; have Hb := H.full; have H := Hb; clear hc; refine s_add _ H wn rfl rfl rfl (by omega) (by omega) rfl ?_; clear H; intro a H; refine wl_nil ⟨rfl, ?_⟩; exact draw_val (by kernel_rfl) hprm34 rfl rfl HT Hb hG hv (fun _ _ h => h) (rfl) H
        · intro Sd_ a w G1 _ hSi hc hG HT hv; have H := HT; clear hSi; obtain ⟨u110, hu110, hp110⟩ := hv 5 110 (hc 5 (by decide)) rfl; obtain rfl : u110 = .slice (some ⟨b71, 0, none⟩) (S.length + 1) (S.length + 1) := hp110; have H := H.addS hu110; obtain ⟨u112, hu112, hp112⟩ := hv 7 112 (hc 7 (by decide)) rfl; obtain rfl : u112 = vi ((i : Int) + 1) := hp112; have H := H.addS hu112; have Hb := H.full; have H := Hb; clear hc; refine s_index un23bst2 ty32bst2 (i + 1) H wn rfl rfl (by omega) (by omega) rfl ?_; clear H; intro a H; refine wl_nil ⟨rfl, ?_⟩; exact draw_val (by kernel_rfl) hprm34 rfl rfl HT Hb hG hv (fun _ _ h => h) (rfl) H
        · intro Sd_ a w G1 _ hSi hc hG HT hv; have H := HT; clear hSi; obtain ⟨u113, hu113, hp113⟩ := hv 8 113 (hc 8 (by decide)) rfl; obtain rfl : u113 = .pointer (some ⟨b71, 0 + (i + 1) * 1, none⟩) := hp113; have H := H.addS hu113; have Hb := H.full; have H := Hb; clear hc; refine s_load ty32bst2 H wn rfl (H.hp.gcell (gcell_mono hG (by rw [Nat.zero_add, Nat.mul_one]; exact t2))) rfl ?_; clear H; intro a H; refine wl_nil ⟨rfl, ?_⟩; exact draw_val (by kernel_rfl) hprm34 rfl rfl HT Hb hG hv (fun _ _ h => h) (rfl) H
        · intro Sd_ a w G1 _ hSi hc hG HT hv; have H := HT; clear hSi; have Hb := H.full; have H := Hb; clear hc; refine s_move H wn rfl rfl ?_; clear H; intro a H; refine wl_nil ⟨rfl, ?_⟩; exact draw_val (by kernel_rfl) hprm34 rfl rfl HT Hb hG hv (fun _ _ h => h) (rfl) H
        · intro Sd_ a w G1 _ hSi hc hG HT hv; have H := HT; clear hSi; obtain ⟨u114, hu114, hp114⟩ := hv 9 114 (hc 9 (by decide)) rfl; obtain rfl : u114 = .slice (some ⟨b68, (i + 1) * (m + 1), none⟩) (m + 1) ((S.length + 1) * (m + 1) - (i + 1) * (m + 1)) := hp114; have H := H.addS hu114; obtain ⟨u115, hu115, hp115⟩ := hv 10 115 (hc 10 (by decide)) rfl; obtain rfl : u115 = vi k := hp115; have H := H.addS hu115; have Hb := H.full; have H := Hb; clear hc; refine s_index un32bst2 ty3bst2 k H wn rfl rfl rfl (by omega) rfl ?_; clear H; intro a H; refine wl_nil ⟨rfl, ?_⟩; exact draw_val (by kernel_rfl) hprm34 rfl rfl HT Hb hG hv (fun _ _ h => h) (rfl) H
        · intro Sd_ a w G1 _ hSi hc hG HT hv; have H := HT; clear hSi; obtain ⟨u116, hu116, hp116⟩ := hv 11 116 (hc 11 (by decide)) rfl; obtain rfl : u116 = .pointer (some ⟨b68, (i + 1) * (m + 1) + k * 1, none⟩) := hp116; have H := H.addS hu116; have Hb := H.full; have H := Hb; clear hc; refine s_load ty3bst2 H wn rfl (H.hp.ocell 0 rfl (by rw [Nat.mul_one]; exact fl_get e1)) rfl ?_; clear H; intro a H; refine wl_nil ⟨rfl, ?_⟩; exact draw_val (by kernel_rfl) hprm34 rfl rfl HT Hb hG hv (fun _ _ h => h) (rfl) H
        · intro Sd_ a w G1 _ hSi hc hG HT hv; have H := HT; clear hSi; have Hb := H.full; have H := Hb; clear hc; refine s_load ty23bst2 H wn rfl (H.hp.gcell (gcell_mono hG t0)) rfl ?_; clear H; intro a H; refine wl_nil ⟨rfl, ?_⟩; exact draw_val (by kernel_rfl) hprm34 rfl rfl HT Hb hG hv (fun _ _ h => h) (rfl) H
        · intro Sd_ a w G1 _ hSi hc hG HT hv; have H := HT; clear hSi; have Hb := H.full; have H := Hb; clear hc; refine s_move H wn rfl rfl ?_; clear H; intro a H; refine wl_nil ⟨rfl, ?_⟩; exact draw_val (by kernel_rfl) hprm34 rfl rfl HT Hb hG hv (fun _ _ h => h) (rfl) H
        · intro Sd_ a w G1 _ hSi hc hG HT hv; have H := HT; clear hSi; obtain ⟨u118, hu118, hp118⟩ := hv 13 118 (hc 13 (by decide)) rfl; obtain rfl : u118 = .slice (some ⟨b71, 0, none⟩) (S.length + 1) (S.length + 1) := hp118; have H := H.addS hu118; obtain ⟨u119, hu119, hp119⟩ := hv 14 119 (hc 14 (by decide)) rfl; obtain rfl : u119 = vi i := hp119; have H := H.addS hu119; have Hb := H.full; have H := Hb; clear hc; refine s_index un23bst2 ty32bst2 i H wn rfl rfl rfl (by omega) rfl ?_; clear H; intro a H; refine wl_nil ⟨rfl, ?_⟩; exact draw_val (by kernel_rfl) hprm34 rfl rfl HT Hb hG hv (fun _ _ h => h) (rfl) H
        · intro Sd_ a w G1 _ hSi hc hG HT hv; have H := HT; clear hSi; obtain ⟨u120, hu120, hp120⟩ := hv 15 120 (hc 15 (by decide)) rfl; obtain rfl : u120 = .pointer (some ⟨b71, 0 + i * 1, none⟩) := hp120; have H := H.addS hu120; have Hb := H.full; have H := Hb; clear hc; refine s_load ty32bst2 H wn rfl (H.hp.gcell (gcell_mono hG (by rw [Nat.zero_add, Nat.mul_one]; exact t1))) rfl ?_; clear H; intro a H; refine wl_nil ⟨rfl, ?_⟩; exact draw_val (by kernel_rfl) hprm34 rfl rfl HT Hb hG hv (fun _ _ h => h) (rfl) H
        · intro Sd_ a w G1 _ hSi hc hG HT hv; have H := HT; clear hSi; have Hb := H.full; have H := Hb; clear hc; refine s_move H wn rfl rfl ?_; clear H; intro a H; refine wl_nil ⟨rfl, ?_⟩; exact draw_val (by kernel_rfl) hprm34 rfl rfl HT Hb hG hv (fun _ _ h => h) (rfl) H
        · intro Sd_ a w G1 _ hSi hc hG HT hv; have H := HT; clear hSi; obtain ⟨u122, hu122, hp122⟩ := hv 17 122 (hc 17 (by decide)) rfl; obtain rfl : u122 = vi k := hp122; have H := H.addS hu122; have Hb := H.full; have H := Hb; clear hc; refine s_add _ H wn rfl rfl rfl (by omega) (by omega) rfl ?_; clear H; intro a H; refine wl_nil ⟨rfl, ?_⟩; exact draw_val (by kernel_rfl) hprm34 rfl rfl HT Hb hG hv (fun _ _ h => h) (rfl) H
        · intro Sd_ a w G1 _ hSi hc hG HT hv; have H := HT; clear hSi; obtain ⟨u121, hu121, hp121⟩ := hv 16 121 (hc 16 (by decide)) rfl; obtain rfl : u121 = .slice (some ⟨b68, i * (m + 1), none⟩) (m + 1) ((S.length + 1) * (m + 1) - i * (m + 1)) := hp121; have H := H.addS hu121; obtain ⟨u123, hu123, hp123⟩ := hv 18 123 (hc 18 (by decide)) rfl; obtain rfl : u123 = vi ((k : Int) + 1) := hp123; have H := H.addS hu123; have Hb := H.full; have H := Hb; clear hc; refine s_index un32bst2 ty3bst2 (k + 1) H wn rfl rfl (by omega) (by omega) rfl ?_; clear H; intro a H; refine wl_nil ⟨rfl, ?_⟩; exact draw_val (by kernel_rfl) hprm34 rfl rfl HT Hb hG hv (fun _ _ h => h) (rfl) H
        · intro Sd_ a w G1 _ hSi hc hG HT hv; have H := HT; clear hSi; obtain ⟨u124, hu124, hp124⟩ := hv 19 124 (hc 19 (by decide)) rfl; obtain rfl : u124 = .pointer (some ⟨b68, i * (m + 1) + (k + 1) * 1, none⟩) := hp124; have H := H.addS hu124; have Hb := H.full; have H := Hb; clear hc; refine s_load ty3bst2 H wn rfl (H.hp.ocell 0 rfl (by rw [Nat.mul_one]; exact fl_get e2)) rfl ?_; clear H; intro a H; refine wl_nil ⟨rfl, ?_⟩; exact draw_val (by kernel_rfl) hprm34 rfl rfl HT Hb hG hv (fun _ _ h => h) (rfl) H
        · intro Sd_ a w G1 _ hSi hc hG HT hv; have H := HT; clear hSi; have Hb := H.full; have H := Hb; clear hc; refine s_move H wn rfl rfl ?_; clear H; intro a H; refine wl_nil ⟨rfl, ?_⟩; exact draw_val (by kernel_rfl) hprm34 rfl rfl HT Hb hG hv (fun _ _ h => h) (rfl) H
        · intro Sd_ a w G1 _ hSi hc hG HT hv; have H := HT; clear hSi; have Hb := H.full; have H := Hb; clear hc; refine s_move H wn rfl rfl ?_; clear H; intro a H; refine wl_nil ⟨rfl, ?_⟩; exact draw_val (by kernel_rfl) hprm34 rfl rfl HT Hb hG hv (fun _ _ h => h) (rfl) H
        · intro Sd_ a w G1 _ hSi hc hG HT hv; have H := HT; clear hSi; have Hb := H.full; have H := Hb; clear hc; refine s_move H wn rfl rfl ?_; clear H; intro a H; refine wl_nil ⟨rfl, ?_⟩; exact draw_val (by kernel_rfl) hprm34 rfl rfl HT Hb hG hv (fun _ _ h => h) (rfl) H
        · intro Sd_ a w G1 _ hSi hc hG HT hv; have H := HT; clear hSi; obtain ⟨u126, hu126, hp126⟩ := hv 21 126 (hc 21 (by decide)) rfl; obtain rfl : u126 = .func (.func 22) #[] #[.pointer (some ⟨b1, 0, none⟩), .pointer (some ⟨b11, 0, none⟩)] := hp126; have H := H.addS hu126; obtain ⟨u127, hu127, hp127⟩ := hv 22 127 (hc 22 (by decide)) rfl; obtain rfl : u127 = vi i := hp127; have H := H.addS hu127; obtain ⟨u128, hu128, hp128⟩ := hv 23 128 (hc 23 (by decide)) rfl; obtain rfl : u128 = vi k := hp128; have H := H.addS hu128; have Hb := H.full; have H := Hb; clear hc; refine s_callv (Li := []) (L := [bF b68 fl2]) H wn rfl rfl (with_spec (hT2.mono hG) (Hp.owns (Li := []) H.hp) hi2 hk2 e3 (by omega)) rfl ?_; clear H; rintro v129 G129 L129 a w ⟨rfl, rfl⟩ hGm129 H; refine wl_nil ⟨rfl, ?_⟩; exact draw_val (by kernel_rfl) hprm34 rfl rfl HT Hb hG hv hGm129 (rfl) H
        · intro Sd_ a w G1 _ hSi hc hG HT hv; have H := HT; clear hSi; obtain ⟨u117, hu117, hp117⟩ := hv 12 117 (hc 12 (by decide)) rfl; obtain rfl : u117 = vi (tot (sAt S) S.length m (i + 1) k) := hp117; have H := H.addS hu117; obtain ⟨u125, hu125, hp125⟩ := hv 20 125 (hc 20 (by decide)) rfl; obtain rfl : u125 = vi (tot (sAt S) S.length m i (k + 1)) := hp125; have H := H.addS hu125; obtain ⟨u129, hu129, hp129⟩ := hv 24 129 (hc 24 (by decide)) rfl; obtain rfl : u129 = vi (withS (sAt S) S.length m i k) := hp129; have H := H.addS hu129; have Hb := H.full; have H := Hb; clear hc; refine s_max3 H wn rfl rfl rfl rfl ?_; clear H; intro a H; refine wl_nil ⟨rfl, ?_⟩; exact draw_val (by kernel_rfl) hprm34 rfl rfl HT Hb hG hv (fun _ _ h => h) (by rw [tot_in hi2 hk2]; rfl) H
        · intro Sd_ a w G1 _ hSi hc hG HT hv; have H := HT; clear hSi; obtain ⟨u108, hu108, hp108⟩ := hv 3 108 (hc 3 (by decide)) rfl; obtain rfl : u108 = .slice (some ⟨b68, i * (m + 1), none⟩) (m + 1) ((S.length + 1) * (m + 1) - i * (m + 1)) := hp108; have H := H.addS hu108; obtain ⟨u109, hu109, hp109⟩ := hv 4 109 (hc 4 (by decide)) rfl; obtain rfl : u109 = vi k := hp109; have H := H.addS hu109; have Hb := H.full; have H := Hb; clear hc; refine s_index un32bst2 ty3bst2 k H wn rfl rfl rfl (by omega) rfl ?_; clear H; intro a H; refine wl_nil ⟨rfl, ?_⟩; exact draw_val (by kernel_rfl) hprm34 rfl rfl HT Hb hG hv (fun _ _ h => h) (rfl) H
        intro _ _ _ _ hB; exact absurd hB (by decide)
      clear H; intro a w G hGm34 H hv; obtain ⟨u130, hu130, hp130⟩ := hv 25 130 (by decide) rfl; obtain rfl : u130 = vi (tot (sAt S) S.length m i k) := hp130; have H := H.addS hu130; obtain ⟨u131, hu131, hp131⟩ := hv 26 131 (by decide) rfl; obtain rfl : u131 = .pointer (some ⟨b68, i * (m + 1) + k * 1, none⟩) := hp131; have H := H.addS hu131; clear hv; refine s_store ty3bst2 0 (c := fl2.map vi) (vs := [_]) ((fl2.set (i * (m + 1) + k) (tot (sAt S) S.length m i k)).map vi) H wn rfl rfl rfl rfl rfl rfl (Eq.mpr Nat.ble_eq (by rw [List.length_map, hfl2.1]; simp only [List.length_singleton]; omega)) (by rw [Nat.mul_one, List.map_set]; rfl) ?_; clear H; intro w H; dsimp only [List.set] at H; refine wl_nil ⟨rfl, ?_⟩; refine hK45 _ _ ?_; clear hK45; refine c_region ?_; refine s_move H wn rfl rfl ?_; clear H; intro a H; refine s_sub _ H wn rfl rfl rfl (by omega) (by omega) rfl ?_; clear H; intro a H; refine s_assign H wn rfl rfl ?_; clear H; intro a H; refine wl_nil ?_; refine loop_end ((k, fl2.set (i * (m + 1) + k) (tot (sAt S) S.length m i k), G)) (by exact (H).sub ⟨rfl, rfl, rfl, rfl, rfl, rfl, rfl, trivial⟩) ?_ ?_
      · (try dsimp only); exact ⟨by omega, fl_set hfl2 hi2 hk2 (fun i' k' h => by omega), fun b o h => hGm34 b o (hgm2 b o h)⟩
      first | omega | (dsimp only; omega)
    intro h102
    try have p102 := of_decide_eq_false h102
    refine c_exit ?_; refine hK41 _ _ ?_; clear hK41; refine c_region ?_; refine s_move H wn rfl rfl ?_; clear H; intro a H; refine s_sub _ H wn rfl rfl rfl (by omega) (by omega) rfl ?_; clear H; intro a H; refine s_assign H wn rfl rfl ?_; clear H; intro a H; refine wl_nil ?_; refine loop_end ((i, fl2, g2)) (by exact (H).sub ⟨rfl, rfl, rfl, rfl, rfl, rfl, trivial⟩) ?_ ?_
    · (try dsimp only); exact ⟨by omega, hfl2.weak (fun i' k' h1 h2 h => by omega), hgm2⟩
    first | omega | (dsimp only; omega)
  intro h96
  try have p96 := of_decide_eq_false h96
  refine c_exit ?_; refine hK37 _ _ ?_; clear hK37; refine c_seq (fun _ hK46 => ?_)
  have hj0 : j = 0 := by omega
  subst hj0; have hall : ∀ i k, i ≤ S.length → k ≤ m → fl[i * (m + 1) + k]? = some (tot (sAt S) S.length m i k) := fun i k hi hk => hfl.2 i k hi hk (.inl (Nat.zero_le _)); have hbsl := bestS_len (sAt S) S.length m (S.length + m) 0 0 (by omega); refine c_region ?_; refine s_assign H wn rfl rfl ?_; clear H; intro a H; refine wl_nil ?_; refine hK46 _ _ ?_; clear hK46; refine c_seq (fun _ hK47 => ?_); refine c_seq (fun _ hK48 => ?_); refine c_region ?_; (iterate 2 refine s_assign H wn rfl rfl ?_; clear H; intro a H); refine wl_nil ?_; refine hK48 _ _ ?_; clear hK48; refine c_block ?_; skip; refine c_loopS (ι := Nat × Nat × List MatchD × Value × List Value × OL × GH) (Tc := [(1, _), (8, _), (9, _), (11, _), (13, _)]) (Lc := [(_, _)]) (fun (gh : Nat × Nat × List MatchD × Value × List Value × OL × GH) => [(16, gh.2.2.2.1), (17, vi gh.1), (18, vi gh.2.1)]) (fun (gh : Nat × Nat × List MatchD × Value × List Value × OL × GH) => [] ++ gh.2.2.2.2.2.1) (fun (gh : Nat × Nat × List MatchD × Value × List Value × OL × GH) => gh.2.2.2.2.2.2) (fun (gh : Nat × Nat × List MatchD × Value × List Value × OL × GH) => gh.1 ≤ S.length ∧ gh.2.1 ≤ m ∧ IsRow 31 3 gh.2.2.2.1 gh.2.2.1.length gh.2.2.2.2.1 gh.2.2.2.2.2.1 ∧ RepCat gh.2.2.2.2.2.2 3 (gh.2.2.1.map MatchD.dat) gh.2.2.2.2.1 ∧ gh.2.2.1 ++ bestS (sAt S) S.length m gh.1 gh.2.1 = bestS (sAt S) S.length m 0 0 ∧ (∀ b o, Gc b = some o → gh.2.2.2.2.2.2 b = some o)) (fun (gh : Nat × Nat × List MatchD × Value × List Value × OL × GH) => (S.length - gh.1) + (m - gh.2.1)) ((0, 0, [], .slice none 0 0, [], [], g)) (by exact (H).sub ⟨rfl, rfl, rfl, rfl, rfl, rfl, rfl, rfl, trivial⟩) ?_ ?_
  · exact ⟨Nat.zero_le _, Nat.zero_le _, IsRow.nil, RepCat.nil, rfl, hgm⟩
  clear H; intro gh a w hI H; obtain ⟨i, k, B, v, xs, Lo, g3⟩ := gh; dsimp only at hI H; obtain ⟨hi, hk, hrw, hcat, heq, hgm3⟩ := hI
  have hBl : B.length ≤ 1024 := by have := congrArg List.length heq; rw [List.length_append] at this; omega
  dsimp only [List.cons_append, List.nil_append, List.append_nil] at H; refine c_seq (fun _ hK49 => ?_); refine c_seq (fun _ hK50 => ?_); refine c_region ?_; (iterate 2 refine s_move H wn rfl rfl ?_; clear H; intro a H); refine s_cmp H wn rfl rfl rfl rfl ?_; clear H; intro a H; refine s_move H wn rfl rfl ?_; clear H; intro a H; refine s_split H 135 rfl ?_ ?_
  · intro h135
    try have p135 := of_decide_eq_true h135
    (iterate 2 refine s_move H (wg H rfl rfl h135) rfl rfl ?_; clear H; intro a H); refine s_cmp H (wg H rfl rfl h135) rfl rfl rfl rfl ?_; clear H; intro a H; refine s_pick_t H wn rfl h135 rfl rfl ?_; clear H; intro a H; refine wl_nil ?_; refine hK50 _ _ ?_; clear hK50; refine c_cond H rfl ?_ ?_
    · intro h139
      try have p139 := of_decide_eq_true h139
      have hi2 : i < S.length := by omega
      have hk2 : k < m := by omega
      have hT3 := hT.mono hgm3; have t0 := hT3.tb
      have t1 : gcell g3 b71 (0 + i * 1) = some (.slice (some ⟨b68, i * (m + 1), none⟩) (m + 1) ((S.length + 1) * (m + 1) - i * (m + 1))) := by rw [Nat.zero_add, Nat.mul_one]; exact hT3.rows i (by omega)
      have hb3 := htb (i + 1) (k + 1); rw [bestS, dif_pos ⟨hi2, hk2⟩] at heq; refine c_skip ?_; refine hK49 _ _ ?_; clear hK49; refine c_block ?_; refine c_seq (fun _ hK51 => ?_); refine c_region ?_; refine s_load ty23bst2 H wn rfl (H.hp.gcell (by assumption)) rfl ?_; clear H; intro a H; refine s_move H wn rfl rfl ?_; clear H; intro a H; refine s_index un23bst2 ty32bst2 _ H wn rfl rfl rfl (by first | assumption | omega) rfl ?_; clear H; intro a H; refine s_load ty32bst2 H wn rfl (H.hp.gcell (by assumption)) rfl ?_; clear H; intro a H; refine s_move H wn rfl rfl ?_; clear H; intro a H; refine s_index un32bst2 ty3bst2 _ H wn rfl rfl rfl (by first | assumption | omega) rfl ?_; clear H; intro a H; refine s_load ty3bst2 H wn rfl (H.hp.ocell 0 rfl (by rw [Nat.mul_one]; exact fl_get (hall i k (by omega) (by omega)))) rfl ?_; clear H; intro a H; refine wl_nil ?_; refine hK51 _ _ ?_; clear hK51; refine c_block ?_; refine c_seq (fun _ hK52 => ?_); refine c_region ?_; (iterate 3 refine s_move H wn rfl rfl ?_; clear H; intro a H); refine s_callv (Li := []) (L := bF b68 fl :: Lo) H wn rfl rfl (with_spec hT3 (Hp.owns (Li := []) H.hp) hi2 hk2 (hall (i + 1) (k + 1) (by omega) (by omega)) (by omega)) rfl ?_; clear H; rintro v153 G153 L153 a w ⟨rfl, rfl⟩ hm153 H; dsimp only [List.nil_append] at H; have hT4 := hT3.mono hm153; have t0 := hT4.tb
      have t2 : gcell G153 b71 (0 + (i + 1) * 1) = some (.slice (some ⟨b68, (i + 1) * (m + 1), none⟩) (m + 1) ((S.length + 1) * (m + 1) - (i + 1) * (m + 1))) := by rw [Nat.zero_add, Nat.mul_one]; exact hT4.rows (i + 1) (by omega)
      obtain ⟨A4, c4, s1, s2⟩ := hT4.sc; obtain ⟨sb, so, sA, sc, rfl, g1, g2⟩ := mat_row s2 hi2; obtain ⟨sb2, so2, rfl, g5⟩ := num_at g2 (show k < S[i].length by rw [hT4.wid _ (List.getElem_mem hi2)]; exact hk2); rw [← sAt_eq hi2 (by rw [hT4.wid _ (List.getElem_mem hi2)]; exact hk2)] at g5; have hwi := hT4.wid _ (List.getElem_mem hi2); refine s_cmp H wn rfl rfl rfl rfl ?_; clear H; intro a H; refine s_assign H wn rfl rfl ?_; clear H; intro a H; refine wl_nil ?_; refine hK52 _ _ ?_; clear hK52; refine c_cond H rfl ?_ ?_
      · intro h149
        try have p149 := of_decide_eq_true h149
        rw [if_pos (show tot (sAt S) S.length m i k = withS (sAt S) S.length m i k from p149)] at heq; refine c_seq (fun _ hK53 => ?_); refine c_region ?_; (iterate 3 refine s_move H wn rfl rfl ?_; clear H; intro a H); refine s_load ty23bst2 H wn rfl (H.hp.gcell (by assumption)) rfl ?_; clear H; intro a H; refine s_move H wn rfl rfl ?_; clear H; intro a H; refine s_index un23bst2 ty32bst2 _ H wn rfl rfl rfl (by first | assumption | omega) rfl ?_; clear H; intro a H; refine s_load ty32bst2 H wn rfl (H.hp.gcell (by assumption)) rfl ?_; clear H; intro a H; refine s_move H wn rfl rfl ?_; clear H; intro a H; refine s_index un32bst2 ty3bst2 _ H wn rfl rfl rfl (by first | assumption | omega) rfl ?_; clear H; intro a H; refine s_load ty3bst2 H wn rfl (H.hp.gcell (by assumption)) rfl ?_; clear H; intro a H; refine s_build sr31bst2 [_, _, _] H wn rfl rfl rfl rfl ?_; clear H; intro a H; refine s_buildSlice un25bst2 ty31bst2 [_, _, _] [_, _, _] H wn rfl rfl rfl rfl rfl (by intro i q h; match i, h with | 0, h => exact h | n + 1, h => simp at h) rfl rfl ?_; clear H; intro b166 a w hb166 H; refine s_append (Li := [_, _]) (Lo := Lo) (news := [vi i, vi k, vi (sAt S i k)]) un25bst2 ty31bst2 rfl rfl H wn rfl rfl hrw rfl (H.hp.ocells 0 rfl rfl) rfl (by omega) (by omega) rfl ?_; clear H; intro v167 Lo167 a w hrw167 H; refine s_assign H wn rfl rfl ?_; clear H; intro a H; refine wl_nil ?_; refine hK53 _ _ ?_; clear hK53; refine c_region ?_; refine s_move H wn rfl rfl ?_; clear H; intro a H; refine s_add _ H wn rfl rfl rfl (by omega) (by omega) rfl ?_; clear H; intro a H; refine s_move H wn rfl rfl ?_; clear H; intro a H; refine s_add _ H wn rfl rfl rfl (by omega) (by omega) rfl ?_; clear H; intro a H; (iterate 2 refine s_assign H wn rfl rfl ?_; clear H; intro a H); refine wl_nil ?_; refine loop_end ((i + 1, k + 1, B ++ [⟨i, k, sAt S i k⟩], v167, xs ++ [vi i, vi k, vi (sAt S i k)], Lo167, G153)) (by exact (H.pickT (Pl := [_, _]) (Pl' := [_]) [1] (by decide) rfl).sub ⟨rfl, rfl, rfl, rfl, rfl, rfl, rfl, rfl, trivial⟩) ?_ ?_
        · (try dsimp only); exact ⟨by omega, by omega, by rw [List.length_append]; exact hrw167, by rw [List.map_append]; exact (hcat.mono hm153).snoc (match_row _ ⟨i, k, sAt S i k⟩) rfl, by simpa using heq, fun b o h => hm153 b o (hgm3 b o h)⟩
        first | omega | (dsimp only; omega)
      intro h149
      try have p149 := of_decide_eq_false h149
      rw [if_neg (show ¬ tot (sAt S) S.length m i k = withS (sAt S) S.length m i k from p149)] at heq; refine c_seq (fun _ hK54 => ?_); refine c_region ?_; refine s_load ty23bst2 H wn rfl (H.hp.gcell (by assumption)) rfl ?_; clear H; intro a H; refine s_move H wn rfl rfl ?_; clear H; intro a H; refine s_add _ H wn rfl rfl rfl (by omega) (by omega) rfl ?_; clear H; intro a H; refine s_index un23bst2 ty32bst2 (i + 1) H wn rfl rfl (by omega) (by omega) rfl ?_; clear H; intro a H; refine s_load ty32bst2 H wn rfl (H.hp.gcell (by assumption)) rfl ?_; clear H; intro a H; refine s_move H wn rfl rfl ?_; clear H; intro a H; refine s_index un32bst2 ty3bst2 _ H wn rfl rfl rfl (by first | assumption | omega) rfl ?_; clear H; intro a H; refine s_load ty3bst2 H wn rfl (H.hp.ocell 0 rfl (by rw [Nat.mul_one]; exact fl_get (hall (i + 1) k (by omega) (by omega)))) rfl ?_; clear H; intro a H; refine s_cmp H wn rfl rfl rfl rfl ?_; clear H; intro a H; refine s_assign H wn rfl rfl ?_; clear H; intro a H; refine wl_nil ?_; refine hK54 _ _ ?_; clear hK54; refine c_cond H rfl ?_ ?_
      · intro h172
        try have p172 := of_decide_eq_true h172
        rw [if_pos p172] at heq; refine c_region ?_; refine s_move H wn rfl rfl ?_; clear H; intro a H; refine s_add _ H wn rfl rfl rfl (by omega) (by omega) rfl ?_; clear H; intro a H; refine s_assign H wn rfl rfl ?_; clear H; intro a H; refine wl_nil ?_; refine loop_end ((i + 1, k, B, v, xs, Lo, G153)) (by exact (H).sub ⟨rfl, rfl, rfl, rfl, rfl, rfl, rfl, rfl, trivial⟩) ?_ ?_
        · (try dsimp only); exact ⟨by omega, by omega, hrw, hcat.mono hm153, heq, fun b o h => hm153 b o (hgm3 b o h)⟩
        first | omega | (dsimp only; omega)
      intro h172
      try have p172 := of_decide_eq_false h172
      rw [if_neg p172] at heq; refine c_region ?_; refine s_move H wn rfl rfl ?_; clear H; intro a H; refine s_add _ H wn rfl rfl rfl (by omega) (by omega) rfl ?_; clear H; intro a H; refine s_assign H wn rfl rfl ?_; clear H; intro a H; refine wl_nil ?_; refine loop_end ((i, k + 1, B, v, xs, Lo, G153)) (by exact (H).sub ⟨rfl, rfl, rfl, rfl, rfl, rfl, rfl, rfl, trivial⟩) ?_ ?_
      · (try dsimp only); exact ⟨by omega, by omega, hrw, hcat.mono hm153, heq, fun b o h => hm153 b o (hgm3 b o h)⟩
      first | omega | (dsimp only; omega)
    intro h139
    try have p139 := of_decide_eq_false h139
    refine c_exit ?_; refine hK47 _ _ ?_; clear hK47; refine c_seq (fun _ hK55 => ?_); rw [bestS, dif_neg (by omega), List.append_nil] at heq; obtain ⟨Gr, hmr, hrep, H⟩ := St.giveRow (Li := [_]) H hrw (rows := B.map MatchD.dat) (by simp) hcat; rw [heq] at hrep; refine c_region ?_; refine s_move H wn rfl rfl ?_; clear H; intro a H; (iterate 2 refine s_assign H wn rfl rfl ?_; clear H; intro a H); refine wl_nil ?_; refine hK55 _ _ ?_; clear hK55; refine c_ret ?_; refine (leaveT H Tryd.results10 (.cons (rv_tmp H rfl) (.cons (rv_tmp H rfl) .nil)) ?_).1
    first
      | (have hr : rowChk m S[i] = 2 := by
          rw [rowChk, if_neg (by omega), if_neg (by omega), if_neg (fun h => by
            have := List.all_eq_true.1 h _ (List.getElem_mem hk2)
            simp only [okN, Bool.and_eq_true, decide_eq_true_eq] at this
            omega)]
         exact H.hp.ret ⟨_, by rw [hfst 2 (by decide) hr], by rw [hbl 2 (by decide) (hfst 2 (by decide) hr)]; exact RepV.nil_ rfl (by decide)⟩)
      | (have hS : S = [] := List.eq_nil_of_length_eq_zero (by omega)
         subst hS
         exact H.hp.ret ⟨_, by rw [bestL_nil.1], by rw [bestL_nil.2]; exact RepV.nil_ rfl (by decide)⟩)
      | exact H.hp.ret ⟨_, by rw [hchk], by rw [bestL, if_pos hchk, ← hm]; exact hrep⟩
  intro h135
  try have p135 := of_decide_eq_false h135
  (iterate 3 refine s_skip H rfl rfl h135 rfl ?_; clear H; intro a H); refine s_pick_f H wn rfl h135 rfl rfl ?_; clear H; intro a H; refine wl_nil ?_; refine hK50 _ _ ?_; clear hK50; refine c_cond_f H rfl rfl ?_; refine c_exit ?_; refine hK47 _ _ ?_; clear hK47; refine c_seq (fun _ hK56 => ?_); rw [bestS, dif_neg (by omega), List.append_nil] at heq; obtain ⟨Gr, hmr, hrep, H⟩ := St.giveRow (Li := [_]) H hrw (rows := B.map MatchD.dat) (by simp) hcat; rw [heq] at hrep; refine c_region ?_; refine s_move H wn rfl rfl ?_; clear H; intro a H; (iterate 2 refine s_assign H wn rfl rfl ?_; clear H; intro a H); refine wl_nil ?_; refine hK56 _ _ ?_; clear hK56; refine c_ret ?_; refine (leaveT H Tryd.results10 (.cons (rv_tmp H rfl) (.cons (rv_tmp H rfl) .nil)) ?_).1
  first
    | (have hr : rowChk m S[i] = 2 := by
        rw [rowChk, if_neg (by omega), if_neg (by omega), if_neg (fun h => by
          have := List.all_eq_true.1 h _ (List.getElem_mem hk2)
          simp only [okN, Bool.and_eq_true, decide_eq_true_eq] at this
          omega)]
       exact H.hp.ret ⟨_, by rw [hfst 2 (by decide) hr], by rw [hbl 2 (by decide) (hfst 2 (by decide) hr)]; exact RepV.nil_ rfl (by decide)⟩)
    | (have hS : S = [] := List.eq_nil_of_length_eq_zero (by omega)
       subst hS
       exact H.hp.ret ⟨_, by rw [bestL_nil.1], by rw [bestL_nil.2]; exact RepV.nil_ rfl (by decide)⟩)
    | exact H.hp.ret ⟨_, by rw [hchk], by rw [bestL, if_pos hchk, ← hm]; exact hrep⟩
end Go.Proofs.YtpmcdlhhfbobfaaDoor
