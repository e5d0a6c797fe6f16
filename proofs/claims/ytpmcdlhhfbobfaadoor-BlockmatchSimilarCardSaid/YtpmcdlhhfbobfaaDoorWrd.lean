/-
  Package segment: word, next.
-/
import Derived.Test.YtpmcdlhhfbobfaaDoorFnd
namespace Go.Proofs.YtpmcdlhhfbobfaaDoor
open Go.RowKit
theorem ty100wrd : Ty Tryd.prog 100 3 24 [.int .i64 0, .int .i64 0, .int .i64 0] true := ⟨by kernel_rfl, by kernel_rfl⟩
theorem un73wrd : Tryd.prog.underlying 73 = some (.slice 100) := by kernel_rfl
theorem en60wrd : ∀ args w, (callFunc 60 args).run Tryd.prog w = .ok (.enter 60 args) w := enters Tryd.func60 rfl (by kernel_rfl)
theorem un32wrd : Tryd.prog.underlying 32 = some (.slice 3) := by kernel_rfl
theorem ty3wrd : Ty Tryd.prog 3 1 8 [.int .i64 0] false := ⟨by kernel_rfl, by kernel_rfl⟩
theorem en61wrd : ∀ args w, (callFunc 61 args).run Tryd.prog w = .ok (.enter 61 args) w := enters Tryd.func61 rfl (by kernel_rfl)
theorem cl_row (G : GH) (x : ClD) : RepRow G x.dat x.cells := by
  simp only [ClD.dat, ClD.cells, RepRow]
  exact ⟨_, _, rfl, by simp [RepV, Value.oneCell'], _, _, rfl, by simp [RepV, Value.oneCell'], _, _, rfl, by simp [RepV, Value.oneCell'], rfl⟩
theorem cl_of {G : GH} {x : ClD} {cs : List Value} (h : RepRow G x.dat cs) : cs = x.cells := by
  simp only [ClD.dat, RepRow, RepV] at h
  obtain ⟨v1, _, rfl, ⟨rfl, -⟩, v2, _, rfl, ⟨rfl, -⟩, v3, _, rfl, ⟨rfl, -⟩, rfl⟩ := h
  rfl
theorem clu_at {G : GH} {l : List ClD} {A : Option Addr} {n c k : Nat} (hv : RepV G (.sl 3 (l.map ClD.dat)) (.slice A n c)) (hk : k < l.length) : ∃ b o, A = some ⟨b, o, none⟩ ∧ (∀ j u, l[k].cells[j]? = some u → gcell G b (o + k * 3 + j) = some u) := by
  obtain ⟨A', c', he, _, _, hg⟩ := hv.slice
  injection he with e1 e2 e3
  subst e1; obtain ⟨b, o, cs, h1, h2, h3, h4⟩ := hg k l[k].dat (by simp [hk]); obtain rfl := cl_of h4; exact ⟨b, o, h1, h3⟩
theorem clu_get {G : GH} {l : List ClD} {b o n c k : Nat} (hv : RepV G (.sl 3 (l.map ClD.dat)) (.slice (some ⟨b, o, none⟩) n c)) (hk : k < l.length) : ∀ j u, [vi l[k].cls, vi l[k].from_, vi l[k].to][j]? = some u → gcell G b (o + k * 3 + j) = some u := by
  obtain ⟨b', o', e, h⟩ := clu_at hv hk
  injection e with e; injection e with e1 e2; subst e1; subst e2
  exact h
def clsA (l : List ClD) (i : Nat) : Int := match l[i]? with | some x => x.cls | none => -1
theorem clsA_eq {l : List ClD} {i : Nat} (h : i < l.length) : clsA l i = l[i].cls := by simp only [clsA, List.getElem?_eq_getElem h]
theorem is1 {l : List ClD} {i : Nat} (h : i < l.length) (c : Int) : decide (l[i].cls ∈ [c]) = decide (clsA l i = c) := by rw [clsA_eq h]; simp
theorem is2 {l : List ClD} {i : Nat} (h : i < l.length) (c d : Int) : decide (l[i].cls ∈ [c, d]) = decide (clsA l i = c ∨ clsA l i = d) := by rw [clsA_eq h]; simp
/-- Whether a word or number goes on with a cluster. -/
def okW (l : List ClD) (n : Nat) : Bool := decide (clsA l n = 5 ∨ clsA l n = 6 ∨ (0 < n ∧ n + 1 < l.length ∧ clsA l n = 11 ∧ clsA l (n - 1) = 5 ∧ clsA l (n + 1) = 5) ∨ (0 < n ∧ n + 1 < l.length ∧ clsA l n = 10 ∧ clsA l (n - 1) = 6 ∧ clsA l (n + 1) = 6))
def wrdF (l : List ClD) : Nat → Nat → Int → Nat × Int
  | 0, n, k => (n, k)
  | f + 1, n, k => if n < l.length then (if okW l n = true then wrdF l f (n + 1) (if clsA l n = 5 then 1 else k) else (n, k)) else (n, k)
theorem wrdF_in {l : List ClD} {f n : Nat} {k : Int} (hf : l.length - n ≤ f) (h : n < l.length) : wrdF l f n k = if okW l n = true then wrdF l (f - 1) (n + 1) (if clsA l n = 5 then 1 else k) else (n, k) := by
  match f, hf with
  | 0, hf => omega
  | f + 1, _ => rw [wrdF, if_pos h]; rfl
theorem wrdF_end {l : List ClD} {f n : Nat} {k : Int} (h : ¬ n < l.length) : wrdF l f n k = (n, k) := by
  match f with
  | 0 => rfl
  | f + 1 => rw [wrdF, if_neg h]
def wrdS (l : List ClD) : Nat × Int := wrdF l l.length 0 2
theorem word_spec (G : GH) (w0 : World) (hG : Hold G w0) (l : List ClD) (v : Value) (hv : RepV G (.sl 3 (l.map ClD.dat)) v) :
    Calls Tryd.prog 61 #[v] w0 (Ret w0 G fun u G' => u = .tuple #[vi (wrdS l).1, vi (wrdS l).2]) := by
  obtain ⟨A, c, rfl, hc1, hc2, -⟩ := hv.slice; have hml : maxLen = 9223372036854775807 := rfl; rw [List.length_map] at *; refine enter (N := 100) (T := [(0, _)]) (F := fun k => k < w0.heap.size) (L := []) Tryd.func61 rfl Tryd.ntmps61 rfl rfl hG (fun _ h => h) (fun _ h => by cases h) (fun _ h => by cases h) (fun _ h => by cases h) List.Pairwise.nil ?_; intro a H; refine c_seq (fun _ hK1 => ?_); refine c_region ?_; (iterate 2 refine s_assign H wn rfl rfl ?_; clear H; intro a H); refine wl_nil ?_; refine hK1 _ _ ?_; clear hK1; refine c_seq (fun _ hK2 => ?_); refine c_region ?_; refine s_assign H wn rfl rfl ?_; clear H; intro a H; refine wl_nil ?_; refine hK2 _ _ ?_; clear hK2; refine c_seq (fun _ hK3 => ?_); refine c_block ?_; skip; refine c_loopS (ι := Nat × Nat × Int × GH) (Tc := [(0, _)]) (Lc := []) (fun (gh : Nat × Nat × Int × GH) => [(2, vi gh.1), (3, vi gh.2.2.1)]) (fun (gh : Nat × Nat × Int × GH) => []) (fun (gh : Nat × Nat × Int × GH) => gh.2.2.2) (fun (gh : Nat × Nat × Int × GH) => gh.1 ≤ l.length ∧ l.length - gh.1 ≤ gh.2.1 ∧ wrdF l gh.2.1 gh.1 gh.2.2.1 = wrdS l ∧ RepV gh.2.2.2 (.sl 3 (l.map ClD.dat)) (.slice A l.length c)) (fun (gh : Nat × Nat × Int × GH) => l.length - gh.1) ((0, l.length, 2, G)) (by exact (H).sub ⟨rfl, rfl, rfl, trivial⟩) ?_ ?_
  · exact ⟨Nat.zero_le _, Nat.sub_le _ _, rfl, hv⟩
  clear H; intro gh a w hI H; obtain ⟨n, f, kd, g⟩ := gh; dsimp only at hI H; obtain ⟨hn, hf, heq, hvg⟩ := hI; dsimp only [List.cons_append, List.nil_append, List.append_nil] at H; refine c_seq (fun _ hK4 => ?_); refine c_seq (fun _ hK5 => ?_); refine c_region ?_; (iterate 2 refine s_move H wn rfl rfl ?_; clear H; intro a H); refine s_len un73wrd H wn rfl rfl ?_; clear H; intro a H; refine s_cmp H wn rfl rfl rfl rfl ?_; clear H; intro a H; refine wl_nil ?_; refine hK5 _ _ ?_; clear hK5; refine c_cond H rfl ?_ ?_
  · intro h7
    try have p7 := of_decide_eq_true h7
    first
    | (exfalso; omega)
    | (exact absurd h7 (by decide))
    | skip
      have hn2 : n < l.length := by omega
      rw [wrdF_in hf hn2] at heq; obtain ⟨b, o, rfl, -⟩ := clu_at hvg hn2; refine c_skip ?_; refine hK4 _ _ ?_; clear hK4; refine c_block ?_; refine c_seq (fun _ hK6 => ?_); refine c_block ?_; refine c_seq (fun _ hK7 => ?_); refine c_region ?_; (iterate 2 refine s_move H wn rfl rfl ?_; clear H; intro a H); refine s_index un73wrd ty100wrd n H wn rfl rfl (by omega) (by omega) rfl ?_; clear H; intro a H; refine s_loada ty100wrd (cs := [_, _, _]) H wn rfl rfl (fun j v hj => H.hp.gcell (clu_get hvg (k := n) (by omega) j v hj)) rfl ?_; clear H; intro a H; refine s_buildSlice un32wrd ty3wrd [_] [_] H wn rfl rfl rfl rfl rfl (by intro i q h; match i, h with | 0, h => exact h | n + 1, h => simp at h) rfl rfl ?_; clear H; intro b15 a w hb15 H; obtain ⟨Gq, hmq, hq, H⟩ := H.giveOne (sz := 1) (d := numDat 5) rfl (num_row _ 5); replace hvg := hvg.mono hmq; refine s_call en60wrd H wn rfl (is_spec _ _ H.hp.ro l[n] [5] _ hq) rfl ?_; clear H; rintro v16 _ a w ⟨rfl, rfl⟩ - H; rw [is1 (by omega) 5] at H; refine s_assign H wn rfl rfl ?_; clear H; intro a H; refine wl_nil ?_; refine hK7 _ _ ?_; clear hK7; refine c_cond H rfl ?_ ?_
      · intro h10
        try have p10 := of_decide_eq_true h10
        first
        | (exfalso; omega)
        | (exact absurd h10 (by decide))
        | skip
          refine c_region ?_; refine s_assign H wn rfl rfl ?_; clear H; intro a H; refine wl_nil ?_; refine hK6 _ _ ?_; clear hK6; refine c_region ?_; refine s_move H wn rfl rfl ?_; clear H; intro a H; refine s_add _ H wn rfl rfl rfl (by omega) (by omega) rfl ?_; clear H; intro a H; refine s_assign H wn rfl rfl ?_; clear H; intro a H; refine wl_nil ?_; refine loop_end ((n + 1, f - 1, 1, Gq)) (by exact (H).sub ⟨rfl, rfl, rfl, trivial⟩) ?_ ?_
          · (try dsimp only); exact ⟨by omega, by omega, by rw [if_pos (show okW l n = true by simp only [okW, decide_eq_true_eq]; omega), if_pos p10] at heq; exact heq, hvg⟩
          first | omega | (dsimp only; omega)
      intro h10
      try have p10 := of_decide_eq_false h10
      first
      | (exfalso; omega)
      | (exact absurd h10 (by decide))
      | skip
        refine c_seq (fun _ hK8 => ?_); refine c_region ?_; (iterate 2 refine s_move H wn rfl rfl ?_; clear H; intro a H); refine s_index un73wrd ty100wrd n H wn rfl rfl (by omega) (by omega) rfl ?_; clear H; intro a H; refine s_loada ty100wrd (cs := [_, _, _]) H wn rfl rfl (fun j v hj => H.hp.gcell (clu_get hvg (k := n) (by omega) j v hj)) rfl ?_; clear H; intro a H; refine s_buildSlice un32wrd ty3wrd [_] [_] H wn rfl rfl rfl rfl rfl (by intro i q h; match i, h with | 0, h => exact h | n + 1, h => simp at h) rfl rfl ?_; clear H; intro b22 a w hb22 H; obtain ⟨Gq, hmq, hq, H⟩ := H.giveOne (sz := 1) (d := numDat 6) rfl (num_row _ 6); replace hvg := hvg.mono hmq; refine s_call en60wrd H wn rfl (is_spec _ _ H.hp.ro l[n] [6] _ hq) rfl ?_; clear H; rintro v23 _ a w ⟨rfl, rfl⟩ - H; rw [is1 (by omega) 6] at H; refine s_assign H wn rfl rfl ?_; clear H; intro a H; refine wl_nil ?_; refine hK8 _ _ ?_; clear hK8; refine c_cond H rfl ?_ ?_
        · intro h17
          try have p17 := of_decide_eq_true h17
          first
          | (exfalso; omega)
          | (exact absurd h17 (by decide))
          | skip
            refine c_skip ?_; refine hK6 _ _ ?_; clear hK6; refine c_region ?_; refine s_move H wn rfl rfl ?_; clear H; intro a H; refine s_add _ H wn rfl rfl rfl (by omega) (by omega) rfl ?_; clear H; intro a H; refine s_assign H wn rfl rfl ?_; clear H; intro a H; refine wl_nil ?_; refine loop_end ((n + 1, f - 1, kd, Gq)) (by exact (H).sub ⟨rfl, rfl, rfl, trivial⟩) ?_ ?_
            · (try dsimp only); exact ⟨by omega, by omega, by rw [if_pos (show okW l n = true by simp only [okW, decide_eq_true_eq]; omega), if_neg (show ¬ clsA l n = 5 by omega)] at heq; exact heq, hvg⟩
            first | omega | (dsimp only; omega)
        intro h17
        try have p17 := of_decide_eq_false h17
        first
        | (exfalso; omega)
        | (exact absurd h17 (by decide))
        | skip
          refine c_seq (fun _ hK9 => ?_); refine c_region ?_; refine s_move H wn rfl rfl ?_; clear H; intro a H; refine s_cmp H wn rfl rfl rfl rfl ?_; clear H; intro a H; refine s_move H wn rfl rfl ?_; clear H; intro a H; refine s_split H 27 rfl ?_ ?_
          · intro h27
            try have p27 := of_decide_eq_true h27
            first
            | (exfalso; omega)
            | (exact absurd h27 (by decide))
            | skip
              refine s_move H (wg H rfl rfl h27) rfl rfl ?_; clear H; intro a H; refine s_add _ H (wg H rfl rfl h27) rfl rfl rfl (by omega) (by omega) rfl ?_; clear H; intro a H; refine s_move H (wg H rfl rfl h27) rfl rfl ?_; clear H; intro a H; refine s_len un73wrd H (wg H rfl rfl h27) rfl rfl ?_; clear H; intro a H; refine s_cmp H (wg H rfl rfl h27) rfl rfl rfl rfl ?_; clear H; intro a H; refine s_pick_t H wn rfl h27 rfl rfl ?_; clear H; intro a H; refine s_move H wn rfl rfl ?_; clear H; intro a H; refine s_split H 34 rfl ?_ ?_
              · intro h34
                try have p34 := of_decide_eq_true h34
                first
                | (exfalso; omega)
                | (exact absurd h34 (by decide))
                | skip
                  (iterate 2 refine s_move H (wg H rfl rfl h34) rfl rfl ?_; clear H; intro a H); refine s_index un73wrd ty100wrd n H (wg H rfl rfl h34) rfl rfl (by omega) (by omega) rfl ?_; clear H; intro a H; refine s_loada ty100wrd (cs := [_, _, _]) H (wg H rfl rfl h34) rfl rfl (fun j v hj => H.hp.gcell (clu_get hvg (k := n) (by omega) j v hj)) rfl ?_; clear H; intro a H; refine s_buildSlice un32wrd ty3wrd [_] [_] H (wg H rfl rfl h34) rfl rfl rfl rfl rfl (by intro i q h; match i, h with | 0, h => exact h | n + 1, h => simp at h) rfl rfl ?_; clear H; intro b39 a w hb39 H; obtain ⟨Gq, hmq, hq, H⟩ := H.giveOne (sz := 1) (d := numDat 11) rfl (num_row _ 11); replace hvg := hvg.mono hmq; refine s_call en60wrd H (wg H rfl rfl h34) rfl (is_spec _ _ H.hp.ro l[n] [11] _ hq) rfl ?_; clear H; rintro v40 _ a w ⟨rfl, rfl⟩ - H; rw [is1 (by omega) 11] at H; refine s_pick_t H wn rfl h34 rfl rfl ?_; clear H; intro a H; refine s_move H wn rfl rfl ?_; clear H; intro a H; refine s_split H 42 rfl ?_ ?_
                  · intro h42
                    try have p42 := of_decide_eq_true h42
                    first
                    | (exfalso; omega)
                    | (exact absurd h42 (by decide))
                    | skip
                      (iterate 2 refine s_move H (wg H rfl rfl h42) rfl rfl ?_; clear H; intro a H); refine s_sub _ H (wg H rfl rfl h42) rfl rfl rfl (by omega) (by omega) rfl ?_; clear H; intro a H; refine s_index un73wrd ty100wrd (n - 1) H (wg H rfl rfl h42) rfl rfl (by omega) (by omega) rfl ?_; clear H; intro a H; refine s_loada ty100wrd (cs := [_, _, _]) H (wg H rfl rfl h42) rfl rfl (fun j v hj => H.hp.gcell (clu_get hvg (k := (n - 1)) (by omega) j v hj)) rfl ?_; clear H; intro a H; refine s_buildSlice un32wrd ty3wrd [_] [_] H (wg H rfl rfl h42) rfl rfl rfl rfl rfl (by intro i q h; match i, h with | 0, h => exact h | n + 1, h => simp at h) rfl rfl ?_; clear H; intro b48 a w hb48 H; obtain ⟨Gq, hmq, hq, H⟩ := H.giveOne (sz := 1) (d := numDat 5) rfl (num_row _ 5); replace hvg := hvg.mono hmq; refine s_call en60wrd H (wg H rfl rfl h42) rfl (is_spec _ _ H.hp.ro l[(n - 1)] [5] _ hq) rfl ?_; clear H; rintro v49 _ a w ⟨rfl, rfl⟩ - H; rw [is1 (by omega) 5] at H; refine s_pick_t H wn rfl h42 rfl rfl ?_; clear H; intro a H; refine s_move H wn rfl rfl ?_; clear H; intro a H; refine s_split H 51 rfl ?_ ?_
                      · intro h51
                        try have p51 := of_decide_eq_true h51
                        first
                        | (exfalso; omega)
                        | (exact absurd h51 (by decide))
                        | skip
                          (iterate 2 refine s_move H (wg H rfl rfl h51) rfl rfl ?_; clear H; intro a H); refine s_add _ H (wg H rfl rfl h51) rfl rfl rfl (by omega) (by omega) rfl ?_; clear H; intro a H; refine s_index un73wrd ty100wrd (n + 1) H (wg H rfl rfl h51) rfl rfl (by omega) (by omega) rfl ?_; clear H; intro a H; refine s_loada ty100wrd (cs := [_, _, _]) H (wg H rfl rfl h51) rfl rfl (fun j v hj => H.hp.gcell (clu_get hvg (k := (n + 1)) (by omega) j v hj)) rfl ?_; clear H; intro a H; refine s_buildSlice un32wrd ty3wrd [_] [_] H (wg H rfl rfl h51) rfl rfl rfl rfl rfl (by intro i q h; match i, h with | 0, h => exact h | n + 1, h => simp at h) rfl rfl ?_; clear H; intro b57 a w hb57 H; obtain ⟨Gq, hmq, hq, H⟩ := H.giveOne (sz := 1) (d := numDat 5) rfl (num_row _ 5); replace hvg := hvg.mono hmq; refine s_call en60wrd H (wg H rfl rfl h51) rfl (is_spec _ _ H.hp.ro l[(n + 1)] [5] _ hq) rfl ?_; clear H; rintro v58 _ a w ⟨rfl, rfl⟩ - H; rw [is1 (by omega) 5] at H; refine s_pick_t H wn rfl h51 rfl rfl ?_; clear H; intro a H; refine s_assign H wn rfl rfl ?_; clear H; intro a H; refine wl_nil ?_; refine hK9 _ _ ?_; clear hK9; refine c_cond H rfl ?_ ?_
                          · intro h24
                            try have p24 := of_decide_eq_true h24
                            first
                            | (exfalso; omega)
                            | (exact absurd h24 (by decide))
                            | skip
                              refine c_skip ?_; refine hK6 _ _ ?_; clear hK6; refine c_region ?_; refine s_move H wn rfl rfl ?_; clear H; intro a H; refine s_add _ H wn rfl rfl rfl (by omega) (by omega) rfl ?_; clear H; intro a H; refine s_assign H wn rfl rfl ?_; clear H; intro a H; refine wl_nil ?_; refine loop_end ((n + 1, f - 1, kd, Gq)) (by exact (H).sub ⟨rfl, rfl, rfl, trivial⟩) ?_ ?_
                              · (try dsimp only); exact ⟨by omega, by omega, by rw [if_pos (show okW l n = true by simp only [okW, decide_eq_true_eq]; omega), if_neg (show ¬ clsA l n = 5 by omega)] at heq; exact heq, hvg⟩
                              first | omega | (dsimp only; omega)
                          intro h24
                          try have p24 := of_decide_eq_false h24
                          first
                          | (exfalso; omega)
                          | (exact absurd h24 (by decide))
                          | skip
                            refine c_seq (fun _ hK10 => ?_); refine c_region ?_; refine s_move H wn rfl rfl ?_; clear H; intro a H; refine s_cmp H wn rfl rfl rfl rfl ?_; clear H; intro a H; refine s_move H wn rfl rfl ?_; clear H; intro a H; refine s_split H 63 rfl ?_ ?_
                            · intro h63
                              try have p63 := of_decide_eq_true h63
                              first
                              | (exfalso; omega)
                              | (exact absurd h63 (by decide))
                              | skip
                                refine s_move H (wg H rfl rfl h63) rfl rfl ?_; clear H; intro a H; refine s_add _ H (wg H rfl rfl h63) rfl rfl rfl (by omega) (by omega) rfl ?_; clear H; intro a H; refine s_move H (wg H rfl rfl h63) rfl rfl ?_; clear H; intro a H; refine s_len un73wrd H (wg H rfl rfl h63) rfl rfl ?_; clear H; intro a H; refine s_cmp H (wg H rfl rfl h63) rfl rfl rfl rfl ?_; clear H; intro a H; refine s_pick_t H wn rfl h63 rfl rfl ?_; clear H; intro a H; refine s_move H wn rfl rfl ?_; clear H; intro a H; refine s_split H 70 rfl ?_ ?_
                                · intro h70
                                  try have p70 := of_decide_eq_true h70
                                  first
                                  | (exfalso; omega)
                                  | (exact absurd h70 (by decide))
                                  | skip
                                    (iterate 2 refine s_move H (wg H rfl rfl h70) rfl rfl ?_; clear H; intro a H); refine s_index un73wrd ty100wrd n H (wg H rfl rfl h70) rfl rfl (by omega) (by omega) rfl ?_; clear H; intro a H; refine s_loada ty100wrd (cs := [_, _, _]) H (wg H rfl rfl h70) rfl rfl (fun j v hj => H.hp.gcell (clu_get hvg (k := n) (by omega) j v hj)) rfl ?_; clear H; intro a H; refine s_buildSlice un32wrd ty3wrd [_] [_] H (wg H rfl rfl h70) rfl rfl rfl rfl rfl (by intro i q h; match i, h with | 0, h => exact h | n + 1, h => simp at h) rfl rfl ?_; clear H; intro b75 a w hb75 H; obtain ⟨Gq, hmq, hq, H⟩ := H.giveOne (sz := 1) (d := numDat 10) rfl (num_row _ 10); replace hvg := hvg.mono hmq; refine s_call en60wrd H (wg H rfl rfl h70) rfl (is_spec _ _ H.hp.ro l[n] [10] _ hq) rfl ?_; clear H; rintro v76 _ a w ⟨rfl, rfl⟩ - H; rw [is1 (by omega) 10] at H; refine s_pick_t H wn rfl h70 rfl rfl ?_; clear H; intro a H; refine s_move H wn rfl rfl ?_; clear H; intro a H; refine s_split H 78 rfl ?_ ?_
                                    · intro h78
                                      try have p78 := of_decide_eq_true h78
                                      first
                                      | (exfalso; omega)
                                      | (exact absurd h78 (by decide))
                                      | skip
                                        (iterate 2 refine s_move H (wg H rfl rfl h78) rfl rfl ?_; clear H; intro a H); refine s_sub _ H (wg H rfl rfl h78) rfl rfl rfl (by omega) (by omega) rfl ?_; clear H; intro a H; refine s_index un73wrd ty100wrd (n - 1) H (wg H rfl rfl h78) rfl rfl (by omega) (by omega) rfl ?_; clear H; intro a H; refine s_loada ty100wrd (cs := [_, _, _]) H (wg H rfl rfl h78) rfl rfl (fun j v hj => H.hp.gcell (clu_get hvg (k := (n - 1)) (by omega) j v hj)) rfl ?_; clear H; intro a H; refine s_buildSlice un32wrd ty3wrd [_] [_] H (wg H rfl rfl h78) rfl rfl rfl rfl rfl (by intro i q h; match i, h with | 0, h => exact h | n + 1, h => simp at h) rfl rfl ?_; clear H; intro b84 a w hb84 H; obtain ⟨Gq, hmq, hq, H⟩ := H.giveOne (sz := 1) (d := numDat 6) rfl (num_row _ 6); replace hvg := hvg.mono hmq; refine s_call en60wrd H (wg H rfl rfl h78) rfl (is_spec _ _ H.hp.ro l[(n - 1)] [6] _ hq) rfl ?_; clear H; rintro v85 _ a w ⟨rfl, rfl⟩ - H; rw [is1 (by omega) 6] at H; refine s_pick_t H wn rfl h78 rfl rfl ?_; clear H; intro a H; refine s_move H wn rfl rfl ?_; clear H; intro a H; refine s_split H 87 rfl ?_ ?_
                                        · intro h87
                                          try have p87 := of_decide_eq_true h87
                                          first
                                          | (exfalso; omega)
                                          | (exact absurd h87 (by decide))
                                          | skip
                                            (iterate 2 refine s_move H (wg H rfl rfl h87) rfl rfl ?_; clear H; intro a H); refine s_add _ H (wg H rfl rfl h87) rfl rfl rfl (by omega) (by omega) rfl ?_; clear H; intro a H; refine s_index un73wrd ty100wrd (n + 1) H (wg H rfl rfl h87) rfl rfl (by omega) (by omega) rfl ?_; clear H; intro a H; refine s_loada ty100wrd (cs := [_, _, _]) H (wg H rfl rfl h87) rfl rfl (fun j v hj => H.hp.gcell (clu_get hvg (k := (n + 1)) (by omega) j v hj)) rfl ?_; clear H; intro a H; refine s_buildSlice un32wrd ty3wrd [_] [_] H (wg H rfl rfl h87) rfl rfl rfl rfl rfl (by intro i q h; match i, h with | 0, h => exact h | n + 1, h => simp at h) rfl rfl ?_; clear H; intro b93 a w hb93 H; obtain ⟨Gq, hmq, hq, H⟩ := H.giveOne (sz := 1) (d := numDat 6) rfl (num_row _ 6); replace hvg := hvg.mono hmq; refine s_call en60wrd H (wg H rfl rfl h87) rfl (is_spec _ _ H.hp.ro l[(n + 1)] [6] _ hq) rfl ?_; clear H; rintro v94 _ a w ⟨rfl, rfl⟩ - H; rw [is1 (by omega) 6] at H; refine s_pick_t H wn rfl h87 rfl rfl ?_; clear H; intro a H; refine s_assign H wn rfl rfl ?_; clear H; intro a H; refine wl_nil ?_; refine hK10 _ _ ?_; clear hK10; refine c_cond H rfl ?_ ?_
                                            · intro h60
                                              try have p60 := of_decide_eq_true h60
                                              first
                                              | (exfalso; omega)
                                              | (exact absurd h60 (by decide))
                                              | skip
                                                refine c_skip ?_; refine hK6 _ _ ?_; clear hK6; refine c_region ?_; refine s_move H wn rfl rfl ?_; clear H; intro a H; refine s_add _ H wn rfl rfl rfl (by omega) (by omega) rfl ?_; clear H; intro a H; refine s_assign H wn rfl rfl ?_; clear H; intro a H; refine wl_nil ?_; refine loop_end ((n + 1, f - 1, kd, Gq)) (by exact (H).sub ⟨rfl, rfl, rfl, trivial⟩) ?_ ?_
                                                · (try dsimp only); exact ⟨by omega, by omega, by rw [if_pos (show okW l n = true by simp only [okW, decide_eq_true_eq]; omega), if_neg (show ¬ clsA l n = 5 by omega)] at heq; exact heq, hvg⟩
                                                first | omega | (dsimp only; omega)
                                            intro h60
                                            try have p60 := of_decide_eq_false h60
                                            first
                                            | (exfalso; omega)
                                            | (exact absurd h60 (by decide))
                                            | skip
                                              refine c_seq (fun _ hK11 => ?_); refine c_region ?_; (iterate 2 refine s_move H wn rfl rfl ?_; clear H; intro a H); (iterate 2 refine s_assign H wn rfl rfl ?_; clear H; intro a H); refine wl_nil ?_; refine hK11 _ _ ?_; clear hK11; refine c_ret ?_; refine (leaveT H Tryd.results61 (.cons (rv_tmp H rfl) (.cons (rv_tmp H rfl) .nil)) ?_).1
                                              have hfin : (n, kd) = wrdS l := by
                                                first
                                                  | exact heq
                                                  | (rw [if_neg (show ¬ okW l n = true by simp only [okW, decide_eq_true_eq]; omega)] at heq; exact heq)
                                              exact H.hp.ret (by rw [← hfin])
                                        intro h87
                                        try have p87 := of_decide_eq_false h87
                                        first
                                        | (exfalso; omega)
                                        | (exact absurd h87 (by decide))
                                        | skip
                                          (iterate 7 refine s_skip H rfl rfl h87 rfl ?_; clear H; intro a H); refine s_pick_f H wn rfl h87 rfl rfl ?_; clear H; intro a H; refine s_assign H wn rfl rfl ?_; clear H; intro a H; refine wl_nil ?_; refine hK10 _ _ ?_; clear hK10; refine c_cond_f H rfl rfl ?_; refine c_seq (fun _ hK12 => ?_); refine c_region ?_; (iterate 2 refine s_move H wn rfl rfl ?_; clear H; intro a H); (iterate 2 refine s_assign H wn rfl rfl ?_; clear H; intro a H); refine wl_nil ?_; refine hK12 _ _ ?_; clear hK12; refine c_ret ?_; refine (leaveT H Tryd.results61 (.cons (rv_tmp H rfl) (.cons (rv_tmp H rfl) .nil)) ?_).1
                                          have hfin : (n, kd) = wrdS l := by
                                            first
                                              | exact heq
                                              | (rw [if_neg (show ¬ okW l n = true by simp only [okW, decide_eq_true_eq]; omega)] at heq; exact heq)
                                          exact H.hp.ret (by rw [← hfin])
                                    intro h78
                                    try have p78 := of_decide_eq_false h78
                                    first
                                    | (exfalso; omega)
                                    | (exact absurd h78 (by decide))
                                    | skip
                                      (iterate 7 refine s_skip H rfl rfl h78 rfl ?_; clear H; intro a H); refine s_pick_f H wn rfl h78 rfl rfl ?_; clear H; intro a H; refine s_move H wn rfl rfl ?_; clear H; intro a H; (iterate 7 refine s_skip H rfl rfl rfl rfl ?_; clear H; intro a H); refine s_pick_f H wn rfl rfl rfl rfl ?_; clear H; intro a H; refine s_assign H wn rfl rfl ?_; clear H; intro a H; refine wl_nil ?_; refine hK10 _ _ ?_; clear hK10; refine c_cond_f H rfl rfl ?_; refine c_seq (fun _ hK13 => ?_); refine c_region ?_; (iterate 2 refine s_move H wn rfl rfl ?_; clear H; intro a H); (iterate 2 refine s_assign H wn rfl rfl ?_; clear H; intro a H); refine wl_nil ?_; refine hK13 _ _ ?_; clear hK13; refine c_ret ?_; refine (leaveT H Tryd.results61 (.cons (rv_tmp H rfl) (.cons (rv_tmp H rfl) .nil)) ?_).1
                                      have hfin : (n, kd) = wrdS l := by
                                        first
                                          | exact heq
                                          | (rw [if_neg (show ¬ okW l n = true by simp only [okW, decide_eq_true_eq]; omega)] at heq; exact heq)
                                      exact H.hp.ret (by rw [← hfin])
                                intro h70
                                try have p70 := of_decide_eq_false h70
                                first
                                | (exfalso; omega)
                                | (exact absurd h70 (by decide))
                                | skip
                                  (iterate 6 refine s_skip H rfl rfl h70 rfl ?_; clear H; intro a H); refine s_pick_f H wn rfl h70 rfl rfl ?_; clear H; intro a H; refine s_move H wn rfl rfl ?_; clear H; intro a H; (iterate 7 refine s_skip H rfl rfl rfl rfl ?_; clear H; intro a H); refine s_pick_f H wn rfl rfl rfl rfl ?_; clear H; intro a H; refine s_move H wn rfl rfl ?_; clear H; intro a H; (iterate 7 refine s_skip H rfl rfl rfl rfl ?_; clear H; intro a H); refine s_pick_f H wn rfl rfl rfl rfl ?_; clear H; intro a H; refine s_assign H wn rfl rfl ?_; clear H; intro a H; refine wl_nil ?_; refine hK10 _ _ ?_; clear hK10; refine c_cond_f H rfl rfl ?_; refine c_seq (fun _ hK14 => ?_); refine c_region ?_; (iterate 2 refine s_move H wn rfl rfl ?_; clear H; intro a H); (iterate 2 refine s_assign H wn rfl rfl ?_; clear H; intro a H); refine wl_nil ?_; refine hK14 _ _ ?_; clear hK14; refine c_ret ?_; refine (leaveT H Tryd.results61 (.cons (rv_tmp H rfl) (.cons (rv_tmp H rfl) .nil)) ?_).1
                                  have hfin : (n, kd) = wrdS l := by
                                    first
                                      | exact heq
                                      | (rw [if_neg (show ¬ okW l n = true by simp only [okW, decide_eq_true_eq]; omega)] at heq; exact heq)
                                  exact H.hp.ret (by rw [← hfin])
                            intro h63
                            try have p63 := of_decide_eq_false h63
                            first
                            | (exfalso; omega)
                            | (exact absurd h63 (by decide))
                            | skip
                              (iterate 5 refine s_skip H rfl rfl h63 rfl ?_; clear H; intro a H); refine s_pick_f H wn rfl h63 rfl rfl ?_; clear H; intro a H; refine s_move H wn rfl rfl ?_; clear H; intro a H; (iterate 6 refine s_skip H rfl rfl rfl rfl ?_; clear H; intro a H); refine s_pick_f H wn rfl rfl rfl rfl ?_; clear H; intro a H; refine s_move H wn rfl rfl ?_; clear H; intro a H; (iterate 7 refine s_skip H rfl rfl rfl rfl ?_; clear H; intro a H); refine s_pick_f H wn rfl rfl rfl rfl ?_; clear H; intro a H; refine s_move H wn rfl rfl ?_; clear H; intro a H; (iterate 7 refine s_skip H rfl rfl rfl rfl ?_; clear H; intro a H); refine s_pick_f H wn rfl rfl rfl rfl ?_; clear H; intro a H; refine s_assign H wn rfl rfl ?_; clear H; intro a H; refine wl_nil ?_; refine hK10 _ _ ?_; clear hK10; refine c_cond_f H rfl rfl ?_; refine c_seq (fun _ hK15 => ?_); refine c_region ?_; (iterate 2 refine s_move H wn rfl rfl ?_; clear H; intro a H); (iterate 2 refine s_assign H wn rfl rfl ?_; clear H; intro a H); refine wl_nil ?_; refine hK15 _ _ ?_; clear hK15; refine c_ret ?_; refine (leaveT H Tryd.results61 (.cons (rv_tmp H rfl) (.cons (rv_tmp H rfl) .nil)) ?_).1
                              have hfin : (n, kd) = wrdS l := by
                                first
                                  | exact heq
                                  | (rw [if_neg (show ¬ okW l n = true by simp only [okW, decide_eq_true_eq]; omega)] at heq; exact heq)
                              exact H.hp.ret (by rw [← hfin])
                      intro h51
                      try have p51 := of_decide_eq_false h51
                      first
                      | (exfalso; omega)
                      | (exact absurd h51 (by decide))
                      | skip
                        (iterate 7 refine s_skip H rfl rfl h51 rfl ?_; clear H; intro a H); refine s_pick_f H wn rfl h51 rfl rfl ?_; clear H; intro a H; refine s_assign H wn rfl rfl ?_; clear H; intro a H; refine wl_nil ?_; refine hK9 _ _ ?_; clear hK9; refine c_cond_f H rfl rfl ?_; refine c_seq (fun _ hK16 => ?_); refine c_region ?_; refine s_move H wn rfl rfl ?_; clear H; intro a H; refine s_cmp H wn rfl rfl rfl rfl ?_; clear H; intro a H; refine s_move H wn rfl rfl ?_; clear H; intro a H; refine s_split H 63 rfl ?_ ?_
                        · intro h63
                          try have p63 := of_decide_eq_true h63
                          first
                          | (exfalso; omega)
                          | (exact absurd h63 (by decide))
                          | skip
                            refine s_move H (wg H rfl rfl h63) rfl rfl ?_; clear H; intro a H; refine s_add _ H (wg H rfl rfl h63) rfl rfl rfl (by omega) (by omega) rfl ?_; clear H; intro a H; refine s_move H (wg H rfl rfl h63) rfl rfl ?_; clear H; intro a H; refine s_len un73wrd H (wg H rfl rfl h63) rfl rfl ?_; clear H; intro a H; refine s_cmp H (wg H rfl rfl h63) rfl rfl rfl rfl ?_; clear H; intro a H; refine s_pick_t H wn rfl h63 rfl rfl ?_; clear H; intro a H; refine s_move H wn rfl rfl ?_; clear H; intro a H; refine s_split H 70 rfl ?_ ?_
                            · intro h70
                              try have p70 := of_decide_eq_true h70
                              first
                              | (exfalso; omega)
                              | (exact absurd h70 (by decide))
                              | skip
                                (iterate 2 refine s_move H (wg H rfl rfl h70) rfl rfl ?_; clear H; intro a H); refine s_index un73wrd ty100wrd n H (wg H rfl rfl h70) rfl rfl (by omega) (by omega) rfl ?_; clear H; intro a H; refine s_loada ty100wrd (cs := [_, _, _]) H (wg H rfl rfl h70) rfl rfl (fun j v hj => H.hp.gcell (clu_get hvg (k := n) (by omega) j v hj)) rfl ?_; clear H; intro a H; refine s_buildSlice un32wrd ty3wrd [_] [_] H (wg H rfl rfl h70) rfl rfl rfl rfl rfl (by intro i q h; match i, h with | 0, h => exact h | n + 1, h => simp at h) rfl rfl ?_; clear H; intro b75 a w hb75 H; obtain ⟨Gq, hmq, hq, H⟩ := H.giveOne (sz := 1) (d := numDat 10) rfl (num_row _ 10); replace hvg := hvg.mono hmq; refine s_call en60wrd H (wg H rfl rfl h70) rfl (is_spec _ _ H.hp.ro l[n] [10] _ hq) rfl ?_; clear H; rintro v76 _ a w ⟨rfl, rfl⟩ - H; rw [is1 (by omega) 10] at H; refine s_pick_t H wn rfl h70 rfl rfl ?_; clear H; intro a H; refine s_move H wn rfl rfl ?_; clear H; intro a H; refine s_split H 78 rfl ?_ ?_
                                · intro h78
                                  try have p78 := of_decide_eq_true h78
                                  first
                                  | (exfalso; omega)
                                  | (exact absurd h78 (by decide))
                                  | skip
                                    (iterate 2 refine s_move H (wg H rfl rfl h78) rfl rfl ?_; clear H; intro a H); refine s_sub _ H (wg H rfl rfl h78) rfl rfl rfl (by omega) (by omega) rfl ?_; clear H; intro a H; refine s_index un73wrd ty100wrd (n - 1) H (wg H rfl rfl h78) rfl rfl (by omega) (by omega) rfl ?_; clear H; intro a H; refine s_loada ty100wrd (cs := [_, _, _]) H (wg H rfl rfl h78) rfl rfl (fun j v hj => H.hp.gcell (clu_get hvg (k := (n - 1)) (by omega) j v hj)) rfl ?_; clear H; intro a H; refine s_buildSlice un32wrd ty3wrd [_] [_] H (wg H rfl rfl h78) rfl rfl rfl rfl rfl (by intro i q h; match i, h with | 0, h => exact h | n + 1, h => simp at h) rfl rfl ?_; clear H; intro b84 a w hb84 H; obtain ⟨Gq, hmq, hq, H⟩ := H.giveOne (sz := 1) (d := numDat 6) rfl (num_row _ 6); replace hvg := hvg.mono hmq; refine s_call en60wrd H (wg H rfl rfl h78) rfl (is_spec _ _ H.hp.ro l[(n - 1)] [6] _ hq) rfl ?_; clear H; rintro v85 _ a w ⟨rfl, rfl⟩ - H; rw [is1 (by omega) 6] at H; refine s_pick_t H wn rfl h78 rfl rfl ?_; clear H; intro a H; refine s_move H wn rfl rfl ?_; clear H; intro a H; refine s_split H 87 rfl ?_ ?_
                                    · intro h87
                                      try have p87 := of_decide_eq_true h87
                                      first
                                      | (exfalso; omega)
                                      | (exact absurd h87 (by decide))
                                      | skip
                                        (iterate 2 refine s_move H (wg H rfl rfl h87) rfl rfl ?_; clear H; intro a H); refine s_add _ H (wg H rfl rfl h87) rfl rfl rfl (by omega) (by omega) rfl ?_; clear H; intro a H; refine s_index un73wrd ty100wrd (n + 1) H (wg H rfl rfl h87) rfl rfl (by omega) (by omega) rfl ?_; clear H; intro a H; refine s_loada ty100wrd (cs := [_, _, _]) H (wg H rfl rfl h87) rfl rfl (fun j v hj => H.hp.gcell (clu_get hvg (k := (n + 1)) (by omega) j v hj)) rfl ?_; clear H; intro a H; refine s_buildSlice un32wrd ty3wrd [_] [_] H (wg H rfl rfl h87) rfl rfl rfl rfl rfl (by intro i q h; match i, h with | 0, h => exact h | n + 1, h => simp at h) rfl rfl ?_; clear H; intro b93 a w hb93 H; obtain ⟨Gq, hmq, hq, H⟩ := H.giveOne (sz := 1) (d := numDat 6) rfl (num_row _ 6); replace hvg := hvg.mono hmq; refine s_call en60wrd H (wg H rfl rfl h87) rfl (is_spec _ _ H.hp.ro l[(n + 1)] [6] _ hq) rfl ?_; clear H; rintro v94 _ a w ⟨rfl, rfl⟩ - H; rw [is1 (by omega) 6] at H; refine s_pick_t H wn rfl h87 rfl rfl ?_; clear H; intro a H; refine s_assign H wn rfl rfl ?_; clear H; intro a H; refine wl_nil ?_; refine hK16 _ _ ?_; clear hK16; refine c_cond H rfl ?_ ?_
                                        · intro h60
                                          try have p60 := of_decide_eq_true h60
                                          first
                                          | (exfalso; omega)
                                          | (exact absurd h60 (by decide))
                                          | skip
                                            refine c_skip ?_; refine hK6 _ _ ?_; clear hK6; refine c_region ?_; refine s_move H wn rfl rfl ?_; clear H; intro a H; refine s_add _ H wn rfl rfl rfl (by omega) (by omega) rfl ?_; clear H; intro a H; refine s_assign H wn rfl rfl ?_; clear H; intro a H; refine wl_nil ?_; refine loop_end ((n + 1, f - 1, kd, Gq)) (by exact (H).sub ⟨rfl, rfl, rfl, trivial⟩) ?_ ?_
                                            · (try dsimp only); exact ⟨by omega, by omega, by rw [if_pos (show okW l n = true by simp only [okW, decide_eq_true_eq]; omega), if_neg (show ¬ clsA l n = 5 by omega)] at heq; exact heq, hvg⟩
                                            first | omega | (dsimp only; omega)
                                        intro h60
                                        try have p60 := of_decide_eq_false h60
                                        first
                                        | (exfalso; omega)
                                        | (exact absurd h60 (by decide))
                                        | skip
                                          refine c_seq (fun _ hK17 => ?_); refine c_region ?_; (iterate 2 refine s_move H wn rfl rfl ?_; clear H; intro a H); (iterate 2 refine s_assign H wn rfl rfl ?_; clear H; intro a H); refine wl_nil ?_; refine hK17 _ _ ?_; clear hK17; refine c_ret ?_; refine (leaveT H Tryd.results61 (.cons (rv_tmp H rfl) (.cons (rv_tmp H rfl) .nil)) ?_).1
                                          have hfin : (n, kd) = wrdS l := by
                                            first
                                              | exact heq
                                              | (rw [if_neg (show ¬ okW l n = true by simp only [okW, decide_eq_true_eq]; omega)] at heq; exact heq)
                                          exact H.hp.ret (by rw [← hfin])
                                    intro h87
                                    try have p87 := of_decide_eq_false h87
                                    first
                                    | (exfalso; omega)
                                    | (exact absurd h87 (by decide))
                                    | skip
                                      (iterate 7 refine s_skip H rfl rfl h87 rfl ?_; clear H; intro a H); refine s_pick_f H wn rfl h87 rfl rfl ?_; clear H; intro a H; refine s_assign H wn rfl rfl ?_; clear H; intro a H; refine wl_nil ?_; refine hK16 _ _ ?_; clear hK16; refine c_cond_f H rfl rfl ?_; refine c_seq (fun _ hK18 => ?_); refine c_region ?_; (iterate 2 refine s_move H wn rfl rfl ?_; clear H; intro a H); (iterate 2 refine s_assign H wn rfl rfl ?_; clear H; intro a H); refine wl_nil ?_; refine hK18 _ _ ?_; clear hK18; refine c_ret ?_; refine (leaveT H Tryd.results61 (.cons (rv_tmp H rfl) (.cons (rv_tmp H rfl) .nil)) ?_).1
                                      have hfin : (n, kd) = wrdS l := by
                                        first
                                          | exact heq
                                          | (rw [if_neg (show ¬ okW l n = true by simp only [okW, decide_eq_true_eq]; omega)] at heq; exact heq)
                                      exact H.hp.ret (by rw [← hfin])
                                intro h78
                                try have p78 := of_decide_eq_false h78
                                first
                                | (exfalso; omega)
                                | (exact absurd h78 (by decide))
                                | skip
                                  (iterate 7 refine s_skip H rfl rfl h78 rfl ?_; clear H; intro a H); refine s_pick_f H wn rfl h78 rfl rfl ?_; clear H; intro a H; refine s_move H wn rfl rfl ?_; clear H; intro a H; (iterate 7 refine s_skip H rfl rfl rfl rfl ?_; clear H; intro a H); refine s_pick_f H wn rfl rfl rfl rfl ?_; clear H; intro a H; refine s_assign H wn rfl rfl ?_; clear H; intro a H; refine wl_nil ?_; refine hK16 _ _ ?_; clear hK16; refine c_cond_f H rfl rfl ?_; refine c_seq (fun _ hK19 => ?_); refine c_region ?_; (iterate 2 refine s_move H wn rfl rfl ?_; clear H; intro a H); (iterate 2 refine s_assign H wn rfl rfl ?_; clear H; intro a H); refine wl_nil ?_; refine hK19 _ _ ?_; clear hK19; refine c_ret ?_; refine (leaveT H Tryd.results61 (.cons (rv_tmp H rfl) (.cons (rv_tmp H rfl) .nil)) ?_).1
                                  have hfin : (n, kd) = wrdS l := by
                                    first
                                      | exact heq
                                      | (rw [if_neg (show ¬ okW l n = true by simp only [okW, decide_eq_true_eq]; omega)] at heq; exact heq)
                                  exact H.hp.ret (by rw [← hfin])
                            intro h70
                            try have p70 := of_decide_eq_false h70
                            first
                            | (exfalso; omega)
                            | (exact absurd h70 (by decide))
                            | skip
                              (iterate 6 refine s_skip H rfl rfl h70 rfl ?_; clear H; intro a H); refine s_pick_f H wn rfl h70 rfl rfl ?_; clear H; intro a H; refine s_move H wn rfl rfl ?_; clear H; intro a H; (iterate 7 refine s_skip H rfl rfl rfl rfl ?_; clear H; intro a H); refine s_pick_f H wn rfl rfl rfl rfl ?_; clear H; intro a H; refine s_move H wn rfl rfl ?_; clear H; intro a H; (iterate 7 refine s_skip H rfl rfl rfl rfl ?_; clear H; intro a H); refine s_pick_f H wn rfl rfl rfl rfl ?_; clear H; intro a H; refine s_assign H wn rfl rfl ?_; clear H; intro a H; refine wl_nil ?_; refine hK16 _ _ ?_; clear hK16; refine c_cond_f H rfl rfl ?_; refine c_seq (fun _ hK20 => ?_); refine c_region ?_; (iterate 2 refine s_move H wn rfl rfl ?_; clear H; intro a H); (iterate 2 refine s_assign H wn rfl rfl ?_; clear H; intro a H); refine wl_nil ?_; refine hK20 _ _ ?_; clear hK20; refine c_ret ?_; refine (leaveT H Tryd.results61 (.cons (rv_tmp H rfl) (.cons (rv_tmp H rfl) .nil)) ?_).1
                              have hfin : (n, kd) = wrdS l := by
                                first
                                  | exact heq
                                  | (rw [if_neg (show ¬ okW l n = true by simp only [okW, decide_eq_true_eq]; omega)] at heq; exact heq)
                              exact H.hp.ret (by rw [← hfin])
                        intro h63
                        try have p63 := of_decide_eq_false h63
                        first
                        | (exfalso; omega)
                        | (exact absurd h63 (by decide))
                        | skip
                          (iterate 5 refine s_skip H rfl rfl h63 rfl ?_; clear H; intro a H); refine s_pick_f H wn rfl h63 rfl rfl ?_; clear H; intro a H; refine s_move H wn rfl rfl ?_; clear H; intro a H; (iterate 6 refine s_skip H rfl rfl rfl rfl ?_; clear H; intro a H); refine s_pick_f H wn rfl rfl rfl rfl ?_; clear H; intro a H; refine s_move H wn rfl rfl ?_; clear H; intro a H; (iterate 7 refine s_skip H rfl rfl rfl rfl ?_; clear H; intro a H); refine s_pick_f H wn rfl rfl rfl rfl ?_; clear H; intro a H; refine s_move H wn rfl rfl ?_; clear H; intro a H; (iterate 7 refine s_skip H rfl rfl rfl rfl ?_; clear H; intro a H); refine s_pick_f H wn rfl rfl rfl rfl ?_; clear H; intro a H; refine s_assign H wn rfl rfl ?_; clear H; intro a H; refine wl_nil ?_; refine hK16 _ _ ?_; clear hK16; refine c_cond_f H rfl rfl ?_; refine c_seq (fun _ hK21 => ?_); refine c_region ?_; (iterate 2 refine s_move H wn rfl rfl ?_; clear H; intro a H); (iterate 2 refine s_assign H wn rfl rfl ?_; clear H; intro a H); refine wl_nil ?_; refine hK21 _ _ ?_; clear hK21; refine c_ret ?_; refine (leaveT H Tryd.results61 (.cons (rv_tmp H rfl) (.cons (rv_tmp H rfl) .nil)) ?_).1
                          have hfin : (n, kd) = wrdS l := by
                            first
                              | exact heq
                              | (rw [if_neg (show ¬ okW l n = true by simp only [okW, decide_eq_true_eq]; omega)] at heq; exact heq)
                          exact H.hp.ret (by rw [← hfin])
                  intro h42
                  try have p42 := of_decide_eq_false h42
                  first
                  | (exfalso; omega)
                  | (exact absurd h42 (by decide))
                  | skip
                    (iterate 7 refine s_skip H rfl rfl h42 rfl ?_; clear H; intro a H); refine s_pick_f H wn rfl h42 rfl rfl ?_; clear H; intro a H; refine s_move H wn rfl rfl ?_; clear H; intro a H; (iterate 7 refine s_skip H rfl rfl rfl rfl ?_; clear H; intro a H); refine s_pick_f H wn rfl rfl rfl rfl ?_; clear H; intro a H; refine s_assign H wn rfl rfl ?_; clear H; intro a H; refine wl_nil ?_; refine hK9 _ _ ?_; clear hK9; refine c_cond_f H rfl rfl ?_; refine c_seq (fun _ hK22 => ?_); refine c_region ?_; refine s_move H wn rfl rfl ?_; clear H; intro a H; refine s_cmp H wn rfl rfl rfl rfl ?_; clear H; intro a H; refine s_move H wn rfl rfl ?_; clear H; intro a H; refine s_split H 63 rfl ?_ ?_
                    · intro h63
                      try have p63 := of_decide_eq_true h63
                      first
                      | (exfalso; omega)
                      | (exact absurd h63 (by decide))
                      | skip
                        refine s_move H (wg H rfl rfl h63) rfl rfl ?_; clear H; intro a H; refine s_add _ H (wg H rfl rfl h63) rfl rfl rfl (by omega) (by omega) rfl ?_; clear H; intro a H; refine s_move H (wg H rfl rfl h63) rfl rfl ?_; clear H; intro a H; refine s_len un73wrd H (wg H rfl rfl h63) rfl rfl ?_; clear H; intro a H; refine s_cmp H (wg H rfl rfl h63) rfl rfl rfl rfl ?_; clear H; intro a H; refine s_pick_t H wn rfl h63 rfl rfl ?_; clear H; intro a H; refine s_move H wn rfl rfl ?_; clear H; intro a H; refine s_split H 70 rfl ?_ ?_
                        · intro h70
                          try have p70 := of_decide_eq_true h70
                          first
                          | (exfalso; omega)
                          | (exact absurd h70 (by decide))
                          | skip
                            (iterate 2 refine s_move H (wg H rfl rfl h70) rfl rfl ?_; clear H; intro a H); refine s_index un73wrd ty100wrd n H (wg H rfl rfl h70) rfl rfl (by omega) (by omega) rfl ?_; clear H; intro a H; refine s_loada ty100wrd (cs := [_, _, _]) H (wg H rfl rfl h70) rfl rfl (fun j v hj => H.hp.gcell (clu_get hvg (k := n) (by omega) j v hj)) rfl ?_; clear H; intro a H; refine s_buildSlice un32wrd ty3wrd [_] [_] H (wg H rfl rfl h70) rfl rfl rfl rfl rfl (by intro i q h; match i, h with | 0, h => exact h | n + 1, h => simp at h) rfl rfl ?_; clear H; intro b75 a w hb75 H; obtain ⟨Gq, hmq, hq, H⟩ := H.giveOne (sz := 1) (d := numDat 10) rfl (num_row _ 10); replace hvg := hvg.mono hmq; refine s_call en60wrd H (wg H rfl rfl h70) rfl (is_spec _ _ H.hp.ro l[n] [10] _ hq) rfl ?_; clear H; rintro v76 _ a w ⟨rfl, rfl⟩ - H; rw [is1 (by omega) 10] at H; refine s_pick_t H wn rfl h70 rfl rfl ?_; clear H; intro a H; refine s_move H wn rfl rfl ?_; clear H; intro a H; refine s_split H 78 rfl ?_ ?_
                            · intro h78
                              try have p78 := of_decide_eq_true h78
                              first
                              | (exfalso; omega)
                              | (exact absurd h78 (by decide))
                              | skip
                                (iterate 2 refine s_move H (wg H rfl rfl h78) rfl rfl ?_; clear H; intro a H); refine s_sub _ H (wg H rfl rfl h78) rfl rfl rfl (by omega) (by omega) rfl ?_; clear H; intro a H; refine s_index un73wrd ty100wrd (n - 1) H (wg H rfl rfl h78) rfl rfl (by omega) (by omega) rfl ?_; clear H; intro a H; refine s_loada ty100wrd (cs := [_, _, _]) H (wg H rfl rfl h78) rfl rfl (fun j v hj => H.hp.gcell (clu_get hvg (k := (n - 1)) (by omega) j v hj)) rfl ?_; clear H; intro a H; refine s_buildSlice un32wrd ty3wrd [_] [_] H (wg H rfl rfl h78) rfl rfl rfl rfl rfl (by intro i q h; match i, h with | 0, h => exact h | n + 1, h => simp at h) rfl rfl ?_; clear H; intro b84 a w hb84 H; obtain ⟨Gq, hmq, hq, H⟩ := H.giveOne (sz := 1) (d := numDat 6) rfl (num_row _ 6); replace hvg := hvg.mono hmq; refine s_call en60wrd H (wg H rfl rfl h78) rfl (is_spec _ _ H.hp.ro l[(n - 1)] [6] _ hq) rfl ?_; clear H; rintro v85 _ a w ⟨rfl, rfl⟩ - H; rw [is1 (by omega) 6] at H; refine s_pick_t H wn rfl h78 rfl rfl ?_; clear H; intro a H; refine s_move H wn rfl rfl ?_; clear H; intro a H; refine s_split H 87 rfl ?_ ?_
                                · intro h87
                                  try have p87 := of_decide_eq_true h87
                                  first
                                  | (exfalso; omega)
                                  | (exact absurd h87 (by decide))
                                  | skip
                                    (iterate 2 refine s_move H (wg H rfl rfl h87) rfl rfl ?_; clear H; intro a H); refine s_add _ H (wg H rfl rfl h87) rfl rfl rfl (by omega) (by omega) rfl ?_; clear H; intro a H; refine s_index un73wrd ty100wrd (n + 1) H (wg H rfl rfl h87) rfl rfl (by omega) (by omega) rfl ?_; clear H; intro a H; refine s_loada ty100wrd (cs := [_, _, _]) H (wg H rfl rfl h87) rfl rfl (fun j v hj => H.hp.gcell (clu_get hvg (k := (n + 1)) (by omega) j v hj)) rfl ?_; clear H; intro a H; refine s_buildSlice un32wrd ty3wrd [_] [_] H (wg H rfl rfl h87) rfl rfl rfl rfl rfl (by intro i q h; match i, h with | 0, h => exact h | n + 1, h => simp at h) rfl rfl ?_; clear H; intro b93 a w hb93 H; obtain ⟨Gq, hmq, hq, H⟩ := H.giveOne (sz := 1) (d := numDat 6) rfl (num_row _ 6); replace hvg := hvg.mono hmq; refine s_call en60wrd H (wg H rfl rfl h87) rfl (is_spec _ _ H.hp.ro l[(n + 1)] [6] _ hq) rfl ?_; clear H; rintro v94 _ a w ⟨rfl, rfl⟩ - H; rw [is1 (by omega) 6] at H; refine s_pick_t H wn rfl h87 rfl rfl ?_; clear H; intro a H; refine s_assign H wn rfl rfl ?_; clear H; intro a H; refine wl_nil ?_; refine hK22 _ _ ?_; clear hK22; refine c_cond H rfl ?_ ?_
                                    · intro h60
                                      try have p60 := of_decide_eq_true h60
                                      first
                                      | (exfalso; omega)
                                      | (exact absurd h60 (by decide))
                                      | skip
                                        refine c_skip ?_; refine hK6 _ _ ?_; clear hK6; refine c_region ?_; refine s_move H wn rfl rfl ?_; clear H; intro a H; refine s_add _ H wn rfl rfl rfl (by omega) (by omega) rfl ?_; clear H; intro a H; refine s_assign H wn rfl rfl ?_; clear H; intro a H; refine wl_nil ?_; refine loop_end ((n + 1, f - 1, kd, Gq)) (by exact (H).sub ⟨rfl, rfl, rfl, trivial⟩) ?_ ?_
                                        · (try dsimp only); exact ⟨by omega, by omega, by rw [if_pos (show okW l n = true by simp only [okW, decide_eq_true_eq]; omega), if_neg (show ¬ clsA l n = 5 by omega)] at heq; exact heq, hvg⟩
                                        first | omega | (dsimp only; omega)
                                    intro h60
                                    try have p60 := of_decide_eq_false h60
                                    first
                                    | (exfalso; omega)
                                    | (exact absurd h60 (by decide))
                                    | skip
                                      refine c_seq (fun _ hK23 => ?_); refine c_region ?_; (iterate 2 refine s_move H wn rfl rfl ?_; clear H; intro a H); (iterate 2 refine s_assign H wn rfl rfl ?_; clear H; intro a H); refine wl_nil ?_; refine hK23 _ _ ?_; clear hK23; refine c_ret ?_; refine (leaveT H Tryd.results61 (.cons (rv_tmp H rfl) (.cons (rv_tmp H rfl) .nil)) ?_).1
                                      have hfin : (n, kd) = wrdS l := by
                                        first
                                          | exact heq
                                          | (rw [if_neg (show ¬ okW l n = true by simp only [okW, decide_eq_true_eq]; omega)] at heq; exact heq)
                                      exact H.hp.ret (by rw [← hfin])
                                intro h87
                                try have p87 := of_decide_eq_false h87
                                first
                                | (exfalso; omega)
                                | (exact absurd h87 (by decide))
                                | skip
                                  (iterate 7 refine s_skip H rfl rfl h87 rfl ?_; clear H; intro a H); refine s_pick_f H wn rfl h87 rfl rfl ?_; clear H; intro a H; refine s_assign H wn rfl rfl ?_; clear H; intro a H; refine wl_nil ?_; refine hK22 _ _ ?_; clear hK22; refine c_cond_f H rfl rfl ?_; refine c_seq (fun _ hK24 => ?_); refine c_region ?_; (iterate 2 refine s_move H wn rfl rfl ?_; clear H; intro a H); (iterate 2 refine s_assign H wn rfl rfl ?_; clear H; intro a H); refine wl_nil ?_; refine hK24 _ _ ?_; clear hK24; refine c_ret ?_; refine (leaveT H Tryd.results61 (.cons (rv_tmp H rfl) (.cons (rv_tmp H rfl) .nil)) ?_).1
                                  have hfin : (n, kd) = wrdS l := by
                                    first
                                      | exact heq
                                      | (rw [if_neg (show ¬ okW l n = true by simp only [okW, decide_eq_true_eq]; omega)] at heq; exact heq)
                                  exact H.hp.ret (by rw [← hfin])
                            intro h78
                            try have p78 := of_decide_eq_false h78
                            first
                            | (exfalso; omega)
                            | (exact absurd h78 (by decide))
                            | skip
                              (iterate 7 refine s_skip H rfl rfl h78 rfl ?_; clear H; intro a H); refine s_pick_f H wn rfl h78 rfl rfl ?_; clear H; intro a H; refine s_move H wn rfl rfl ?_; clear H; intro a H; (iterate 7 refine s_skip H rfl rfl rfl rfl ?_; clear H; intro a H); refine s_pick_f H wn rfl rfl rfl rfl ?_; clear H; intro a H; refine s_assign H wn rfl rfl ?_; clear H; intro a H; refine wl_nil ?_; refine hK22 _ _ ?_; clear hK22; refine c_cond_f H rfl rfl ?_; refine c_seq (fun _ hK25 => ?_); refine c_region ?_; (iterate 2 refine s_move H wn rfl rfl ?_; clear H; intro a H); (iterate 2 refine s_assign H wn rfl rfl ?_; clear H; intro a H); refine wl_nil ?_; refine hK25 _ _ ?_; clear hK25; refine c_ret ?_; refine (leaveT H Tryd.results61 (.cons (rv_tmp H rfl) (.cons (rv_tmp H rfl) .nil)) ?_).1
                              have hfin : (n, kd) = wrdS l := by
                                first
                                  | exact heq
                                  | (rw [if_neg (show ¬ okW l n = true by simp only [okW, decide_eq_true_eq]; omega)] at heq; exact heq)
                              exact H.hp.ret (by rw [← hfin])
                        intro h70
                        try have p70 := of_decide_eq_false h70
                        first
                        | (exfalso; omega)
                        | (exact absurd h70 (by decide))
                        | skip
                          (iterate 6 refine s_skip H rfl rfl h70 rfl ?_; clear H; intro a H); refine s_pick_f H wn rfl h70 rfl rfl ?_; clear H; intro a H; refine s_move H wn rfl rfl ?_; clear H; intro a H; (iterate 7 refine s_skip H rfl rfl rfl rfl ?_; clear H; intro a H); refine s_pick_f H wn rfl rfl rfl rfl ?_; clear H; intro a H; refine s_move H wn rfl rfl ?_; clear H; intro a H; (iterate 7 refine s_skip H rfl rfl rfl rfl ?_; clear H; intro a H); refine s_pick_f H wn rfl rfl rfl rfl ?_; clear H; intro a H; refine s_assign H wn rfl rfl ?_; clear H; intro a H; refine wl_nil ?_; refine hK22 _ _ ?_; clear hK22; refine c_cond_f H rfl rfl ?_; refine c_seq (fun _ hK26 => ?_); refine c_region ?_; (iterate 2 refine s_move H wn rfl rfl ?_; clear H; intro a H); (iterate 2 refine s_assign H wn rfl rfl ?_; clear H; intro a H); refine wl_nil ?_; refine hK26 _ _ ?_; clear hK26; refine c_ret ?_; refine (leaveT H Tryd.results61 (.cons (rv_tmp H rfl) (.cons (rv_tmp H rfl) .nil)) ?_).1
                          have hfin : (n, kd) = wrdS l := by
                            first
                              | exact heq
                              | (rw [if_neg (show ¬ okW l n = true by simp only [okW, decide_eq_true_eq]; omega)] at heq; exact heq)
                          exact H.hp.ret (by rw [← hfin])
                    intro h63
                    try have p63 := of_decide_eq_false h63
                    first
                    | (exfalso; omega)
                    | (exact absurd h63 (by decide))
                    | skip
                      (iterate 5 refine s_skip H rfl rfl h63 rfl ?_; clear H; intro a H); refine s_pick_f H wn rfl h63 rfl rfl ?_; clear H; intro a H; refine s_move H wn rfl rfl ?_; clear H; intro a H; (iterate 6 refine s_skip H rfl rfl rfl rfl ?_; clear H; intro a H); refine s_pick_f H wn rfl rfl rfl rfl ?_; clear H; intro a H; refine s_move H wn rfl rfl ?_; clear H; intro a H; (iterate 7 refine s_skip H rfl rfl rfl rfl ?_; clear H; intro a H); refine s_pick_f H wn rfl rfl rfl rfl ?_; clear H; intro a H; refine s_move H wn rfl rfl ?_; clear H; intro a H; (iterate 7 refine s_skip H rfl rfl rfl rfl ?_; clear H; intro a H); refine s_pick_f H wn rfl rfl rfl rfl ?_; clear H; intro a H; refine s_assign H wn rfl rfl ?_; clear H; intro a H; refine wl_nil ?_; refine hK22 _ _ ?_; clear hK22; refine c_cond_f H rfl rfl ?_; refine c_seq (fun _ hK27 => ?_); refine c_region ?_; (iterate 2 refine s_move H wn rfl rfl ?_; clear H; intro a H); (iterate 2 refine s_assign H wn rfl rfl ?_; clear H; intro a H); refine wl_nil ?_; refine hK27 _ _ ?_; clear hK27; refine c_ret ?_; refine (leaveT H Tryd.results61 (.cons (rv_tmp H rfl) (.cons (rv_tmp H rfl) .nil)) ?_).1
                      have hfin : (n, kd) = wrdS l := by
                        first
                          | exact heq
                          | (rw [if_neg (show ¬ okW l n = true by simp only [okW, decide_eq_true_eq]; omega)] at heq; exact heq)
                      exact H.hp.ret (by rw [← hfin])
              intro h34
              try have p34 := of_decide_eq_false h34
              first
              | (exfalso; omega)
              | (exact absurd h34 (by decide))
              | skip
                (iterate 6 refine s_skip H rfl rfl h34 rfl ?_; clear H; intro a H); refine s_pick_f H wn rfl h34 rfl rfl ?_; clear H; intro a H; refine s_move H wn rfl rfl ?_; clear H; intro a H; (iterate 7 refine s_skip H rfl rfl rfl rfl ?_; clear H; intro a H); refine s_pick_f H wn rfl rfl rfl rfl ?_; clear H; intro a H; refine s_move H wn rfl rfl ?_; clear H; intro a H; (iterate 7 refine s_skip H rfl rfl rfl rfl ?_; clear H; intro a H); refine s_pick_f H wn rfl rfl rfl rfl ?_; clear H; intro a H; refine s_assign H wn rfl rfl ?_; clear H; intro a H; refine wl_nil ?_; refine hK9 _ _ ?_; clear hK9; refine c_cond_f H rfl rfl ?_; refine c_seq (fun _ hK28 => ?_); refine c_region ?_; refine s_move H wn rfl rfl ?_; clear H; intro a H; refine s_cmp H wn rfl rfl rfl rfl ?_; clear H; intro a H; refine s_move H wn rfl rfl ?_; clear H; intro a H; refine s_split H 63 rfl ?_ ?_
                · intro h63
                  try have p63 := of_decide_eq_true h63
                  first
                  | (exfalso; omega)
                  | (exact absurd h63 (by decide))
                  | skip
                    refine s_move H (wg H rfl rfl h63) rfl rfl ?_; clear H; intro a H; refine s_add _ H (wg H rfl rfl h63) rfl rfl rfl (by omega) (by omega) rfl ?_; clear H; intro a H; refine s_move H (wg H rfl rfl h63) rfl rfl ?_; clear H; intro a H; refine s_len un73wrd H (wg H rfl rfl h63) rfl rfl ?_; clear H; intro a H; refine s_cmp H (wg H rfl rfl h63) rfl rfl rfl rfl ?_; clear H; intro a H; refine s_pick_t H wn rfl h63 rfl rfl ?_; clear H; intro a H; refine s_move H wn rfl rfl ?_; clear H; intro a H; refine s_split H 70 rfl ?_ ?_
                    · intro h70
                      try have p70 := of_decide_eq_true h70
                      first
                      | (exfalso; omega)
                      | (exact absurd h70 (by decide))
                      | skip
                        (iterate 2 refine s_move H (wg H rfl rfl h70) rfl rfl ?_; clear H; intro a H); refine s_index un73wrd ty100wrd n H (wg H rfl rfl h70) rfl rfl (by omega) (by omega) rfl ?_; clear H; intro a H; refine s_loada ty100wrd (cs := [_, _, _]) H (wg H rfl rfl h70) rfl rfl (fun j v hj => H.hp.gcell (clu_get hvg (k := n) (by omega) j v hj)) rfl ?_; clear H; intro a H; refine s_buildSlice un32wrd ty3wrd [_] [_] H (wg H rfl rfl h70) rfl rfl rfl rfl rfl (by intro i q h; match i, h with | 0, h => exact h | n + 1, h => simp at h) rfl rfl ?_; clear H; intro b75 a w hb75 H; obtain ⟨Gq, hmq, hq, H⟩ := H.giveOne (sz := 1) (d := numDat 10) rfl (num_row _ 10); replace hvg := hvg.mono hmq; refine s_call en60wrd H (wg H rfl rfl h70) rfl (is_spec _ _ H.hp.ro l[n] [10] _ hq) rfl ?_; clear H; rintro v76 _ a w ⟨rfl, rfl⟩ - H; rw [is1 (by omega) 10] at H; refine s_pick_t H wn rfl h70 rfl rfl ?_; clear H; intro a H; refine s_move H wn rfl rfl ?_; clear H; intro a H; refine s_split H 78 rfl ?_ ?_
                        · intro h78
                          try have p78 := of_decide_eq_true h78
                          first
                          | (exfalso; omega)
                          | (exact absurd h78 (by decide))
                          | skip
                            (iterate 2 refine s_move H (wg H rfl rfl h78) rfl rfl ?_; clear H; intro a H); refine s_sub _ H (wg H rfl rfl h78) rfl rfl rfl (by omega) (by omega) rfl ?_; clear H; intro a H; refine s_index un73wrd ty100wrd (n - 1) H (wg H rfl rfl h78) rfl rfl (by omega) (by omega) rfl ?_; clear H; intro a H; refine s_loada ty100wrd (cs := [_, _, _]) H (wg H rfl rfl h78) rfl rfl (fun j v hj => H.hp.gcell (clu_get hvg (k := (n - 1)) (by omega) j v hj)) rfl ?_; clear H; intro a H; refine s_buildSlice un32wrd ty3wrd [_] [_] H (wg H rfl rfl h78) rfl rfl rfl rfl rfl (by intro i q h; match i, h with | 0, h => exact h | n + 1, h => simp at h) rfl rfl ?_; clear H; intro b84 a w hb84 H; obtain ⟨Gq, hmq, hq, H⟩ := H.giveOne (sz := 1) (d := numDat 6) rfl (num_row _ 6); replace hvg := hvg.mono hmq; refine s_call en60wrd H (wg H rfl rfl h78) rfl (is_spec _ _ H.hp.ro l[(n - 1)] [6] _ hq) rfl ?_; clear H; rintro v85 _ a w ⟨rfl, rfl⟩ - H; rw [is1 (by omega) 6] at H; refine s_pick_t H wn rfl h78 rfl rfl ?_; clear H; intro a H; refine s_move H wn rfl rfl ?_; clear H; intro a H; refine s_split H 87 rfl ?_ ?_
                            · intro h87
                              try have p87 := of_decide_eq_true h87
                              first
                              | (exfalso; omega)
                              | (exact absurd h87 (by decide))
                              | skip
                                (iterate 2 refine s_move H (wg H rfl rfl h87) rfl rfl ?_; clear H; intro a H); refine s_add _ H (wg H rfl rfl h87) rfl rfl rfl (by omega) (by omega) rfl ?_; clear H; intro a H; refine s_index un73wrd ty100wrd (n + 1) H (wg H rfl rfl h87) rfl rfl (by omega) (by omega) rfl ?_; clear H; intro a H; refine s_loada ty100wrd (cs := [_, _, _]) H (wg H rfl rfl h87) rfl rfl (fun j v hj => H.hp.gcell (clu_get hvg (k := (n + 1)) (by omega) j v hj)) rfl ?_; clear H; intro a H; refine s_buildSlice un32wrd ty3wrd [_] [_] H (wg H rfl rfl h87) rfl rfl rfl rfl rfl (by intro i q h; match i, h with | 0, h => exact h | n + 1, h => simp at h) rfl rfl ?_; clear H; intro b93 a w hb93 H; obtain ⟨Gq, hmq, hq, H⟩ := H.giveOne (sz := 1) (d := numDat 6) rfl (num_row _ 6); replace hvg := hvg.mono hmq; refine s_call en60wrd H (wg H rfl rfl h87) rfl (is_spec _ _ H.hp.ro l[(n + 1)] [6] _ hq) rfl ?_; clear H; rintro v94 _ a w ⟨rfl, rfl⟩ - H; rw [is1 (by omega) 6] at H; refine s_pick_t H wn rfl h87 rfl rfl ?_; clear H; intro a H; refine s_assign H wn rfl rfl ?_; clear H; intro a H; refine wl_nil ?_; refine hK28 _ _ ?_; clear hK28; refine c_cond H rfl ?_ ?_
                                · intro h60
                                  try have p60 := of_decide_eq_true h60
                                  first
                                  | (exfalso; omega)
                                  | (exact absurd h60 (by decide))
                                  | skip
                                    refine c_skip ?_; refine hK6 _ _ ?_; clear hK6; refine c_region ?_; refine s_move H wn rfl rfl ?_; clear H; intro a H; refine s_add _ H wn rfl rfl rfl (by omega) (by omega) rfl ?_; clear H; intro a H; refine s_assign H wn rfl rfl ?_; clear H; intro a H; refine wl_nil ?_; refine loop_end ((n + 1, f - 1, kd, Gq)) (by exact (H).sub ⟨rfl, rfl, rfl, trivial⟩) ?_ ?_
                                    · (try dsimp only); exact ⟨by omega, by omega, by rw [if_pos (show okW l n = true by simp only [okW, decide_eq_true_eq]; omega), if_neg (show ¬ clsA l n = 5 by omega)] at heq; exact heq, hvg⟩
                                    first | omega | (dsimp only; omega)
                                intro h60
                                try have p60 := of_decide_eq_false h60
                                first
                                | (exfalso; omega)
                                | (exact absurd h60 (by decide))
                                | skip
                                  refine c_seq (fun _ hK29 => ?_); refine c_region ?_; (iterate 2 refine s_move H wn rfl rfl ?_; clear H; intro a H); (iterate 2 refine s_assign H wn rfl rfl ?_; clear H; intro a H); refine wl_nil ?_; refine hK29 _ _ ?_; clear hK29; refine c_ret ?_; refine (leaveT H Tryd.results61 (.cons (rv_tmp H rfl) (.cons (rv_tmp H rfl) .nil)) ?_).1
                                  have hfin : (n, kd) = wrdS l := by
                                    first
                                      | exact heq
                                      | (rw [if_neg (show ¬ okW l n = true by simp only [okW, decide_eq_true_eq]; omega)] at heq; exact heq)
                                  exact H.hp.ret (by rw [← hfin])
                            intro h87
                            try have p87 := of_decide_eq_false h87
                            first
                            | (exfalso; omega)
                            | (exact absurd h87 (by decide))
                            | skip
                              (iterate 7 refine s_skip H rfl rfl h87 rfl ?_; clear H; intro a H); refine s_pick_f H wn rfl h87 rfl rfl ?_; clear H; intro a H; refine s_assign H wn rfl rfl ?_; clear H; intro a H; refine wl_nil ?_; refine hK28 _ _ ?_; clear hK28; refine c_cond_f H rfl rfl ?_; refine c_seq (fun _ hK30 => ?_); refine c_region ?_; (iterate 2 refine s_move H wn rfl rfl ?_; clear H; intro a H); (iterate 2 refine s_assign H wn rfl rfl ?_; clear H; intro a H); refine wl_nil ?_; refine hK30 _ _ ?_; clear hK30; refine c_ret ?_; refine (leaveT H Tryd.results61 (.cons (rv_tmp H rfl) (.cons (rv_tmp H rfl) .nil)) ?_).1
                              have hfin : (n, kd) = wrdS l := by
                                first
                                  | exact heq
                                  | (rw [if_neg (show ¬ okW l n = true by simp only [okW, decide_eq_true_eq]; omega)] at heq; exact heq)
                              exact H.hp.ret (by rw [← hfin])
                        intro h78
                        try have p78 := of_decide_eq_false h78
                        first
                        | (exfalso; omega)
                        | (exact absurd h78 (by decide))
                        | skip
                          (iterate 7 refine s_skip H rfl rfl h78 rfl ?_; clear H; intro a H); refine s_pick_f H wn rfl h78 rfl rfl ?_; clear H; intro a H; refine s_move H wn rfl rfl ?_; clear H; intro a H; (iterate 7 refine s_skip H rfl rfl rfl rfl ?_; clear H; intro a H); refine s_pick_f H wn rfl rfl rfl rfl ?_; clear H; intro a H; refine s_assign H wn rfl rfl ?_; clear H; intro a H; refine wl_nil ?_; refine hK28 _ _ ?_; clear hK28; refine c_cond_f H rfl rfl ?_; refine c_seq (fun _ hK31 => ?_); refine c_region ?_; (iterate 2 refine s_move H wn rfl rfl ?_; clear H; intro a H); (iterate 2 refine s_assign H wn rfl rfl ?_; clear H; intro a H); refine wl_nil ?_; refine hK31 _ _ ?_; clear hK31; refine c_ret ?_; refine (leaveT H Tryd.results61 (.cons (rv_tmp H rfl) (.cons (rv_tmp H rfl) .nil)) ?_).1
                          have hfin : (n, kd) = wrdS l := by
                            first
                              | exact heq
                              | (rw [if_neg (show ¬ okW l n = true by simp only [okW, decide_eq_true_eq]; omega)] at heq; exact heq)
                          exact H.hp.ret (by rw [← hfin])
                    intro h70
                    try have p70 := of_decide_eq_false h70
                    first
                    | (exfalso; omega)
                    | (exact absurd h70 (by decide))
                    | skip
                      (iterate 6 refine s_skip H rfl rfl h70 rfl ?_; clear H; intro a H); refine s_pick_f H wn rfl h70 rfl rfl ?_; clear H; intro a H; refine s_move H wn rfl rfl ?_; clear H; intro a H; (iterate 7 refine s_skip H rfl rfl rfl rfl ?_; clear H; intro a H); refine s_pick_f H wn rfl rfl rfl rfl ?_; clear H; intro a H; refine s_move H wn rfl rfl ?_; clear H; intro a H; (iterate 7 refine s_skip H rfl rfl rfl rfl ?_; clear H; intro a H); refine s_pick_f H wn rfl rfl rfl rfl ?_; clear H; intro a H; refine s_assign H wn rfl rfl ?_; clear H; intro a H; refine wl_nil ?_; refine hK28 _ _ ?_; clear hK28; refine c_cond_f H rfl rfl ?_; refine c_seq (fun _ hK32 => ?_); refine c_region ?_; (iterate 2 refine s_move H wn rfl rfl ?_; clear H; intro a H); (iterate 2 refine s_assign H wn rfl rfl ?_; clear H; intro a H); refine wl_nil ?_; refine hK32 _ _ ?_; clear hK32; refine c_ret ?_; refine (leaveT H Tryd.results61 (.cons (rv_tmp H rfl) (.cons (rv_tmp H rfl) .nil)) ?_).1
                      have hfin : (n, kd) = wrdS l := by
                        first
                          | exact heq
                          | (rw [if_neg (show ¬ okW l n = true by simp only [okW, decide_eq_true_eq]; omega)] at heq; exact heq)
                      exact H.hp.ret (by rw [← hfin])
                intro h63
                try have p63 := of_decide_eq_false h63
                first
                | (exfalso; omega)
                | (exact absurd h63 (by decide))
                | skip
                  (iterate 5 refine s_skip H rfl rfl h63 rfl ?_; clear H; intro a H); refine s_pick_f H wn rfl h63 rfl rfl ?_; clear H; intro a H; refine s_move H wn rfl rfl ?_; clear H; intro a H; (iterate 6 refine s_skip H rfl rfl rfl rfl ?_; clear H; intro a H); refine s_pick_f H wn rfl rfl rfl rfl ?_; clear H; intro a H; refine s_move H wn rfl rfl ?_; clear H; intro a H; (iterate 7 refine s_skip H rfl rfl rfl rfl ?_; clear H; intro a H); refine s_pick_f H wn rfl rfl rfl rfl ?_; clear H; intro a H; refine s_move H wn rfl rfl ?_; clear H; intro a H; (iterate 7 refine s_skip H rfl rfl rfl rfl ?_; clear H; intro a H); refine s_pick_f H wn rfl rfl rfl rfl ?_; clear H; intro a H; refine s_assign H wn rfl rfl ?_; clear H; intro a H; refine wl_nil ?_; refine hK28 _ _ ?_; clear hK28; refine c_cond_f H rfl rfl ?_; refine c_seq (fun _ hK33 => ?_); refine c_region ?_; (iterate 2 refine s_move H wn rfl rfl ?_; clear H; intro a H); (iterate 2 refine s_assign H wn rfl rfl ?_; clear H; intro a H); refine wl_nil ?_; refine hK33 _ _ ?_; clear hK33; refine c_ret ?_; refine (leaveT H Tryd.results61 (.cons (rv_tmp H rfl) (.cons (rv_tmp H rfl) .nil)) ?_).1
                  have hfin : (n, kd) = wrdS l := by
                    first
                      | exact heq
                      | (rw [if_neg (show ¬ okW l n = true by simp only [okW, decide_eq_true_eq]; omega)] at heq; exact heq)
                  exact H.hp.ret (by rw [← hfin])
          intro h27
          try have p27 := of_decide_eq_false h27
          first
          | (exfalso; omega)
          | (exact absurd h27 (by decide))
          | skip
            (iterate 5 refine s_skip H rfl rfl h27 rfl ?_; clear H; intro a H); refine s_pick_f H wn rfl h27 rfl rfl ?_; clear H; intro a H; refine s_move H wn rfl rfl ?_; clear H; intro a H; (iterate 6 refine s_skip H rfl rfl rfl rfl ?_; clear H; intro a H); refine s_pick_f H wn rfl rfl rfl rfl ?_; clear H; intro a H; refine s_move H wn rfl rfl ?_; clear H; intro a H; (iterate 7 refine s_skip H rfl rfl rfl rfl ?_; clear H; intro a H); refine s_pick_f H wn rfl rfl rfl rfl ?_; clear H; intro a H; refine s_move H wn rfl rfl ?_; clear H; intro a H; (iterate 7 refine s_skip H rfl rfl rfl rfl ?_; clear H; intro a H); refine s_pick_f H wn rfl rfl rfl rfl ?_; clear H; intro a H; refine s_assign H wn rfl rfl ?_; clear H; intro a H; refine wl_nil ?_; refine hK9 _ _ ?_; clear hK9; refine c_cond_f H rfl rfl ?_; refine c_seq (fun _ hK34 => ?_); refine c_region ?_; refine s_move H wn rfl rfl ?_; clear H; intro a H; refine s_cmp H wn rfl rfl rfl rfl ?_; clear H; intro a H; refine s_move H wn rfl rfl ?_; clear H; intro a H; refine s_split H 63 rfl ?_ ?_
            · intro h63
              try have p63 := of_decide_eq_true h63
              first
              | (exfalso; omega)
              | (exact absurd h63 (by decide))
              | skip
                refine s_move H (wg H rfl rfl h63) rfl rfl ?_; clear H; intro a H; refine s_add _ H (wg H rfl rfl h63) rfl rfl rfl (by omega) (by omega) rfl ?_; clear H; intro a H; refine s_move H (wg H rfl rfl h63) rfl rfl ?_; clear H; intro a H; refine s_len un73wrd H (wg H rfl rfl h63) rfl rfl ?_; clear H; intro a H; refine s_cmp H (wg H rfl rfl h63) rfl rfl rfl rfl ?_; clear H; intro a H; refine s_pick_t H wn rfl h63 rfl rfl ?_; clear H; intro a H; refine s_move H wn rfl rfl ?_; clear H; intro a H; refine s_split H 70 rfl ?_ ?_
                · intro h70
                  try have p70 := of_decide_eq_true h70
                  first
                  | (exfalso; omega)
                  | (exact absurd h70 (by decide))
                  | skip
                    (iterate 2 refine s_move H (wg H rfl rfl h70) rfl rfl ?_; clear H; intro a H); refine s_index un73wrd ty100wrd n H (wg H rfl rfl h70) rfl rfl (by omega) (by omega) rfl ?_; clear H; intro a H; refine s_loada ty100wrd (cs := [_, _, _]) H (wg H rfl rfl h70) rfl rfl (fun j v hj => H.hp.gcell (clu_get hvg (k := n) (by omega) j v hj)) rfl ?_; clear H; intro a H; refine s_buildSlice un32wrd ty3wrd [_] [_] H (wg H rfl rfl h70) rfl rfl rfl rfl rfl (by intro i q h; match i, h with | 0, h => exact h | n + 1, h => simp at h) rfl rfl ?_; clear H; intro b75 a w hb75 H; obtain ⟨Gq, hmq, hq, H⟩ := H.giveOne (sz := 1) (d := numDat 10) rfl (num_row _ 10); replace hvg := hvg.mono hmq; refine s_call en60wrd H (wg H rfl rfl h70) rfl (is_spec _ _ H.hp.ro l[n] [10] _ hq) rfl ?_; clear H; rintro v76 _ a w ⟨rfl, rfl⟩ - H; rw [is1 (by omega) 10] at H; refine s_pick_t H wn rfl h70 rfl rfl ?_; clear H; intro a H; refine s_move H wn rfl rfl ?_; clear H; intro a H; refine s_split H 78 rfl ?_ ?_
                    · intro h78
                      try have p78 := of_decide_eq_true h78
                      first
                      | (exfalso; omega)
                      | (exact absurd h78 (by decide))
                      | skip
                        (iterate 2 refine s_move H (wg H rfl rfl h78) rfl rfl ?_; clear H; intro a H); refine s_sub _ H (wg H rfl rfl h78) rfl rfl rfl (by omega) (by omega) rfl ?_; clear H; intro a H; refine s_index un73wrd ty100wrd (n - 1) H (wg H rfl rfl h78) rfl rfl (by omega) (by omega) rfl ?_; clear H; intro a H; refine s_loada ty100wrd (cs := [_, _, _]) H (wg H rfl rfl h78) rfl rfl (fun j v hj => H.hp.gcell (clu_get hvg (k := (n - 1)) (by omega) j v hj)) rfl ?_; clear H; intro a H; refine s_buildSlice un32wrd ty3wrd [_] [_] H (wg H rfl rfl h78) rfl rfl rfl rfl rfl (by intro i q h; match i, h with | 0, h => exact h | n + 1, h => simp at h) rfl rfl ?_; clear H; intro b84 a w hb84 H; obtain ⟨Gq, hmq, hq, H⟩ := H.giveOne (sz := 1) (d := numDat 6) rfl (num_row _ 6); replace hvg := hvg.mono hmq; refine s_call en60wrd H (wg H rfl rfl h78) rfl (is_spec _ _ H.hp.ro l[(n - 1)] [6] _ hq) rfl ?_; clear H; rintro v85 _ a w ⟨rfl, rfl⟩ - H; rw [is1 (by omega) 6] at H; refine s_pick_t H wn rfl h78 rfl rfl ?_; clear H; intro a H; refine s_move H wn rfl rfl ?_; clear H; intro a H; refine s_split H 87 rfl ?_ ?_
                        · intro h87
                          try have p87 := of_decide_eq_true h87
                          first
                          | (exfalso; omega)
                          | (exact absurd h87 (by decide))
                          | skip
                            (iterate 2 refine s_move H (wg H rfl rfl h87) rfl rfl ?_; clear H; intro a H); refine s_add _ H (wg H rfl rfl h87) rfl rfl rfl (by omega) (by omega) rfl ?_; clear H; intro a H; refine s_index un73wrd ty100wrd (n + 1) H (wg H rfl rfl h87) rfl rfl (by omega) (by omega) rfl ?_; clear H; intro a H; refine s_loada ty100wrd (cs := [_, _, _]) H (wg H rfl rfl h87) rfl rfl (fun j v hj => H.hp.gcell (clu_get hvg (k := (n + 1)) (by omega) j v hj)) rfl ?_; clear H; intro a H; refine s_buildSlice un32wrd ty3wrd [_] [_] H (wg H rfl rfl h87) rfl rfl rfl rfl rfl (by intro i q h; match i, h with | 0, h => exact h | n + 1, h => simp at h) rfl rfl ?_; clear H; intro b93 a w hb93 H; obtain ⟨Gq, hmq, hq, H⟩ := H.giveOne (sz := 1) (d := numDat 6) rfl (num_row _ 6); replace hvg := hvg.mono hmq; refine s_call en60wrd H (wg H rfl rfl h87) rfl (is_spec _ _ H.hp.ro l[(n + 1)] [6] _ hq) rfl ?_; clear H; rintro v94 _ a w ⟨rfl, rfl⟩ - H; rw [is1 (by omega) 6] at H; refine s_pick_t H wn rfl h87 rfl rfl ?_; clear H; intro a H; refine s_assign H wn rfl rfl ?_; clear H; intro a H; refine wl_nil ?_; refine hK34 _ _ ?_; clear hK34; refine c_cond H rfl ?_ ?_
                            · intro h60
                              try have p60 := of_decide_eq_true h60
                              first
                              | (exfalso; omega)
                              | (exact absurd h60 (by decide))
                              | skip
                                refine c_skip ?_; refine hK6 _ _ ?_; clear hK6; refine c_region ?_; refine s_move H wn rfl rfl ?_; clear H; intro a H; refine s_add _ H wn rfl rfl rfl (by omega) (by omega) rfl ?_; clear H; intro a H; refine s_assign H wn rfl rfl ?_; clear H; intro a H; refine wl_nil ?_; refine loop_end ((n + 1, f - 1, kd, Gq)) (by exact (H).sub ⟨rfl, rfl, rfl, trivial⟩) ?_ ?_
                                · (try dsimp only); exact ⟨by omega, by omega, by rw [if_pos (show okW l n = true by simp only [okW, decide_eq_true_eq]; omega), if_neg (show ¬ clsA l n = 5 by omega)] at heq; exact heq, hvg⟩
                                first | omega | (dsimp only; omega)
                            intro h60
                            try have p60 := of_decide_eq_false h60
                            first
                            | (exfalso; omega)
                            | (exact absurd h60 (by decide))
                            | skip
                              refine c_seq (fun _ hK35 => ?_); refine c_region ?_; (iterate 2 refine s_move H wn rfl rfl ?_; clear H; intro a H); (iterate 2 refine s_assign H wn rfl rfl ?_; clear H; intro a H); refine wl_nil ?_; refine hK35 _ _ ?_; clear hK35; refine c_ret ?_; refine (leaveT H Tryd.results61 (.cons (rv_tmp H rfl) (.cons (rv_tmp H rfl) .nil)) ?_).1
                              have hfin : (n, kd) = wrdS l := by
                                first
                                  | exact heq
                                  | (rw [if_neg (show ¬ okW l n = true by simp only [okW, decide_eq_true_eq]; omega)] at heq; exact heq)
                              exact H.hp.ret (by rw [← hfin])
                        intro h87
                        try have p87 := of_decide_eq_false h87
                        first
                        | (exfalso; omega)
                        | (exact absurd h87 (by decide))
                        | skip
                          (iterate 7 refine s_skip H rfl rfl h87 rfl ?_; clear H; intro a H); refine s_pick_f H wn rfl h87 rfl rfl ?_; clear H; intro a H; refine s_assign H wn rfl rfl ?_; clear H; intro a H; refine wl_nil ?_; refine hK34 _ _ ?_; clear hK34; refine c_cond_f H rfl rfl ?_; refine c_seq (fun _ hK36 => ?_); refine c_region ?_; (iterate 2 refine s_move H wn rfl rfl ?_; clear H; intro a H); (iterate 2 refine s_assign H wn rfl rfl ?_; clear H; intro a H); refine wl_nil ?_; refine hK36 _ _ ?_; clear hK36; refine c_ret ?_; refine (leaveT H Tryd.results61 (.cons (rv_tmp H rfl) (.cons (rv_tmp H rfl) .nil)) ?_).1
                          have hfin : (n, kd) = wrdS l := by
                            first
                              | exact heq
                              | (rw [if_neg (show ¬ okW l n = true by simp only [okW, decide_eq_true_eq]; omega)] at heq; exact heq)
                          exact H.hp.ret (by rw [← hfin])
                    intro h78
                    try have p78 := of_decide_eq_false h78
                    first
                    | (exfalso; omega)
                    | (exact absurd h78 (by decide))
                    | skip
                      (iterate 7 refine s_skip H rfl rfl h78 rfl ?_; clear H; intro a H); refine s_pick_f H wn rfl h78 rfl rfl ?_; clear H; intro a H; refine s_move H wn rfl rfl ?_; clear H; intro a H; (iterate 7 refine s_skip H rfl rfl rfl rfl ?_; clear H; intro a H); refine s_pick_f H wn rfl rfl rfl rfl ?_; clear H; intro a H; refine s_assign H wn rfl rfl ?_; clear H; intro a H; refine wl_nil ?_; refine hK34 _ _ ?_; clear hK34; refine c_cond_f H rfl rfl ?_; refine c_seq (fun _ hK37 => ?_); refine c_region ?_; (iterate 2 refine s_move H wn rfl rfl ?_; clear H; intro a H); (iterate 2 refine s_assign H wn rfl rfl ?_; clear H; intro a H); refine wl_nil ?_; refine hK37 _ _ ?_; clear hK37; refine c_ret ?_; refine (leaveT H Tryd.results61 (.cons (rv_tmp H rfl) (.cons (rv_tmp H rfl) .nil)) ?_).1
                      have hfin : (n, kd) = wrdS l := by
                        first
                          | exact heq
                          | (rw [if_neg (show ¬ okW l n = true by simp only [okW, decide_eq_true_eq]; omega)] at heq; exact heq)
                      exact H.hp.ret (by rw [← hfin])
                intro h70
                try have p70 := of_decide_eq_false h70
                first
                | (exfalso; omega)
                | (exact absurd h70 (by decide))
                | skip
                  (iterate 6 refine s_skip H rfl rfl h70 rfl ?_; clear H; intro a H); refine s_pick_f H wn rfl h70 rfl rfl ?_; clear H; intro a H; refine s_move H wn rfl rfl ?_; clear H; intro a H; (iterate 7 refine s_skip H rfl rfl rfl rfl ?_; clear H; intro a H); refine s_pick_f H wn rfl rfl rfl rfl ?_; clear H; intro a H; refine s_move H wn rfl rfl ?_; clear H; intro a H; (iterate 7 refine s_skip H rfl rfl rfl rfl ?_; clear H; intro a H); refine s_pick_f H wn rfl rfl rfl rfl ?_; clear H; intro a H; refine s_assign H wn rfl rfl ?_; clear H; intro a H; refine wl_nil ?_; refine hK34 _ _ ?_; clear hK34; refine c_cond_f H rfl rfl ?_; refine c_seq (fun _ hK38 => ?_); refine c_region ?_; (iterate 2 refine s_move H wn rfl rfl ?_; clear H; intro a H); (iterate 2 refine s_assign H wn rfl rfl ?_; clear H; intro a H); refine wl_nil ?_; refine hK38 _ _ ?_; clear hK38; refine c_ret ?_; refine (leaveT H Tryd.results61 (.cons (rv_tmp H rfl) (.cons (rv_tmp H rfl) .nil)) ?_).1
                  have hfin : (n, kd) = wrdS l := by
                    first
                      | exact heq
                      | (rw [if_neg (show ¬ okW l n = true by simp only [okW, decide_eq_true_eq]; omega)] at heq; exact heq)
                  exact H.hp.ret (by rw [← hfin])
            intro h63
            try have p63 := of_decide_eq_false h63
            first
            | (exfalso; omega)
            | (exact absurd h63 (by decide))
            | skip
              (iterate 5 refine s_skip H rfl rfl h63 rfl ?_; clear H; intro a H); refine s_pick_f H wn rfl h63 rfl rfl ?_; clear H; intro a H; refine s_move H wn rfl rfl ?_; clear H; intro a H; (iterate 6 refine s_skip H rfl rfl rfl rfl ?_; clear H; intro a H); refine s_pick_f H wn rfl rfl rfl rfl ?_; clear H; intro a H; refine s_move H wn rfl rfl ?_; clear H; intro a H; (iterate 7 refine s_skip H rfl rfl rfl rfl ?_; clear H; intro a H); refine s_pick_f H wn rfl rfl rfl rfl ?_; clear H; intro a H; refine s_move H wn rfl rfl ?_; clear H; intro a H; (iterate 7 refine s_skip H rfl rfl rfl rfl ?_; clear H; intro a H); refine s_pick_f H wn rfl rfl rfl rfl ?_; clear H; intro a H; refine s_assign H wn rfl rfl ?_; clear H; intro a H; refine wl_nil ?_; refine hK34 _ _ ?_; clear hK34; refine c_cond_f H rfl rfl ?_; refine c_seq (fun _ hK39 => ?_); refine c_region ?_; (iterate 2 refine s_move H wn rfl rfl ?_; clear H; intro a H); (iterate 2 refine s_assign H wn rfl rfl ?_; clear H; intro a H); refine wl_nil ?_; refine hK39 _ _ ?_; clear hK39; refine c_ret ?_; refine (leaveT H Tryd.results61 (.cons (rv_tmp H rfl) (.cons (rv_tmp H rfl) .nil)) ?_).1
              have hfin : (n, kd) = wrdS l := by
                first
                  | exact heq
                  | (rw [if_neg (show ¬ okW l n = true by simp only [okW, decide_eq_true_eq]; omega)] at heq; exact heq)
              exact H.hp.ret (by rw [← hfin])
  intro h7
  try have p7 := of_decide_eq_false h7
  first
  | (exfalso; omega)
  | (exact absurd h7 (by decide))
  | skip
    rw [wrdF_end (by omega)] at heq; refine c_exit ?_; refine hK3 _ _ ?_; clear hK3; refine c_seq (fun _ hK40 => ?_); refine c_region ?_; (iterate 2 refine s_move H wn rfl rfl ?_; clear H; intro a H); (iterate 2 refine s_assign H wn rfl rfl ?_; clear H; intro a H); refine wl_nil ?_; refine hK40 _ _ ?_; clear hK40; refine c_ret ?_; refine (leaveT H Tryd.results61 (.cons (rv_tmp H rfl) (.cons (rv_tmp H rfl) .nil)) ?_).1
    have hfin : (n, kd) = wrdS l := by
      first
        | exact heq
        | (rw [if_neg (show ¬ okW l n = true by simp only [okW, decide_eq_true_eq]; omega)] at heq; exact heq)
    exact H.hp.ret (by rw [← hfin])
/-- The clusters of spaces at the beginning. -/
def spcF (l : List ClD) : Nat → Nat → Nat
  | 0, n => n
  | f + 1, n => if n < l.length ∧ (clsA l n = 2 ∨ clsA l n = 3) then spcF l f (n + 1) else n
theorem spcF_in {l : List ClD} {f n : Nat} (hf : l.length - n ≤ f) (h : n < l.length ∧ (clsA l n = 2 ∨ clsA l n = 3)) : spcF l f n = spcF l (f - 1) (n + 1) := by
  match f, hf with
  | 0, hf => omega
  | f + 1, _ => rw [spcF, if_pos h]; rfl
theorem spcF_end {l : List ClD} {f n : Nat} (h : ¬ (n < l.length ∧ (clsA l n = 2 ∨ clsA l n = 3))) : spcF l f n = n := by
  match f with
  | 0 => rfl
  | f + 1 => rw [spcF, if_neg h]
/-- The first token: its clusters, its kind. -/
def nxtS (l : List ClD) : Nat × Int :=
  if clsA l 0 = 5 ∨ clsA l 0 = 6 then wrdS l
  else if clsA l 0 = 2 ∨ clsA l 0 = 3 then (spcF l l.length 0, 3)
  else if clsA l 0 = 1 then (1, 6)
  else if clsA l 0 = 7 then (1, 5)
  else (1, 4)
theorem two_row {G : GH} {b x y : Nat} (hb : G b = some (.cells #[vi x, vi y] 3 (0, 0))) : RepV G (.sl 1 (([(x : Int), (y : Int)]).map numDat)) (.slice (some ⟨b, 0, none⟩) 2 2) :=
  RepV.of_row (xs := [vi x, vi y]) hb rfl (Nat.le_refl _) (by decide) (List.take_of_length_le (Nat.le_refl _)) (nums_cat _ [(x : Int), (y : Int)])
set_option maxHeartbeats 1000000 in
theorem next_spec (G : GH) (w0 : World) (hG : Hold G w0) (l : List ClD) (v : Value) (hv : RepV G (.sl 3 (l.map ClD.dat)) v) (hl : 0 < l.length) :
    Calls Tryd.prog 48 #[v] w0 (Ret w0 G fun u G' => u = .tuple #[vi (nxtS l).1, vi (nxtS l).2]) := by
  obtain ⟨A, c, rfl, hc1, hc2, -⟩ := hv.slice; have hml : maxLen = 9223372036854775807 := rfl; rw [List.length_map] at *; obtain ⟨b, o, rfl, -⟩ := clu_at hv hl; have hvg := hv; refine enter (N := 47) (T := [(0, _)]) (F := fun k => k < w0.heap.size) (L := []) Tryd.func48 rfl Tryd.ntmps48 rfl rfl hG (fun _ h => h) (fun _ h => by cases h) (fun _ h => by cases h) (fun _ h => by cases h) List.Pairwise.nil ?_; intro a H; refine c_seq (fun _ hK1 => ?_); refine c_region ?_; (iterate 2 refine s_assign H wn rfl rfl ?_; clear H; intro a H); refine wl_nil ?_; refine hK1 _ _ ?_; clear hK1; refine c_seq (fun _ hK2 => ?_); refine c_block ?_; refine c_seq (fun _ hK3 => ?_); refine c_region ?_; refine s_move H wn rfl rfl ?_; clear H; intro a H; refine s_index un73wrd ty100wrd 0 H wn rfl rfl (by omega) (by omega) rfl ?_; clear H; intro a H; refine s_loada ty100wrd (cs := [_, _, _]) H wn rfl rfl (fun j v hj => H.hp.gcell (clu_get hvg (k := 0) (by omega) j v hj)) rfl ?_; clear H; intro a H; refine s_buildSlice un32wrd ty3wrd [_, _] [_, _] H wn rfl rfl rfl rfl rfl (by intro i q h; match i, h with | 0, h => exact h | 1, h => exact h | n + 2, h => simp at h) rfl rfl ?_; clear H; intro b8 a w hb8 H; obtain ⟨Gq, hmq, hqb, H⟩ := H.giveBox; have hq := two_row (x := 5) (y := 6) hqb; replace hvg := hvg.mono hmq; refine s_call en60wrd H wn rfl (is_spec _ _ H.hp.ro l[0] [5, 6] _ hq) rfl ?_; clear H; rintro v9 _ a w ⟨rfl, rfl⟩ - H; rw [is2 (by omega) 5 6] at H; refine s_assign H wn rfl rfl ?_; clear H; intro a H; refine wl_nil ?_; refine hK3 _ _ ?_; clear hK3; refine c_cond H rfl ?_ ?_
  · intro h4
    try have p4 := of_decide_eq_true h4
    first
    | (exfalso; omega)
    | (exact absurd h4 (by decide))
    | skip
      refine c_seq (fun _ hK4 => ?_); refine c_region ?_; refine s_move H wn rfl rfl ?_; clear H; intro a H; refine s_call en61wrd H wn rfl (word_spec _ _ H.hp.ro l _ hvg) rfl ?_; clear H; rintro v11 _ a w rfl - H; (iterate 2 refine s_extract H wn rfl rfl rfl ?_; clear H; intro a H); (iterate 2 refine s_assign H wn rfl rfl ?_; clear H; intro a H); refine wl_nil ?_; refine hK4 _ _ ?_; clear hK4; refine c_ret ?_; refine (leaveT H Tryd.results48 (.cons (rv_tmp H rfl) (.cons (rv_tmp H rfl) .nil)) ?_).1; exact H.hp.ret (by rw [nxtS, if_pos p4])
  intro h4
  try have p4 := of_decide_eq_false h4
  first
  | (exfalso; omega)
  | (exact absurd h4 (by decide))
  | skip
    refine c_seq (fun _ hK5 => ?_); refine c_region ?_; refine s_move H wn rfl rfl ?_; clear H; intro a H; refine s_index un73wrd ty100wrd 0 H wn rfl rfl (by omega) (by omega) rfl ?_; clear H; intro a H; refine s_loada ty100wrd (cs := [_, _, _]) H wn rfl rfl (fun j v hj => H.hp.gcell (clu_get hvg (k := 0) (by omega) j v hj)) rfl ?_; clear H; intro a H; refine s_buildSlice un32wrd ty3wrd [_, _] [_, _] H wn rfl rfl rfl rfl rfl (by intro i q h; match i, h with | 0, h => exact h | 1, h => exact h | n + 2, h => simp at h) rfl rfl ?_; clear H; intro b18 a w hb18 H; obtain ⟨Gq, hmq, hqb, H⟩ := H.giveBox; have hq := two_row (x := 2) (y := 3) hqb; replace hvg := hvg.mono hmq; refine s_call en60wrd H wn rfl (is_spec _ _ H.hp.ro l[0] [2, 3] _ hq) rfl ?_; clear H; rintro v19 _ a w ⟨rfl, rfl⟩ - H; rw [is2 (by omega) 2 3] at H; refine s_assign H wn rfl rfl ?_; clear H; intro a H; refine wl_nil ?_; refine hK5 _ _ ?_; clear hK5; refine c_cond H rfl ?_ ?_
    · intro h14
      try have p14 := of_decide_eq_true h14
      first
      | (exfalso; omega)
      | (exact absurd h14 (by decide))
      | skip
        refine c_seq (fun _ hK6 => ?_); refine c_block ?_; skip; refine c_loopS (ι := Nat × Nat × GH) (Tc := [(0, _)]) (Lc := []) (fun (gh : Nat × Nat × GH) => [(2, vi gh.1)]) (fun (gh : Nat × Nat × GH) => []) (fun (gh : Nat × Nat × GH) => gh.2.2) (fun (gh : Nat × Nat × GH) => gh.1 ≤ l.length ∧ l.length - gh.1 ≤ gh.2.1 ∧ spcF l gh.2.1 gh.1 = spcF l l.length 0 ∧ RepV gh.2.2 (.sl 3 (l.map ClD.dat)) (.slice (some ⟨b, o, none⟩) l.length c)) (fun (gh : Nat × Nat × GH) => l.length - gh.1) ((0, l.length, Gq)) (by exact (H).sub ⟨rfl, rfl, trivial⟩) ?_ ?_
        · exact ⟨Nat.zero_le _, Nat.sub_le _ _, rfl, hvg⟩
        clear H; intro gh a w hI H; obtain ⟨n, f, g⟩ := gh; dsimp only at hI H; obtain ⟨hn, hf, heq, hvg⟩ := hI; dsimp only [List.cons_append, List.nil_append, List.append_nil] at H; refine c_seq (fun _ hK7 => ?_); refine c_seq (fun _ hK8 => ?_); refine c_region ?_; (iterate 2 refine s_move H wn rfl rfl ?_; clear H; intro a H); refine s_len un73wrd H wn rfl rfl ?_; clear H; intro a H; refine s_cmp H wn rfl rfl rfl rfl ?_; clear H; intro a H; refine s_move H wn rfl rfl ?_; clear H; intro a H; refine s_split H 24 rfl ?_ ?_
        · intro h24
          try have p24 := of_decide_eq_true h24
          first
          | (exfalso; omega)
          | (exact absurd h24 (by decide))
          | skip
            (iterate 2 refine s_move H (wg H rfl rfl h24) rfl rfl ?_; clear H; intro a H); refine s_index un73wrd ty100wrd n H (wg H rfl rfl h24) rfl rfl (by omega) (by omega) rfl ?_; clear H; intro a H; refine s_loada ty100wrd (cs := [_, _, _]) H (wg H rfl rfl h24) rfl rfl (fun j v hj => H.hp.gcell (clu_get hvg (k := n) (by omega) j v hj)) rfl ?_; clear H; intro a H; refine s_buildSlice un32wrd ty3wrd [_, _] [_, _] H (wg H rfl rfl h24) rfl rfl rfl rfl rfl (by intro i q h; match i, h with | 0, h => exact h | 1, h => exact h | n + 2, h => simp at h) rfl rfl ?_; clear H; intro b29 a w hb29 H; obtain ⟨Gq, hmq, hqb, H⟩ := H.giveBox; have hq := two_row (x := 2) (y := 3) hqb; replace hvg := hvg.mono hmq; refine s_call en60wrd H (wg H rfl rfl h24) rfl (is_spec _ _ H.hp.ro l[n] [2, 3] _ hq) rfl ?_; clear H; rintro v30 _ a w ⟨rfl, rfl⟩ - H; rw [is2 (by omega) 2 3] at H; refine s_pick_t H wn rfl h24 rfl rfl ?_; clear H; intro a H; refine wl_nil ?_; refine hK8 _ _ ?_; clear hK8; refine c_cond H rfl ?_ ?_
            · intro h31
              try have p31 := of_decide_eq_true h31
              first
              | (exfalso; omega)
              | (exact absurd h31 (by decide))
              | skip
                refine c_skip ?_; refine hK7 _ _ ?_; clear hK7; refine c_block ?_; refine c_region ?_; refine s_move H wn rfl rfl ?_; clear H; intro a H; refine s_add _ H wn rfl rfl rfl (by omega) (by omega) rfl ?_; clear H; intro a H; refine s_assign H wn rfl rfl ?_; clear H; intro a H; refine wl_nil ?_; refine loop_end ((n + 1, f - 1, Gq)) (by exact (H).sub ⟨rfl, rfl, trivial⟩) ?_ ?_
                · (try dsimp only); exact ⟨by omega, by omega, by rw [spcF_in hf ⟨by omega, p31⟩] at heq; exact heq, hvg⟩
                first | omega | (dsimp only; omega)
            intro h31
            try have p31 := of_decide_eq_false h31
            first
            | (exfalso; omega)
            | (exact absurd h31 (by decide))
            | skip
              refine c_exit ?_; refine hK6 _ _ ?_; clear hK6; refine c_seq (fun _ hK9 => ?_); refine c_region ?_; refine s_move H wn rfl rfl ?_; clear H; intro a H; (iterate 2 refine s_assign H wn rfl rfl ?_; clear H; intro a H); refine wl_nil ?_; refine hK9 _ _ ?_; clear hK9; refine c_ret ?_; refine (leaveT H Tryd.results48 (.cons (rv_tmp H rfl) (.cons (rv_tmp H rfl) .nil)) ?_).1; exact H.hp.ret (by rw [nxtS, if_neg p4, if_pos p14, ← heq, spcF_end (by omega)])
        intro h24
        try have p24 := of_decide_eq_false h24
        first
        | (exfalso; omega)
        | (exact absurd h24 (by decide))
        | skip
          (iterate 6 refine s_skip H rfl rfl h24 rfl ?_; clear H; intro a H); refine s_pick_f H wn rfl h24 rfl rfl ?_; clear H; intro a H; refine wl_nil ?_; refine hK8 _ _ ?_; clear hK8; refine c_cond_f H rfl rfl ?_; refine c_exit ?_; refine hK6 _ _ ?_; clear hK6; refine c_seq (fun _ hK10 => ?_); refine c_region ?_; refine s_move H wn rfl rfl ?_; clear H; intro a H; (iterate 2 refine s_assign H wn rfl rfl ?_; clear H; intro a H); refine wl_nil ?_; refine hK10 _ _ ?_; clear hK10; refine c_ret ?_; refine (leaveT H Tryd.results48 (.cons (rv_tmp H rfl) (.cons (rv_tmp H rfl) .nil)) ?_).1; exact H.hp.ret (by rw [nxtS, if_neg p4, if_pos p14, ← heq, spcF_end (by omega)])
    intro h14
    try have p14 := of_decide_eq_false h14
    first
    | (exfalso; omega)
    | (exact absurd h14 (by decide))
    | skip
      refine c_seq (fun _ hK11 => ?_); refine c_region ?_; refine s_move H wn rfl rfl ?_; clear H; intro a H; refine s_index un73wrd ty100wrd 0 H wn rfl rfl (by omega) (by omega) rfl ?_; clear H; intro a H; refine s_loada ty100wrd (cs := [_, _, _]) H wn rfl rfl (fun j v hj => H.hp.gcell (clu_get hvg (k := 0) (by omega) j v hj)) rfl ?_; clear H; intro a H; refine s_buildSlice un32wrd ty3wrd [_] [_] H wn rfl rfl rfl rfl rfl (by intro i q h; match i, h with | 0, h => exact h | n + 1, h => simp at h) rfl rfl ?_; clear H; intro b39 a w hb39 H; obtain ⟨Gq, hmq, hq, H⟩ := H.giveOne (sz := 1) (d := numDat 1) rfl (num_row _ 1); replace hvg := hvg.mono hmq; refine s_call en60wrd H wn rfl (is_spec _ _ H.hp.ro l[0] [1] _ hq) rfl ?_; clear H; rintro v40 _ a w ⟨rfl, rfl⟩ - H; rw [is1 (by omega) 1] at H; refine s_assign H wn rfl rfl ?_; clear H; intro a H; refine wl_nil ?_; refine hK11 _ _ ?_; clear hK11; refine c_cond H rfl ?_ ?_
      · intro h35
        try have p35 := of_decide_eq_true h35
        first
        | (exfalso; omega)
        | (exact absurd h35 (by decide))
        | skip
          refine c_seq (fun _ hK12 => ?_); refine c_region ?_; (iterate 2 refine s_assign H wn rfl rfl ?_; clear H; intro a H); refine wl_nil ?_; refine hK12 _ _ ?_; clear hK12; refine c_ret ?_; refine (leaveT H Tryd.results48 (.cons (rv_tmp H rfl) (.cons (rv_tmp H rfl) .nil)) ?_).1; exact H.hp.ret (by rw [nxtS, if_neg p4, if_neg p14, if_pos p35]; rfl)
      intro h35
      try have p35 := of_decide_eq_false h35
      first
      | (exfalso; omega)
      | (exact absurd h35 (by decide))
      | skip
        refine c_seq (fun _ hK13 => ?_); refine c_region ?_; refine s_move H wn rfl rfl ?_; clear H; intro a H; refine s_index un73wrd ty100wrd 0 H wn rfl rfl (by omega) (by omega) rfl ?_; clear H; intro a H; refine s_loada ty100wrd (cs := [_, _, _]) H wn rfl rfl (fun j v hj => H.hp.gcell (clu_get hvg (k := 0) (by omega) j v hj)) rfl ?_; clear H; intro a H; refine s_buildSlice un32wrd ty3wrd [_] [_] H wn rfl rfl rfl rfl rfl (by intro i q h; match i, h with | 0, h => exact h | n + 1, h => simp at h) rfl rfl ?_; clear H; intro b45 a w hb45 H; obtain ⟨Gq, hmq, hq, H⟩ := H.giveOne (sz := 1) (d := numDat 7) rfl (num_row _ 7); replace hvg := hvg.mono hmq; refine s_call en60wrd H wn rfl (is_spec _ _ H.hp.ro l[0] [7] _ hq) rfl ?_; clear H; rintro v46 _ a w ⟨rfl, rfl⟩ - H; rw [is1 (by omega) 7] at H; refine s_assign H wn rfl rfl ?_; clear H; intro a H; refine wl_nil ?_; refine hK13 _ _ ?_; clear hK13; refine c_cond H rfl ?_ ?_
        · intro h41
          try have p41 := of_decide_eq_true h41
          first
          | (exfalso; omega)
          | (exact absurd h41 (by decide))
          | skip
            refine c_seq (fun _ hK14 => ?_); refine c_region ?_; (iterate 2 refine s_assign H wn rfl rfl ?_; clear H; intro a H); refine wl_nil ?_; refine hK14 _ _ ?_; clear hK14; refine c_ret ?_; refine (leaveT H Tryd.results48 (.cons (rv_tmp H rfl) (.cons (rv_tmp H rfl) .nil)) ?_).1; exact H.hp.ret (by rw [nxtS, if_neg p4, if_neg p14, if_neg p35, if_pos p41]; rfl)
        intro h41
        try have p41 := of_decide_eq_false h41
        first
        | (exfalso; omega)
        | (exact absurd h41 (by decide))
        | skip
          refine c_skip ?_; refine hK2 _ _ ?_; clear hK2; refine c_seq (fun _ hK15 => ?_); refine c_region ?_; (iterate 2 refine s_assign H wn rfl rfl ?_; clear H; intro a H); refine wl_nil ?_; refine hK15 _ _ ?_; clear hK15; refine c_ret ?_; refine (leaveT H Tryd.results48 (.cons (rv_tmp H rfl) (.cons (rv_tmp H rfl) .nil)) ?_).1; exact H.hp.ret (by rw [nxtS, if_neg p4, if_neg p14, if_neg p35, if_neg p41]; rfl)
end Go.Proofs.YtpmcdlhhfbobfaaDoor
