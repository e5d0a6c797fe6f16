/-
  Package obeluslaw31: BlockmatchLimits.
-/
import Derived.Test.YtpmcdlhhfbobfaaDoorKw
import Derived.Test.YtpmcdlhhfbobfaaDoorMk
import Derived.Test.YtpmcdlhhfbobfaaDoorMp
namespace Go.Proofs.YtpmcdlhhfbobfaaDoor
open Go.RowKit
theorem un23lim : Tryd.prog.underlying 23 = some (.slice 32) := by kernel_rfl
theorem ty32lim : Ty Tryd.prog 32 1 24 [.slice none 0 0] false := ⟨by kernel_rfl, by kernel_rfl⟩
theorem un32lim : Tryd.prog.underlying 32 = some (.slice 3) := by kernel_rfl
theorem ty3lim : Ty Tryd.prog 3 1 8 [.int .i64 0] false := ⟨by kernel_rfl, by kernel_rfl⟩
theorem en10lim : ∀ args w, (callFunc 10 args).run Tryd.prog w = .ok (.enter 10 args) w := enters Tryd.func10 rfl (by kernel_rfl)
theorem en11lim : ∀ args w, (callFunc 11 args).run Tryd.prog w = .ok (.enter 11 args) w := enters Tryd.func11 rfl (by kernel_rfl)
theorem un25lim : Tryd.prog.underlying 25 = some (.slice 31) := by kernel_rfl
theorem un4lim : Tryd.prog.underlying 4 = some .bool := by kernel_rfl
theorem zrow {G : GH} {b n : Nat} (hb : G b = some (.cells (List.replicate n (vi 0)).toArray 3 (0, 0))) (hn : n ≤ 1048576) : RepV G (.sl 1 ((List.replicate n (0 : Int)).map numDat)) (.slice (some ⟨b, 0, none⟩) n n) := by
  have hml : maxLen = 9223372036854775807 := rfl
  refine RepV.of_row (xs := (List.replicate n (0 : Int)).map vi) hb (by simp) (Nat.le_refl _) (by omega) ?_ (nums_cat _ _)
  rw [List.map_replicate]
  exact List.take_of_length_le (by simp)
theorem rows_cat {G : GH} : ∀ (B A : List (List Int)) (vs us : List Value), RepCat G 1 (A.map rowDat) vs → us.length = B.length → (∀ (i : Nat) (r : List Int) (u : Value), B[i]? = some r → us[i]? = some u → RepV G (.sl 1 (r.map numDat)) u) → RepCat G 1 ((A ++ B).map rowDat) (vs ++ us)
  | [], A, vs, [], h, _, _ => by rw [List.append_nil, List.append_nil]; exact h
  | x :: B, A, vs, u :: us, h, hl, hr => by
    have h2 := h.snoc (rowd_row (hr 0 x u rfl rfl)) rfl
    have h3 := rows_cat B (A ++ [x]) (vs ++ [u]) us (by simpa using h2) (by simpa using hl) (fun i r w h1 h2 => hr (i + 1) r w (by simpa using h1) (by simpa using h2))
    simpa using h3
theorem zrows {G : GH} {b n : Nat} (hb : G b = some (.cells (List.replicate n (.slice none 0 0)).toArray 32 (0, 0))) (hn : n ≤ 1048576) : RepV G (.sl 1 ((List.replicate n ([] : List Int)).map rowDat)) (.slice (some ⟨b, 0, none⟩) n n) := by
  have hml : maxLen = 9223372036854775807 := rfl
  refine RepV.of_row (xs := List.replicate n (.slice none 0 0)) hb (by simp) (Nat.le_refl _) (by omega) (List.take_of_length_le (by simp)) ?_
  have h := rows_cat (G := G) (List.replicate n []) [] [] (List.replicate n (.slice none 0 0)) RepCat.nil (by simp) (fun i r u h1 h2 => by
    rw [List.getElem?_replicate] at h1 h2
    split at h1
    · simp at h1 h2; obtain ⟨_, rfl⟩ := h2; subst h1
      exact RepV.nil_ rfl (by decide)
    cases h1)
  simpa using h
theorem tot_low {s : Nat → Nat → Int} {n m : Nat} (h : ∀ i k, i < n → k < m → s i k < 400) : ∀ (q i k : Nat), (n - i) + (m - k) ≤ q → tot s n m i k = 0 ∧ bestS s n m i k = []
  | 0, i, k, hq => ⟨tot_out (by omega), by rw [bestS, dif_neg (by omega)]⟩
  | q + 1, i, k, hq => by
    by_cases hik : i < n ∧ k < m
    · have h1 := tot_low h q (i + 1) k (by omega)
      have h2 := tot_low h q i (k + 1) (by omega)
      have ht : tot s n m i k = 0 := by rw [tot_in hik.1 hik.2, h1.1, h2.1, if_pos (h i k hik.1 hik.2)]; decide
      refine ⟨ht, ?_⟩
      rw [bestS, dif_pos hik, ht, withS, if_pos (h i k hik.1 hik.2), if_neg (by decide), h1.1, if_pos rfl]
      exact h1.2
    exact ⟨tot_out hik, by rw [bestS, dif_neg hik]⟩
theorem lim_wide {n : Nat} : chkS [List.replicate n 0] = (if 1024 < n then 9 else 0) ∧ bestL [List.replicate n 0] = [] := by
  have hc : chkS [List.replicate n 0] = (if 1024 < n then 9 else 0) := by
    rw [chkS, if_neg (by simp), List.map_cons, List.map_nil, fstErr, fstErr, List.headD_cons, rowChk, List.length_replicate]
    split
    · rfl
    have hall : (List.replicate n (0 : Int)).all okN = true := by
      rw [List.all_eq_true]; intro x hx; rw [(List.mem_replicate.1 hx).2]; decide
    rw [if_neg (by simp : ¬ ¬ n = n), if_pos hall, if_pos rfl]
  refine ⟨hc, ?_⟩
  rw [bestL]
  split
  · refine (tot_low (fun i k hi hk => ?_) _ 0 0 (Nat.le_refl _)).2
    have hi0 : i = 0 := by simp at hi; exact hi
    subst hi0
    simp only [List.headD_cons, List.length_replicate] at hk
    simp [sAt, hk]
  rfl
theorem lim_rows {n : Nat} : chkS (List.replicate n []) = (if 1024 < n then 9 else 0) ∧ bestL (List.replicate n []) = [] := by
  have hm : ((List.replicate n ([] : List Int)).headD []).length = 0 := by cases n <;> rfl
  have hc : chkS (List.replicate n []) = (if 1024 < n then 9 else 0) := by
    rw [chkS, List.length_replicate]
    split
    · rfl
    refine fstErr_all fun j hj => ?_
    rw [List.getElem_replicate, hm]; decide
  refine ⟨hc, ?_⟩
  rw [bestL]
  split
  · rw [hm, bestS, dif_neg (by omega)]
  rfl
set_option maxHeartbeats 1000000 in
theorem limits_true (G : GH) (w0 : World) (hG : Hold G w0) (more wide : Bool) : Calls Tryd.prog 6 #[.bool more, .bool wide] w0 (Ret w0 G fun u G' => u = .bool true) := by
  refine enter (N := 44) (T := [(0, _), (1, _)]) (F := fun k => k < w0.heap.size) (L := []) Tryd.func6 rfl Tryd.ntmps6 rfl rfl hG (fun _ h => h) (fun _ h => by cases h) (fun _ h => by cases h) (fun _ h => by cases h) List.Pairwise.nil ?_
  intro a H
  refine c_seq (fun _ hK1 => ?_)
  refine c_region ?_
  refine s_assign H wn rfl rfl ?_; clear H; intro a H
  refine wl_nil ?_
  refine hK1 _ _ ?_; clear hK1
  refine c_seq (fun _ hK2 => ?_)
  refine c_region ?_
  refine s_assign H wn rfl rfl ?_; clear H; intro a H
  refine wl_nil ?_
  refine hK2 _ _ ?_; clear hK2
  refine c_seq (fun _ hK3 => ?_)
  refine c_seq (fun _ hK4 => ?_)
  refine c_region ?_
  refine s_move H wn rfl rfl ?_; clear H; intro a H
  refine wl_nil ?_
  refine hK4 _ _ ?_; clear hK4
  refine c_cond H rfl ?_ ?_
  · intro h9
    try have p9 := of_decide_eq_true h9
    subst h9
    obtain ⟨n, hn⟩ : ∃ n : Nat, n = 1025 := ⟨_, rfl⟩
    obtain ⟨er, her⟩ : ∃ er : Int, er = 9 := ⟨_, rfl⟩
    have hlim : (if 1024 < n then 9 else 0) = er := by rw [if_pos (by omega), her]
    refine c_region ?_
    refine s_move H wn rfl rfl ?_; clear H; intro a H
    refine s_add _ H wn rfl rfl rfl (by omega) (by omega) rfl ?_; clear H; intro a H
    refine s_assign H wn rfl rfl ?_; clear H; intro a H
    refine wl_nil ?_
    refine hK3 _ _ ?_; clear hK3
    refine c_seq (fun _ hK5 => ?_)
    refine c_region ?_
    refine s_make1 1 un23lim ty32lim H wn rfl rfl rfl (by omega) (by omega) rfl ?_; clear H; intro b12 a w hb12 H
    refine s_assign H wn rfl rfl ?_; clear H; intro a H
    refine wl_nil ?_
    refine hK5 _ _ ?_; clear hK5
    refine c_seq (fun _ hK6 => ?_)
    refine c_seq (fun _ hK7 => ?_)
    refine c_region ?_
    refine s_move H wn rfl rfl ?_; clear H; intro a H
    refine wl_nil ?_
    refine hK7 _ _ ?_; clear hK7
    refine c_cond H rfl ?_ ?_
    · intro h13
      try have p13 := of_decide_eq_true h13
      refine c_region ?_
      refine s_move H wn rfl rfl ?_; clear H; intro a H
      refine s_move H wn rfl rfl ?_; clear H; intro a H
      refine s_make1 n un32lim ty3lim H wn rfl rfl (by omega) (by omega) (by omega) rfl ?_; clear H; intro b16 a w hb16 H
      refine s_index un23lim ty32lim 0 H wn rfl rfl rfl (by decide) rfl ?_; clear H; intro a H
      refine s_store ty32lim 1 [.slice (some ⟨b16, 0, none⟩) n n] H wn rfl rfl rfl rfl rfl rfl rfl rfl ?_; clear H; intro w H
      dsimp only [List.set] at H
      obtain ⟨Ga, hma, hga, H⟩ := H.giveBox
      obtain ⟨Gb, hmb, hgb, H⟩ := H.giveBox
      have hzr := zrow (hmb _ _ hga) (by omega)
      have hS : RepV Gb (.sl 1 ([List.replicate n (0 : Int)].map rowDat)) (.slice (some ⟨b12, 0, none⟩) 1 1) := RepV.of_row (xs := [_]) hgb rfl (Nat.le_refl _) (by decide) rfl (by simpa using (RepCat.nil (sz := 1)).snoc (rowd_row hzr) rfl)
      have hck := (lim_wide (n := n)).1.trans hlim
      have hbl := (lim_wide (n := n)).2
      generalize [List.replicate n (0 : Int)] = S at hS hck hbl
      refine wl_nil ?_
      refine hK6 _ _ ?_; clear hK6
      refine c_seq (fun _ hK8 => ?_)
      refine c_region ?_
      refine s_move H wn rfl rfl ?_; clear H; intro a H
      refine s_call en10lim H wn rfl (best_spec _ _ H.hp.ro S _ hS) rfl ?_; clear H
      rintro v22 G22 a w ⟨x22, rfl, hx22⟩ hm22 H
      rw [hbl] at hx22
      rw [hck] at H
      obtain ⟨xA, xc, rfl, -, -, -⟩ := hx22.slice
      try dsimp only [List.map_nil, List.length_nil] at H
      subst her
      refine s_move H wn rfl rfl ?_; clear H; intro a H
      refine s_extract H wn rfl rfl rfl ?_; clear H; intro a H
      refine s_extract H wn rfl rfl rfl ?_; clear H; intro a H
      refine s_assign H wn rfl rfl ?_; clear H; intro a H
      refine s_assign H wn rfl rfl ?_; clear H; intro a H
      refine wl_nil ?_
      refine hK8 _ _ ?_; clear hK8
      refine c_seq (fun _ hK9 => ?_)
      refine c_region ?_
      refine s_call en11lim H wn rfl (known_spec _ _ H.hp.ro) rfl ?_; clear H
      rintro v25 G25 a w rfl hm25 H
      refine s_move H wn rfl rfl ?_; clear H; intro a H
      refine s_split H 26 rfl ?_ ?_
      · intro h26
        try have p26 := of_decide_eq_true h26
        refine s_move H (wg H rfl rfl h26) rfl rfl ?_; clear H; intro a H
        refine s_len un25lim H (wg H rfl rfl h26) rfl rfl ?_; clear H; intro a H
        refine s_cmp H (wg H rfl rfl h26) rfl rfl rfl rfl ?_; clear H; intro a H
        refine s_pick_t H wn rfl h26 rfl rfl ?_; clear H; intro a H
        refine s_move H wn rfl rfl ?_; clear H; intro a H
        refine s_split H 31 rfl ?_ ?_
        · intro h31
          try have p31 := of_decide_eq_true h31
          refine s_move H (wg H rfl rfl h31) rfl rfl ?_; clear H; intro a H
          refine s_cmp H (wg H rfl rfl h31) rfl rfl rfl rfl ?_; clear H; intro a H
          refine s_move H (wg H rfl rfl h31) rfl rfl ?_; clear H; intro a H
          refine s_eqlb un4lim H (wg H rfl rfl h31) rfl rfl rfl ?_; clear H; intro a H
          refine s_pick_t H wn rfl h31 rfl rfl ?_; clear H; intro a H
          refine s_move H wn rfl rfl ?_; clear H; intro a H
          refine s_split H 37 rfl ?_ ?_
          · intro h37
            try have p37 := of_decide_eq_true h37
            refine s_move H (wg H rfl rfl h37) rfl rfl ?_; clear H; intro a H
            refine s_move H (wg H rfl rfl h37) rfl rfl ?_; clear H; intro a H
            refine s_split H 39 rfl ?_ ?_
            · intro h39
              try have p39 := of_decide_eq_true h39
              refine s_skip H rfl rfl h39 rfl ?_; clear H; intro a H
              refine s_skip H rfl rfl h39 rfl ?_; clear H; intro a H
              refine s_pick_t H (wg H rfl rfl h37) rfl h39 rfl rfl ?_; clear H; intro a H
              refine s_pick_t H wn rfl h37 rfl rfl ?_; clear H; intro a H
              refine s_assign H wn rfl rfl ?_; clear H; intro a H
              refine wl_nil ?_
              refine hK9 _ _ ?_; clear hK9
              refine c_ret ?_
              refine (leave1 H Tryd.results6 (.cons (rv_tmp H rfl) .nil) ?_).1
              first | exact H.hp.ret rfl | exact absurd h39 (by decide)
            intro h39
            try have p39 := of_decide_eq_false h39
            refine s_move H (wg H rfl rfl h39) rfl rfl ?_; clear H; intro a H
            refine s_cmp H (wg H rfl rfl h39) rfl rfl rfl rfl ?_; clear H; intro a H
            refine s_pick_f H (wg H rfl rfl h37) rfl h39 rfl rfl ?_; clear H; intro a H
            refine s_pick_t H wn rfl h37 rfl rfl ?_; clear H; intro a H
            refine s_assign H wn rfl rfl ?_; clear H; intro a H
            refine wl_nil ?_
            refine hK9 _ _ ?_; clear hK9
            refine c_ret ?_
            refine (leave1 H Tryd.results6 (.cons (rv_tmp H rfl) .nil) ?_).1
            first | exact H.hp.ret rfl | exact absurd h39 (by decide)
          intro h37
          try have p37 := of_decide_eq_false h37
          exact absurd h37 (by decide)
        intro h31
        try have p31 := of_decide_eq_false h31
        exact absurd h31 (by decide)
      intro h26
      try have p26 := of_decide_eq_false h26
      exact absurd h26 (by decide)
    intro h13
    try have p13 := of_decide_eq_false h13
    refine c_region ?_
    refine s_move H wn rfl rfl ?_; clear H; intro a H
    refine s_make1 n un23lim ty32lim H wn rfl rfl (by omega) (by omega) (by omega) rfl ?_; clear H; intro b19 a w hb19 H
    obtain ⟨Gb, hmb, hgb, H⟩ := H.giveBox
    have hS := zrows hgb (by omega)
    have hck := (lim_rows (n := n)).1.trans hlim
    have hbl := (lim_rows (n := n)).2
    generalize List.replicate n ([] : List Int) = S at hS hck hbl
    refine s_assign H wn rfl rfl ?_; clear H; intro a H
    refine wl_nil ?_
    refine hK6 _ _ ?_; clear hK6
    refine c_seq (fun _ hK10 => ?_)
    refine c_region ?_
    refine s_move H wn rfl rfl ?_; clear H; intro a H
    refine s_call en10lim H wn rfl (best_spec _ _ H.hp.ro S _ hS) rfl ?_; clear H
    rintro v22 G22 a w ⟨x22, rfl, hx22⟩ hm22 H
    rw [hbl] at hx22
    rw [hck] at H
    obtain ⟨xA, xc, rfl, -, -, -⟩ := hx22.slice
    try dsimp only [List.map_nil, List.length_nil] at H
    subst her
    refine s_move H wn rfl rfl ?_; clear H; intro a H
    refine s_extract H wn rfl rfl rfl ?_; clear H; intro a H
    refine s_extract H wn rfl rfl rfl ?_; clear H; intro a H
    refine s_assign H wn rfl rfl ?_; clear H; intro a H
    refine s_assign H wn rfl rfl ?_; clear H; intro a H
    refine wl_nil ?_
    refine hK10 _ _ ?_; clear hK10
    refine c_seq (fun _ hK11 => ?_)
    refine c_region ?_
    refine s_call en11lim H wn rfl (known_spec _ _ H.hp.ro) rfl ?_; clear H
    rintro v25 G25 a w rfl hm25 H
    refine s_move H wn rfl rfl ?_; clear H; intro a H
    refine s_split H 26 rfl ?_ ?_
    · intro h26
      try have p26 := of_decide_eq_true h26
      refine s_move H (wg H rfl rfl h26) rfl rfl ?_; clear H; intro a H
      refine s_len un25lim H (wg H rfl rfl h26) rfl rfl ?_; clear H; intro a H
      refine s_cmp H (wg H rfl rfl h26) rfl rfl rfl rfl ?_; clear H; intro a H
      refine s_pick_t H wn rfl h26 rfl rfl ?_; clear H; intro a H
      refine s_move H wn rfl rfl ?_; clear H; intro a H
      refine s_split H 31 rfl ?_ ?_
      · intro h31
        try have p31 := of_decide_eq_true h31
        refine s_move H (wg H rfl rfl h31) rfl rfl ?_; clear H; intro a H
        refine s_cmp H (wg H rfl rfl h31) rfl rfl rfl rfl ?_; clear H; intro a H
        refine s_move H (wg H rfl rfl h31) rfl rfl ?_; clear H; intro a H
        refine s_eqlb un4lim H (wg H rfl rfl h31) rfl rfl rfl ?_; clear H; intro a H
        refine s_pick_t H wn rfl h31 rfl rfl ?_; clear H; intro a H
        refine s_move H wn rfl rfl ?_; clear H; intro a H
        refine s_split H 37 rfl ?_ ?_
        · intro h37
          try have p37 := of_decide_eq_true h37
          refine s_move H (wg H rfl rfl h37) rfl rfl ?_; clear H; intro a H
          refine s_move H (wg H rfl rfl h37) rfl rfl ?_; clear H; intro a H
          refine s_split H 39 rfl ?_ ?_
          · intro h39
            try have p39 := of_decide_eq_true h39
            refine s_skip H rfl rfl h39 rfl ?_; clear H; intro a H
            refine s_skip H rfl rfl h39 rfl ?_; clear H; intro a H
            refine s_pick_t H (wg H rfl rfl h37) rfl h39 rfl rfl ?_; clear H; intro a H
            refine s_pick_t H wn rfl h37 rfl rfl ?_; clear H; intro a H
            refine s_assign H wn rfl rfl ?_; clear H; intro a H
            refine wl_nil ?_
            refine hK11 _ _ ?_; clear hK11
            refine c_ret ?_
            refine (leave1 H Tryd.results6 (.cons (rv_tmp H rfl) .nil) ?_).1
            first | exact H.hp.ret rfl | exact absurd h39 (by decide)
          intro h39
          try have p39 := of_decide_eq_false h39
          refine s_move H (wg H rfl rfl h39) rfl rfl ?_; clear H; intro a H
          refine s_cmp H (wg H rfl rfl h39) rfl rfl rfl rfl ?_; clear H; intro a H
          refine s_pick_f H (wg H rfl rfl h37) rfl h39 rfl rfl ?_; clear H; intro a H
          refine s_pick_t H wn rfl h37 rfl rfl ?_; clear H; intro a H
          refine s_assign H wn rfl rfl ?_; clear H; intro a H
          refine wl_nil ?_
          refine hK11 _ _ ?_; clear hK11
          refine c_ret ?_
          refine (leave1 H Tryd.results6 (.cons (rv_tmp H rfl) .nil) ?_).1
          first | exact H.hp.ret rfl | exact absurd h39 (by decide)
        intro h37
        try have p37 := of_decide_eq_false h37
        exact absurd h37 (by decide)
      intro h31
      try have p31 := of_decide_eq_false h31
      exact absurd h31 (by decide)
    intro h26
    try have p26 := of_decide_eq_false h26
    exact absurd h26 (by decide)
  intro h9
  try have p9 := of_decide_eq_false h9
  subst h9
  obtain ⟨n, hn⟩ : ∃ n : Nat, n = 1024 := ⟨_, rfl⟩
  obtain ⟨er, her⟩ : ∃ er : Int, er = 0 := ⟨_, rfl⟩
  have hlim : (if 1024 < n then 9 else 0) = er := by rw [if_neg (by omega), her]
  refine c_skip ?_
  refine hK3 _ _ ?_; clear hK3
  refine c_seq (fun _ hK12 => ?_)
  refine c_region ?_
  refine s_make1 1 un23lim ty32lim H wn rfl rfl rfl (by omega) (by omega) rfl ?_; clear H; intro b12 a w hb12 H
  refine s_assign H wn rfl rfl ?_; clear H; intro a H
  refine wl_nil ?_
  refine hK12 _ _ ?_; clear hK12
  refine c_seq (fun _ hK13 => ?_)
  refine c_seq (fun _ hK14 => ?_)
  refine c_region ?_
  refine s_move H wn rfl rfl ?_; clear H; intro a H
  refine wl_nil ?_
  refine hK14 _ _ ?_; clear hK14
  refine c_cond H rfl ?_ ?_
  · intro h13
    try have p13 := of_decide_eq_true h13
    refine c_region ?_
    refine s_move H wn rfl rfl ?_; clear H; intro a H
    refine s_move H wn rfl rfl ?_; clear H; intro a H
    refine s_make1 n un32lim ty3lim H wn rfl rfl (by omega) (by omega) (by omega) rfl ?_; clear H; intro b16 a w hb16 H
    refine s_index un23lim ty32lim 0 H wn rfl rfl rfl (by decide) rfl ?_; clear H; intro a H
    refine s_store ty32lim 1 [.slice (some ⟨b16, 0, none⟩) n n] H wn rfl rfl rfl rfl rfl rfl rfl rfl ?_; clear H; intro w H
    dsimp only [List.set] at H
    obtain ⟨Ga, hma, hga, H⟩ := H.giveBox
    obtain ⟨Gb, hmb, hgb, H⟩ := H.giveBox
    have hzr := zrow (hmb _ _ hga) (by omega)
    have hS : RepV Gb (.sl 1 ([List.replicate n (0 : Int)].map rowDat)) (.slice (some ⟨b12, 0, none⟩) 1 1) := RepV.of_row (xs := [_]) hgb rfl (Nat.le_refl _) (by decide) rfl (by simpa using (RepCat.nil (sz := 1)).snoc (rowd_row hzr) rfl)
    have hck := (lim_wide (n := n)).1.trans hlim
    have hbl := (lim_wide (n := n)).2
    generalize [List.replicate n (0 : Int)] = S at hS hck hbl
    refine wl_nil ?_
    refine hK13 _ _ ?_; clear hK13
    refine c_seq (fun _ hK15 => ?_)
    refine c_region ?_
    refine s_move H wn rfl rfl ?_; clear H; intro a H
    refine s_call en10lim H wn rfl (best_spec _ _ H.hp.ro S _ hS) rfl ?_; clear H
    rintro v22 G22 a w ⟨x22, rfl, hx22⟩ hm22 H
    rw [hbl] at hx22
    rw [hck] at H
    obtain ⟨xA, xc, rfl, -, -, -⟩ := hx22.slice
    try dsimp only [List.map_nil, List.length_nil] at H
    subst her
    refine s_move H wn rfl rfl ?_; clear H; intro a H
    refine s_extract H wn rfl rfl rfl ?_; clear H; intro a H
    refine s_extract H wn rfl rfl rfl ?_; clear H; intro a H
    refine s_assign H wn rfl rfl ?_; clear H; intro a H
    refine s_assign H wn rfl rfl ?_; clear H; intro a H
    refine wl_nil ?_
    refine hK15 _ _ ?_; clear hK15
    refine c_seq (fun _ hK16 => ?_)
    refine c_region ?_
    refine s_call en11lim H wn rfl (known_spec _ _ H.hp.ro) rfl ?_; clear H
    rintro v25 G25 a w rfl hm25 H
    refine s_move H wn rfl rfl ?_; clear H; intro a H
    refine s_split H 26 rfl ?_ ?_
    · intro h26
      try have p26 := of_decide_eq_true h26
      refine s_move H (wg H rfl rfl h26) rfl rfl ?_; clear H; intro a H
      refine s_len un25lim H (wg H rfl rfl h26) rfl rfl ?_; clear H; intro a H
      refine s_cmp H (wg H rfl rfl h26) rfl rfl rfl rfl ?_; clear H; intro a H
      refine s_pick_t H wn rfl h26 rfl rfl ?_; clear H; intro a H
      refine s_move H wn rfl rfl ?_; clear H; intro a H
      refine s_split H 31 rfl ?_ ?_
      · intro h31
        try have p31 := of_decide_eq_true h31
        refine s_move H (wg H rfl rfl h31) rfl rfl ?_; clear H; intro a H
        refine s_cmp H (wg H rfl rfl h31) rfl rfl rfl rfl ?_; clear H; intro a H
        refine s_move H (wg H rfl rfl h31) rfl rfl ?_; clear H; intro a H
        refine s_eqlb un4lim H (wg H rfl rfl h31) rfl rfl rfl ?_; clear H; intro a H
        refine s_pick_t H wn rfl h31 rfl rfl ?_; clear H; intro a H
        refine s_move H wn rfl rfl ?_; clear H; intro a H
        refine s_split H 37 rfl ?_ ?_
        · intro h37
          try have p37 := of_decide_eq_true h37
          refine s_move H (wg H rfl rfl h37) rfl rfl ?_; clear H; intro a H
          refine s_move H (wg H rfl rfl h37) rfl rfl ?_; clear H; intro a H
          refine s_split H 39 rfl ?_ ?_
          · intro h39
            try have p39 := of_decide_eq_true h39
            refine s_skip H rfl rfl h39 rfl ?_; clear H; intro a H
            refine s_skip H rfl rfl h39 rfl ?_; clear H; intro a H
            refine s_pick_t H (wg H rfl rfl h37) rfl h39 rfl rfl ?_; clear H; intro a H
            refine s_pick_t H wn rfl h37 rfl rfl ?_; clear H; intro a H
            refine s_assign H wn rfl rfl ?_; clear H; intro a H
            refine wl_nil ?_
            refine hK16 _ _ ?_; clear hK16
            refine c_ret ?_
            refine (leave1 H Tryd.results6 (.cons (rv_tmp H rfl) .nil) ?_).1
            first | exact H.hp.ret rfl | exact absurd h39 (by decide)
          intro h39
          try have p39 := of_decide_eq_false h39
          refine s_move H (wg H rfl rfl h39) rfl rfl ?_; clear H; intro a H
          refine s_cmp H (wg H rfl rfl h39) rfl rfl rfl rfl ?_; clear H; intro a H
          refine s_pick_f H (wg H rfl rfl h37) rfl h39 rfl rfl ?_; clear H; intro a H
          refine s_pick_t H wn rfl h37 rfl rfl ?_; clear H; intro a H
          refine s_assign H wn rfl rfl ?_; clear H; intro a H
          refine wl_nil ?_
          refine hK16 _ _ ?_; clear hK16
          refine c_ret ?_
          refine (leave1 H Tryd.results6 (.cons (rv_tmp H rfl) .nil) ?_).1
          first | exact H.hp.ret rfl | exact absurd h39 (by decide)
        intro h37
        try have p37 := of_decide_eq_false h37
        exact absurd h37 (by decide)
      intro h31
      try have p31 := of_decide_eq_false h31
      exact absurd h31 (by decide)
    intro h26
    try have p26 := of_decide_eq_false h26
    exact absurd h26 (by decide)
  intro h13
  try have p13 := of_decide_eq_false h13
  refine c_region ?_
  refine s_move H wn rfl rfl ?_; clear H; intro a H
  refine s_make1 n un23lim ty32lim H wn rfl rfl (by omega) (by omega) (by omega) rfl ?_; clear H; intro b19 a w hb19 H
  obtain ⟨Gb, hmb, hgb, H⟩ := H.giveBox
  have hS := zrows hgb (by omega)
  have hck := (lim_rows (n := n)).1.trans hlim
  have hbl := (lim_rows (n := n)).2
  generalize List.replicate n ([] : List Int) = S at hS hck hbl
  refine s_assign H wn rfl rfl ?_; clear H; intro a H
  refine wl_nil ?_
  refine hK13 _ _ ?_; clear hK13
  refine c_seq (fun _ hK17 => ?_)
  refine c_region ?_
  refine s_move H wn rfl rfl ?_; clear H; intro a H
  refine s_call en10lim H wn rfl (best_spec _ _ H.hp.ro S _ hS) rfl ?_; clear H
  rintro v22 G22 a w ⟨x22, rfl, hx22⟩ hm22 H
  rw [hbl] at hx22
  rw [hck] at H
  obtain ⟨xA, xc, rfl, -, -, -⟩ := hx22.slice
  try dsimp only [List.map_nil, List.length_nil] at H
  subst her
  refine s_move H wn rfl rfl ?_; clear H; intro a H
  refine s_extract H wn rfl rfl rfl ?_; clear H; intro a H
  refine s_extract H wn rfl rfl rfl ?_; clear H; intro a H
  refine s_assign H wn rfl rfl ?_; clear H; intro a H
  refine s_assign H wn rfl rfl ?_; clear H; intro a H
  refine wl_nil ?_
  refine hK17 _ _ ?_; clear hK17
  refine c_seq (fun _ hK18 => ?_)
  refine c_region ?_
  refine s_call en11lim H wn rfl (known_spec _ _ H.hp.ro) rfl ?_; clear H
  rintro v25 G25 a w rfl hm25 H
  refine s_move H wn rfl rfl ?_; clear H; intro a H
  refine s_split H 26 rfl ?_ ?_
  · intro h26
    try have p26 := of_decide_eq_true h26
    refine s_move H (wg H rfl rfl h26) rfl rfl ?_; clear H; intro a H
    refine s_len un25lim H (wg H rfl rfl h26) rfl rfl ?_; clear H; intro a H
    refine s_cmp H (wg H rfl rfl h26) rfl rfl rfl rfl ?_; clear H; intro a H
    refine s_pick_t H wn rfl h26 rfl rfl ?_; clear H; intro a H
    refine s_move H wn rfl rfl ?_; clear H; intro a H
    refine s_split H 31 rfl ?_ ?_
    · intro h31
      try have p31 := of_decide_eq_true h31
      refine s_move H (wg H rfl rfl h31) rfl rfl ?_; clear H; intro a H
      refine s_cmp H (wg H rfl rfl h31) rfl rfl rfl rfl ?_; clear H; intro a H
      refine s_move H (wg H rfl rfl h31) rfl rfl ?_; clear H; intro a H
      refine s_eqlb un4lim H (wg H rfl rfl h31) rfl rfl rfl ?_; clear H; intro a H
      refine s_pick_t H wn rfl h31 rfl rfl ?_; clear H; intro a H
      refine s_move H wn rfl rfl ?_; clear H; intro a H
      refine s_split H 37 rfl ?_ ?_
      · intro h37
        try have p37 := of_decide_eq_true h37
        refine s_move H (wg H rfl rfl h37) rfl rfl ?_; clear H; intro a H
        refine s_move H (wg H rfl rfl h37) rfl rfl ?_; clear H; intro a H
        refine s_split H 39 rfl ?_ ?_
        · intro h39
          try have p39 := of_decide_eq_true h39
          refine s_skip H rfl rfl h39 rfl ?_; clear H; intro a H
          refine s_skip H rfl rfl h39 rfl ?_; clear H; intro a H
          refine s_pick_t H (wg H rfl rfl h37) rfl h39 rfl rfl ?_; clear H; intro a H
          refine s_pick_t H wn rfl h37 rfl rfl ?_; clear H; intro a H
          refine s_assign H wn rfl rfl ?_; clear H; intro a H
          refine wl_nil ?_
          refine hK18 _ _ ?_; clear hK18
          refine c_ret ?_
          refine (leave1 H Tryd.results6 (.cons (rv_tmp H rfl) .nil) ?_).1
          first | exact H.hp.ret rfl | exact absurd h39 (by decide)
        intro h39
        try have p39 := of_decide_eq_false h39
        refine s_move H (wg H rfl rfl h39) rfl rfl ?_; clear H; intro a H
        refine s_cmp H (wg H rfl rfl h39) rfl rfl rfl rfl ?_; clear H; intro a H
        refine s_pick_f H (wg H rfl rfl h37) rfl h39 rfl rfl ?_; clear H; intro a H
        refine s_pick_t H wn rfl h37 rfl rfl ?_; clear H; intro a H
        refine s_assign H wn rfl rfl ?_; clear H; intro a H
        refine wl_nil ?_
        refine hK18 _ _ ?_; clear hK18
        refine c_ret ?_
        refine (leave1 H Tryd.results6 (.cons (rv_tmp H rfl) .nil) ?_).1
        first | exact H.hp.ret rfl | exact absurd h39 (by decide)
      intro h37
      try have p37 := of_decide_eq_false h37
      exact absurd h37 (by decide)
    intro h31
    try have p31 := of_decide_eq_false h31
    exact absurd h31 (by decide)
  intro h26
  try have p26 := of_decide_eq_false h26
  exact absurd h26 (by decide)
end Go.Proofs.YtpmcdlhhfbobfaaDoor
