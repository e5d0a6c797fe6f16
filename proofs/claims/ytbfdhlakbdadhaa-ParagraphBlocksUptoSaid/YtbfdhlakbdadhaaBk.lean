/-
  The statement's function ParagraphBlocks gives true.
-/
import Derived.Test.YtbfdhlakbdadhaaPt
namespace Go.Proofs.Ytbfdhlakbdadhaa
open Go.RowKit
theorem ty37bk : Ty Try.prog 37 4 32 [.int .i64 0, .int .i64 0, .int .i64 0, .bool false] true := ⟨by kernel_rfl, by kernel_rfl⟩
theorem en9bk : ∀ args w, (callFunc 9 args).run Try.prog w = .ok (.enter 9 args) w := enters Try.func9 rfl (by kernel_rfl)
theorem en10bk : ∀ args w, (callFunc 10 args).run Try.prog w = .ok (.enter 10 args) w := enters Try.func10 rfl (by kernel_rfl)
theorem en12bk : ∀ args w, (callFunc 12 args).run Try.prog w = .ok (.enter 12 args) w := enters Try.func12 rfl (by kernel_rfl)
theorem en13bk : ∀ args w, (callFunc 13 args).run Try.prog w = .ok (.enter 13 args) w := enters Try.func13 rfl (by kernel_rfl)
theorem en11bk : ∀ args w, (callFunc 11 args).run Try.prog w = .ok (.enter 11 args) w := enters Try.func11 rfl (by kernel_rfl)
theorem un33bk : Try.prog.underlying 33 = some (.slice 37) := by kernel_rfl
theorem sr37bk : Srt Try.prog 37 [(0, 1), (1, 1), (2, 1), (3, 1)] [.int .i64 0, .int .i64 0, .int .i64 0, .bool false] := ⟨by kernel_rfl, by kernel_rfl⟩
theorem eqs37bk : EqS Try.prog 37 [(0, false), (1, false), (2, false), (3, true)] := ⟨by kernel_rfl, by kernel_rfl, by kernel_rfl, by kernel_rfl, by kernel_rfl⟩
theorem en14bk : ∀ args w, (callFunc 14 args).run Try.prog w = .ok (.enter 14 args) w := enters Try.func14 rfl (by kernel_rfl)
theorem en15bk : ∀ args w, (callFunc 15 args).run Try.prog w = .ok (.enter 15 args) w := enters Try.func15 rfl (by kernel_rfl)
theorem en16bk : ∀ args w, (callFunc 16 args).run Try.prog w = .ok (.enter 16 args) w := enters Try.func16 rfl (by kernel_rfl)
theorem tile_le : ∀ {A : List BlkD} {s e : Int}, Tile s A e → s ≤ e
  | [], s, e, h => by have h : s = e := h; omega
  | b :: A, s, e, h => by obtain ⟨_, h2, h3⟩ := h; have := tile_le h3; omega
theorem tile_find {u : Int} : ∀ {A : List BlkD} {s e : Int}, Tile s A e → s ≤ u → u < e → ∃ i, ∃ h : i < A.length, A.findIdx? (inBlk u) = some i ∧ A.find? (inBlk u) = some A[i]
  | [], s, e, h, h1, h2 => by have h : s = e := h; omega
  | b :: A, s, e, h, h1, h2 => by
    obtain ⟨g1, g2, g3⟩ := h
    by_cases hu : u < b.to
    · have hb : inBlk u b = true := by simp only [inBlk, Bool.and_eq_true, decide_eq_true_eq]; omega
      exact ⟨0, by simp, by simp [List.findIdx?_cons, hb], by simp [hb]⟩
    · have hb : inBlk u b = false := by simp only [inBlk, Bool.and_eq_false_iff, decide_eq_false_iff_not]; omega
      obtain ⟨i, hi, e1, e2⟩ := tile_find g3 (by omega) h2
      exact ⟨i + 1, by simpa using hi, by simp [List.findIdx?_cons, hb, e1], by simp [hb, e2]⟩
theorem tile_none {u : Int} : ∀ {A : List BlkD} {s e : Int}, Tile s A e → (u < s ∨ e ≤ u) → A.find? (inBlk u) = none
  | [], _, _, _, _ => rfl
  | b :: A, s, e, h, h1 => by
    obtain ⟨g1, g2, g3⟩ := h
    have := tile_le g3
    have hb : inBlk u b = false := by simp only [inBlk, Bool.and_eq_false_iff, decide_eq_false_iff_not]; omega
    have ih := tile_none (u := u) g3 (by omega)
    simp [hb, ih]
set_option maxHeartbeats 1000000 in
theorem blocks_true (G : GH) (w0 : World) (hG : Hold G w0) (l : List ItemD) (unit : Int) (v : Value) (hv : RepV G (.sl 11 (l.map ItemD.dat)) v) (hz : zItems l ≤ 1073741824) :
    Calls Try.prog 5 #[v, vi unit] w0 (Ret w0 G fun u G' => u = .bool true) := by
  obtain ⟨vA, vn, vc, rfl⟩ := hv.form
  refine enter (N := 100) (T := [(0, _), (1, _)]) (F := fun k => k < w0.heap.size) (L := []) Try.func5 rfl Try.ntmps5 rfl rfl hG (fun _ h => h) (fun _ h => by cases h) (fun _ h => by cases h) (fun _ h => by cases h) List.Pairwise.nil ?_
  intro a H
  refine c_seq (fun _ hK1 => ?_)
  refine c_region ?_
  refine s_assign H wn rfl rfl ?_; clear H; intro a H
  refine wl_nil ?_
  refine hK1 _ _ ?_; clear hK1
  refine c_seq (fun _ hK2 => ?_)
  refine c_seq (fun _ hK3 => ?_)
  refine c_region ?_
  refine s_call en9bk H wn rfl (known14 _ _ H.hp.ro) rfl ?_; clear H
  rintro v13 G13 a w rfl hm13 H
  refine s_not H wn rfl rfl ?_; clear H; intro a H
  refine s_move H wn rfl rfl ?_; clear H; intro a H
  refine s_split H 15 rfl ?_ ?_
  · intro h15
    try have p15 := of_decide_eq_true h15
    exact absurd h15 (by decide)
  · intro h15
    try have p15 := of_decide_eq_false h15
    refine s_move H (wg H rfl rfl h15) rfl rfl ?_; clear H; intro a H
    refine s_call en10bk H (wg H rfl rfl h15) rfl (smallItems_spec _ _ H.hp.ro l _ (hv.mono hm13) hz) rfl ?_; clear H
    rintro v17 G17 a w ⟨b17, rfl⟩ hm17 H
    refine s_not H (wg H rfl rfl h15) rfl rfl ?_; clear H; intro a H
    refine s_pick_f H wn rfl h15 rfl rfl ?_; clear H; intro a H
    refine wl_nil ?_
    refine hK3 _ _ ?_; clear hK3
    refine c_cond H rfl ?_ ?_
    · intro h19
      try have p19 := of_decide_eq_true h19
      refine c_seq (fun _ hK4 => ?_)
      refine c_region ?_
      refine s_call en9bk H wn rfl (known14 _ _ H.hp.ro) rfl ?_; clear H
      rintro v20 G20 a w rfl hm20 H
      refine s_assign H wn rfl rfl ?_; clear H; intro a H
      refine wl_nil ?_
      refine hK4 _ _ ?_; clear hK4
      refine c_ret ?_
      refine (leave1 H Try.results5 (.cons (rv_tmp H rfl) .nil) ?_).1
      exact H.hp.ret (by first | rfl | simp [getV])
    · intro h19
      try have p19 := of_decide_eq_false h19
      refine c_skip ?_
      refine hK2 _ _ ?_; clear hK2
      refine c_seq (fun _ hK5 => ?_)
      refine c_region ?_
      refine s_move H wn rfl rfl ?_; clear H; intro a H
      refine s_call en12bk H wn rfl (Blocks_spec _ _ H.hp.ro l _ (hv.mono fun b o h => hm17 b o (hm13 b o h)) hz) rfl ?_; clear H
      rintro v23 G23 a w ⟨x, rfl, hrep⟩ hm23 H
      obtain ⟨bA, bn, bc, rfl⟩ := hrep.form
      have hbn := hrep.len; rw [List.length_map] at hbn; subst hbn
      replace hv := hv.mono fun b o h => hm23 b o (hm17 b o (hm13 b o h))
      refine s_move H wn rfl rfl ?_; clear H; intro a H
      refine s_extract H wn rfl rfl rfl ?_; clear H; intro a H
      refine s_extract H wn rfl rfl rfl ?_; clear H; intro a H
      refine s_assign H wn rfl rfl ?_; clear H; intro a H
      refine s_assign H wn rfl rfl ?_; clear H; intro a H
      refine wl_nil ?_
      refine hK5 _ _ ?_; clear hK5
      refine c_seq (fun _ hK6 => ?_)
      refine c_region ?_
      refine s_move H wn rfl rfl ?_; clear H; intro a H
      refine s_move H wn rfl rfl ?_; clear H; intro a H
      refine s_call en13bk H wn rfl (at_spec _ _ H.hp.ro l unit _ hv hz) rfl ?_; clear H
      rintro v29 G29 a w rfl hm29 H
      replace hv := hv.mono hm29
      refine s_move H wn rfl rfl ?_; clear H; intro a H
      refine s_extract H wn rfl rfl rfl ?_; clear H; intro a H
      refine s_extract H wn rfl rfl rfl ?_; clear H; intro a H
      refine s_alloc ty37bk H wn rfl ?_; clear H; intro b7 a w hb7 H
      refine s_store ty37bk 0 (vs := [_, _, _, _]) _ H wn rfl rfl rfl rfl rfl rfl rfl rfl ?_; clear H; intro w H; dsimp only [List.set, setRow] at H
      refine s_assign H wn rfl rfl ?_; clear H; intro a H
      refine wl_nil ?_
      refine hK6 _ _ ?_; clear hK6
      refine c_seq (fun _ hK7 => ?_)
      refine c_seq (fun _ hK8 => ?_)
      refine c_region ?_
      refine s_call en9bk H wn rfl (known14 _ _ H.hp.ro) rfl ?_; clear H
      rintro v32 G32 a w rfl hm32 H
      replace hv := hv.mono hm32
      refine s_not H wn rfl rfl ?_; clear H; intro a H
      refine wl_nil ?_
      refine hK8 _ _ ?_; clear hK8
      refine c_cond H rfl ?_ ?_
      · intro h33
        try have p33 := of_decide_eq_true h33
        exact absurd h33 (by decide)
      · intro h33
        try have p33 := of_decide_eq_false h33
        refine c_skip ?_
        refine hK7 _ _ ?_; clear hK7
        refine c_seq (fun _ hK9 => ?_)
        refine c_region ?_
        refine s_move H wn rfl rfl ?_; clear H; intro a H
        refine s_call en11bk H wn rfl (len_spec _ _ H.hp.ro l _ hv (by omega)) rfl ?_; clear H
        rintro v36 _ a w ⟨rfl, rfl⟩ - H
        refine s_move H wn rfl rfl ?_; clear H; intro a H
        refine s_extract H wn rfl rfl rfl ?_; clear H; intro a H
        refine s_extract H wn rfl rfl rfl ?_; clear H; intro a H
        refine s_assign H wn rfl rfl ?_; clear H; intro a H
        refine s_assign H wn rfl rfl ?_; clear H; intro a H
        refine wl_nil ?_
        refine hK9 _ _ ?_; clear hK9
        refine c_seq (fun _ hK10 => ?_)
        refine c_seq (fun _ hK11 => ?_)
        refine c_region ?_
        refine s_move H wn rfl rfl ?_; clear H; intro a H
        refine s_cmp H wn rfl rfl rfl rfl ?_; clear H; intro a H
        refine wl_nil ?_
        refine hK11 _ _ ?_; clear hK11
        refine c_cond H rfl ?_ ?_
        · intro h40
          try have p40 := of_decide_eq_true h40
          have ha : atS l unit = (blk0, lenE l) := by rw [atS, if_neg p40]
          have hb0 : (blocksS l).length = 0 := by rw [blocksS, if_neg p40]; rfl
          rw [ha, hb0] at H
          refine c_seq (fun _ hK12 => ?_)
          refine c_region ?_
          refine s_move H wn rfl rfl ?_; clear H; intro a H
          refine s_move H wn rfl rfl ?_; clear H; intro a H
          refine s_cmp H wn rfl rfl rfl rfl ?_; clear H; intro a H
          refine s_move H wn rfl rfl ?_; clear H; intro a H
          refine s_split H 44 rfl ?_ ?_
          · intro h44
            try have p44 := of_decide_eq_true h44
            refine s_move H (wg H rfl rfl h44) rfl rfl ?_; clear H; intro a H
            refine s_move H (wg H rfl rfl h44) rfl rfl ?_; clear H; intro a H
            refine s_cmp H (wg H rfl rfl h44) rfl rfl rfl rfl ?_; clear H; intro a H
            refine s_pick_t H wn rfl h44 rfl rfl ?_; clear H; intro a H
            refine s_move H wn rfl rfl ?_; clear H; intro a H
            refine s_split H 49 rfl ?_ ?_
            · intro h49
              try have p49 := of_decide_eq_true h49
              refine s_move H (wg H rfl rfl h49) rfl rfl ?_; clear H; intro a H
              refine s_len un33bk H (wg H rfl rfl h49) rfl rfl ?_; clear H; intro a H
              refine s_cmp H (wg H rfl rfl h49) rfl rfl rfl rfl ?_; clear H; intro a H
              refine s_pick_t H wn rfl h49 rfl rfl ?_; clear H; intro a H
              refine s_move H wn rfl rfl ?_; clear H; intro a H
              refine s_split H 54 rfl ?_ ?_
              · intro h54
                try have p54 := of_decide_eq_true h54
                refine s_loada ty37bk (cs := [_, _, _, _]) H (wg H rfl rfl h54) rfl rfl (H.hp.ocells 0 rfl rfl) rfl ?_; clear H; intro a H
                refine s_build sr37bk [_, _, _, _] H (wg H rfl rfl h54) rfl rfl rfl rfl ?_; clear H; intro a H
                refine s_eqs (.inl rfl) eqs37bk H (wg H rfl rfl h54) rfl rfl rfl rfl ?_; clear H; intro a H
                refine s_pick_t H wn rfl h54 rfl rfl ?_; clear H; intro a H
                refine s_assign H wn rfl rfl ?_; clear H; intro a H
                refine wl_nil ?_
                refine hK12 _ _ ?_; clear hK12
                refine c_ret ?_
                refine (leave1 H Try.results5 (.cons (rv_tmp H rfl) .nil) ?_).1
                exact H.hp.ret (by first | rfl | simp [getV])
              · intro h54
                try have p54 := of_decide_eq_false h54
                exact absurd h54 (by decide)
            · intro h49
              try have p49 := of_decide_eq_false h49
              exact absurd rfl p49
          · intro h44
            try have p44 := of_decide_eq_false h44
            exact absurd rfl p44
        · intro h40
          try have p40 := of_decide_eq_false h40
          have h0 : lenE l = 0 := by omega
          have hb1 : blkS 0 0 true l = blocksS l := by rw [blocksS, if_pos h0]
          obtain ⟨ht, -⟩ := blocks_tile l h0
          rw [h0] at H
          refine c_skip ?_
          refine hK10 _ _ ?_; clear hK10
          refine c_seq (fun _ hK13 => ?_)
          refine c_region ?_
          refine s_move H wn rfl rfl ?_; clear H; intro a H
          refine s_call en14bk H wn rfl (blocks14_spec _ _ H.hp.ro l _ hv hz) rfl ?_; clear H
          rintro v60 G60 a w hv60 hm60 H
          rw [model_is, hb1] at hv60
          replace hrep := hrep.mono fun b o h => hm60 b o (hm32 b o (hm29 b o h))
          obtain ⟨mA, mn, mc, rfl⟩ := hv60.form
          have hmn := hv60.len; rw [List.length_map] at hmn; subst hmn
          refine s_assign H wn rfl rfl ?_; clear H; intro a H
          refine wl_nil ?_
          refine hK13 _ _ ?_; clear hK13
          refine c_seq (fun _ hK14 => ?_)
          refine c_seq (fun _ hK15 => ?_)
          refine c_region ?_
          refine s_move H wn rfl rfl ?_; clear H; intro a H
          refine s_cmp H wn rfl rfl rfl rfl ?_; clear H; intro a H
          refine s_move H wn rfl rfl ?_; clear H; intro a H
          refine s_split H 63 rfl ?_ ?_
          · intro h63
            try have p63 := of_decide_eq_true h63
            exact absurd h63 (by decide)
          · intro h63
            try have p63 := of_decide_eq_false h63
            refine s_move H (wg H rfl rfl h63) rfl rfl ?_; clear H; intro a H
            refine s_move H (wg H rfl rfl h63) rfl rfl ?_; clear H; intro a H
            refine s_call en15bk H (wg H rfl rfl h63) rfl (same14_spec _ _ H.hp.ro _ _ _ _ hrep hv60) rfl ?_; clear H
            rintro v66 G66 a w ⟨b66, rfl, hb66, -⟩ hm66 H
            obtain rfl := hb66 rfl
            replace hv60 := hv60.mono hm66
            refine s_not H (wg H rfl rfl h63) rfl rfl ?_; clear H; intro a H
            refine s_pick_f H wn rfl h63 rfl rfl ?_; clear H; intro a H
            refine wl_nil ?_
            refine hK15 _ _ ?_; clear hK15
            refine c_cond H rfl ?_ ?_
            · intro h68
              try have p68 := of_decide_eq_true h68
              exact absurd h68 (by decide)
            · intro h68
              try have p68 := of_decide_eq_false h68
              refine c_skip ?_
              refine hK14 _ _ ?_; clear hK14
              refine c_seq (fun _ hK16 => ?_)
              refine c_seq (fun _ hK17 => ?_)
              refine c_region ?_
              refine s_move H wn rfl rfl ?_; clear H; intro a H
              refine s_cmp H wn rfl rfl rfl rfl ?_; clear H; intro a H
              refine s_move H wn rfl rfl ?_; clear H; intro a H
              refine s_split H 71 rfl ?_ ?_
              · intro h71
                try have p71 := of_decide_eq_true h71
                refine s_skip H rfl rfl h71 rfl ?_; clear H; intro a H
                refine s_skip H rfl rfl h71 rfl ?_; clear H; intro a H
                refine s_skip H rfl rfl h71 rfl ?_; clear H; intro a H
                refine s_pick_t H wn rfl h71 rfl rfl ?_; clear H; intro a H
                refine wl_nil ?_
                refine hK17 _ _ ?_; clear hK17
                refine c_cond_t H rfl rfl ?_
                refine c_seq (fun _ hK18 => ?_)
                have hno : (blocksS l).find? (inBlk unit) = none := tile_none ht (by omega)
                have hat : atS l unit = (blk0, 2) := by rw [atS, if_pos h0, hno]
                rw [hat] at H
                refine c_region ?_
                refine s_move H wn rfl rfl ?_; clear H; intro a H
                refine s_cmp H wn rfl rfl rfl rfl ?_; clear H; intro a H
                refine s_move H wn rfl rfl ?_; clear H; intro a H
                refine s_split H 78 rfl ?_ ?_
                · intro h78
                  try have p78 := of_decide_eq_true h78
                  refine s_loada ty37bk (cs := [_, _, _, _]) H (wg H rfl rfl h78) rfl rfl (H.hp.ocells 0 rfl rfl) rfl ?_; clear H; intro a H
                  refine s_build sr37bk [_, _, _, _] H (wg H rfl rfl h78) rfl rfl rfl rfl ?_; clear H; intro a H
                  refine s_eqs (.inl rfl) eqs37bk H (wg H rfl rfl h78) rfl rfl rfl rfl ?_; clear H; intro a H
                  refine s_pick_t H wn rfl h78 rfl rfl ?_; clear H; intro a H
                  refine s_assign H wn rfl rfl ?_; clear H; intro a H
                  refine wl_nil ?_
                  refine hK18 _ _ ?_; clear hK18
                  refine c_ret ?_
                  refine (leave1 H Try.results5 (.cons (rv_tmp H rfl) .nil) ?_).1
                  exact H.hp.ret (by first | rfl | simp [getV])
                · intro h78
                  try have p78 := of_decide_eq_false h78
                  exact absurd h78 (by decide)
              · intro h71
                try have p71 := of_decide_eq_false h71
                refine s_move H (wg H rfl rfl h71) rfl rfl ?_; clear H; intro a H
                refine s_move H (wg H rfl rfl h71) rfl rfl ?_; clear H; intro a H
                refine s_cmp H (wg H rfl rfl h71) rfl rfl rfl rfl ?_; clear H; intro a H
                refine s_pick_f H wn rfl h71 rfl rfl ?_; clear H; intro a H
                refine wl_nil ?_
                refine hK17 _ _ ?_; clear hK17
                refine c_cond H rfl ?_ ?_
                · intro h75
                  try have p75 := of_decide_eq_true h75
                  refine c_seq (fun _ hK19 => ?_)
                  have hno : (blocksS l).find? (inBlk unit) = none := tile_none ht (by omega)
                  have hat : atS l unit = (blk0, 2) := by rw [atS, if_pos h0, hno]
                  rw [hat] at H
                  refine c_region ?_
                  refine s_move H wn rfl rfl ?_; clear H; intro a H
                  refine s_cmp H wn rfl rfl rfl rfl ?_; clear H; intro a H
                  refine s_move H wn rfl rfl ?_; clear H; intro a H
                  refine s_split H 78 rfl ?_ ?_
                  · intro h78
                    try have p78 := of_decide_eq_true h78
                    refine s_loada ty37bk (cs := [_, _, _, _]) H (wg H rfl rfl h78) rfl rfl (H.hp.ocells 0 rfl rfl) rfl ?_; clear H; intro a H
                    refine s_build sr37bk [_, _, _, _] H (wg H rfl rfl h78) rfl rfl rfl rfl ?_; clear H; intro a H
                    refine s_eqs (.inl rfl) eqs37bk H (wg H rfl rfl h78) rfl rfl rfl rfl ?_; clear H; intro a H
                    refine s_pick_t H wn rfl h78 rfl rfl ?_; clear H; intro a H
                    refine s_assign H wn rfl rfl ?_; clear H; intro a H
                    refine wl_nil ?_
                    refine hK19 _ _ ?_; clear hK19
                    refine c_ret ?_
                    refine (leave1 H Try.results5 (.cons (rv_tmp H rfl) .nil) ?_).1
                    exact H.hp.ret (by first | rfl | simp [getV])
                  · intro h78
                    try have p78 := of_decide_eq_false h78
                    exact absurd h78 (by decide)
                · intro h75
                  try have p75 := of_decide_eq_false h75
                  refine c_skip ?_
                  refine hK16 _ _ ?_; clear hK16
                  refine c_seq (fun _ hK20 => ?_)
                  obtain ⟨ix, hi, hf1, hf2⟩ := tile_find (u := unit) ht (by omega) (by omega)
                  have hat : atS l unit = ((blocksS l)[ix], 0) := by rw [atS, if_pos h0, hf2]
                  rw [hat] at H
                  refine c_region ?_
                  refine s_move H wn rfl rfl ?_; clear H; intro a H
                  refine s_move H wn rfl rfl ?_; clear H; intro a H
                  refine s_call en16bk H wn rfl (at14_spec _ _ H.hp.ro (blocksS l) unit _ hv60) rfl ?_; clear H
                  rintro v85 _ a w ⟨rfl, rfl⟩ - H
                  rw [hf1] at H
                  obtain ⟨mb, mo, mcs, he, -, hrow, hr⟩ := hv60.at_ ix (bkDat (blocksS l)[ix]) (by simp [hi])
                  subst he
                  obtain rfl := bk_of hr
                  refine s_assign H wn rfl rfl ?_; clear H; intro a H
                  refine wl_nil ?_
                  refine hK20 _ _ ?_; clear hK20
                  refine c_seq (fun _ hK21 => ?_)
                  have H := H.sub (T' := [(12, _), (8, _), (7, _), (11, _)]) ⟨rfl, rfl, rfl, rfl, trivial⟩
                  have hprm16 : ∀ (i : Nat) (v : Value) (G G' : GH), (∀ k o, G k = some o → G' k = some o) → (fun (i : Nat) (v : Value) (G : GH) => match i with | 0 => v = vi ix | 1 => v = .bool true | 2 => v = .bool true | 3 => v = vi 0 | 4 => v = .bool true | 5 => v = .bool true | 6 => v = .bool true | 7 => v = bkV (blocksS l)[ix] | 8 => v = .slice (some ⟨mb, mo, none⟩) (blocksS l).length mc | 9 => v = vi ix | 10 => v = .pointer (some ⟨mb, mo + ix * 4, none⟩) | 11 => v = bkV (blocksS l)[ix] | 12 => v = .bool true | 13 => v = .bool true | 14 => v = .bool true | _ => True) i v G → (fun (i : Nat) (v : Value) (G : GH) => match i with | 0 => v = vi ix | 1 => v = .bool true | 2 => v = .bool true | 3 => v = vi 0 | 4 => v = .bool true | 5 => v = .bool true | 6 => v = .bool true | 7 => v = bkV (blocksS l)[ix] | 8 => v = .slice (some ⟨mb, mo, none⟩) (blocksS l).length mc | 9 => v = vi ix | 10 => v = .pointer (some ⟨mb, mo + ix * 4, none⟩) | 11 => v = bkV (blocksS l)[ix] | 12 => v = .bool true | 13 => v = .bool true | 14 => v = .bool true | _ => True) i v G' := by
                    intro i v G G' hm h
                    match i, h with
                    | 0, h => exact h
                    | 1, h => exact h
                    | 2, h => exact h
                    | 3, h => exact h
                    | 4, h => exact h
                    | 5, h => exact h
                    | 6, h => exact h
                    | 7, h => exact h
                    | 8, h => exact h
                    | 9, h => exact h
                    | 10, h => exact h
                    | 11, h => exact h
                    | 12, h => exact h
                    | 13, h => exact h
                    | 14, h => exact h
                    | _ + 15, h => exact trivial
                  refine c_drawI (hmx) [[], [0], [0, 1], [0, 1, 2], [0, 1, 2, 3], [0, 1, 2, 3, 4], [0, 1, 2, 3, 4, 5], [0, 1, 2, 3, 4, 5, 6], [0, 1, 2, 3, 4, 5, 6], [0, 1, 2, 3, 4, 5, 6], [0, 1, 2, 3, 4, 5, 6, 8, 9], [0, 1, 2, 3, 4, 5, 6, 8, 9, 10], [0, 1, 2, 3, 4, 5, 6, 7, 8, 9, 10, 11], [0, 1, 2, 3, 4, 5, 6, 7, 8, 9, 10, 11, 12], [0, 1, 2, 3, 4, 5, 6, 7, 8, 9, 10, 11, 12, 13]] [] (by kernel_rfl) (by kernel_rfl) (fun (i : Nat) (v : Value) (G : GH) => match i with | 0 => v = vi ix | 1 => v = .bool true | 2 => v = .bool true | 3 => v = vi 0 | 4 => v = .bool true | 5 => v = .bool true | 6 => v = .bool true | 7 => v = bkV (blocksS l)[ix] | 8 => v = .slice (some ⟨mb, mo, none⟩) (blocksS l).length mc | 9 => v = vi ix | 10 => v = .pointer (some ⟨mb, mo + ix * 4, none⟩) | 11 => v = bkV (blocksS l)[ix] | 12 => v = .bool true | 13 => v = .bool true | 14 => v = .bool true | _ => True) hprm16 H ?_ ?_
                  · clear H; refine (allI_cons ?_ (allI_cons ?_ (allI_cons ?_ (allI_cons ?_ (allI_cons ?_ (allI_cons ?_ (allI_cons ?_ (allI_cons ?_ (allI_cons ?_ (allI_cons ?_ (allI_cons ?_ (allI_cons ?_ (allI_cons ?_ (allI_cons ?_ (allI_cons ?_ allI_nil)))))))))))))))
                    · intro S a w G1 _ hSi hc hG HT hv; have H := HT; clear hSi
                      have Hb := H.full; have H := Hb; clear hc
                      refine s_move H wn rfl rfl ?_; clear H; intro a H
                      refine wl_nil ⟨rfl, ?_⟩
                      exact draw_val (by kernel_rfl) hprm16 rfl rfl HT Hb hG hv (fun _ _ h => h) (rfl) H
                    · intro S a w G1 _ hSi hc hG HT hv; have H := HT; clear hSi
                      obtain ⟨u86, hu86, hp86⟩ := hv 0 86 (hc 0 (by decide)) rfl
                      obtain rfl : u86 = vi ix := hp86
                      have H := H.addS hu86
                      have Hb := H.full; have H := Hb; clear hc
                      refine s_cmp H wn rfl rfl rfl rfl ?_; clear H; intro a H
                      refine wl_nil ⟨rfl, ?_⟩
                      exact draw_val (by kernel_rfl) hprm16 rfl rfl HT Hb hG hv (fun _ _ h => h) (by simp) H
                    · intro S a w G1 _ hSi hc hG HT hv; have H := HT; clear hSi
                      obtain ⟨u87, hu87, hp87⟩ := hv 1 87 (hc 1 (by decide)) rfl
                      obtain rfl : u87 = .bool true := hp87
                      have H := H.addS hu87
                      have Hb := H.full; have H := Hb; clear hc
                      refine s_move H wn rfl rfl ?_; clear H; intro a H
                      refine wl_nil ⟨rfl, ?_⟩
                      exact draw_val (by kernel_rfl) hprm16 rfl rfl HT Hb hG hv (fun _ _ h => h) (rfl) H
                    · intro S a w G1 _ hSi hc hG HT hv; have H := HT; clear hSi
                      obtain ⟨u88, hu88, hp88⟩ := hv 2 88 (hc 2 (by decide)) rfl
                      obtain rfl : u88 = .bool true := hp88
                      have H := H.addS hu88
                      have Hb := H.full; have H := Hb; clear hc
                      refine s_move H (wg H rfl rfl rfl) rfl rfl ?_; clear H; intro a H
                      refine wl_nil ⟨rfl, ?_⟩
                      exact draw_val (by kernel_rfl) hprm16 rfl rfl HT Hb hG hv (fun _ _ h => h) (rfl) H
                    · intro S a w G1 _ hSi hc hG HT hv; have H := HT; clear hSi
                      obtain ⟨u89, hu89, hp89⟩ := hv 3 89 (hc 3 (by decide)) rfl
                      obtain rfl : u89 = vi 0 := hp89
                      have H := H.addS hu89
                      obtain ⟨u88, hu88, hp88⟩ := hv 2 88 (hc 2 (by decide)) rfl
                      obtain rfl : u88 = .bool true := hp88
                      have H := H.addS hu88
                      have Hb := H.full; have H := Hb; clear hc
                      refine s_cmp H (wg H rfl rfl rfl) rfl rfl rfl rfl ?_; clear H; intro a H
                      refine wl_nil ⟨rfl, ?_⟩
                      exact draw_val (by kernel_rfl) hprm16 rfl rfl HT Hb hG hv (fun _ _ h => h) (rfl) H
                    · intro S a w G1 _ hSi hc hG HT hv; have H := HT; clear hSi
                      obtain ⟨u88, hu88, hp88⟩ := hv 2 88 (hc 2 (by decide)) rfl
                      obtain rfl : u88 = .bool true := hp88
                      have H := H.addS hu88
                      obtain ⟨u90, hu90, hp90⟩ := hv 4 90 (hc 4 (by decide)) rfl
                      obtain rfl : u90 = .bool true := hp90
                      have H := H.addS hu90
                      have Hb := H.full; have H := Hb; clear hc
                      refine s_pick_t H wn rfl rfl rfl rfl ?_; clear H; intro a H
                      refine wl_nil ⟨rfl, ?_⟩
                      exact draw_val (by kernel_rfl) hprm16 rfl rfl HT Hb hG hv (fun _ _ h => h) (rfl) H
                    · intro S a w G1 _ hSi hc hG HT hv; have H := HT; clear hSi
                      obtain ⟨u91, hu91, hp91⟩ := hv 5 91 (hc 5 (by decide)) rfl
                      obtain rfl : u91 = .bool true := hp91
                      have H := H.addS hu91
                      have Hb := H.full; have H := Hb; clear hc
                      refine s_move H wn rfl rfl ?_; clear H; intro a H
                      refine wl_nil ⟨rfl, ?_⟩
                      exact draw_val (by kernel_rfl) hprm16 rfl rfl HT Hb hG hv (fun _ _ h => h) (rfl) H
                    · intro S a w G1 _ hSi hc hG HT hv; have H := HT; clear hSi
                      obtain ⟨u92, hu92, hp92⟩ := hv 6 92 (hc 6 (by decide)) rfl
                      obtain rfl : u92 = .bool true := hp92
                      have H := H.addS hu92
                      have Hb := H.full; have H := Hb; clear hc
                      refine s_loada ty37bk (cs := [_, _, _, _]) H (wg H rfl rfl rfl) rfl rfl (H.hp.ocells 0 rfl rfl) rfl ?_; clear H; intro a H
                      refine wl_nil ⟨rfl, ?_⟩
                      exact draw_val (by kernel_rfl) hprm16 rfl rfl HT Hb hG hv (fun _ _ h => h) (rfl) H
                    · intro S a w G1 _ hSi hc hG HT hv; have H := HT; clear hSi
                      obtain ⟨u92, hu92, hp92⟩ := hv 6 92 (hc 6 (by decide)) rfl
                      obtain rfl : u92 = .bool true := hp92
                      have H := H.addS hu92
                      have Hb := H.full; have H := Hb; clear hc
                      refine s_move H (wg H rfl rfl rfl) rfl rfl ?_; clear H; intro a H
                      refine wl_nil ⟨rfl, ?_⟩
                      exact draw_val (by kernel_rfl) hprm16 rfl rfl HT Hb hG hv (fun _ _ h => h) (rfl) H
                    · intro S a w G1 _ hSi hc hG HT hv; have H := HT; clear hSi
                      obtain ⟨u92, hu92, hp92⟩ := hv 6 92 (hc 6 (by decide)) rfl
                      obtain rfl : u92 = .bool true := hp92
                      have H := H.addS hu92
                      have Hb := H.full; have H := Hb; clear hc
                      refine s_move H (wg H rfl rfl rfl) rfl rfl ?_; clear H; intro a H
                      refine wl_nil ⟨rfl, ?_⟩
                      exact draw_val (by kernel_rfl) hprm16 rfl rfl HT Hb hG hv (fun _ _ h => h) (rfl) H
                    · intro S a w G1 _ hSi hc hG HT hv; have H := HT; clear hSi
                      obtain ⟨u94, hu94, hp94⟩ := hv 8 94 (hc 8 (by decide)) rfl
                      obtain rfl : u94 = .slice (some ⟨mb, mo, none⟩) (blocksS l).length mc := hp94
                      have H := H.addS hu94
                      obtain ⟨u95, hu95, hp95⟩ := hv 9 95 (hc 9 (by decide)) rfl
                      obtain rfl : u95 = vi ix := hp95
                      have H := H.addS hu95
                      obtain ⟨u92, hu92, hp92⟩ := hv 6 92 (hc 6 (by decide)) rfl
                      obtain rfl : u92 = .bool true := hp92
                      have H := H.addS hu92
                      have Hb := H.full; have H := Hb; clear hc
                      refine s_index un33bk ty37bk _ H (wg H rfl rfl rfl) rfl rfl rfl (by first | assumption | omega) rfl ?_; clear H; intro a H
                      refine wl_nil ⟨rfl, ?_⟩
                      exact draw_val (by kernel_rfl) hprm16 rfl rfl HT Hb hG hv (fun _ _ h => h) (rfl) H
                    · intro S a w G1 _ hSi hc hG HT hv; have H := HT; clear hSi
                      obtain ⟨u96, hu96, hp96⟩ := hv 10 96 (hc 10 (by decide)) rfl
                      obtain rfl : u96 = .pointer (some ⟨mb, mo + ix * 4, none⟩) := hp96
                      have H := H.addS hu96
                      obtain ⟨u92, hu92, hp92⟩ := hv 6 92 (hc 6 (by decide)) rfl
                      obtain rfl : u92 = .bool true := hp92
                      have H := H.addS hu92
                      have Hb := H.full; have H := Hb; clear hc
                      refine s_loada ty37bk (cs := [_, _, _, _]) H (wg H rfl rfl rfl) rfl rfl (fun j v hj => H.hp.gcell (gcell_mono hG (hrow j v hj))) rfl ?_; clear H; intro a H
                      refine wl_nil ⟨rfl, ?_⟩
                      exact draw_val (by kernel_rfl) hprm16 rfl rfl HT Hb hG hv (fun _ _ h => h) (rfl) H
                    · intro S a w G1 _ hSi hc hG HT hv; have H := HT; clear hSi
                      obtain ⟨u93, hu93, hp93⟩ := hv 7 93 (hc 7 (by decide)) rfl
                      obtain rfl : u93 = bkV (blocksS l)[ix] := hp93
                      have H := H.addS hu93
                      obtain ⟨u97, hu97, hp97⟩ := hv 11 97 (hc 11 (by decide)) rfl
                      obtain rfl : u97 = bkV (blocksS l)[ix] := hp97
                      have H := H.addS hu97
                      obtain ⟨u92, hu92, hp92⟩ := hv 6 92 (hc 6 (by decide)) rfl
                      obtain rfl : u92 = .bool true := hp92
                      have H := H.addS hu92
                      have Hb := H.full; have H := Hb; clear hc
                      refine s_eqs (.inl rfl) eqs37bk H (wg H rfl rfl rfl) rfl rfl rfl rfl ?_; clear H; intro a H
                      refine wl_nil ⟨rfl, ?_⟩
                      exact draw_val (by kernel_rfl) hprm16 rfl rfl HT Hb hG hv (fun _ _ h => h) ((blk_eql _ _).trans (by simp)) H
                    · intro S a w G1 _ hSi hc hG HT hv; have H := HT; clear hSi
                      obtain ⟨u92, hu92, hp92⟩ := hv 6 92 (hc 6 (by decide)) rfl
                      obtain rfl : u92 = .bool true := hp92
                      have H := H.addS hu92
                      obtain ⟨u98, hu98, hp98⟩ := hv 12 98 (hc 12 (by decide)) rfl
                      obtain rfl : u98 = .bool true := hp98
                      have H := H.addS hu98
                      have Hb := H.full; have H := Hb; clear hc
                      refine s_pick_t H wn rfl rfl rfl rfl ?_; clear H; intro a H
                      refine wl_nil ⟨rfl, ?_⟩
                      exact draw_val (by kernel_rfl) hprm16 rfl rfl HT Hb hG hv (fun _ _ h => h) (rfl) H
                    · intro S a w G1 _ hSi hc hG HT hv; have H := HT; clear hSi
                      obtain ⟨u99, hu99, hp99⟩ := hv 13 99 (hc 13 (by decide)) rfl
                      obtain rfl : u99 = .bool true := hp99
                      have H := H.addS hu99
                      have Hb := H.full; have H := Hb; clear hc
                      refine s_assign H wn rfl rfl ?_; clear H; intro a H
                      refine wl_nil ⟨rfl, ?_⟩
                      exact draw_val (by kernel_rfl) hprm16 rfl rfl HT Hb hG hv (fun _ _ h => h) (rfl) H
                  · clear H; intro a w G hGm16 H hv
                    obtain ⟨u4, hu4, hp4⟩ := hv 14 4 (by decide) rfl
                    obtain rfl : u4 = .bool true := hp4
                    have H := H.addS hu4
                    clear hv
                    refine wl_nil ⟨rfl, ?_⟩
                    refine hK21 _ _ ?_; clear hK21
                    refine c_ret ?_
                    refine (leave1 H Try.results5 (.cons (rv_tmp H rfl) .nil) ?_).1
                    exact H.hp.ret (by first | rfl | simp [getV])
end Go.Proofs.Ytbfdhlakbdadhaa
