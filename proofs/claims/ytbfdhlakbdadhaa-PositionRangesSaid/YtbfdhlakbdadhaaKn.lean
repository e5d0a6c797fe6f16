/-
  The examples of layer 15 hold.
-/
import Derived.Test.YtbfdhlakbdadhaaKt
namespace Go.Proofs.Ytbfdhlakbdadhaa
open Go.RowKit
theorem un69kn : Try.prog.underlying 69 = some (.slice 66) := by kernel_rfl
theorem ty66kn : Ty Try.prog 66 2 16 [.int .i64 0, .int .i64 0] true := ⟨by kernel_rfl, by kernel_rfl⟩
theorem en17kn : ∀ args w, (callFunc 17 args).run Try.prog w = .ok (.enter 17 args) w := enters Try.func17 rfl (by kernel_rfl)
theorem ty62kn : Ty Try.prog 62 11 232 [.slice none 0 0, .slice none 0 0, .int .i64 0, .int .i64 0, .slice none 0 0, .slice none 0 0, .slice none 0 0, .slice none 0 0, .slice none 0 0, .slice none 0 0, .slice none 0 0] true := ⟨by kernel_rfl, by kernel_rfl⟩
theorem sr66kn : Srt Try.prog 66 [(0, 1), (1, 1)] [.int .i64 0, .int .i64 0] := ⟨by kernel_rfl, by kernel_rfl⟩
theorem en18kn : ∀ args w, (callFunc 18 args).run Try.prog w = .ok (.enter 18 args) w := enters Try.func18 rfl (by kernel_rfl)
theorem en19kn : ∀ args w, (callFunc 19 args).run Try.prog w = .ok (.enter 19 args) w := enters Try.func19 rfl (by kernel_rfl)
theorem en20kn : ∀ args w, (callFunc 20 args).run Try.prog w = .ok (.enter 20 args) w := enters Try.func20 rfl (by kernel_rfl)
theorem en21kn : ∀ args w, (callFunc 21 args).run Try.prog w = .ok (.enter 21 args) w := enters Try.func21 rfl (by kernel_rfl)
theorem eqi66kn : EqI Try.prog 66 [0, 1] := ⟨by kernel_rfl, by kernel_rfl, by kernel_rfl, by kernel_rfl, by kernel_rfl⟩
theorem en22kn : ∀ args w, (callFunc 22 args).run Try.prog w = .ok (.enter 22 args) w := enters Try.func22 rfl (by kernel_rfl)
theorem known15 (G : GH) (w0 : World) (hG : Hold G w0) : Calls Try.prog 7 #[] w0 (Ret w0 G fun u G' => u = .bool true) := by
  refine enter (N := 76) (T := []) (F := fun k => k < w0.heap.size) (L := []) Try.func7 rfl Try.ntmps7 rfl rfl hG (fun _ h => h) (fun _ h => by cases h) (fun _ h => by cases h) (fun _ h => by cases h) List.Pairwise.nil ?_
  intro a H
  refine c_seq (fun _ hK1 => ?_)
  refine c_region ?_
  refine s_assign H wn rfl rfl ?_; clear H; intro a H
  refine wl_nil ?_
  refine hK1 _ _ ?_; clear hK1
  refine c_seq (fun _ hK2 => ?_)
  refine c_region ?_
  refine s_call en17kn H wn rfl (example_spec _ _ H.hp.ro) rfl ?_; clear H
  rintro v10 G10 a w ⟨D, rfl, hv⟩ hm10 H
  refine s_alloc ty62kn H wn rfl ?_; clear H; intro b1 a w hb1 H
  refine s_store ty62kn 0 (vs := [_, _, _, _, _, _, _, _, _, _, _]) _ H wn rfl rfl rfl rfl rfl rfl rfl rfl ?_; clear H; intro w H; dsimp only [List.set, setRow] at H
  refine wl_nil ?_
  refine hK2 _ _ ?_; clear hK2
  refine c_seq (fun _ hK3 => ?_)
  refine c_region ?_
  refine s_loada ty62kn (cs := [_, _, _, _, _, _, _, _, _, _, _]) H wn rfl rfl (H.hp.ocells 0 rfl rfl) rfl ?_; clear H; intro a H
  refine s_build sr66kn [_, _] H wn rfl rfl rfl rfl ?_; clear H; intro a H
  refine s_call en18kn H wn rfl (index_spec _ _ H.hp.ro D exL 4 1 hv exZ) rfl ?_; clear H
  rintro v14 G14 a w rfl hm14 H
  rw [exIx] at H
  replace hv := hv.mono hm14
  refine s_move H wn rfl rfl ?_; clear H; intro a H
  refine s_extract H wn rfl rfl rfl ?_; clear H; intro a H
  refine s_extract H wn rfl rfl rfl ?_; clear H; intro a H
  refine s_assign H wn rfl rfl ?_; clear H; intro a H
  refine s_assign H wn rfl rfl ?_; clear H; intro a H
  refine wl_nil ?_
  refine hK3 _ _ ?_; clear hK3
  refine c_seq (fun _ hK4 => ?_)
  refine c_region ?_
  refine s_loada ty62kn (cs := [_, _, _, _, _, _, _, _, _, _, _]) H wn rfl rfl (H.hp.ocells 0 rfl rfl) rfl ?_; clear H; intro a H
  refine s_call en19kn H wn rfl (of_pos _ _ H.hp.ro D exL 5 hv exZ) rfl ?_; clear H
  rintro v19 G19 a w rfl hm19 H
  rw [exOf] at H
  replace hv := hv.mono hm19
  refine s_move H wn rfl rfl ?_; clear H; intro a H
  refine s_extract H wn rfl rfl rfl ?_; clear H; intro a H
  refine s_extract H wn rfl rfl rfl ?_; clear H; intro a H
  refine s_alloc ty66kn H wn rfl ?_; clear H; intro b4 a w hb4 H
  refine s_store ty66kn 0 (vs := [_, _]) _ H wn rfl rfl rfl rfl rfl rfl rfl rfl ?_; clear H; intro w H; dsimp only [List.set, setRow] at H
  refine s_assign H wn rfl rfl ?_; clear H; intro a H
  refine wl_nil ?_
  refine hK4 _ _ ?_; clear hK4
  refine c_seq (fun _ hK5 => ?_)
  refine c_region ?_
  refine s_loada ty62kn (cs := [_, _, _, _, _, _, _, _, _, _, _]) H wn rfl rfl (H.hp.ocells 1 rfl rfl) rfl ?_; clear H; intro a H
  refine s_call en20kn H wn rfl (path_spec _ _ H.hp.ro D exL 4 hv exZ 2 (by omega) _ exPth (fun ps h => by cases h; exact Nat.le_refl _)) rfl ?_; clear H
  rintro v24 G24 a w ⟨v, rfl, hrep⟩ hm24 H
  rw [exF4] at H hrep
  replace hv := hv.mono hm24
  replace hrep : RepV G24 (.sl 2 ([((0, 2) : Int × Int)].map posD)) v := hrep
  obtain ⟨vA, vn, vc, rfl⟩ := hrep.form
  obtain rfl : vn = 1 := hrep.len
  obtain ⟨b, o, cs, rfl, hcl, hrow, hr⟩ := hrep.at_ 0 (posD (0, 2)) rfl
  obtain rfl := posD_row hr
  refine s_move H wn rfl rfl ?_; clear H; intro a H
  refine s_extract H wn rfl rfl rfl ?_; clear H; intro a H
  refine s_extract H wn rfl rfl rfl ?_; clear H; intro a H
  refine s_assign H wn rfl rfl ?_; clear H; intro a H
  refine s_assign H wn rfl rfl ?_; clear H; intro a H
  refine wl_nil ?_
  refine hK5 _ _ ?_; clear hK5
  refine c_seq (fun _ hK6 => ?_)
  refine c_region ?_
  refine s_loada ty62kn (cs := [_, _, _, _, _, _, _, _, _, _, _]) H wn rfl rfl (H.hp.ocells 1 rfl rfl) rfl ?_; clear H; intro a H
  refine s_build sr66kn [_, _] H wn rfl rfl rfl rfl ?_; clear H; intro a H
  refine s_call en21kn H wn rfl (lift_spec _ _ H.hp.ro D exL 4 1 0 hv exZ 2 (by omega) _ exPth (fun ps h => by cases h; exact Nat.le_refl _)) rfl ?_; clear H
  rintro v30 G30 a w rfl hm30 H
  have e : (if (flowOf exL 4).isSome = true then (some [((0, 2) : Int × Int)]).getD [] else []) = [(0, 2)] := by rw [exF4]; rfl
  rw [e, exLi] at H
  replace hv := hv.mono hm30
  replace hrow := fun j u hj => gcell_mono hm30 (hrow j u hj)
  refine s_move H wn rfl rfl ?_; clear H; intro a H
  refine s_extract H wn rfl rfl rfl ?_; clear H; intro a H
  refine s_extract H wn rfl rfl rfl ?_; clear H; intro a H
  refine s_assign H wn rfl rfl ?_; clear H; intro a H
  refine s_assign H wn rfl rfl ?_; clear H; intro a H
  refine wl_nil ?_
  refine hK6 _ _ ?_; clear hK6
  refine c_seq (fun _ hK7 => ?_)
  refine c_region ?_
  refine s_move H wn rfl rfl ?_; clear H; intro a H
  refine s_cmp H wn rfl rfl rfl rfl ?_; clear H; intro a H
  refine s_move H wn rfl rfl ?_; clear H; intro a H
  refine s_split H 35 rfl ?_ ?_
  · intro h35
    try have p35 := of_decide_eq_true h35
    refine s_move H (wg H rfl rfl h35) rfl rfl ?_; clear H; intro a H
    refine s_cmp H (wg H rfl rfl h35) rfl rfl rfl rfl ?_; clear H; intro a H
    refine s_pick_t H wn rfl h35 rfl rfl ?_; clear H; intro a H
    refine s_move H wn rfl rfl ?_; clear H; intro a H
    refine s_split H 39 rfl ?_ ?_
    · intro h39
      try have p39 := of_decide_eq_true h39
      refine s_loada ty66kn (cs := [_, _]) H (wg H rfl rfl h39) rfl rfl (H.hp.ocells 0 rfl rfl) rfl ?_; clear H; intro a H
      refine s_build sr66kn [_, _] H (wg H rfl rfl h39) rfl rfl rfl rfl ?_; clear H; intro a H
      refine s_eqagg eqi66kn H (wg H rfl rfl h39) rfl rfl rfl rfl ?_; clear H; intro a H
      refine s_pick_t H wn rfl h39 rfl rfl ?_; clear H; intro a H
      refine s_move H wn rfl rfl ?_; clear H; intro a H
      refine s_split H 44 rfl ?_ ?_
      · intro h44
        try have p44 := of_decide_eq_true h44
        refine s_move H (wg H rfl rfl h44) rfl rfl ?_; clear H; intro a H
        refine s_cmp H (wg H rfl rfl h44) rfl rfl rfl rfl ?_; clear H; intro a H
        refine s_pick_t H wn rfl h44 rfl rfl ?_; clear H; intro a H
        refine s_move H wn rfl rfl ?_; clear H; intro a H
        refine s_split H 48 rfl ?_ ?_
        · intro h48
          try have p48 := of_decide_eq_true h48
          refine s_move H (wg H rfl rfl h48) rfl rfl ?_; clear H; intro a H
          refine s_len un69kn H (wg H rfl rfl h48) rfl rfl ?_; clear H; intro a H
          refine s_cmp H (wg H rfl rfl h48) rfl rfl rfl rfl ?_; clear H; intro a H
          refine s_pick_t H wn rfl h48 rfl rfl ?_; clear H; intro a H
          refine s_move H wn rfl rfl ?_; clear H; intro a H
          refine s_split H 53 rfl ?_ ?_
          · intro h53
            try have p53 := of_decide_eq_true h53
            refine s_move H (wg H rfl rfl h53) rfl rfl ?_; clear H; intro a H
            refine s_index un69kn ty66kn 0 H (wg H rfl rfl h53) rfl rfl rfl (by omega) rfl ?_; clear H; intro a H
            refine s_loada ty66kn (cs := [_, _]) H (wg H rfl rfl h53) rfl rfl (fun j v hj => H.hp.gcell (hrow j v hj)) rfl ?_; clear H; intro a H
            refine s_build sr66kn [_, _] H (wg H rfl rfl h53) rfl rfl rfl rfl ?_; clear H; intro a H
            refine s_eqagg eqi66kn H (wg H rfl rfl h53) rfl rfl rfl rfl ?_; clear H; intro a H
            refine s_pick_t H wn rfl h53 rfl rfl ?_; clear H; intro a H
            refine s_move H wn rfl rfl ?_; clear H; intro a H
            refine s_split H 60 rfl ?_ ?_
            · intro h60
              try have p60 := of_decide_eq_true h60
              refine s_move H (wg H rfl rfl h60) rfl rfl ?_; clear H; intro a H
              refine s_cmp H (wg H rfl rfl h60) rfl rfl rfl rfl ?_; clear H; intro a H
              refine s_pick_t H wn rfl h60 rfl rfl ?_; clear H; intro a H
              refine s_move H wn rfl rfl ?_; clear H; intro a H
              refine s_split H 64 rfl ?_ ?_
              · intro h64
                try have p64 := of_decide_eq_true h64
                refine s_move H (wg H rfl rfl h64) rfl rfl ?_; clear H; intro a H
                refine s_cmp H (wg H rfl rfl h64) rfl rfl rfl rfl ?_; clear H; intro a H
                refine s_pick_t H wn rfl h64 rfl rfl ?_; clear H; intro a H
                refine s_move H wn rfl rfl ?_; clear H; intro a H
                refine s_split H 68 rfl ?_ ?_
                · intro h68
                  try have p68 := of_decide_eq_true h68
                  refine s_move H (wg H rfl rfl h68) rfl rfl ?_; clear H; intro a H
                  refine s_pick_t H wn rfl h68 rfl rfl ?_; clear H; intro a H
                  refine s_move H wn rfl rfl ?_; clear H; intro a H
                  refine s_split H 71 rfl ?_ ?_
                  · intro h71
                    try have p71 := of_decide_eq_true h71
                    refine s_loada ty62kn (cs := [_, _, _, _, _, _, _, _, _, _, _]) H (wg H rfl rfl h71) rfl rfl (H.hp.ocells 1 rfl rfl) rfl ?_; clear H; intro a H
                    refine s_call en22kn H (wg H rfl rfl h71) rfl (count_pos _ _ H.hp.ro D exL hv exZ) rfl ?_; clear H
                    rintro v73 G73 a w rfl hm73 H
                    rw [exN7] at H
                    refine s_cmp H (wg H rfl rfl h71) rfl rfl rfl rfl ?_; clear H; intro a H
                    refine s_pick_t H wn rfl h71 rfl rfl ?_; clear H; intro a H
                    refine s_assign H wn rfl rfl ?_; clear H; intro a H
                    refine wl_nil ?_
                    refine hK7 _ _ ?_; clear hK7
                    refine c_ret ?_
                    refine (leave1 H Try.results7 (.cons (rv_tmp H rfl) .nil) ?_).1
                    exact H.hp.ret rfl
                  · intro h71
                    try have p71 := of_decide_eq_false h71
                    exact absurd h71 (by decide)
                · intro h68
                  try have p68 := of_decide_eq_false h68
                  exact absurd h68 (by decide)
              · intro h64
                try have p64 := of_decide_eq_false h64
                exact absurd h64 (by decide)
            · intro h60
              try have p60 := of_decide_eq_false h60
              exact absurd h60 (by decide)
          · intro h53
            try have p53 := of_decide_eq_false h53
            exact absurd h53 (by decide)
        · intro h48
          try have p48 := of_decide_eq_false h48
          exact absurd h48 (by decide)
      · intro h44
        try have p44 := of_decide_eq_false h44
        exact absurd h44 (by decide)
    · intro h39
      try have p39 := of_decide_eq_false h39
      exact absurd h39 (by decide)
  · intro h35
    try have p35 := of_decide_eq_false h35
    exact absurd h35 (by decide)
end Go.Proofs.Ytbfdhlakbdadhaa
