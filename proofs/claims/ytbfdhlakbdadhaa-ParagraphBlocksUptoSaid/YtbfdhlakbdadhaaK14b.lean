/-
  The examples of layer 14 hold.
-/
import Derived.Test.YtbfdhlakbdadhaaK14
namespace Go.Proofs.Ytbfdhlakbdadhaa
open Go.RowKit
theorem un28k14b : Try.prog.underlying 28 = some (.slice 47) := by kernel_rfl
theorem ty47k14b : Ty Try.prog 47 11 176 [.int .i64 0, .int .i64 0, .int .i64 0, .string ⟨#[]⟩, .slice none 0 0, .int .i64 0, .int .i64 0, .slice none 0 0, .slice none 0 0, .slice none 0 0, .slice none 0 0] true := ⟨by kernel_rfl, by kernel_rfl⟩
theorem un33k14b : Try.prog.underlying 33 = some (.slice 37) := by kernel_rfl
theorem ty37k14b : Ty Try.prog 37 4 32 [.int .i64 0, .int .i64 0, .int .i64 0, .bool false] true := ⟨by kernel_rfl, by kernel_rfl⟩
theorem un80k14b : Try.prog.underlying 80 = some (.slice 84) := by kernel_rfl
theorem ty84k14b : Ty Try.prog 84 4 48 [.int .i64 0, .int .i64 0, .bool false, .slice none 0 0] true := ⟨by kernel_rfl, by kernel_rfl⟩
theorem en23k14b : ∀ args w, (callFunc 23 args).run Try.prog w = .ok (.enter 23 args) w := enters Try.func23 rfl (by kernel_rfl)
theorem en12k14b : ∀ args w, (callFunc 12 args).run Try.prog w = .ok (.enter 12 args) w := enters Try.func12 rfl (by kernel_rfl)
theorem sr37k14b : Srt Try.prog 37 [(0, 1), (1, 1), (2, 1), (3, 1)] [.int .i64 0, .int .i64 0, .int .i64 0, .bool false] := ⟨by kernel_rfl, by kernel_rfl⟩
theorem en24k14b : ∀ args w, (callFunc 24 args).run Try.prog w = .ok (.enter 24 args) w := enters Try.func24 rfl (by kernel_rfl)
theorem en25k14b : ∀ args w, (callFunc 25 args).run Try.prog w = .ok (.enter 25 args) w := enters Try.func25 rfl (by kernel_rfl)
theorem en27k14b : ∀ args w, (callFunc 27 args).run Try.prog w = .ok (.enter 27 args) w := enters Try.func27 rfl (by kernel_rfl)
theorem sr47k14b : Srt Try.prog 47 [(0, 1), (1, 1), (2, 1), (3, 1), (4, 5), (9, 1), (10, 1)] [.int .i64 0, .int .i64 0, .int .i64 0, .string ⟨#[]⟩, .slice none 0 0, .int .i64 0, .int .i64 0, .slice none 0 0, .slice none 0 0, .slice none 0 0, .slice none 0 0] := ⟨by kernel_rfl, by kernel_rfl⟩
theorem sr62k14b : Srt Try.prog 62 [(0, 1), (1, 5), (6, 1), (7, 4)] [.slice none 0 0, .slice none 0 0, .int .i64 0, .int .i64 0, .slice none 0 0, .slice none 0 0, .slice none 0 0, .slice none 0 0, .slice none 0 0, .slice none 0 0, .slice none 0 0] := ⟨by kernel_rfl, by kernel_rfl⟩
theorem en26k14b : ∀ args w, (callFunc 26 args).run Try.prog w = .ok (.enter 26 args) w := enters Try.func26 rfl (by kernel_rfl)
theorem en14k14b : ∀ args w, (callFunc 14 args).run Try.prog w = .ok (.enter 14 args) w := enters Try.func14 rfl (by kernel_rfl)
theorem en15k14b : ∀ args w, (callFunc 15 args).run Try.prog w = .ok (.enter 15 args) w := enters Try.func15 rfl (by kernel_rfl)
theorem eqs37k14b : EqS Try.prog 37 [(0, false), (1, false), (2, false), (3, true)] := ⟨by kernel_rfl, by kernel_rfl, by kernel_rfl, by kernel_rfl, by kernel_rfl⟩
theorem fd37_0k14b : Fld Try.prog 37 0 0 := ⟨by kernel_rfl⟩
theorem ty3k14b : Ty Try.prog 3 1 8 [.int .i64 0] false := ⟨by kernel_rfl, by kernel_rfl⟩
theorem fd84_1k14b : Fld Try.prog 84 1 1 := ⟨by kernel_rfl⟩
def csSec : List (List Value) := [itC 1 ⟨#[97]⟩ (.slice none 0 0), itC 3 ⟨#[]⟩ (.slice none 0 0), itC 1 ⟨#[98]⟩ (.slice none 0 0)]
theorem csSec_rep {G : GH} : RepCat G 11 (exSec.map ItemD.dat) csSec.flatten := by
  refine ⟨csSec, rfl, rfl, fun j q cs hr hc => ?_⟩
  match j, hr, hc with
  | 0, hr, hc => cases hr; cases hc; exact ⟨it_rep _ _, rfl⟩
  | 1, hr, hc => cases hr; cases hc; exact ⟨it_rep _ _, rfl⟩
  | 2, hr, hc => cases hr; cases hc; exact ⟨it_rep _ _, rfl⟩
  | n + 3, hr, hc => cases hc
theorem bkV_eq (k f t : Int) (m : Bool) : bkV ⟨k, f, t, m⟩ = .agg #[vi k, vi f, vi t, .bool m] := rfl
theorem hb3 : (blocksS ex14).findIdx? (fun x => decide ((⟨1, 0, 3, true⟩ : BlkD) = x)) = some 0 := by rw [bs14]; decide
theorem hb2 : (blocksS ex14).findIdx? (fun x => decide ((⟨1, 0, 2, false⟩ : BlkD) = x)) = none := by rw [bs14]; decide
theorem txt3 (G : GH) (w0 : World) (hG : Hold G w0) (v : Value) (hv : RepV G (.sl 11 (ex14.map ItemD.dat)) v) :
    Calls Try.prog 24 #[v, .agg #[vi 1, vi 0, vi 3, .bool true]] w0 (Ret w0 G fun u G' => u = .tuple #[.string ⟨#[97, 98]⟩, vi 0]) := by
  have e2 : endB ⟨1, 0, 3, true⟩ = 2 := rfl
  have h := ptext_spec G w0 hG ex14 ⟨1, 0, 3, true⟩ v hv z14 e14 0 hb3 ⟨by decide, by decide⟩
  rw [e2, lf2, rg0, lf3, rg2] at h
  have h2 := h (by rw [rngS, if_pos e14, l14]; rfl) cut2 cut0 plA (by rw [rngS, if_pos e14, l14]; rfl) cut3 cut22 plPara (fun x hx => by rw [List.mem_singleton.1 hx]; rfl) (by decide)
  exact h2
set_option maxHeartbeats 1000000 in
theorem known14 (G : GH) (w0 : World) (hG : Hold G w0) : Calls Try.prog 9 #[] w0 (Ret w0 G fun u G' => u = .bool true) := by
  refine enter (N := 82) (T := []) (F := fun k => k < w0.heap.size) (L := []) Try.func9 rfl Try.ntmps9 rfl rfl hG (fun _ h => h) (fun _ h => by cases h) (fun _ h => by cases h) (fun _ h => by cases h) List.Pairwise.nil ?_
  intro a H
  refine c_seq (fun _ hK1 => ?_)
  refine c_region ?_
  refine s_assign H wn rfl rfl ?_; clear H; intro a H
  refine wl_nil ?_
  refine hK1 _ _ ?_; clear hK1
  refine c_seq (fun _ hK2 => ?_)
  refine c_region ?_
  refine s_call en23k14b H wn rfl (example14_spec _ _ H.hp.ro) rfl ?_; clear H
  rintro v9 G9 a w hv9 hm9 H
  refine s_call en12k14b H wn rfl (Blocks_spec _ _ H.hp.ro ex14 _ hv9 z14) rfl ?_; clear H
  rintro v10 G10 a w ⟨x10, rfl, hb10⟩ hm10 H
  rw [e14] at H
  rw [bs14] at hb10
  obtain ⟨bA, bn, bc, rfl⟩ := hb10.form
  obtain rfl : bn = 6 := hb10.len
  obtain ⟨bb, bo, cs1, rfl, -, hrow1, hr1⟩ := hb10.at_ 1 (bkDat ⟨1, 3, 4, false⟩) rfl
  obtain rfl := bk_of hr1
  obtain ⟨bb', bo', cs3, he, -, hrow3, hr3⟩ := hb10.at_ 3 (bkDat ⟨4, 5, 6, false⟩) rfl
  obtain ⟨rfl, rfl⟩ : bb = bb' ∧ bo = bo' := by simpa using he
  obtain rfl := bk_of hr3
  refine s_move H wn rfl rfl ?_; clear H; intro a H
  refine s_extract H wn rfl rfl rfl ?_; clear H; intro a H
  refine s_extract H wn rfl rfl rfl ?_; clear H; intro a H
  refine s_assign H wn rfl rfl ?_; clear H; intro a H
  refine s_assign H wn rfl rfl ?_; clear H; intro a H
  refine wl_nil ?_
  refine hK2 _ _ ?_; clear hK2
  refine c_seq (fun _ hK3 => ?_)
  refine c_region ?_
  refine s_call en23k14b H wn rfl (example14_spec _ _ H.hp.ro) rfl ?_; clear H
  rintro v14 G14 a w hv14 hm14 H
  refine s_build sr37k14b [_, _, _, _] H wn rfl rfl rfl rfl ?_; clear H; intro a H
  refine s_call en24k14b H wn rfl (txt3 _ _ H.hp.ro _ hv14) rfl ?_; clear H
  rintro v16 G16 a w rfl hm16 H
  refine s_move H wn rfl rfl ?_; clear H; intro a H
  refine s_extract H wn rfl rfl rfl ?_; clear H; intro a H
  refine s_extract H wn rfl rfl rfl ?_; clear H; intro a H
  refine s_assign H wn rfl rfl ?_; clear H; intro a H
  refine s_assign H wn rfl rfl ?_; clear H; intro a H
  refine wl_nil ?_
  refine hK3 _ _ ?_; clear hK3
  refine c_seq (fun _ hK4 => ?_)
  refine c_region ?_
  refine s_call en23k14b H wn rfl (example14_spec _ _ H.hp.ro) rfl ?_; clear H
  rintro v20 G20 a w hv20 hm20 H
  refine s_build sr37k14b [_, _, _, _] H wn rfl rfl rfl rfl ?_; clear H; intro a H
  refine s_call en25k14b H wn rfl (ownNone_spec _ _ H.hp.ro ex14 ⟨1, 0, 2, false⟩ _ hv20 z14 e14 hb2) rfl ?_; clear H
  rintro v22 G22 a w ⟨x22, rfl⟩ hm22 H
  refine s_move H wn rfl rfl ?_; clear H; intro a H
  refine s_extract H wn rfl rfl rfl ?_; clear H; intro a H
  refine s_extract H wn rfl rfl rfl ?_; clear H; intro a H
  refine s_assign H wn rfl rfl ?_; clear H; intro a H
  refine s_assign H wn rfl rfl ?_; clear H; intro a H
  refine wl_nil ?_
  refine hK4 _ _ ?_; clear hK4
  refine c_seq (fun _ hK5 => ?_)
  refine c_region ?_
  refine s_call en27k14b H wn rfl (text14_spec _ _ H.hp.ro _) rfl ?_; clear H
  rintro v25 _ a w ⟨rfl, rfl⟩ hm25 H
  refine s_build sr47k14b [_, _, _, _, _, _, _, _, _, _, _] H wn rfl rfl rfl rfl ?_; clear H; intro a H
  refine s_call en27k14b H wn rfl (text14_spec _ _ H.hp.ro _) rfl ?_; clear H
  rintro v27 _ a w ⟨rfl, rfl⟩ hm27 H
  refine s_buildAll un28k14b ty47k14b csSec H wn rfl rfl rfl rfl rfl rfl rfl ?_; clear H; intro b28 a w hb28 H
  obtain ⟨G28, hm28, hb28', H⟩ := H.giveBox
  have hr28 : RepV G28 (.sl 11 (exSec.map ItemD.dat)) (.slice (some ⟨b28, 0, none⟩) 3 3) := RepV.of_row (n := 3) (cap := 3) hb28' rfl (Nat.le_refl _) (show 3 ≤ maxLen by decide) (List.take_of_length_le (Nat.le_refl _)) csSec_rep
  refine s_build sr62k14b [_, _, _, _, _, _, _, _, _, _, _] H wn rfl rfl rfl rfl ?_; clear H; intro a H
  refine s_call en26k14b H wn rfl (sections_spec _ _ H.hp.ro ⟨(some ⟨b28, 0, none⟩, 3, 3), (none, 0, 0), (none, 0, 0), (none, 0, 0), (none, 0, 0), (none, 0, 0), (none, 0, 0), (none, 0, 0), (none, 0, 0), 0, 0⟩ exSec [] hr28 (RepV.nil_ (A := none) (n := 0) (c := 0) rfl (by decide)) zSec (by decide)) rfl ?_; clear H
  rintro v30 G30 a w hv30 hm30 H
  rw [sSec] at hv30
  obtain ⟨sA, sn, sc, rfl⟩ := hv30.form
  obtain rfl : sn = 2 := hv30.len
  obtain ⟨sb, so, cs5, rfl, -, hrow5, hr5⟩ := hv30.at_ 0 (PartD.dat ⟨0, 2, true, []⟩) rfl
  obtain ⟨qA, qn, qc, rfl⟩ := part_of hr5
  replace hrow1 := fun j u hj => gcell_mono (fun b o h => hm30 b o (hm28 b o (hm22 b o (hm20 b o (hm16 b o (hm14 b o h)))))) (hrow1 j u hj)
  replace hrow3 := fun j u hj => gcell_mono (fun b o h => hm30 b o (hm28 b o (hm22 b o (hm20 b o (hm16 b o (hm14 b o h)))))) (hrow3 j u hj)
  refine s_assign H wn rfl rfl ?_; clear H; intro a H
  refine wl_nil ?_
  refine hK5 _ _ ?_; clear hK5
  refine c_seq (fun _ hK6 => ?_)
  refine c_region ?_
  refine s_move H wn rfl rfl ?_; clear H; intro a H
  refine s_cmp H wn rfl rfl rfl rfl ?_; clear H; intro a H
  refine s_move H wn rfl rfl ?_; clear H; intro a H
  refine s_split H 33 rfl ?_ ?_
  · intro h33
    try have p33 := of_decide_eq_true h33
    refine s_move H (wg H rfl rfl h33) rfl rfl ?_; clear H; intro a H
    refine s_len un33k14b H (wg H rfl rfl h33) rfl rfl ?_; clear H; intro a H
    refine s_cmp H (wg H rfl rfl h33) rfl rfl rfl rfl ?_; clear H; intro a H
    refine s_pick_t H wn rfl h33 rfl rfl ?_; clear H; intro a H
    refine s_move H wn rfl rfl ?_; clear H; intro a H
    refine s_split H 38 rfl ?_ ?_
    · intro h38
      try have p38 := of_decide_eq_true h38
      refine s_move H (wg H rfl rfl h38) rfl rfl ?_; clear H; intro a H
      refine s_call en23k14b H (wg H rfl rfl h38) rfl (example14_spec _ _ H.hp.ro) rfl ?_; clear H
      rintro v40 G40 a w hv40 hm40 H
      refine s_call en14k14b H (wg H rfl rfl h38) rfl (blocks14_spec _ _ H.hp.ro ex14 _ hv40 z14) rfl ?_; clear H
      rintro v41 G41 a w hv41 hm41 H
      rw [model_is, b14] at hv41
      refine s_call en15k14b H (wg H rfl rfl h38) rfl (same14_spec _ _ H.hp.ro bl14 bl14 _ _ (hb10.mono fun b o h => hm41 b o (hm40 b o (hm30 b o (hm28 b o (hm22 b o (hm20 b o (hm16 b o (hm14 b o h)))))))) hv41) rfl ?_; clear H
      rintro v42 G42 a w ⟨b42, rfl, hb42, -⟩ hm42 H
      obtain rfl := hb42 rfl
      replace hrow1 := fun j u hj => gcell_mono (fun b o h => hm42 b o (hm41 b o (hm40 b o h))) (hrow1 j u hj)
      replace hrow3 := fun j u hj => gcell_mono (fun b o h => hm42 b o (hm41 b o (hm40 b o h))) (hrow3 j u hj)
      have hrow5 := fun j u hj => gcell_mono (fun b o h => hm42 b o (hm41 b o (hm40 b o h))) (hrow5 j u hj)
      have r3 := hrow3 0 _ rfl
      have r5 := hrow5 1 _ rfl
      refine s_pick_t H wn rfl h38 rfl rfl ?_; clear H; intro a H
      refine s_move H wn rfl rfl ?_; clear H; intro a H
      refine s_split H 44 rfl ?_ ?_
      · intro h44
        try have p44 := of_decide_eq_true h44
        refine s_move H (wg H rfl rfl h44) rfl rfl ?_; clear H; intro a H
        refine s_index un33k14b ty37k14b 1 H (wg H rfl rfl h44) rfl rfl rfl (by omega) rfl ?_; clear H; intro a H
        refine s_loada ty37k14b (cs := [_, _, _, _]) H (wg H rfl rfl h44) rfl rfl (fun j v hj => H.hp.gcell (hrow1 j v hj)) rfl ?_; clear H; intro a H
        refine s_build sr37k14b [_, _, _, _] H (wg H rfl rfl h44) rfl rfl rfl rfl ?_; clear H; intro a H
        refine s_eqs (.inl rfl) eqs37k14b H (wg H rfl rfl h44) rfl rfl rfl rfl ?_; clear H; intro a H
        refine s_pick_t H wn rfl h44 rfl rfl ?_; clear H; intro a H
        refine s_move H wn rfl rfl ?_; clear H; intro a H
        refine s_split H 51 rfl ?_ ?_
        · intro h51
          try have p51 := of_decide_eq_true h51
          refine s_move H (wg H rfl rfl h51) rfl rfl ?_; clear H; intro a H
          refine s_index un33k14b ty37k14b 3 H (wg H rfl rfl h51) rfl rfl rfl (by omega) rfl ?_; clear H; intro a H
          refine s_field fd37_0k14b H (wg H rfl rfl h51) rfl rfl ?_; clear H; intro a H
          refine s_load ty3k14b H (wg H rfl rfl h51) rfl (H.hp.gcell (by assumption)) rfl ?_; clear H; intro a H
          refine s_cmp H (wg H rfl rfl h51) rfl rfl rfl rfl ?_; clear H; intro a H
          refine s_pick_t H wn rfl h51 rfl rfl ?_; clear H; intro a H
          refine s_move H wn rfl rfl ?_; clear H; intro a H
          refine s_split H 58 rfl ?_ ?_
          · intro h58
            try have p58 := of_decide_eq_true h58
            refine s_move H (wg H rfl rfl h58) rfl rfl ?_; clear H; intro a H
            refine s_cmp H (wg H rfl rfl h58) rfl rfl rfl rfl ?_; clear H; intro a H
            refine s_pick_t H wn rfl h58 rfl rfl ?_; clear H; intro a H
            refine s_move H wn rfl rfl ?_; clear H; intro a H
            refine s_split H 62 rfl ?_ ?_
            · intro h62
              try have p62 := of_decide_eq_true h62
              refine s_move H (wg H rfl rfl h62) rfl rfl ?_; clear H; intro a H
              refine s_eqstr H (wg H rfl rfl h62) rfl rfl rfl ?_; clear H; intro a H
              refine s_pick_t H wn rfl h62 rfl rfl ?_; clear H; intro a H
              refine s_move H wn rfl rfl ?_; clear H; intro a H
              refine s_split H 66 rfl ?_ ?_
              · intro h66
                try have p66 := of_decide_eq_true h66
                refine s_move H (wg H rfl rfl h66) rfl rfl ?_; clear H; intro a H
                refine s_cmp H (wg H rfl rfl h66) rfl rfl rfl rfl ?_; clear H; intro a H
                refine s_pick_t H wn rfl h66 rfl rfl ?_; clear H; intro a H
                refine s_move H wn rfl rfl ?_; clear H; intro a H
                refine s_split H 70 rfl ?_ ?_
                · intro h70
                  try have p70 := of_decide_eq_true h70
                  refine s_move H (wg H rfl rfl h70) rfl rfl ?_; clear H; intro a H
                  refine s_len un80k14b H (wg H rfl rfl h70) rfl rfl ?_; clear H; intro a H
                  refine s_cmp H (wg H rfl rfl h70) rfl rfl rfl rfl ?_; clear H; intro a H
                  refine s_pick_t H wn rfl h70 rfl rfl ?_; clear H; intro a H
                  refine s_move H wn rfl rfl ?_; clear H; intro a H
                  refine s_split H 75 rfl ?_ ?_
                  · intro h75
                    try have p75 := of_decide_eq_true h75
                    refine s_move H (wg H rfl rfl h75) rfl rfl ?_; clear H; intro a H
                    refine s_index un80k14b ty84k14b 0 H (wg H rfl rfl h75) rfl rfl rfl (by omega) rfl ?_; clear H; intro a H
                    refine s_field fd84_1k14b H (wg H rfl rfl h75) rfl rfl ?_; clear H; intro a H
                    refine s_load ty3k14b H (wg H rfl rfl h75) rfl (H.hp.gcell (by assumption)) rfl ?_; clear H; intro a H
                    refine s_cmp H (wg H rfl rfl h75) rfl rfl rfl rfl ?_; clear H; intro a H
                    refine s_pick_t H wn rfl h75 rfl rfl ?_; clear H; intro a H
                    refine s_assign H wn rfl rfl ?_; clear H; intro a H
                    refine wl_nil ?_
                    refine hK6 _ _ ?_; clear hK6
                    refine c_ret ?_
                    refine (leave1 H Try.results9 (.cons (rv_tmp H rfl) .nil) ?_).1
                    exact H.hp.ret (by first | rfl | simp [getI])
                  · intro h75
                    try have p75 := of_decide_eq_false h75
                    exact absurd h75 (by decide)
                · intro h70
                  try have p70 := of_decide_eq_false h70
                  exact absurd h70 (by decide)
              · intro h66
                try have p66 := of_decide_eq_false h66
                exact absurd h66 (by simp [ByteArray.toList_eq])
            · intro h62
              try have p62 := of_decide_eq_false h62
              exact absurd h62 (by decide)
          · intro h58
            try have p58 := of_decide_eq_false h58
            exact absurd h58 (by decide)
        · intro h51
          try have p51 := of_decide_eq_false h51
          exact absurd h51 (by decide)
      · intro h44
        try have p44 := of_decide_eq_false h44
        exact absurd h44 (by decide)
    · intro h38
      try have p38 := of_decide_eq_false h38
      exact absurd h38 (by decide)
  · intro h33
    try have p33 := of_decide_eq_false h33
    exact absurd h33 (by decide)
end Go.Proofs.Ytbfdhlakbdadhaa
