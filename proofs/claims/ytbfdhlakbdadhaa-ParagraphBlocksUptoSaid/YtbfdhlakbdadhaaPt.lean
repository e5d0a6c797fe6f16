/-
  The statement's function ParagraphParts gives true.
-/
import Derived.Test.YtbfdhlakbdadhaaSml
namespace Go.Proofs.Ytbfdhlakbdadhaa
open Go.RowKit
theorem en9pt : ∀ args w, (callFunc 9 args).run Try.prog w = .ok (.enter 9 args) w := enters Try.func9 rfl (by kernel_rfl)
theorem en10pt : ∀ args w, (callFunc 10 args).run Try.prog w = .ok (.enter 10 args) w := enters Try.func10 rfl (by kernel_rfl)
theorem en11pt : ∀ args w, (callFunc 11 args).run Try.prog w = .ok (.enter 11 args) w := enters Try.func11 rfl (by kernel_rfl)
theorem en12pt : ∀ args w, (callFunc 12 args).run Try.prog w = .ok (.enter 12 args) w := enters Try.func12 rfl (by kernel_rfl)
theorem un33pt : Try.prog.underlying 33 = some (.slice 37) := by kernel_rfl
theorem ty37pt : Ty Try.prog 37 4 32 [.int .i64 0, .int .i64 0, .int .i64 0, .bool false] true := ⟨by kernel_rfl, by kernel_rfl⟩
theorem fd37_1pt : Fld Try.prog 37 1 1 := ⟨by kernel_rfl⟩
theorem ty3pt : Ty Try.prog 3 1 8 [.int .i64 0] false := ⟨by kernel_rfl, by kernel_rfl⟩
theorem fd37_2pt : Fld Try.prog 37 2 2 := ⟨by kernel_rfl⟩
theorem fd37_3pt : Fld Try.prog 37 3 3 := ⟨by kernel_rfl⟩
theorem ty4pt : Ty Try.prog 4 1 1 [.bool false] false := ⟨by kernel_rfl, by kernel_rfl⟩
theorem un28pt : Try.prog.underlying 28 = some (.slice 47) := by kernel_rfl
theorem ty47pt : Ty Try.prog 47 11 176 [.int .i64 0, .int .i64 0, .int .i64 0, .string ⟨#[]⟩, .slice none 0 0, .int .i64 0, .int .i64 0, .slice none 0 0, .slice none 0 0, .slice none 0 0, .slice none 0 0] true := ⟨by kernel_rfl, by kernel_rfl⟩
theorem fd47_0pt : Fld Try.prog 47 0 0 := ⟨by kernel_rfl⟩
theorem parasN_succ {l : List ItemD} {j : Nat} (h : j < l.length) : parasN (l.take (j + 1)) = parasN (l.take j) + if l[j].kind = 2 then 1 else 0 := by
  rw [List.take_succ_eq_append_getElem h]
  unfold parasN
  rw [List.countP_append]
  congr 1
  simp [List.countP_cons]
theorem parts_true (G : GH) (w0 : World) (hG : Hold G w0) (l : List ItemD) (v : Value) (hv : RepV G (.sl 11 (l.map ItemD.dat)) v) (hz : zItems l ≤ 1073741824) :
    Calls Try.prog 4 #[v] w0 (Ret w0 G fun u G' => u = .bool true) := by
  obtain ⟨A, c, rfl, hc1, hc2, hg⟩ := hv.slice
  rw [List.length_map] at *
  have hll := zItems_length l
  have hbl := blkS_len l 0 0 true
  refine enter (N := 97) (T := [(0, _)]) (F := fun k => k < w0.heap.size) (L := []) Try.func4 rfl Try.ntmps4 rfl rfl hG (fun _ h => h) (fun _ h => by cases h) (fun _ h => by cases h) (fun _ h => by cases h) List.Pairwise.nil ?_
  intro a H
  refine c_seq (fun _ hK1 => ?_)
  refine c_region ?_
  refine s_assign H wn rfl rfl ?_; clear H; intro a H
  refine wl_nil ?_
  refine hK1 _ _ ?_; clear hK1
  refine c_seq (fun _ hK2 => ?_)
  refine c_seq (fun _ hK3 => ?_)
  refine c_region ?_
  refine s_call en9pt H wn rfl (known14 _ _ H.hp.ro) rfl ?_; clear H
  rintro v12 G12 a w rfl hm12 H
  refine s_not H wn rfl rfl ?_; clear H; intro a H
  refine s_move H wn rfl rfl ?_; clear H; intro a H
  refine s_split H 14 rfl ?_ ?_
  · intro h14
    try have p14 := of_decide_eq_true h14
    exact absurd h14 (by decide)
  · intro h14
    try have p14 := of_decide_eq_false h14
    refine s_move H (wg H rfl rfl h14) rfl rfl ?_; clear H; intro a H
    refine s_call en10pt H (wg H rfl rfl h14) rfl (smallItems_spec _ _ H.hp.ro l _ (hv.mono hm12) hz) rfl ?_; clear H
    rintro v16 G16 a w ⟨b16, rfl⟩ hm16 H
    refine s_not H (wg H rfl rfl h14) rfl rfl ?_; clear H; intro a H
    refine s_pick_f H wn rfl h14 rfl rfl ?_; clear H; intro a H
    refine wl_nil ?_
    refine hK3 _ _ ?_; clear hK3
    refine c_cond H rfl ?_ ?_
    · intro h18
      try have p18 := of_decide_eq_true h18
      refine c_seq (fun _ hK4 => ?_)
      refine c_region ?_
      refine s_call en9pt H wn rfl (known14 _ _ H.hp.ro) rfl ?_; clear H
      rintro v19 G19 a w rfl hm19 H
      refine s_assign H wn rfl rfl ?_; clear H; intro a H
      refine wl_nil ?_
      refine hK4 _ _ ?_; clear hK4
      refine c_ret ?_
      refine (leave1 H Try.results4 (.cons (rv_tmp H rfl) .nil) ?_).1
      exact H.hp.ret (by first | rfl | (rw [hmi]; simp))
    · intro h18
      try have p18 := of_decide_eq_false h18
      refine c_skip ?_
      refine hK2 _ _ ?_; clear hK2
      refine c_seq (fun _ hK5 => ?_)
      refine c_region ?_
      refine s_move H wn rfl rfl ?_; clear H; intro a H
      refine s_call en11pt H wn rfl (len_spec _ _ H.hp.ro l _ (hv.mono fun b o h => hm16 b o (hm12 b o h)) (by omega)) rfl ?_; clear H
      rintro v22 _ a w ⟨rfl, rfl⟩ hm22 H
      refine s_move H wn rfl rfl ?_; clear H; intro a H
      refine s_extract H wn rfl rfl rfl ?_; clear H; intro a H
      refine s_extract H wn rfl rfl rfl ?_; clear H; intro a H
      refine s_assign H wn rfl rfl ?_; clear H; intro a H
      refine s_assign H wn rfl rfl ?_; clear H; intro a H
      refine wl_nil ?_
      refine hK5 _ _ ?_; clear hK5
      refine c_seq (fun _ hK6 => ?_)
      refine c_region ?_
      refine s_move H wn rfl rfl ?_; clear H; intro a H
      refine s_call en12pt H wn rfl (Blocks_spec _ _ H.hp.ro l _ (hv.mono fun b o h => hm16 b o (hm12 b o h)) hz) rfl ?_; clear H
      rintro v27 G27 a w ⟨x, rfl, hrep⟩ hm27 H
      obtain ⟨bA, bn, bc, rfl⟩ := hrep.form
      have hbn := hrep.len; rw [List.length_map] at hbn; subst hbn
      refine s_move H wn rfl rfl ?_; clear H; intro a H
      refine s_extract H wn rfl rfl rfl ?_; clear H; intro a H
      refine s_extract H wn rfl rfl rfl ?_; clear H; intro a H
      refine s_assign H wn rfl rfl ?_; clear H; intro a H
      refine s_assign H wn rfl rfl ?_; clear H; intro a H
      refine wl_nil ?_
      refine hK6 _ _ ?_; clear hK6
      refine c_seq (fun _ hK7 => ?_)
      refine c_seq (fun _ hK8 => ?_)
      refine c_region ?_
      refine s_call en9pt H wn rfl (known14 _ _ H.hp.ro) rfl ?_; clear H
      rintro v30 G30 a w rfl hm30 H
      replace hrep := hrep.mono hm30
      replace hv := hv.mono fun b o h => hm30 b o (hm27 b o (hm16 b o (hm12 b o h)))
      refine s_not H wn rfl rfl ?_; clear H; intro a H
      refine s_move H wn rfl rfl ?_; clear H; intro a H
      refine s_split H 32 rfl ?_ ?_
      · intro h32
        try have p32 := of_decide_eq_true h32
        exact absurd h32 (by decide)
      · intro h32
        try have p32 := of_decide_eq_false h32
        refine s_move H (wg H rfl rfl h32) rfl rfl ?_; clear H; intro a H
        refine s_cmp H (wg H rfl rfl h32) rfl rfl rfl rfl ?_; clear H; intro a H
        refine s_pick_f H wn rfl h32 rfl rfl ?_; clear H; intro a H
        refine wl_nil ?_
        refine hK8 _ _ ?_; clear hK8
        refine c_cond H rfl ?_ ?_
        · intro h35
          try have p35 := of_decide_eq_true h35
          refine c_seq (fun _ hK9 => ?_)
          refine c_region ?_
          refine s_call en9pt H wn rfl (known14 _ _ H.hp.ro) rfl ?_; clear H
          rintro v36 G36 a w rfl hm36 H
          refine s_assign H wn rfl rfl ?_; clear H; intro a H
          refine wl_nil ?_
          refine hK9 _ _ ?_; clear hK9
          refine c_ret ?_
          refine (leave1 H Try.results4 (.cons (rv_tmp H rfl) .nil) ?_).1
          exact H.hp.ret (by first | rfl | (rw [hmi]; simp))
        · intro h35
          try have p35 := of_decide_eq_false h35
          have h0 : lenE l = 0 := by omega
          rw [h0] at H
          obtain ⟨ht, hm⟩ := blocks_tile l h0
          have hb0 : (blocksS l).length ≤ 2147483649 := by rw [blocksS, if_pos h0]; omega
          have hmk : marksN (blocksS l) ≤ 2147483649 := Nat.le_trans List.countP_le_length hb0
          obtain ⟨B, hB⟩ : ∃ B, B = blocksS l := ⟨_, rfl⟩
          rw [← hB] at hrep ht hm hb0 hmk H
          refine c_skip ?_
          refine hK7 _ _ ?_; clear hK7
          refine c_seq (fun _ hK10 => ?_)
          refine c_region ?_
          refine s_assign H wn rfl rfl ?_; clear H; intro a H
          refine s_assign H wn rfl rfl ?_; clear H; intro a H
          refine s_assign H wn rfl rfl ?_; clear H; intro a H
          refine wl_nil ?_
          refine hK10 _ _ ?_; clear hK10
          refine c_seq (fun _ hK11 => ?_)
          refine c_seq (fun _ hK12 => ?_)
          refine c_region ?_
          refine s_assign H wn rfl rfl ?_; clear H; intro a H
          refine wl_nil ?_
          refine hK12 _ _ ?_; clear hK12
          refine c_block ?_
          skip
          refine c_loopS (ι := Nat × Int × Nat) (Tc := [(0, _), (3, _), (5, _), (6, _), (9, _)]) (Lc := []) (fun (gh : Nat × Int × Nat) => [(7, vi gh.2.1), (8, vi gh.2.2), (10, vi gh.1)]) (fun (gh : Nat × Int × Nat) => []) (fun (gh : Nat × Int × Nat) => G30) (fun (gh : Nat × Int × Nat) => gh.1 ≤ B.length ∧ Tile gh.2.1 (B.drop gh.1) (lenS l) ∧ gh.2.2 + marksN (B.drop gh.1) = marksN B) (fun (gh : Nat × Int × Nat) => B.length - gh.1) ((0, 0, 0)) (by exact (H).sub ⟨rfl, rfl, rfl, rfl, rfl, rfl, rfl, rfl, trivial⟩) ?_ ?_
          · exact ⟨by omega, ht, by simp⟩
          · clear H; intro gh a w hI H
            obtain ⟨i, tt, mk⟩ := gh; dsimp only at hI H
            obtain ⟨hi, hti, hmi⟩ := hI
            dsimp only [List.cons_append, List.nil_append, List.append_nil] at H
            refine c_seq (fun _ hK13 => ?_)
            refine c_seq (fun _ hK14 => ?_)
            refine c_region ?_
            refine s_move H wn rfl rfl ?_; clear H; intro a H
            refine s_move H wn rfl rfl ?_; clear H; intro a H
            refine s_len un33pt H wn rfl rfl ?_; clear H; intro a H
            refine s_cmp H wn rfl rfl rfl rfl ?_; clear H; intro a H
            refine wl_nil ?_
            refine hK14 _ _ ?_; clear hK14
            refine c_cond H rfl ?_ ?_
            · intro h40
              try have p40 := of_decide_eq_true h40
              have hi2 : i < B.length := by omega
              obtain ⟨b, o, cs, rfl, hcl, hrow, hr⟩ := hrep.at_ i (bkDat B[i]) (by simp [hi2])
              obtain rfl := bk_of hr
              have r1 : gcell G30 b (o + i * 4 + 1) = some (vi B[i].from_) := hrow 1 _ rfl
              have r2 : gcell G30 b (o + i * 4 + 2) = some (vi B[i].to) := hrow 2 _ rfl
              have r3 : gcell G30 b (o + i * 4 + 3) = some (.bool B[i].mark) := hrow 3 _ rfl
              rw [List.drop_eq_getElem_cons hi2] at hti hmi
              obtain ⟨ht1, ht2, ht3⟩ := hti
              rw [marksN, List.countP_cons] at hmi
              refine c_skip ?_
              refine hK13 _ _ ?_; clear hK13
              refine c_seq (fun _ hK15 => ?_)
              refine c_block ?_
              refine c_seq (fun _ hK16 => ?_)
              refine c_seq (fun _ hK17 => ?_)
              refine c_region ?_
              refine s_move H wn rfl rfl ?_; clear H; intro a H
              refine s_move H wn rfl rfl ?_; clear H; intro a H
              refine s_index un33pt ty37pt _ H wn rfl rfl rfl (by first | assumption | omega) rfl ?_; clear H; intro a H
              refine s_field fd37_1pt H wn rfl rfl ?_; clear H; intro a H
              refine s_load ty3pt H wn rfl (H.hp.gcell (by assumption)) rfl ?_; clear H; intro a H
              refine s_move H wn rfl rfl ?_; clear H; intro a H
              refine s_cmp H wn rfl rfl rfl rfl ?_; clear H; intro a H
              refine s_move H wn rfl rfl ?_; clear H; intro a H
              refine s_split H 50 rfl ?_ ?_
              · intro h50
                try have p50 := of_decide_eq_true h50
                exact absurd ht1 p50
              · intro h50
                try have p50 := of_decide_eq_false h50
                refine s_move H (wg H rfl rfl h50) rfl rfl ?_; clear H; intro a H
                refine s_move H (wg H rfl rfl h50) rfl rfl ?_; clear H; intro a H
                refine s_index un33pt ty37pt _ H (wg H rfl rfl h50) rfl rfl rfl (by first | assumption | omega) rfl ?_; clear H; intro a H
                refine s_field fd37_2pt H (wg H rfl rfl h50) rfl rfl ?_; clear H; intro a H
                refine s_load ty3pt H (wg H rfl rfl h50) rfl (H.hp.gcell (by assumption)) rfl ?_; clear H; intro a H
                refine s_move H (wg H rfl rfl h50) rfl rfl ?_; clear H; intro a H
                refine s_cmp H (wg H rfl rfl h50) rfl rfl rfl rfl ?_; clear H; intro a H
                refine s_pick_f H wn rfl h50 rfl rfl ?_; clear H; intro a H
                refine wl_nil ?_
                refine hK17 _ _ ?_; clear hK17
                refine c_cond H rfl ?_ ?_
                · intro h58
                  try have p58 := of_decide_eq_true h58
                  exact absurd p58 (by omega)
                · intro h58
                  try have p58 := of_decide_eq_false h58
                  refine c_skip ?_
                  refine hK16 _ _ ?_; clear hK16
                  refine c_seq (fun _ hK18 => ?_)
                  refine c_region ?_
                  refine s_move H wn rfl rfl ?_; clear H; intro a H
                  refine s_move H wn rfl rfl ?_; clear H; intro a H
                  refine s_index un33pt ty37pt _ H wn rfl rfl rfl (by first | assumption | omega) rfl ?_; clear H; intro a H
                  refine s_field fd37_2pt H wn rfl rfl ?_; clear H; intro a H
                  refine s_load ty3pt H wn rfl (H.hp.gcell (by assumption)) rfl ?_; clear H; intro a H
                  refine s_assign H wn rfl rfl ?_; clear H; intro a H
                  refine wl_nil ?_
                  refine hK18 _ _ ?_; clear hK18
                  refine c_seq (fun _ hK19 => ?_)
                  refine c_region ?_
                  refine s_move H wn rfl rfl ?_; clear H; intro a H
                  refine s_move H wn rfl rfl ?_; clear H; intro a H
                  refine s_index un33pt ty37pt _ H wn rfl rfl rfl (by first | assumption | omega) rfl ?_; clear H; intro a H
                  refine s_field fd37_3pt H wn rfl rfl ?_; clear H; intro a H
                  refine s_load ty4pt H wn rfl (H.hp.gcell (by assumption)) rfl ?_; clear H; intro a H
                  refine wl_nil ?_
                  refine hK19 _ _ ?_; clear hK19
                  refine c_cond H rfl ?_ ?_
                  · intro h68
                    try have p68 := of_decide_eq_true h68
                    refine c_region ?_
                    refine s_move H wn rfl rfl ?_; clear H; intro a H
                    refine s_add _ H wn rfl rfl rfl (by omega) (by omega) rfl ?_; clear H; intro a H
                    refine s_assign H wn rfl rfl ?_; clear H; intro a H
                    refine wl_nil ?_
                    refine hK15 _ _ ?_; clear hK15
                    refine c_region ?_
                    refine s_move H wn rfl rfl ?_; clear H; intro a H
                    refine s_add _ H wn rfl rfl rfl (by omega) (by omega) rfl ?_; clear H; intro a H
                    refine s_assign H wn rfl rfl ?_; clear H; intro a H
                    refine wl_nil ?_
                    refine loop_end ((i + 1, B[i].to, mk + 1)) (by exact (H).sub ⟨rfl, rfl, rfl, rfl, rfl, rfl, rfl, rfl, trivial⟩) ?_ ?_
                    · try dsimp only
                      exact ⟨by omega, ht3, by rw [h68, if_pos rfl] at hmi; unfold marksN at *; omega⟩
                    · first | omega | (dsimp only; omega)
                  · intro h68
                    try have p68 := of_decide_eq_false h68
                    refine c_skip ?_
                    refine hK15 _ _ ?_; clear hK15
                    refine c_region ?_
                    refine s_move H wn rfl rfl ?_; clear H; intro a H
                    refine s_add _ H wn rfl rfl rfl (by omega) (by omega) rfl ?_; clear H; intro a H
                    refine s_assign H wn rfl rfl ?_; clear H; intro a H
                    refine wl_nil ?_
                    refine loop_end ((i + 1, B[i].to, mk)) (by exact (H).sub ⟨rfl, rfl, rfl, rfl, rfl, rfl, rfl, rfl, trivial⟩) ?_ ?_
                    · try dsimp only
                      exact ⟨by omega, ht3, by rw [h68, if_neg (by decide)] at hmi; unfold marksN at *; omega⟩
                    · first | omega | (dsimp only; omega)
            · intro h40
              try have p40 := of_decide_eq_false h40
              refine c_exit ?_
              refine hK11 _ _ ?_; clear hK11
              refine c_seq (fun _ hK20 => ?_)
              refine c_seq (fun _ hK21 => ?_)
              have hie : B.drop i = [] := List.drop_of_length_le (by omega)
              rw [hie] at hti hmi
              have hti : tt = lenS l := hti
              have hmi : mk = parasN l := by rw [← hm, ← hmi]; rfl
              refine c_region ?_
              refine s_assign H wn rfl rfl ?_; clear H; intro a H
              refine wl_nil ?_
              refine hK21 _ _ ?_; clear hK21
              refine c_block ?_
              skip
              refine c_loopS (ι := Nat) (Tc := [(0, _), (3, _), (6, _), (7, _), (8, _)]) (Lc := []) (fun (gh : Nat) => [(9, vi (parasN (l.take gh))), (11, vi gh)]) (fun (gh : Nat) => []) (fun (gh : Nat) => G30) (fun (gh : Nat) => gh ≤ l.length) (fun (gh : Nat) => l.length - gh) (0) (by exact (H).sub ⟨rfl, rfl, rfl, rfl, rfl, rfl, rfl, trivial⟩) ?_ ?_
              · exact Nat.zero_le _
              · clear H; intro gh a w hI H
                obtain ⟨j, hgh⟩ : ∃ x, x = gh := ⟨_, rfl⟩; subst hgh
                have hj : j ≤ l.length := hI
                dsimp only [List.cons_append, List.nil_append, List.append_nil] at H
                refine c_seq (fun _ hK22 => ?_)
                refine c_seq (fun _ hK23 => ?_)
                refine c_region ?_
                refine s_move H wn rfl rfl ?_; clear H; intro a H
                refine s_move H wn rfl rfl ?_; clear H; intro a H
                refine s_len un28pt H wn rfl rfl ?_; clear H; intro a H
                refine s_cmp H wn rfl rfl rfl rfl ?_; clear H; intro a H
                refine wl_nil ?_
                refine hK23 _ _ ?_; clear hK23
                refine c_cond H rfl ?_ ?_
                · intro h74
                  try have p74 := of_decide_eq_true h74
                  have hj2 : j < l.length := by omega
                  obtain ⟨b, o, pA, pn, pc, dA, dn, dc, yA, yn, yc, fA, fn, fc, rA, rn, rc, he, hrow, hhd, hfl, hrw⟩ := flow_get hj2 hg
                  subst he
                  replace hrow := fun j u hj => gcell_mono (fun b o h => hm30 b o (hm27 b o (hm16 b o (hm12 b o h)))) (hrow j u hj)
                  have r4 : gcell G30 b (o + j * 11 + 0) = some (vi l[j].kind) := hrow 0 _ rfl
                  have hps : parasN (l.take (j + 1)) = parasN (l.take j) + if l[j].kind = 2 then 1 else 0 := parasN_succ hj2
                  have hpl : parasN (l.take j) ≤ l.length := Nat.le_trans List.countP_le_length (List.length_take_le' _ _)
                  refine c_skip ?_
                  refine hK22 _ _ ?_; clear hK22
                  refine c_seq (fun _ hK24 => ?_)
                  refine c_block ?_
                  refine c_seq (fun _ hK25 => ?_)
                  refine c_region ?_
                  refine s_move H wn rfl rfl ?_; clear H; intro a H
                  refine s_move H wn rfl rfl ?_; clear H; intro a H
                  refine s_index un28pt ty47pt _ H wn rfl rfl rfl (by first | assumption | omega) rfl ?_; clear H; intro a H
                  refine s_field fd47_0pt H wn rfl rfl ?_; clear H; intro a H
                  refine s_load ty3pt H wn rfl (H.hp.gcell (by assumption)) rfl ?_; clear H; intro a H
                  refine s_cmp H wn rfl rfl rfl rfl ?_; clear H; intro a H
                  refine wl_nil ?_
                  refine hK25 _ _ ?_; clear hK25
                  refine c_cond H rfl ?_ ?_
                  · intro h82
                    try have p82 := of_decide_eq_true h82
                    rw [if_pos p82] at hps
                    refine c_region ?_
                    refine s_move H wn rfl rfl ?_; clear H; intro a H
                    refine s_add _ H wn rfl rfl rfl (by omega) (by omega) rfl ?_; clear H; intro a H
                    rw [show ((parasN (l.take j) : Int) + 1) = (parasN (l.take (j + 1)) : Nat) by omega] at H
                    refine s_assign H wn rfl rfl ?_; clear H; intro a H
                    refine wl_nil ?_
                    refine hK24 _ _ ?_; clear hK24
                    refine c_region ?_
                    refine s_move H wn rfl rfl ?_; clear H; intro a H
                    refine s_add _ H wn rfl rfl rfl (by omega) (by omega) rfl ?_; clear H; intro a H
                    refine s_assign H wn rfl rfl ?_; clear H; intro a H
                    refine wl_nil ?_
                    refine loop_end ((j + 1)) (by exact (H).sub ⟨rfl, rfl, rfl, rfl, rfl, rfl, rfl, trivial⟩) ?_ ?_
                    · exact hj2
                    · first | omega | (dsimp only; omega)
                  · intro h82
                    try have p82 := of_decide_eq_false h82
                    rw [if_neg p82] at hps
                    replace hps : parasN (l.take (j + 1)) = parasN (l.take j) := hps
                    rw [← hps] at H
                    refine c_skip ?_
                    refine hK24 _ _ ?_; clear hK24
                    refine c_region ?_
                    refine s_move H wn rfl rfl ?_; clear H; intro a H
                    refine s_add _ H wn rfl rfl rfl (by omega) (by omega) rfl ?_; clear H; intro a H
                    refine s_assign H wn rfl rfl ?_; clear H; intro a H
                    refine wl_nil ?_
                    refine loop_end ((j + 1)) (by exact (H).sub ⟨rfl, rfl, rfl, rfl, rfl, rfl, rfl, trivial⟩) ?_ ?_
                    · exact hj2
                    · first | omega | (dsimp only; omega)
                · intro h74
                  try have p74 := of_decide_eq_false h74
                  refine c_exit ?_
                  refine hK20 _ _ ?_; clear hK20
                  refine c_seq (fun _ hK26 => ?_)
                  rw [show l.take j = l from List.take_of_length_le (by omega)] at H
                  refine c_region ?_
                  refine s_move H wn rfl rfl ?_; clear H; intro a H
                  refine s_cmp H wn rfl rfl rfl rfl ?_; clear H; intro a H
                  refine s_move H wn rfl rfl ?_; clear H; intro a H
                  refine s_split H 87 rfl ?_ ?_
                  · intro h87
                    try have p87 := of_decide_eq_true h87
                    refine s_move H (wg H rfl rfl h87) rfl rfl ?_; clear H; intro a H
                    refine s_move H (wg H rfl rfl h87) rfl rfl ?_; clear H; intro a H
                    refine s_cmp H (wg H rfl rfl h87) rfl rfl rfl rfl ?_; clear H; intro a H
                    refine s_pick_t H wn rfl h87 rfl rfl ?_; clear H; intro a H
                    refine s_move H wn rfl rfl ?_; clear H; intro a H
                    refine s_split H 92 rfl ?_ ?_
                    · intro h92
                      try have p92 := of_decide_eq_true h92
                      refine s_move H (wg H rfl rfl h92) rfl rfl ?_; clear H; intro a H
                      refine s_move H (wg H rfl rfl h92) rfl rfl ?_; clear H; intro a H
                      refine s_cmp H (wg H rfl rfl h92) rfl rfl rfl rfl ?_; clear H; intro a H
                      refine s_pick_t H wn rfl h92 rfl rfl ?_; clear H; intro a H
                      refine s_assign H wn rfl rfl ?_; clear H; intro a H
                      refine wl_nil ?_
                      refine hK26 _ _ ?_; clear hK26
                      refine c_ret ?_
                      refine (leave1 H Try.results4 (.cons (rv_tmp H rfl) .nil) ?_).1
                      exact H.hp.ret (by first | rfl | (rw [hmi]; simp))
                    · intro h92
                      try have p92 := of_decide_eq_false h92
                      exact absurd hti p92
                  · intro h87
                    try have p87 := of_decide_eq_false h87
                    exact absurd h87 (by decide)
end Go.Proofs.Ytbfdhlakbdadhaa
