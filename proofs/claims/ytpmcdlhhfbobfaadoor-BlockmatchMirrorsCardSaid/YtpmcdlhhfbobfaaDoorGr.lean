/-
  Package obeluslaw31: greatest.
-/
import Derived.Test.YtpmcdlhhfbobfaaDoorTot
namespace Go.Proofs.YtpmcdlhhfbobfaaDoor
open Go.RowKit
theorem un23gr : Tryd.prog.underlying 23 = some (.slice 32) := by kernel_rfl
theorem ty32gr : Ty Tryd.prog 32 1 24 [.slice none 0 0] false := ⟨by kernel_rfl, by kernel_rfl⟩
theorem en13gr : ∀ args w, (callFunc 13 args).run Tryd.prog w = .ok (.enter 13 args) w := enters Tryd.func13 rfl (by kernel_rfl)
theorem un32gr : Tryd.prog.underlying 32 = some (.slice 3) := by kernel_rfl
theorem ty3gr : Ty Tryd.prog 3 1 8 [.int .i64 0] false := ⟨by kernel_rfl, by kernel_rfl⟩
/-- A table that Best takes. -/
structure TabOk (S : List (List Int)) (m : Nat) : Prop where
  wid : ∀ r ∈ S, r.length = m
  len : S.length ≤ 1024 ∧ m ≤ 1024
  ok : ∀ i k, i < S.length → k < m → 0 ≤ sAt S i k ∧ sAt S i k ≤ 1000
theorem fstErr_zero : ∀ {l : List Int}, fstErr l = 0 → ∀ e ∈ l, e = 0
  | [], _, e, h => by cases h
  | x :: l, h, e, he => by
    rw [fstErr] at h
    split at h
    · rename_i hx
      rcases List.mem_cons.1 he with rfl | he
      · exact hx
      exact fstErr_zero h e he
    exact absurd h (by assumption)
theorem chk_tab {S : List (List Int)} (h : chkS S = 0) : TabOk S (S.headD []).length := by
  rw [chkS] at h
  split at h
  · exact absurd h (by decide)
  rename_i hl
  have hr : ∀ r ∈ S, ¬ 1024 < r.length ∧ r.length = (S.headD []).length ∧ r.all okN = true := by
    intro r hr; have h0 := fstErr_zero h _ (List.mem_map.2 ⟨r, hr, rfl⟩); rw [rowChk] at h0
    split at h0
    · exact absurd h0 (by decide)
    split at h0
    · exact absurd h0 (by decide)
    rename_i h1 h2
    split at h0
    · rename_i h3; exact ⟨h1, Decidable.not_not.1 h2, h3⟩
    exact absurd h0 (by decide)
  refine ⟨fun r h => (hr r h).2.1, ⟨by omega, ?_⟩, fun i k hi hk => ?_⟩
  · cases S with
    | nil => exact Nat.zero_le _
    | cons r S => have := hr r (List.mem_cons_self ..); rw [List.headD_cons]; omega
  have hx := hr _ (List.getElem_mem hi)
  have hk2 : k < S[i].length := by omega
  rw [sAt_eq hi hk2]; have h3 := List.all_eq_true.1 hx.2.2 _ (List.getElem_mem hk2)
  simpa [okN] using h3
theorem TabOk.row {G : GH} {S : List (List Int)} {m i k : Nat} (hS : TabOk S m) {A : Option Addr} {n c : Nat} (hv : RepV G (.sl 1 (S.map rowDat)) (.slice A n c)) (hi : i < S.length) (hk : k < m) :
    ∃ b o nb no bc, A = some ⟨b, o, none⟩ ∧ gcell G b (o + i * 1) = some (.slice (some ⟨nb, no, none⟩) m bc) ∧ gcell G nb (no + k * 1) = some (vi (sAt S i k)) := by
  obtain ⟨b, o, bA, bc, rfl, g1, g2⟩ := mat_row hv hi; have hw : S[i].length = m := hS.wid _ (List.getElem_mem hi); obtain ⟨nb, no, rfl, g3⟩ := num_at g2 (show k < S[i].length by omega); exact ⟨b, o, nb, no, bc, rfl, by rw [g1, hw], by rw [g3, sAt_eq hi (by omega)]⟩
set_option maxHeartbeats 1000000 in
theorem greatest_step {S : List (List Int)} {m : Nat} (hS : TabOk S m) {q : Nat}
    (ih : ∀ (G : GH) (w0 : World), Hold G w0 → ∀ (v : Value), RepV G (.sl 1 (S.map rowDat)) v → ∀ (i k : Nat), i ≤ 4096 → k ≤ 4096 → (S.length - i) + (m - k) < q → i ≤ S.length → k ≤ m → Calls Tryd.prog 13 #[v, vi i, vi k] w0 (Ret w0 G fun r G' => r = vi (tot (sAt S) S.length m i k)))
    (G : GH) (w0 : World) (hG : Hold G w0) (v : Value) (hv : RepV G (.sl 1 (S.map rowDat)) v) (i k : Nat) (hi2 : i ≤ 4096) (hk2 : k ≤ 4096) (hq : (S.length - i) + (m - k) ≤ q) :
    Calls Tryd.prog 13 #[v, vi i, vi k] w0 (Ret w0 G fun r G' => r = vi (tot (sAt S) S.length m i k)) := by
  obtain ⟨A, c, rfl, hc1, hc2, -⟩ := hv.slice; have hml : maxLen = 9223372036854775807 := rfl; have hln := hS.len; have htb : ∀ i k, 0 ≤ tot (sAt S) S.length m i k ∧ tot (sAt S) S.length m i k ≤ 1000 * ((S.length - i : Nat) : Int) := fun i k => tot_bound (fun i k hi hk => (hS.ok i k hi hk).2) _ i k (Nat.le_refl _); rw [List.length_map] at *; refine enter (N := 57) (T := [(0, _), (1, _), (2, _)]) (F := fun k => k < w0.heap.size) (L := []) Tryd.func13 rfl Tryd.ntmps13 rfl rfl hG (fun _ h => h) (fun _ h => by cases h) (fun _ h => by cases h) (fun _ h => by cases h) List.Pairwise.nil ?_; intro a H; refine c_seq (fun _ hK1 => ?_); refine c_region ?_; refine s_assign H wn rfl rfl ?_; clear H; intro a H; refine wl_nil ?_; refine hK1 _ _ ?_; clear hK1; refine c_seq (fun _ hK2 => ?_); refine c_seq (fun _ hK3 => ?_); refine c_region ?_; (iterate 2 refine s_move H wn rfl rfl ?_; clear H; intro a H); refine s_len un23gr H wn rfl rfl ?_; clear H; intro a H; refine s_cmp H wn rfl rfl rfl rfl ?_; clear H; intro a H; refine s_move H wn rfl rfl ?_; clear H; intro a H; refine s_split H 12 rfl ?_ ?_
  · intro h12
    try have p12 := of_decide_eq_true h12
    (iterate 7 refine s_skip H rfl rfl h12 rfl ?_; clear H; intro a H); refine s_pick_t H wn rfl h12 rfl rfl ?_; clear H; intro a H; refine wl_nil ?_; refine hK3 _ _ ?_; clear hK3; refine c_cond_t H rfl rfl ?_; refine c_seq (fun _ hK4 => ?_); refine c_region ?_; refine s_assign H wn rfl rfl ?_; clear H; intro a H; refine wl_nil ?_; refine hK4 _ _ ?_; clear hK4; refine c_ret ?_; refine (leave1 H Tryd.results13 (.cons (rv_tmp H rfl) .nil) ?_).1
    first
      | exact H.hp.ret (by rw [tot_out (by omega)])
      | exact H.hp.ret (by rw [hin, if_pos (by omega), Int.max_eq_left (by omega : (-1 : Int) ≤ _)])
      | exact H.hp.ret (by rw [hin, if_neg (by omega)])
  intro h12
  try have p12 := of_decide_eq_false h12
  have hi : i < S.length := by omega
  obtain ⟨b, o, bA, bc, rfl, g1, g2⟩ := mat_row hv hi; have hw : S[i].length = m := hS.wid _ (List.getElem_mem hi); (iterate 3 refine s_move H (wg H rfl rfl h12) rfl rfl ?_; clear H; intro a H); refine s_index un23gr ty32gr i H (wg H rfl rfl h12) rfl rfl rfl hi rfl ?_; clear H; intro a H; refine s_load ty32gr H (wg H rfl rfl h12) rfl (H.hp.gcell g1) rfl ?_; clear H; intro a H; rw [hw] at H; refine s_len un32gr H (wg H rfl rfl h12) rfl rfl ?_; clear H; intro a H; refine s_cmp H (wg H rfl rfl h12) rfl rfl rfl rfl ?_; clear H; intro a H; refine s_pick_f H wn rfl h12 rfl rfl ?_; clear H; intro a H; refine wl_nil ?_; refine hK3 _ _ ?_; clear hK3; refine c_cond H rfl ?_ ?_
  · intro h20
    try have p20 := of_decide_eq_true h20
    refine c_seq (fun _ hK5 => ?_); refine c_region ?_; refine s_assign H wn rfl rfl ?_; clear H; intro a H; refine wl_nil ?_; refine hK5 _ _ ?_; clear hK5; refine c_ret ?_; refine (leave1 H Tryd.results13 (.cons (rv_tmp H rfl) .nil) ?_).1
    first
      | exact H.hp.ret (by rw [tot_out (by omega)])
      | exact H.hp.ret (by rw [hin, if_pos (by omega), Int.max_eq_left (by omega : (-1 : Int) ≤ _)])
      | exact H.hp.ret (by rw [hin, if_neg (by omega)])
  intro h20
  try have p20 := of_decide_eq_false h20
  have hk : k < m := by omega
  have hin := tot_in (s := sAt S) hi hk; have hok := hS.ok i k hi hk; have hb1 := htb (i + 1) k; have hb2 := htb i (k + 1); have hb3 := htb (i + 1) (k + 1); have hse := sAt_eq hi (show k < S[i].length by omega); rw [hw] at g1 g2; refine c_skip ?_; refine hK2 _ _ ?_; clear hK2; refine c_seq (fun _ hK6 => ?_); refine c_region ?_; (iterate 2 refine s_move H wn rfl rfl ?_; clear H; intro a H); refine s_add _ H wn rfl rfl rfl (by omega) (by omega) rfl ?_; clear H; intro a H; refine s_move H wn rfl rfl ?_; clear H; intro a H; rw [show ((i : Int) + 1) = ((i + 1 : Nat) : Int) from rfl] at H; refine s_call en13gr H wn rfl (ih _ _ H.hp.ro _ hv (i + 1) k (by omega) hk2 (by omega) (by omega) (by omega)) rfl ?_; clear H; rintro v25 G25 a w rfl hm25 H; (iterate 3 refine s_move H wn rfl rfl ?_; clear H; intro a H); refine s_add _ H wn rfl rfl rfl (by omega) (by omega) rfl ?_; clear H; intro a H; rw [show ((k : Int) + 1) = ((k + 1 : Nat) : Int) from rfl] at H; refine s_call en13gr H wn rfl (ih _ _ H.hp.ro _ (hv.mono hm25) i (k + 1) hi2 (by omega) (by omega) (by omega) (by omega)) rfl ?_; clear H; rintro v30 G30 a w rfl hm30 H; have g1 := gcell_mono hm30 (gcell_mono hm25 g1); have g2 := (g2.mono hm25).mono hm30; have hvt := (hv.mono hm25).mono hm30; obtain ⟨nb, no, rfl, gn⟩ := num_at g2 (show k < S[i].length by omega); rw [← hse] at gn; refine s_max H wn rfl rfl rfl ?_; clear H; intro a H; refine s_assign H wn rfl rfl ?_; clear H; intro a H; refine wl_nil ?_; refine hK6 _ _ ?_; clear hK6; refine c_seq (fun _ hK7 => ?_); refine c_seq (fun _ hK8 => ?_); refine c_region ?_; (iterate 2 refine s_move H wn rfl rfl ?_; clear H; intro a H); refine s_index un23gr ty32gr i H wn rfl rfl rfl hi rfl ?_; clear H; intro a H; refine s_load ty32gr H wn rfl (H.hp.gcell g1) rfl ?_; clear H; intro a H; refine s_move H wn rfl rfl ?_; clear H; intro a H; refine s_index un32gr ty3gr k H wn rfl rfl rfl hk rfl ?_; clear H; intro a H; refine s_load ty3gr H wn rfl (H.hp.gcell gn) rfl ?_; clear H; intro a H; refine s_cmp H wn rfl rfl rfl rfl ?_; clear H; intro a H; refine wl_nil ?_; refine hK8 _ _ ?_; clear hK8; refine c_cond H rfl ?_ ?_
  · intro h39
    try have p39 := of_decide_eq_true h39
    have hprm5 : ∀ (ix_ : Nat) (v : Value) (G G' : GH), (∀ k o, G k = some o → G' k = some o) → (fun (ix_ : Nat) (v : Value) (G : GH) => match ix_ with | 0 => v = vi (max (tot (sAt S) S.length m (i + 1) k) (tot (sAt S) S.length m i (k + 1))) | 1 => v = .slice (some ⟨b, o, none⟩) S.length c | 2 => v = vi i | 3 => v = .pointer (some ⟨b, o + i * 1, none⟩) | 4 => v = .slice (some ⟨nb, no, none⟩) m bc | 5 => v = vi k | 6 => v = .pointer (some ⟨nb, no + k * 1, none⟩) | 7 => v = vi (sAt S i k) | 8 => v = .slice (some ⟨b, o, none⟩) S.length c | 9 => v = vi i | 10 => v = vi ((i : Int) + 1) | 11 => v = vi k | 12 => v = vi ((k : Int) + 1) | 13 => v = vi (tot (sAt S) S.length m (i + 1) (k + 1)) | 14 => v = vi (sAt S i k + tot (sAt S) S.length m (i + 1) (k + 1)) | 15 => v = vi (max (max (tot (sAt S) S.length m (i + 1) k) (tot (sAt S) S.length m i (k + 1))) (sAt S i k + tot (sAt S) S.length m (i + 1) (k + 1))) | _ => True) ix_ v G → (fun (ix_ : Nat) (v : Value) (G : GH) => match ix_ with | 0 => v = vi (max (tot (sAt S) S.length m (i + 1) k) (tot (sAt S) S.length m i (k + 1))) | 1 => v = .slice (some ⟨b, o, none⟩) S.length c | 2 => v = vi i | 3 => v = .pointer (some ⟨b, o + i * 1, none⟩) | 4 => v = .slice (some ⟨nb, no, none⟩) m bc | 5 => v = vi k | 6 => v = .pointer (some ⟨nb, no + k * 1, none⟩) | 7 => v = vi (sAt S i k) | 8 => v = .slice (some ⟨b, o, none⟩) S.length c | 9 => v = vi i | 10 => v = vi ((i : Int) + 1) | 11 => v = vi k | 12 => v = vi ((k : Int) + 1) | 13 => v = vi (tot (sAt S) S.length m (i + 1) (k + 1)) | 14 => v = vi (sAt S i k + tot (sAt S) S.length m (i + 1) (k + 1)) | 15 => v = vi (max (max (tot (sAt S) S.length m (i + 1) k) (tot (sAt S) S.length m i (k + 1))) (sAt S i k + tot (sAt S) S.length m (i + 1) (k + 1))) | _ => True) ix_ v G' := by
      intro ix_ v G G' hm h
      match ix_, h with
      | 0, h => exact h
      | 1, h => exact h
      | 2, h => exact h
      | 3, h => exact h
      | 4, h => exact h
      | 5, h => exact h
      | 6, h => exact h
      | 7, h => exact h
      | 8, h => exact h
      | 9, h => exact h
      | 10, h => exact h
      | 11, h => exact h
      | 12, h => exact h
      | 13, h => exact h
      | 14, h => exact h
      | 15, h => exact h
      | 16, h => exact trivial
      | _ + 17, h => exact trivial
    refine c_drawI (hmxb) [[], [], [], [1, 2], [1, 2, 3], [], [1, 2, 3, 4, 5], [1, 2, 3, 4, 5, 6], [], [], [9], [], [11], [8, 9, 10, 11, 12], [1, 2, 3, 4, 5, 6, 7, 8, 9, 10, 11, 12, 13], [0, 1, 2, 3, 4, 5, 6, 7, 8, 9, 10, 11, 12, 13, 14], [0, 1, 2, 3, 4, 5, 6, 7, 8, 9, 10, 11, 12, 13, 14, 15]] [16] (by kernel_rfl) (by kernel_rfl) (fun (ix_ : Nat) (v : Value) (G : GH) => match ix_ with | 0 => v = vi (max (tot (sAt S) S.length m (i + 1) k) (tot (sAt S) S.length m i (k + 1))) | 1 => v = .slice (some ⟨b, o, none⟩) S.length c | 2 => v = vi i | 3 => v = .pointer (some ⟨b, o + i * 1, none⟩) | 4 => v = .slice (some ⟨nb, no, none⟩) m bc | 5 => v = vi k | 6 => v = .pointer (some ⟨nb, no + k * 1, none⟩) | 7 => v = vi (sAt S i k) | 8 => v = .slice (some ⟨b, o, none⟩) S.length c | 9 => v = vi i | 10 => v = vi ((i : Int) + 1) | 11 => v = vi k | 12 => v = vi ((k : Int) + 1) | 13 => v = vi (tot (sAt S) S.length m (i + 1) (k + 1)) | 14 => v = vi (sAt S i k + tot (sAt S) S.length m (i + 1) (k + 1)) | 15 => v = vi (max (max (tot (sAt S) S.length m (i + 1) k) (tot (sAt S) S.length m i (k + 1))) (sAt S i k + tot (sAt S) S.length m (i + 1) (k + 1))) | _ => True) hprm5 H ?_ ?_
    · clear H; refine (allI_cons ?_ (allI_cons ?_ (allI_cons ?_ (allI_cons ?_ (allI_cons ?_ (allI_cons ?_ (allI_cons ?_ (allI_cons ?_ (allI_cons ?_ (allI_cons ?_ (allI_cons ?_ (allI_cons ?_ (allI_cons ?_ (allI_cons ?_ (allI_cons ?_ (allI_cons ?_ (allI_cons ?_ allI_nil)))))))))))))))))
      · intro Sd_ a w G1 _ hSi hc hG HT hv; have H := HT; clear hSi; have Hb := H.full; have H := Hb; clear hc; refine s_move H wn rfl rfl ?_; clear H; intro a H; refine wl_nil ⟨rfl, ?_⟩; exact draw_val (by kernel_rfl) hprm5 rfl rfl HT Hb hG hv (fun _ _ h => h) (rfl) H
      · intro Sd_ a w G1 _ hSi hc hG HT hv; have H := HT; clear hSi; have Hb := H.full; have H := Hb; clear hc; refine s_move H wn rfl rfl ?_; clear H; intro a H; refine wl_nil ⟨rfl, ?_⟩; exact draw_val (by kernel_rfl) hprm5 rfl rfl HT Hb hG hv (fun _ _ h => h) (rfl) H
      · intro Sd_ a w G1 _ hSi hc hG HT hv; have H := HT; clear hSi; have Hb := H.full; have H := Hb; clear hc; refine s_move H wn rfl rfl ?_; clear H; intro a H; refine wl_nil ⟨rfl, ?_⟩; exact draw_val (by kernel_rfl) hprm5 rfl rfl HT Hb hG hv (fun _ _ h => h) (rfl) H
      · intro Sd_ a w G1 _ hSi hc hG HT hv; have H := HT; clear hSi; obtain ⟨u41, hu41, hp41⟩ := hv 1 41 (hc 1 (by decide)) rfl; obtain rfl : u41 = .slice (some ⟨b, o, none⟩) S.length c := hp41; have H := H.addS hu41; obtain ⟨u42, hu42, hp42⟩ := hv 2 42 (hc 2 (by decide)) rfl; obtain rfl : u42 = vi i := hp42; have H := H.addS hu42; have Hb := H.full; have H := Hb; clear hc; refine s_index un23gr ty32gr i H wn rfl rfl rfl hi rfl ?_; clear H; intro a H; refine wl_nil ⟨rfl, ?_⟩; exact draw_val (by kernel_rfl) hprm5 rfl rfl HT Hb hG hv (fun _ _ h => h) (rfl) H
      · intro Sd_ a w G1 _ hSi hc hG HT hv; have H := HT; clear hSi; obtain ⟨u43, hu43, hp43⟩ := hv 3 43 (hc 3 (by decide)) rfl; obtain rfl : u43 = .pointer (some ⟨b, o + i * 1, none⟩) := hp43; have H := H.addS hu43; have Hb := H.full; have H := Hb; clear hc; refine s_load ty32gr H wn rfl (H.hp.gcell (gcell_mono hG g1)) rfl ?_; clear H; intro a H; refine wl_nil ⟨rfl, ?_⟩; exact draw_val (by kernel_rfl) hprm5 rfl rfl HT Hb hG hv (fun _ _ h => h) (rfl) H
      · intro Sd_ a w G1 _ hSi hc hG HT hv; have H := HT; clear hSi; have Hb := H.full; have H := Hb; clear hc; refine s_move H wn rfl rfl ?_; clear H; intro a H; refine wl_nil ⟨rfl, ?_⟩; exact draw_val (by kernel_rfl) hprm5 rfl rfl HT Hb hG hv (fun _ _ h => h) (rfl) H
      · intro Sd_ a w G1 _ hSi hc hG HT hv; have H := HT; clear hSi; obtain ⟨u44, hu44, hp44⟩ := hv 4 44 (hc 4 (by decide)) rfl; obtain rfl : u44 = .slice (some ⟨nb, no, none⟩) m bc := hp44; have H := H.addS hu44; obtain ⟨u45, hu45, hp45⟩ := hv 5 45 (hc 5 (by decide)) rfl; obtain rfl : u45 = vi k := hp45; have H := H.addS hu45; have Hb := H.full; have H := Hb; clear hc; refine s_index un32gr ty3gr k H wn rfl rfl rfl hk rfl ?_; clear H; intro a H; refine wl_nil ⟨rfl, ?_⟩; exact draw_val (by kernel_rfl) hprm5 rfl rfl HT Hb hG hv (fun _ _ h => h) (rfl) H
      · intro Sd_ a w G1 _ hSi hc hG HT hv; have H := HT; clear hSi; obtain ⟨u46, hu46, hp46⟩ := hv 6 46 (hc 6 (by decide)) rfl; obtain rfl : u46 = .pointer (some ⟨nb, no + k * 1, none⟩) := hp46; have H := H.addS hu46; have Hb := H.full; have H := Hb; clear hc; refine s_load ty3gr H wn rfl (H.hp.gcell (gcell_mono hG gn)) rfl ?_; clear H; intro a H; refine wl_nil ⟨rfl, ?_⟩; exact draw_val (by kernel_rfl) hprm5 rfl rfl HT Hb hG hv (fun _ _ h => h) (rfl) H
      · intro Sd_ a w G1 _ hSi hc hG HT hv; have H := HT; clear hSi; have Hb := H.full; have H := Hb; clear hc; refine s_move H wn rfl rfl ?_; clear H; intro a H; refine wl_nil ⟨rfl, ?_⟩; exact draw_val (by kernel_rfl) hprm5 rfl rfl HT Hb hG hv (fun _ _ h => h) (rfl) H
      · intro Sd_ a w G1 _ hSi hc hG HT hv; have H := HT; clear hSi; have Hb := H.full; have H := Hb; clear hc; refine s_move H wn rfl rfl ?_; clear H; intro a H; refine wl_nil ⟨rfl, ?_⟩; exact draw_val (by kernel_rfl) hprm5 rfl rfl HT Hb hG hv (fun _ _ h => h) (rfl) H
      · intro Sd_ a w G1 _ hSi hc hG HT hv; have H := HT; clear hSi; obtain ⟨u49, hu49, hp49⟩ := hv 9 49 (hc 9 (by decide)) rfl; obtain rfl : u49 = vi i := hp49; have H := H.addS hu49; have Hb := H.full; have H := Hb; clear hc; refine s_add _ H wn rfl rfl rfl (by omega) (by omega) rfl ?_; clear H; intro a H; refine wl_nil ⟨rfl, ?_⟩; exact draw_val (by kernel_rfl) hprm5 rfl rfl HT Hb hG hv (fun _ _ h => h) (rfl) H
      · intro Sd_ a w G1 _ hSi hc hG HT hv; have H := HT; clear hSi; have Hb := H.full; have H := Hb; clear hc; refine s_move H wn rfl rfl ?_; clear H; intro a H; refine wl_nil ⟨rfl, ?_⟩; exact draw_val (by kernel_rfl) hprm5 rfl rfl HT Hb hG hv (fun _ _ h => h) (rfl) H
      · intro Sd_ a w G1 _ hSi hc hG HT hv; have H := HT; clear hSi; obtain ⟨u51, hu51, hp51⟩ := hv 11 51 (hc 11 (by decide)) rfl; obtain rfl : u51 = vi k := hp51; have H := H.addS hu51; have Hb := H.full; have H := Hb; clear hc; refine s_add _ H wn rfl rfl rfl (by omega) (by omega) rfl ?_; clear H; intro a H; refine wl_nil ⟨rfl, ?_⟩; exact draw_val (by kernel_rfl) hprm5 rfl rfl HT Hb hG hv (fun _ _ h => h) (rfl) H
      · intro Sd_ a w G1 _ hSi hc hG HT hv; have H := HT; clear hSi; obtain ⟨u48, hu48, hp48⟩ := hv 8 48 (hc 8 (by decide)) rfl; obtain rfl : u48 = .slice (some ⟨b, o, none⟩) S.length c := hp48; have H := H.addS hu48; obtain ⟨u50, hu50, hp50⟩ := hv 10 50 (hc 10 (by decide)) rfl; obtain rfl : u50 = vi ((i : Int) + 1) := hp50; have H := H.addS hu50; obtain ⟨u52, hu52, hp52⟩ := hv 12 52 (hc 12 (by decide)) rfl; obtain rfl : u52 = vi ((k : Int) + 1) := hp52; have H := H.addS hu52; have Hb := H.full; have H := Hb; clear hc; rw [show ((i : Int) + 1) = ((i + 1 : Nat) : Int) from rfl, show ((k : Int) + 1) = ((k + 1 : Nat) : Int) from rfl] at H; refine s_call en13gr H wn rfl (ih _ _ H.hp.ro _ (hvt.mono hG) (i + 1) (k + 1) (by omega) (by omega) (by omega) (by omega) (by omega)) rfl ?_; clear H; rintro v53 G53 a w rfl hGm53 H; refine wl_nil ⟨rfl, ?_⟩; exact draw_val (by kernel_rfl) hprm5 rfl rfl HT Hb hG hv hGm53 (rfl) H
      · intro Sd_ a w G1 _ hSi hc hG HT hv; have H := HT; clear hSi; obtain ⟨u47, hu47, hp47⟩ := hv 7 47 (hc 7 (by decide)) rfl; obtain rfl : u47 = vi (sAt S i k) := hp47; have H := H.addS hu47; obtain ⟨u53, hu53, hp53⟩ := hv 13 53 (hc 13 (by decide)) rfl; obtain rfl : u53 = vi (tot (sAt S) S.length m (i + 1) (k + 1)) := hp53; have H := H.addS hu53; have Hb := H.full; have H := Hb; clear hc; refine s_add _ H wn rfl rfl rfl (by omega) (by omega) rfl ?_; clear H; intro a H; refine wl_nil ⟨rfl, ?_⟩; exact draw_val (by kernel_rfl) hprm5 rfl rfl HT Hb hG hv (fun _ _ h => h) (rfl) H
      · intro Sd_ a w G1 _ hSi hc hG HT hv; have H := HT; clear hSi; obtain ⟨u40, hu40, hp40⟩ := hv 0 40 (hc 0 (by decide)) rfl; obtain rfl : u40 = vi (max (tot (sAt S) S.length m (i + 1) k) (tot (sAt S) S.length m i (k + 1))) := hp40; have H := H.addS hu40; obtain ⟨u54, hu54, hp54⟩ := hv 14 54 (hc 14 (by decide)) rfl; obtain rfl : u54 = vi (sAt S i k + tot (sAt S) S.length m (i + 1) (k + 1)) := hp54; have H := H.addS hu54; have Hb := H.full; have H := Hb; clear hc; refine s_max H wn rfl rfl rfl ?_; clear H; intro a H; refine wl_nil ⟨rfl, ?_⟩; exact draw_val (by kernel_rfl) hprm5 rfl rfl HT Hb hG hv (fun _ _ h => h) (rfl) H
      intro _ _ _ _ hB; exact absurd hB (by decide)
    clear H; intro a w G hGm5 H hv; obtain ⟨u55, hu55, hp55⟩ := hv 15 55 (by decide) rfl; obtain rfl : u55 = vi (max (max (tot (sAt S) S.length m (i + 1) k) (tot (sAt S) S.length m i (k + 1))) (sAt S i k + tot (sAt S) S.length m (i + 1) (k + 1))) := hp55; have H := H.addS hu55; clear hv; refine s_assign H wn rfl rfl ?_; clear H; intro a H; refine wl_nil ⟨rfl, ?_⟩; refine hK7 _ _ ?_; clear hK7; refine c_seq (fun _ hK9 => ?_); refine c_region ?_; refine s_move H wn rfl rfl ?_; clear H; intro a H; refine s_assign H wn rfl rfl ?_; clear H; intro a H; refine wl_nil ?_; refine hK9 _ _ ?_; clear hK9; refine c_ret ?_; refine (leave1 H Tryd.results13 (.cons (rv_tmp H rfl) .nil) ?_).1
    first
      | exact H.hp.ret (by rw [tot_out (by omega)])
      | exact H.hp.ret (by rw [hin, if_pos (by omega), Int.max_eq_left (by omega : (-1 : Int) ≤ _)])
      | exact H.hp.ret (by rw [hin, if_neg (by omega)])
  intro h39
  try have p39 := of_decide_eq_false h39
  refine c_skip ?_; refine hK7 _ _ ?_; clear hK7; refine c_seq (fun _ hK10 => ?_); refine c_region ?_; refine s_move H wn rfl rfl ?_; clear H; intro a H; refine s_assign H wn rfl rfl ?_; clear H; intro a H; refine wl_nil ?_; refine hK10 _ _ ?_; clear hK10; refine c_ret ?_; refine (leave1 H Tryd.results13 (.cons (rv_tmp H rfl) .nil) ?_).1
  first
    | exact H.hp.ret (by rw [tot_out (by omega)])
    | exact H.hp.ret (by rw [hin, if_pos (by omega), Int.max_eq_left (by omega : (-1 : Int) ≤ _)])
    | exact H.hp.ret (by rw [hin, if_neg (by omega)])
theorem greatest_spec {S : List (List Int)} {m : Nat} (hS : TabOk S m) : ∀ (q : Nat) (G : GH) (w0 : World), Hold G w0 → ∀ (v : Value), RepV G (.sl 1 (S.map rowDat)) v → ∀ (i k : Nat), i ≤ 4096 → k ≤ 4096 → (S.length - i) + (m - k) ≤ q →
    Calls Tryd.prog 13 #[v, vi i, vi k] w0 (Ret w0 G fun r G' => r = vi (tot (sAt S) S.length m i k)) := by
  intro q
  induction q with
  | zero =>
    intro G w0 hG v hv i k hi2 hk2 hq; exact greatest_step hS (fun _ _ _ _ _ _ _ _ _ _ h1 h2 => by omega) G w0 hG v hv i k hi2 hk2 hq
  | succ q ih =>
    intro G w0 hG v hv i k hi2 hk2 hq; exact greatest_step hS (fun G w0 hG v hv i k hi2 hk2 h h1 h2 => ih G w0 hG v hv i k hi2 hk2 (by omega)) G w0 hG v hv i k hi2 hk2 hq
end Go.Proofs.YtpmcdlhhfbobfaaDoor
