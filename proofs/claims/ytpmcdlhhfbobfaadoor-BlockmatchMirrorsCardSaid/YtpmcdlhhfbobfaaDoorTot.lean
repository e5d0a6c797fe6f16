/-
  Package obeluslaw31: total, same, check.
-/
import Derived.Test.YtpmcdlhhfbobfaaDoorKw
import Derived.Test.YtpmcdlhhfbobfaaDoorMp
namespace Go.Proofs.YtpmcdlhhfbobfaaDoor
open Go.RowKit
theorem un25tot : Tryd.prog.underlying 25 = some (.slice 31) := by kernel_rfl
theorem ty31tot : Ty Tryd.prog 31 3 24 [.int .i64 0, .int .i64 0, .int .i64 0] true := ⟨by kernel_rfl, by kernel_rfl⟩
theorem ty3tot : Ty Tryd.prog 3 1 8 [.int .i64 0] false := ⟨by kernel_rfl, by kernel_rfl⟩
theorem fd31_2tot : Fld Tryd.prog 31 2 2 := ⟨by kernel_rfl⟩
theorem eqs31tot : EqS Tryd.prog 31 [(0, false), (1, false), (2, false)] := ⟨by kernel_rfl, by kernel_rfl, by kernel_rfl, by kernel_rfl, by kernel_rfl⟩
theorem un23tot : Tryd.prog.underlying 23 = some (.slice 32) := by kernel_rfl
theorem ty32tot : Ty Tryd.prog 32 1 24 [.slice none 0 0] false := ⟨by kernel_rfl, by kernel_rfl⟩
theorem un32tot : Tryd.prog.underlying 32 = some (.slice 3) := by kernel_rfl
def sumM : List MatchD → Int
  | [] => 0
  | x :: l => x.score + sumM l
theorem sumM_snoc (l : List MatchD) (x : MatchD) : sumM (l ++ [x]) = sumM l + x.score := by
  induction l with
  | nil => simp [sumM]
  | cons y l ih => simp only [List.cons_append, sumM, ih]; omega
theorem sumM_in : ∀ (l : List MatchD), (∀ x ∈ l, 0 ≤ x.score ∧ x.score ≤ 1000) → 0 ≤ sumM l ∧ sumM l ≤ 1000 * l.length
  | [], _ => by simp [sumM]
  | x :: l, h => by
    have h1 := h x (List.mem_cons_self ..); have h2 := sumM_in l fun y hy => h y (List.mem_cons_of_mem _ hy)
    simp only [sumM, List.length_cons]; omega
theorem total_spec (G : GH) (w0 : World) (hG : Hold G w0) (l : List MatchD) (v : Value) (hv : RepV G (.sl 3 (l.map MatchD.dat)) v) (hs : ∀ x ∈ l, 0 ≤ x.score ∧ x.score ≤ 1000) (hz : l.length ≤ 1048576) :
    Calls Tryd.prog 12 #[v] w0 (Ret w0 G fun r G' => r = vi (sumM l) ∧ G = G') := by
  obtain ⟨A, c, rfl, hc1, hc2, -⟩ := hv.slice; have hml : maxLen = 9223372036854775807 := rfl; rw [List.length_map] at *; refine enter (N := 19) (T := [(0, _)]) (F := fun k => k < w0.heap.size) (L := []) Tryd.func12 rfl Tryd.ntmps12 rfl rfl hG (fun _ h => h) (fun _ h => by cases h) (fun _ h => by cases h) (fun _ h => by cases h) List.Pairwise.nil ?_; intro a H; refine c_seq (fun _ hK1 => ?_); refine c_region ?_; refine s_assign H wn rfl rfl ?_; clear H; intro a H; refine wl_nil ?_; refine hK1 _ _ ?_; clear hK1; refine c_seq (fun _ hK2 => ?_); refine c_region ?_; refine s_assign H wn rfl rfl ?_; clear H; intro a H; refine wl_nil ?_; refine hK2 _ _ ?_; clear hK2; refine c_seq (fun _ hK3 => ?_); refine c_seq (fun _ hK4 => ?_); refine c_region ?_; refine s_assign H wn rfl rfl ?_; clear H; intro a H; refine wl_nil ?_; refine hK4 _ _ ?_; clear hK4; refine c_block ?_; skip; refine c_loopS (ι := Nat) (Tc := [(0, _)]) (Lc := []) (fun (gh : Nat) => [(3, vi (sumM (l.take gh))), (4, vi gh)]) (fun (gh : Nat) => []) (fun (gh : Nat) => G) (fun (gh : Nat) => gh ≤ l.length) (fun (gh : Nat) => l.length - gh) (0) (by exact (H).sub ⟨rfl, rfl, rfl, trivial⟩) ?_ ?_
  · exact Nat.zero_le _
  clear H; intro gh a w hI H; obtain ⟨k, hgh⟩ : ∃ x, x = gh := ⟨_, rfl⟩; subst hgh; have hk := hI; dsimp only [List.cons_append, List.nil_append, List.append_nil] at H; refine c_seq (fun _ hK5 => ?_); refine c_seq (fun _ hK6 => ?_); refine c_region ?_; (iterate 2 refine s_move H wn rfl rfl ?_; clear H; intro a H); refine s_len un25tot H wn rfl rfl ?_; clear H; intro a H; refine s_cmp H wn rfl rfl rfl rfl ?_; clear H; intro a H; refine wl_nil ?_; refine hK6 _ _ ?_; clear hK6; refine c_cond H rfl ?_ ?_
  · intro h8
    try have p8 := of_decide_eq_true h8
    have hk1 : k < l.length := by omega
    obtain ⟨b, o, rfl, hrow⟩ := match_at hv hk1
    have hsu : sumM (l.take (k + 1)) = sumM (l.take k) + l[k].score := by rw [List.take_succ_eq_append_getElem hk1, sumM_snoc]
    have hin := sumM_in (l.take (k + 1)) (fun x hx => hs x (List.mem_of_mem_take hx))
    have htk : (l.take (k + 1)).length ≤ l.length := by rw [List.length_take]; omega
    refine c_skip ?_; refine hK5 _ _ ?_; clear hK5; refine c_seq (fun _ hK7 => ?_); refine c_block ?_; refine c_region ?_; (iterate 3 refine s_move H wn rfl rfl ?_; clear H; intro a H); refine s_index un25tot ty31tot k H wn rfl rfl rfl hk1 rfl ?_; clear H; intro a H; refine s_field fd31_2tot H wn rfl rfl ?_; clear H; intro a H; refine s_load ty3tot H wn rfl (H.hp.gcell (hrow 2 _ rfl)) rfl ?_; clear H; intro a H; refine s_add _ H wn rfl rfl rfl (by omega) (by omega) rfl ?_; clear H; intro a H; rw [← hsu] at H; refine s_assign H wn rfl rfl ?_; clear H; intro a H; refine wl_nil ?_; refine hK7 _ _ ?_; clear hK7; refine c_region ?_; refine s_move H wn rfl rfl ?_; clear H; intro a H; refine s_add _ H wn rfl rfl rfl (by omega) (by omega) rfl ?_; clear H; intro a H; refine s_assign H wn rfl rfl ?_; clear H; intro a H; refine wl_nil ?_; refine loop_end ((k + 1)) (by exact (H).sub ⟨rfl, rfl, rfl, trivial⟩) ?_ ?_
    · omega
    first | omega | (dsimp only; omega)
  intro h8
  try have p8 := of_decide_eq_false h8
  refine c_exit ?_; refine hK3 _ _ ?_; clear hK3; refine c_seq (fun _ hK8 => ?_); rw [show l.take k = l from List.take_of_length_le (by omega)] at H; refine c_region ?_; refine s_move H wn rfl rfl ?_; clear H; intro a H; refine s_assign H wn rfl rfl ?_; clear H; intro a H; refine wl_nil ?_; refine hK8 _ _ ?_; clear hK8; refine c_ret ?_; refine (leave1 H Tryd.results12 (.cons (rv_tmp H rfl) .nil) ?_).1; exact H.hp.ret ⟨rfl, rfl⟩
theorem same_spec (G : GH) (w0 : World) (hG : Hold G w0) (l : List MatchD) (v u : Value) (hv : RepV G (.sl 3 (l.map MatchD.dat)) v) (hu : RepV G (.sl 3 (l.map MatchD.dat)) u) :
    Calls Tryd.prog 15 #[v, u] w0 (Ret w0 G fun r G' => r = .bool true) := by
  obtain ⟨A, c, rfl, hc1, hc2, -⟩ := hv.slice; obtain ⟨B, c2, rfl, hd1, hd2, -⟩ := hu.slice; have hml : maxLen = 9223372036854775807 := rfl; rw [List.length_map] at *; refine enter (N := 26) (T := [(0, _), (1, _)]) (F := fun k => k < w0.heap.size) (L := []) Tryd.func15 rfl Tryd.ntmps15 rfl rfl hG (fun _ h => h) (fun _ h => by cases h) (fun _ h => by cases h) (fun _ h => by cases h) List.Pairwise.nil ?_; intro a H; refine c_seq (fun _ hK1 => ?_); refine c_region ?_; refine s_assign H wn rfl rfl ?_; clear H; intro a H; refine wl_nil ?_; refine hK1 _ _ ?_; clear hK1; refine c_seq (fun _ hK2 => ?_); refine c_seq (fun _ hK3 => ?_); refine c_region ?_; refine s_move H wn rfl rfl ?_; clear H; intro a H; refine s_len un25tot H wn rfl rfl ?_; clear H; intro a H; refine s_move H wn rfl rfl ?_; clear H; intro a H; refine s_len un25tot H wn rfl rfl ?_; clear H; intro a H; refine s_cmp H wn rfl rfl rfl rfl ?_; clear H; intro a H; refine wl_nil ?_; refine hK3 _ _ ?_; clear hK3; refine c_cond H rfl ?_ ?_
  · intro h10
    try have p10 := of_decide_eq_true h10
    simp at p10
  intro h10
  try have p10 := of_decide_eq_false h10
  refine c_skip ?_; refine hK2 _ _ ?_; clear hK2; refine c_seq (fun _ hK4 => ?_); refine c_seq (fun _ hK5 => ?_); refine c_region ?_; refine s_assign H wn rfl rfl ?_; clear H; intro a H; refine wl_nil ?_; refine hK5 _ _ ?_; clear hK5; refine c_block ?_; skip; refine c_loopS (ι := Nat × GH) (Tc := [(0, _), (1, _)]) (Lc := []) (fun (gh : Nat × GH) => [(5, vi gh.1)]) (fun (gh : Nat × GH) => []) (fun (gh : Nat × GH) => gh.2) (fun (gh : Nat × GH) => gh.1 ≤ l.length ∧ (∀ b o, G b = some o → gh.2 b = some o)) (fun (gh : Nat × GH) => l.length - gh.1) ((0, G)) (by exact (H).sub ⟨rfl, rfl, rfl, trivial⟩) ?_ ?_
  · exact ⟨Nat.zero_le _, fun _ _ h => h⟩
  clear H; intro gh a w hI H; obtain ⟨k, g⟩ := gh; dsimp only at hI H; obtain ⟨hk, hgm⟩ := hI; dsimp only [List.cons_append, List.nil_append, List.append_nil] at H; refine c_seq (fun _ hK6 => ?_); refine c_seq (fun _ hK7 => ?_); refine c_region ?_; (iterate 2 refine s_move H wn rfl rfl ?_; clear H; intro a H); refine s_len un25tot H wn rfl rfl ?_; clear H; intro a H; refine s_cmp H wn rfl rfl rfl rfl ?_; clear H; intro a H; refine wl_nil ?_; refine hK7 _ _ ?_; clear hK7; refine c_cond H rfl ?_ ?_
  · intro h14
    try have p14 := of_decide_eq_true h14
    have hk1 : k < l.length := by omega
    obtain ⟨b, o, rfl, hrow⟩ := match_at (hv.mono hgm) hk1; obtain ⟨b2, o2, rfl, hrow2⟩ := match_at (hu.mono hgm) hk1; refine c_skip ?_; refine hK6 _ _ ?_; clear hK6; refine c_seq (fun _ hK8 => ?_); refine c_block ?_; refine c_seq (fun _ hK9 => ?_)
    have hprm6 : ∀ (ix_ : Nat) (v : Value) (G G' : GH), (∀ k o, G k = some o → G' k = some o) → (fun (ix_ : Nat) (v : Value) (G : GH) => match ix_ with | 0 => v = .slice (some ⟨b, o, none⟩) l.length c | 1 => v = vi k | 2 => v = .pointer (some ⟨b, o + k * 3, none⟩) | 3 => v = .agg #[vi l[k].a, vi l[k].b, vi l[k].score] | 4 => v = .slice (some ⟨b2, o2, none⟩) l.length c2 | 5 => v = vi k | 6 => v = .pointer (some ⟨b2, o2 + k * 3, none⟩) | 7 => v = .agg #[vi l[k].a, vi l[k].b, vi l[k].score] | 8 => v = .bool false | _ => True) ix_ v G → (fun (ix_ : Nat) (v : Value) (G : GH) => match ix_ with | 0 => v = .slice (some ⟨b, o, none⟩) l.length c | 1 => v = vi k | 2 => v = .pointer (some ⟨b, o + k * 3, none⟩) | 3 => v = .agg #[vi l[k].a, vi l[k].b, vi l[k].score] | 4 => v = .slice (some ⟨b2, o2, none⟩) l.length c2 | 5 => v = vi k | 6 => v = .pointer (some ⟨b2, o2 + k * 3, none⟩) | 7 => v = .agg #[vi l[k].a, vi l[k].b, vi l[k].score] | 8 => v = .bool false | _ => True) ix_ v G' := by
      intro ix_ v G G' hm h
      match ix_, h with
      | 0, h => exact h
      | 1, h => exact h
      | 2, h => exact h
      | 3, h => exact h
      | 4, h => exact h
      | 5, h => exact h
      | 6, h => exact h
      | 7, h => exact h
      | 8, h => exact h
      | _ + 9, h => exact trivial
    refine c_drawI (hmxb) [[], [], [0, 1], [0, 1, 2], [], [], [4, 5], [4, 5, 6], [0, 1, 2, 3, 4, 5, 6, 7]] [] (by kernel_rfl) (by kernel_rfl) (fun (ix_ : Nat) (v : Value) (G : GH) => match ix_ with | 0 => v = .slice (some ⟨b, o, none⟩) l.length c | 1 => v = vi k | 2 => v = .pointer (some ⟨b, o + k * 3, none⟩) | 3 => v = .agg #[vi l[k].a, vi l[k].b, vi l[k].score] | 4 => v = .slice (some ⟨b2, o2, none⟩) l.length c2 | 5 => v = vi k | 6 => v = .pointer (some ⟨b2, o2 + k * 3, none⟩) | 7 => v = .agg #[vi l[k].a, vi l[k].b, vi l[k].score] | 8 => v = .bool false | _ => True) hprm6 H ?_ ?_
    · clear H; refine (allI_cons ?_ (allI_cons ?_ (allI_cons ?_ (allI_cons ?_ (allI_cons ?_ (allI_cons ?_ (allI_cons ?_ (allI_cons ?_ (allI_cons ?_ allI_nil)))))))))
      · intro Sd_ a w G1 _ hSi hc hG HT hv; have H := HT; clear hSi; have Hb := H.full; have H := Hb; clear hc; refine s_move H wn rfl rfl ?_; clear H; intro a H; refine wl_nil ⟨rfl, ?_⟩; exact draw_val (by kernel_rfl) hprm6 rfl rfl HT Hb hG hv (fun _ _ h => h) (rfl) H
      · intro Sd_ a w G1 _ hSi hc hG HT hv; have H := HT; clear hSi; have Hb := H.full; have H := Hb; clear hc; refine s_move H wn rfl rfl ?_; clear H; intro a H; refine wl_nil ⟨rfl, ?_⟩; exact draw_val (by kernel_rfl) hprm6 rfl rfl HT Hb hG hv (fun _ _ h => h) (rfl) H
      · intro Sd_ a w G1 _ hSi hc hG HT hv; have H := HT; clear hSi; obtain ⟨u17, hu17, hp17⟩ := hv 0 17 (hc 0 (by decide)) rfl; obtain rfl : u17 = .slice (some ⟨b, o, none⟩) l.length c := hp17; have H := H.addS hu17; obtain ⟨u18, hu18, hp18⟩ := hv 1 18 (hc 1 (by decide)) rfl; obtain rfl : u18 = vi k := hp18; have H := H.addS hu18; have Hb := H.full; have H := Hb; clear hc; refine s_index un25tot ty31tot k H wn rfl rfl rfl hk1 rfl ?_; clear H; intro a H; refine wl_nil ⟨rfl, ?_⟩; exact draw_val (by kernel_rfl) hprm6 rfl rfl HT Hb hG hv (fun _ _ h => h) (rfl) H
      · intro Sd_ a w G1 _ hSi hc hG HT hv; have H := HT; clear hSi; obtain ⟨u19, hu19, hp19⟩ := hv 2 19 (hc 2 (by decide)) rfl; obtain rfl : u19 = .pointer (some ⟨b, o + k * 3, none⟩) := hp19; have H := H.addS hu19; have Hb := H.full; have H := Hb; clear hc; refine s_loada ty31tot (cs := [_, _, _]) H wn rfl rfl (fun j v hj => H.hp.gcell (gcell_mono hG (hrow j v hj))) rfl ?_; clear H; intro a H; refine wl_nil ⟨rfl, ?_⟩; exact draw_val (by kernel_rfl) hprm6 rfl rfl HT Hb hG hv (fun _ _ h => h) (rfl) H
      · intro Sd_ a w G1 _ hSi hc hG HT hv; have H := HT; clear hSi; have Hb := H.full; have H := Hb; clear hc; refine s_move H wn rfl rfl ?_; clear H; intro a H; refine wl_nil ⟨rfl, ?_⟩; exact draw_val (by kernel_rfl) hprm6 rfl rfl HT Hb hG hv (fun _ _ h => h) (rfl) H
      · intro Sd_ a w G1 _ hSi hc hG HT hv; have H := HT; clear hSi; have Hb := H.full; have H := Hb; clear hc; refine s_move H wn rfl rfl ?_; clear H; intro a H; refine wl_nil ⟨rfl, ?_⟩; exact draw_val (by kernel_rfl) hprm6 rfl rfl HT Hb hG hv (fun _ _ h => h) (rfl) H
      · intro Sd_ a w G1 _ hSi hc hG HT hv; have H := HT; clear hSi; obtain ⟨u21, hu21, hp21⟩ := hv 4 21 (hc 4 (by decide)) rfl; obtain rfl : u21 = .slice (some ⟨b2, o2, none⟩) l.length c2 := hp21; have H := H.addS hu21; obtain ⟨u22, hu22, hp22⟩ := hv 5 22 (hc 5 (by decide)) rfl; obtain rfl : u22 = vi k := hp22; have H := H.addS hu22; have Hb := H.full; have H := Hb; clear hc; refine s_index un25tot ty31tot k H wn rfl rfl rfl hk1 rfl ?_; clear H; intro a H; refine wl_nil ⟨rfl, ?_⟩; exact draw_val (by kernel_rfl) hprm6 rfl rfl HT Hb hG hv (fun _ _ h => h) (rfl) H
      · intro Sd_ a w G1 _ hSi hc hG HT hv; have H := HT; clear hSi; obtain ⟨u23, hu23, hp23⟩ := hv 6 23 (hc 6 (by decide)) rfl; obtain rfl : u23 = .pointer (some ⟨b2, o2 + k * 3, none⟩) := hp23; have H := H.addS hu23; have Hb := H.full; have H := Hb; clear hc; refine s_loada ty31tot (cs := [_, _, _]) H wn rfl rfl (fun j v hj => H.hp.gcell (gcell_mono hG (hrow2 j v hj))) rfl ?_; clear H; intro a H; refine wl_nil ⟨rfl, ?_⟩; exact draw_val (by kernel_rfl) hprm6 rfl rfl HT Hb hG hv (fun _ _ h => h) (rfl) H
      intro Sd_ a w G1 _ hSi hc hG HT hv; have H := HT; clear hSi; obtain ⟨u20, hu20, hp20⟩ := hv 3 20 (hc 3 (by decide)) rfl; obtain rfl : u20 = .agg #[vi l[k].a, vi l[k].b, vi l[k].score] := hp20; have H := H.addS hu20; obtain ⟨u24, hu24, hp24⟩ := hv 7 24 (hc 7 (by decide)) rfl; obtain rfl : u24 = .agg #[vi l[k].a, vi l[k].b, vi l[k].score] := hp24; have H := H.addS hu24; have Hb := H.full; have H := Hb; clear hc; refine s_eqs (.inr rfl) eqs31tot H wn rfl rfl rfl rfl ?_; clear H; intro a H; refine wl_nil ⟨rfl, ?_⟩; exact draw_val (by kernel_rfl) hprm6 rfl rfl HT Hb hG hv (fun _ _ h => h) (by simp [getV]) H
    clear H; intro a w G hGm6 H hv; obtain ⟨u25, hu25, hp25⟩ := hv 8 25 (by decide) rfl; obtain rfl : u25 = .bool false := hp25; have H := H.addS hu25; clear hv; refine wl_nil ⟨rfl, ?_⟩; refine hK9 _ _ ?_; clear hK9; refine c_cond_f H rfl rfl ?_; refine c_skip ?_; refine hK8 _ _ ?_; clear hK8; refine c_region ?_; refine s_move H wn rfl rfl ?_; clear H; intro a H; refine s_add _ H wn rfl rfl rfl (by omega) (by omega) rfl ?_; clear H; intro a H; refine s_assign H wn rfl rfl ?_; clear H; intro a H; refine wl_nil ?_; refine loop_end ((k + 1, G)) (by exact (H).sub ⟨rfl, rfl, rfl, trivial⟩) ?_ ?_
    · (try dsimp only); exact ⟨by omega, fun b o h => hGm6 b o (hgm b o h)⟩
    first | omega | (dsimp only; omega)
  intro h14
  try have p14 := of_decide_eq_false h14
  refine c_exit ?_; refine hK4 _ _ ?_; clear hK4; refine c_seq (fun _ hK10 => ?_); refine c_region ?_; refine s_assign H wn rfl rfl ?_; clear H; intro a H; refine wl_nil ?_; refine hK10 _ _ ?_; clear hK10; refine c_ret ?_; refine (leave1 H Tryd.results15 (.cons (rv_tmp H rfl) .nil) ?_).1; exact H.hp.ret rfl
theorem headD_len {S : List (List Int)} (h : 0 < S.length) : (S.headD []).length = S[0].length := by
  match S, h with
  | r :: S', _ => rfl
theorem chk_at {S : List (List Int)} {i : Nat} (hl : ¬ 1024 < S.length) (hi : i < S.length) (hok : ∀ j (hj : j < i) (hj2 : j < S.length), rowChk (S[0]'(by omega)).length S[j] = 0) {e : Int} (he : rowChk (S[0]'(by omega)).length S[i] = e) (hne : ¬ e = 0) : chkS S = e := by
  rw [chkS, if_neg hl, headD_len (by omega)]; rw [fstErr_at hi (fun j hj => hok j hj (by omega)) (by rw [he]; exact hne), he]
theorem chk_bad {m : Nat} {r : List Int} {k : Nat} (h1 : ¬ 1024 < r.length) (h2 : r.length = m) (hk : k < r.length) (hb : okN r[k] = false) : rowChk m r = 2 := by
  rw [rowChk, if_neg h1, if_neg (by omega), if_neg]; rw [List.all_eq_true]; intro h; rw [h _ (List.getElem_mem hk)] at hb; cases hb
set_option maxHeartbeats 1000000 in
theorem check_spec (G : GH) (w0 : World) (hG : Hold G w0) (S : List (List Int)) (v : Value) (hv : RepV G (.sl 1 (S.map rowDat)) v) :
    Calls Tryd.prog 14 #[v] w0 (Ret w0 G fun r G' => r = vi (chkS S)) := by
  obtain ⟨A, c, rfl, hc1, hc2, -⟩ := hv.slice; have hml : maxLen = 9223372036854775807 := rfl; rw [List.length_map] at *; refine enter (N := 57) (T := [(0, _)]) (F := fun k => k < w0.heap.size) (L := []) Tryd.func14 rfl Tryd.ntmps14 rfl rfl hG (fun _ h => h) (fun _ h => by cases h) (fun _ h => by cases h) (fun _ h => by cases h) List.Pairwise.nil ?_; intro a H; refine c_seq (fun _ hK1 => ?_); refine c_region ?_; refine s_assign H wn rfl rfl ?_; clear H; intro a H; refine wl_nil ?_; refine hK1 _ _ ?_; clear hK1; refine c_seq (fun _ hK2 => ?_); refine c_seq (fun _ hK3 => ?_); refine c_region ?_; refine s_move H wn rfl rfl ?_; clear H; intro a H; refine s_len un23tot H wn rfl rfl ?_; clear H; intro a H; refine s_cmp H wn rfl rfl rfl rfl ?_; clear H; intro a H; refine wl_nil ?_; refine hK3 _ _ ?_; clear hK3; refine c_cond H rfl ?_ ?_
  · intro h7
    try have p7 := of_decide_eq_true h7
    have hck : chkS S = 9 := by rw [chkS, if_pos (by omega)]
    refine c_seq (fun _ hK4 => ?_); refine c_region ?_; refine s_assign H wn rfl rfl ?_; clear H; intro a H; refine wl_nil ?_; refine hK4 _ _ ?_; clear hK4; refine c_ret ?_; refine (leave1 H Tryd.results14 (.cons (rv_tmp H rfl) .nil) ?_).1; exact H.hp.ret (by rw [hck])
  intro h7
  try have p7 := of_decide_eq_false h7
  have hck : chkS S = fstErr (S.map (rowChk (S.headD []).length)) := by rw [chkS, if_neg (by omega)]
  refine c_skip ?_; refine hK2 _ _ ?_; clear hK2; refine c_seq (fun _ hK5 => ?_); refine c_seq (fun _ hK6 => ?_); refine c_region ?_; refine s_assign H wn rfl rfl ?_; clear H; intro a H; refine wl_nil ?_; refine hK6 _ _ ?_; clear hK6; refine c_block ?_; skip; refine c_loopS (ι := Nat × GH) (Tc := [(0, _)]) (Lc := []) (fun (gh : Nat × GH) => [(3, vi gh.1)]) (fun (gh : Nat × GH) => []) (fun (gh : Nat × GH) => gh.2) (fun (gh : Nat × GH) => gh.1 ≤ S.length ∧ (∀ b o, G b = some o → gh.2 b = some o) ∧ ∀ j (hj : j < gh.1) (hj2 : j < S.length), rowChk (S.headD []).length S[j] = 0) (fun (gh : Nat × GH) => S.length - gh.1) ((0, G)) (by exact (H).sub ⟨rfl, rfl, trivial⟩) ?_ ?_
  · exact ⟨Nat.zero_le _, fun _ _ h => h, fun j hj => absurd hj (Nat.not_lt_zero _)⟩
  clear H; intro gh a w hI H; obtain ⟨i, g⟩ := gh; dsimp only at hI H; obtain ⟨hi, hgm, hok⟩ := hI; dsimp only [List.cons_append, List.nil_append, List.append_nil] at H; refine c_seq (fun _ hK7 => ?_); refine c_seq (fun _ hK8 => ?_); refine c_region ?_; (iterate 2 refine s_move H wn rfl rfl ?_; clear H; intro a H); refine s_len un23tot H wn rfl rfl ?_; clear H; intro a H; refine s_cmp H wn rfl rfl rfl rfl ?_; clear H; intro a H; refine wl_nil ?_; refine hK8 _ _ ?_; clear hK8; refine c_cond H rfl ?_ ?_
  · intro h11
    try have p11 := of_decide_eq_true h11
    have hi1 : i < S.length := by omega
    obtain ⟨b, o, bA, bc, rfl, g1, g2r⟩ := mat_row (hv.mono hgm) hi1; obtain ⟨_, _, bA0, bc0, e0, g10, g20⟩ := mat_row (hv.mono hgm) (show 0 < S.length by omega)
    injection e0 with e0; injection e0 with e1 e2; subst e1; subst e2
    have hhd : (S.headD []).length = S[0].length := headD_len (by omega); rw [hhd] at hok; refine c_skip ?_; refine hK7 _ _ ?_; clear hK7; refine c_seq (fun _ hK9 => ?_); refine c_block ?_; refine c_seq (fun _ hK10 => ?_); refine c_seq (fun _ hK11 => ?_); refine c_region ?_; (iterate 2 refine s_move H wn rfl rfl ?_; clear H; intro a H); refine s_index un23tot ty32tot i H wn rfl rfl rfl hi1 rfl ?_; clear H; intro a H; refine s_load ty32tot H wn rfl (H.hp.gcell g1) rfl ?_; clear H; intro a H; refine s_len un32tot H wn rfl rfl ?_; clear H; intro a H; refine s_cmp H wn rfl rfl rfl rfl ?_; clear H; intro a H; refine wl_nil ?_; refine hK11 _ _ ?_; clear hK11; refine c_cond H rfl ?_ ?_
    · intro h19
      try have p19 := of_decide_eq_true h19
      refine c_seq (fun _ hK12 => ?_); refine c_region ?_; refine s_assign H wn rfl rfl ?_; clear H; intro a H; refine wl_nil ?_; refine hK12 _ _ ?_; clear hK12; refine c_ret ?_; refine (leave1 H Tryd.results14 (.cons (rv_tmp H rfl) .nil) ?_).1; exact H.hp.ret (by rw [chk_at (by omega) hi1 hok (by rw [rowChk, if_pos (by omega)]) (by decide)])
    intro h19
    try have p19 := of_decide_eq_false h19
    refine c_skip ?_; refine hK10 _ _ ?_; clear hK10; refine c_seq (fun _ hK13 => ?_); refine c_seq (fun _ hK14 => ?_)
    have hprm8 : ∀ (ix_ : Nat) (v : Value) (G G' : GH), (∀ k o, G k = some o → G' k = some o) → (fun (ix_ : Nat) (v : Value) (G : GH) => match ix_ with | 0 => v = .slice (some ⟨b, o, none⟩) S.length c | 1 => v = vi i | 2 => v = .pointer (some ⟨b, o + i * 1, none⟩) | 3 => v = .slice bA S[i].length bc | 4 => v = vi S[i].length | 5 => v = .slice (some ⟨b, o, none⟩) S.length c | 6 => v = .pointer (some ⟨b, o + 0 * 1, none⟩) | 7 => v = .slice bA0 S[0].length bc0 | 8 => v = vi S[0].length | 9 => v = .bool (decide ¬ ((S[i].length : Int) = S[0].length)) | _ => True) ix_ v G → (fun (ix_ : Nat) (v : Value) (G : GH) => match ix_ with | 0 => v = .slice (some ⟨b, o, none⟩) S.length c | 1 => v = vi i | 2 => v = .pointer (some ⟨b, o + i * 1, none⟩) | 3 => v = .slice bA S[i].length bc | 4 => v = vi S[i].length | 5 => v = .slice (some ⟨b, o, none⟩) S.length c | 6 => v = .pointer (some ⟨b, o + 0 * 1, none⟩) | 7 => v = .slice bA0 S[0].length bc0 | 8 => v = vi S[0].length | 9 => v = .bool (decide ¬ ((S[i].length : Int) = S[0].length)) | _ => True) ix_ v G' := by
      intro ix_ v G G' hm h
      match ix_, h with
      | 0, h => exact h
      | 1, h => exact h
      | 2, h => exact h
      | 3, h => exact h
      | 4, h => exact h
      | 5, h => exact h
      | 6, h => exact h
      | 7, h => exact h
      | 8, h => exact h
      | 9, h => exact h
      | _ + 10, h => exact trivial
    refine c_drawI (hmxb) [[], [], [0, 1], [0, 1, 2], [0, 1, 2, 3], [], [5], [5, 6], [5, 6, 7], [0, 1, 2, 3, 4, 5, 6, 7, 8]] [] (by kernel_rfl) (by kernel_rfl) (fun (ix_ : Nat) (v : Value) (G : GH) => match ix_ with | 0 => v = .slice (some ⟨b, o, none⟩) S.length c | 1 => v = vi i | 2 => v = .pointer (some ⟨b, o + i * 1, none⟩) | 3 => v = .slice bA S[i].length bc | 4 => v = vi S[i].length | 5 => v = .slice (some ⟨b, o, none⟩) S.length c | 6 => v = .pointer (some ⟨b, o + 0 * 1, none⟩) | 7 => v = .slice bA0 S[0].length bc0 | 8 => v = vi S[0].length | 9 => v = .bool (decide ¬ ((S[i].length : Int) = S[0].length)) | _ => True) hprm8 H ?_ ?_
    · clear H; refine (allI_cons ?_ (allI_cons ?_ (allI_cons ?_ (allI_cons ?_ (allI_cons ?_ (allI_cons ?_ (allI_cons ?_ (allI_cons ?_ (allI_cons ?_ (allI_cons ?_ allI_nil))))))))))
      · intro Sd_ a w G1 _ hSi hc hG HT hv; have H := HT; clear hSi; have Hb := H.full; have H := Hb; clear hc; refine s_move H wn rfl rfl ?_; clear H; intro a H; refine wl_nil ⟨rfl, ?_⟩; exact draw_val (by kernel_rfl) hprm8 rfl rfl HT Hb hG hv (fun _ _ h => h) (rfl) H
      · intro Sd_ a w G1 _ hSi hc hG HT hv; have H := HT; clear hSi; have Hb := H.full; have H := Hb; clear hc; refine s_move H wn rfl rfl ?_; clear H; intro a H; refine wl_nil ⟨rfl, ?_⟩; exact draw_val (by kernel_rfl) hprm8 rfl rfl HT Hb hG hv (fun _ _ h => h) (rfl) H
      · intro Sd_ a w G1 _ hSi hc hG HT hv; have H := HT; clear hSi; obtain ⟨u20, hu20, hp20⟩ := hv 0 20 (hc 0 (by decide)) rfl; obtain rfl : u20 = .slice (some ⟨b, o, none⟩) S.length c := hp20; have H := H.addS hu20; obtain ⟨u21, hu21, hp21⟩ := hv 1 21 (hc 1 (by decide)) rfl; obtain rfl : u21 = vi i := hp21; have H := H.addS hu21; have Hb := H.full; have H := Hb; clear hc; refine s_index un23tot ty32tot i H wn rfl rfl rfl hi1 rfl ?_; clear H; intro a H; refine wl_nil ⟨rfl, ?_⟩; exact draw_val (by kernel_rfl) hprm8 rfl rfl HT Hb hG hv (fun _ _ h => h) (rfl) H
      · intro Sd_ a w G1 _ hSi hc hG HT hv; have H := HT; clear hSi; obtain ⟨u22, hu22, hp22⟩ := hv 2 22 (hc 2 (by decide)) rfl; obtain rfl : u22 = .pointer (some ⟨b, o + i * 1, none⟩) := hp22; have H := H.addS hu22; have Hb := H.full; have H := Hb; clear hc; refine s_load ty32tot H wn rfl (H.hp.gcell (gcell_mono hG g1)) rfl ?_; clear H; intro a H; refine wl_nil ⟨rfl, ?_⟩; exact draw_val (by kernel_rfl) hprm8 rfl rfl HT Hb hG hv (fun _ _ h => h) (rfl) H
      · intro Sd_ a w G1 _ hSi hc hG HT hv; have H := HT; clear hSi; obtain ⟨u23, hu23, hp23⟩ := hv 3 23 (hc 3 (by decide)) rfl; obtain rfl : u23 = .slice bA S[i].length bc := hp23; have H := H.addS hu23; have Hb := H.full; have H := Hb; clear hc; refine s_len un32tot H wn rfl rfl ?_; clear H; intro a H; refine wl_nil ⟨rfl, ?_⟩; exact draw_val (by kernel_rfl) hprm8 rfl rfl HT Hb hG hv (fun _ _ h => h) (rfl) H
      · intro Sd_ a w G1 _ hSi hc hG HT hv; have H := HT; clear hSi; have Hb := H.full; have H := Hb; clear hc; refine s_move H wn rfl rfl ?_; clear H; intro a H; refine wl_nil ⟨rfl, ?_⟩; exact draw_val (by kernel_rfl) hprm8 rfl rfl HT Hb hG hv (fun _ _ h => h) (rfl) H
      · intro Sd_ a w G1 _ hSi hc hG HT hv; have H := HT; clear hSi; obtain ⟨u25, hu25, hp25⟩ := hv 5 25 (hc 5 (by decide)) rfl; obtain rfl : u25 = .slice (some ⟨b, o, none⟩) S.length c := hp25; have H := H.addS hu25; have Hb := H.full; have H := Hb; clear hc; refine s_index un23tot ty32tot 0 H wn rfl rfl rfl (by omega) rfl ?_; clear H; intro a H; refine wl_nil ⟨rfl, ?_⟩; exact draw_val (by kernel_rfl) hprm8 rfl rfl HT Hb hG hv (fun _ _ h => h) (rfl) H
      · intro Sd_ a w G1 _ hSi hc hG HT hv; have H := HT; clear hSi; obtain ⟨u26, hu26, hp26⟩ := hv 6 26 (hc 6 (by decide)) rfl; obtain rfl : u26 = .pointer (some ⟨b, o + 0 * 1, none⟩) := hp26; have H := H.addS hu26; have Hb := H.full; have H := Hb; clear hc; refine s_load ty32tot H wn rfl (H.hp.gcell (gcell_mono hG g10)) rfl ?_; clear H; intro a H; refine wl_nil ⟨rfl, ?_⟩; exact draw_val (by kernel_rfl) hprm8 rfl rfl HT Hb hG hv (fun _ _ h => h) (rfl) H
      · intro Sd_ a w G1 _ hSi hc hG HT hv; have H := HT; clear hSi; obtain ⟨u27, hu27, hp27⟩ := hv 7 27 (hc 7 (by decide)) rfl; obtain rfl : u27 = .slice bA0 S[0].length bc0 := hp27; have H := H.addS hu27; have Hb := H.full; have H := Hb; clear hc; refine s_len un32tot H wn rfl rfl ?_; clear H; intro a H; refine wl_nil ⟨rfl, ?_⟩; exact draw_val (by kernel_rfl) hprm8 rfl rfl HT Hb hG hv (fun _ _ h => h) (rfl) H
      intro Sd_ a w G1 _ hSi hc hG HT hv; have H := HT; clear hSi; obtain ⟨u24, hu24, hp24⟩ := hv 4 24 (hc 4 (by decide)) rfl; obtain rfl : u24 = vi S[i].length := hp24; have H := H.addS hu24; obtain ⟨u28, hu28, hp28⟩ := hv 8 28 (hc 8 (by decide)) rfl; obtain rfl : u28 = vi S[0].length := hp28; have H := H.addS hu28; have Hb := H.full; have H := Hb; clear hc; refine s_cmp H wn rfl rfl rfl rfl ?_; clear H; intro a H; refine wl_nil ⟨rfl, ?_⟩; exact draw_val (by kernel_rfl) hprm8 rfl rfl HT Hb hG hv (fun _ _ h => h) (rfl) H
    clear H; intro a w G hGm8 H hv; obtain ⟨u29, hu29, hp29⟩ := hv 9 29 (by decide) rfl; obtain rfl : u29 = .bool (decide ¬ ((S[i].length : Int) = S[0].length)) := hp29; have H := H.addS hu29; clear hv; refine wl_nil ⟨rfl, ?_⟩; refine hK14 _ _ ?_; clear hK14; refine c_cond H rfl ?_ ?_
    · intro h29
      try have p29 := of_decide_eq_true h29
      refine c_seq (fun _ hK15 => ?_); refine c_region ?_; refine s_assign H wn rfl rfl ?_; clear H; intro a H; refine wl_nil ?_; refine hK15 _ _ ?_; clear hK15; refine c_ret ?_; refine (leave1 H Tryd.results14 (.cons (rv_tmp H rfl) .nil) ?_).1; exact H.hp.ret (by rw [chk_at (by omega) hi1 hok (by rw [rowChk, if_neg (by omega), if_pos (by omega)]) (by decide)])
    intro h29
    try have p29 := of_decide_eq_false h29
    refine c_skip ?_; refine hK13 _ _ ?_; clear hK13; refine c_seq (fun _ hK16 => ?_); refine c_region ?_; refine s_assign H wn rfl rfl ?_; clear H; intro a H; refine wl_nil ?_; refine hK16 _ _ ?_; clear hK16; refine c_block ?_; skip; refine c_loopS (ι := Nat × GH) (Tc := [(0, _), (3, _)]) (Lc := []) (fun (gh : Nat × GH) => [(4, vi gh.1)]) (fun (gh : Nat × GH) => []) (fun (gh : Nat × GH) => gh.2) (fun (gh : Nat × GH) => gh.1 ≤ S[i].length ∧ (∀ b o, G b = some o → gh.2 b = some o) ∧ ∀ q (hq : q < gh.1) (hq2 : q < S[i].length), okN S[i][q] = true) (fun (gh : Nat × GH) => S[i].length - gh.1) ((0, G)) (by exact (H).sub ⟨rfl, rfl, rfl, trivial⟩) ?_ ?_
    · exact ⟨Nat.zero_le _, fun _ _ h => h, fun j hj => absurd hj (Nat.not_lt_zero _)⟩
    clear H; intro gh a w hI H; obtain ⟨k, g'⟩ := gh; dsimp only at hI H; obtain ⟨hk, hgm2, hokr⟩ := hI; have hgm1 := hGm8; have g1' := gcell_mono hgm2 (gcell_mono hGm8 g1); have g2' := (g2r.mono hGm8).mono hgm2; dsimp only [List.cons_append, List.nil_append, List.append_nil] at H; refine c_seq (fun _ hK17 => ?_); refine c_seq (fun _ hK18 => ?_); refine c_region ?_; (iterate 3 refine s_move H wn rfl rfl ?_; clear H; intro a H); refine s_index un23tot ty32tot i H wn rfl rfl rfl hi1 rfl ?_; clear H; intro a H; refine s_load ty32tot H wn rfl (H.hp.gcell g1') rfl ?_; clear H; intro a H; refine s_len un32tot H wn rfl rfl ?_; clear H; intro a H; refine s_cmp H wn rfl rfl rfl rfl ?_; clear H; intro a H; refine wl_nil ?_; refine hK18 _ _ ?_; clear hK18; refine c_cond H rfl ?_ ?_
    · intro h36
      try have p36 := of_decide_eq_true h36
      have hk1 : k < S[i].length := by omega
      obtain ⟨nb, no, rfl, gn⟩ := num_at g2' hk1; refine c_skip ?_; refine hK17 _ _ ?_; clear hK17; refine c_seq (fun _ hK19 => ?_); refine c_block ?_; refine c_seq (fun _ hK20 => ?_); refine c_region ?_; (iterate 2 refine s_move H wn rfl rfl ?_; clear H; intro a H); refine s_index un23tot ty32tot i H wn rfl rfl rfl hi1 rfl ?_; clear H; intro a H; refine s_load ty32tot H wn rfl (H.hp.gcell g1') rfl ?_; clear H; intro a H; refine s_move H wn rfl rfl ?_; clear H; intro a H; refine s_index un32tot ty3tot k H wn rfl rfl rfl hk1 rfl ?_; clear H; intro a H; refine s_load ty3tot H wn rfl (H.hp.gcell gn) rfl ?_; clear H; intro a H; refine s_cmp H wn rfl rfl rfl rfl ?_; clear H; intro a H; refine s_move H wn rfl rfl ?_; clear H; intro a H; refine s_split H 47 rfl ?_ ?_
      · intro h47
        try have p47 := of_decide_eq_true h47
        (iterate 8 refine s_skip H rfl rfl h47 rfl ?_; clear H; intro a H); refine s_pick_t H wn rfl h47 rfl rfl ?_; clear H; intro a H; refine wl_nil ?_; refine hK20 _ _ ?_; clear hK20; refine c_cond_t H rfl rfl ?_; refine c_seq (fun _ hK21 => ?_); refine c_region ?_; refine s_assign H wn rfl rfl ?_; clear H; intro a H; refine wl_nil ?_; refine hK21 _ _ ?_; clear hK21; refine c_ret ?_; refine (leave1 H Tryd.results14 (.cons (rv_tmp H rfl) .nil) ?_).1; exact H.hp.ret (by rw [chk_at (by omega) hi1 hok (chk_bad (by omega) (by omega) hk1 (by simp [okN]; omega)) (by decide)])
      intro h47
      try have p47 := of_decide_eq_false h47
      (iterate 2 refine s_move H (wg H rfl rfl h47) rfl rfl ?_; clear H; intro a H); refine s_index un23tot ty32tot i H (wg H rfl rfl h47) rfl rfl rfl hi1 rfl ?_; clear H; intro a H; refine s_load ty32tot H (wg H rfl rfl h47) rfl (H.hp.gcell g1') rfl ?_; clear H; intro a H; refine s_move H (wg H rfl rfl h47) rfl rfl ?_; clear H; intro a H; refine s_index un32tot ty3tot k H (wg H rfl rfl h47) rfl rfl rfl hk1 rfl ?_; clear H; intro a H; refine s_load ty3tot H (wg H rfl rfl h47) rfl (H.hp.gcell gn) rfl ?_; clear H; intro a H; refine s_cmp H (wg H rfl rfl h47) rfl rfl rfl rfl ?_; clear H; intro a H; refine s_pick_f H wn rfl h47 rfl rfl ?_; clear H; intro a H; refine wl_nil ?_; refine hK20 _ _ ?_; clear hK20; refine c_cond H rfl ?_ ?_
      · intro h56
        try have p56 := of_decide_eq_true h56
        refine c_seq (fun _ hK22 => ?_); refine c_region ?_; refine s_assign H wn rfl rfl ?_; clear H; intro a H; refine wl_nil ?_; refine hK22 _ _ ?_; clear hK22; refine c_ret ?_; refine (leave1 H Tryd.results14 (.cons (rv_tmp H rfl) .nil) ?_).1; exact H.hp.ret (by rw [chk_at (by omega) hi1 hok (chk_bad (by omega) (by omega) hk1 (by simp [okN]; omega)) (by decide)])
      intro h56
      try have p56 := of_decide_eq_false h56
      refine c_skip ?_; refine hK19 _ _ ?_; clear hK19; refine c_region ?_; refine s_move H wn rfl rfl ?_; clear H; intro a H; refine s_add _ H wn rfl rfl rfl (by omega) (by omega) rfl ?_; clear H; intro a H; refine s_assign H wn rfl rfl ?_; clear H; intro a H; refine wl_nil ?_; refine loop_end ((k + 1, g')) (by exact (H).sub ⟨rfl, rfl, rfl, trivial⟩) ?_ ?_
      · try dsimp only
        exact ⟨by omega, hgm2, fun q hq hq2 => by
            by_cases e : q = k
            · subst e; simp [okN]; omega
            exact hokr q (by omega) hq2⟩
      first | omega | (dsimp only; omega)
    intro h36
    try have p36 := of_decide_eq_false h36
    refine c_exit ?_; refine hK9 _ _ ?_; clear hK9; refine c_region ?_; refine s_move H wn rfl rfl ?_; clear H; intro a H; refine s_add _ H wn rfl rfl rfl (by omega) (by omega) rfl ?_; clear H; intro a H; refine s_assign H wn rfl rfl ?_; clear H; intro a H; refine wl_nil ?_; refine loop_end ((i + 1, g')) (by exact (H).sub ⟨rfl, rfl, trivial⟩) ?_ ?_
    · try dsimp only
      exact ⟨by omega, fun b o h => hgm2 b o (hgm1 b o (hgm b o h)), fun j hj hj2 => by
          rw [hhd]
          by_cases e : j = i
          · subst e; rw [rowChk, if_neg (by omega), if_neg (by omega), if_pos]; rw [List.all_eq_true]; intro x hx; obtain ⟨q, hq, rfl⟩ := List.getElem_of_mem hx; exact hokr q (by omega) hq
          exact hok j (by omega) hj2⟩
    first | omega | (dsimp only; omega)
  intro h11
  try have p11 := of_decide_eq_false h11
  refine c_exit ?_; refine hK5 _ _ ?_; clear hK5; refine c_seq (fun _ hK23 => ?_); refine c_region ?_; refine s_assign H wn rfl rfl ?_; clear H; intro a H; refine wl_nil ?_; refine hK23 _ _ ?_; clear hK23; refine c_ret ?_; refine (leave1 H Tryd.results14 (.cons (rv_tmp H rfl) .nil) ?_).1; exact H.hp.ret (by rw [hck, fstErr_all fun j hj => hok j (by omega) hj])
end Go.Proofs.YtpmcdlhhfbobfaaDoor
