/-
  Package alignment: Similarity; package blockmatch: Tokens, Similarity.
-/
import Derived.Test.YtpmcdlhhfbobfaaDoorBmt
import Derived.Test.YtpmcdlhhfbobfaaDoorEq
namespace Go.Proofs.YtpmcdlhhfbobfaaDoor
open Go.RowKit
theorem en24bsm : ∀ args w, (callFunc 24 args).run Tryd.prog w = .ok (.enter 24 args) w := enters Tryd.func24 rfl (by kernel_rfl)
theorem en18bsm : ∀ args w, (callFunc 18 args).run Tryd.prog w = .ok (.enter 18 args) w := enters Tryd.func18 rfl (by kernel_rfl)
theorem en37bsm : ∀ args w, (callFunc 37 args).run Tryd.prog w = .ok (.enter 37 args) w := enters Tryd.func37 rfl (by kernel_rfl)
theorem en38bsm : ∀ args w, (callFunc 38 args).run Tryd.prog w = .ok (.enter 38 args) w := enters Tryd.func38 rfl (by kernel_rfl)
theorem en36bsm : ∀ args w, (callFunc 36 args).run Tryd.prog w = .ok (.enter 36 args) w := enters Tryd.func36 rfl (by kernel_rfl)
theorem un105bsm : Tryd.prog.underlying 105 = some (.slice 41) := by kernel_rfl
theorem ty41bsm : Ty Tryd.prog 41 1 24 [.slice none 0 0] false := ⟨by kernel_rfl, by kernel_rfl⟩
theorem un41bsm : Tryd.prog.underlying 41 = some (.slice 48) := by kernel_rfl
theorem ty48bsm : Ty Tryd.prog 48 2 16 [.int .i64 0, .int .i64 0] true := ⟨by kernel_rfl, by kernel_rfl⟩
theorem fd48_1bsm : Fld Tryd.prog 48 1 1 := ⟨by kernel_rfl⟩
theorem ty3bsm : Ty Tryd.prog 3 1 8 [.int .i64 0] false := ⟨by kernel_rfl, by kernel_rfl⟩
theorem wtK_in {N : Int} {t : TkD} (h : 0 ≤ t.from_ ∧ t.from_ < t.to ∧ t.to ≤ N) : 1 ≤ wtK t ∧ wtK t ≤ 1000 := by
  unfold wtK; split
  · decide
  omega
theorem tokP_ok {l : List (TkD × ByteArray)} (ks : List ByteArray) (h : ∀ x ∈ l, 1 ≤ wtK x.1 ∧ wtK x.1 ≤ 1000) : ∀ k, k ≤ l.length → ∀ x ∈ (tokP (l.take k) ks).1, 1 ≤ x.weight ∧ x.weight ≤ 1000
  | 0, _ => by simp [tokP]
  | k + 1, hk => by
    have ih := tokP_ok ks h k (by omega); rw [tokP_succ (by omega)]; intro x hx
    rcases List.mem_append.1 hx with hx | hx
    · exact ih x hx
    rw [List.mem_singleton] at hx; subst hx; exact h _ (List.getElem_mem _)
theorem tkL_ok (s : ByteArray) : ∀ x ∈ tkL s, 1 ≤ wtK x.1 ∧ wtK x.1 ≤ 1000 := by
  intro x hx; obtain ⟨t, ht, rfl⟩ := List.mem_map.1 hx; exact wtK_in (tkS_in s t ht)
/-- The tokens of two strings. -/
def twoA (a : ByteArray) : List TokD := (tokP (tkL a) []).1
def twoB (a b : ByteArray) : List TokD := (tokP (tkL b) (tokP (tkL a) []).2).1
theorem tkL_len (s : ByteArray) : (tkL s).length ≤ s.size + 1 := by
  have hcl := clS_len s
  have hlc : (cluS s).length = (clS s).length := by simp [cluS, bdN]
  have htl := tkF_len (cluS s).length (cluS s); rw [show tkF (cluS s).length (cluS s) = tkS (cluS s) from rfl] at htl
  simp only [tkL, List.length_map]; omega
theorem tokP_all (l : List (TkD × ByteArray)) (ks : List ByteArray) : (tokP l ks).1.length = l.length ∧ (tokP l ks).2.length ≤ ks.length + l.length := by
  have h := tokP_len l ks l.length (Nat.le_refl _)
  rwa [List.take_length] at h
theorem twoA_ok (a : ByteArray) : ∀ x ∈ twoA a, 1 ≤ x.weight ∧ x.weight ≤ 1000 := by
  have h := tokP_ok [] (tkL_ok a) _ (Nat.le_refl _)
  rwa [List.take_length] at h
theorem twoB_ok (a b : ByteArray) : ∀ x ∈ twoB a b, 1 ≤ x.weight ∧ x.weight ≤ 1000 := by
  have h := tokP_ok (tokP (tkL a) []).2 (tkL_ok b) _ (Nat.le_refl _)
  rwa [List.take_length] at h
theorem btwo_spec {G0 : GH} (G : GH) (w0 : World) (hG : Hold G w0) (h0 : ∀ b o, G0 b = some o → G b = some o) (s t : ByteArray) (hs : SOk G0 s) (ht : SOk G0 t) (hz1 : s.size ≤ 2000) (hz2 : t.size ≤ 2000) :
    Calls Tryd.prog 17 #[.string s, .string t] w0 (Ret w0 G fun u G' => ∃ x y, u = .tuple #[x, y, vi 0] ∧ RepV G' (.sl 2 ((twoA s).map TokD.dat)) x ∧ RepV G' (.sl 2 ((twoB s t).map TokD.dat)) y) := by
  have hl1 := tkL_len s; have hl2 := (tokP_all (tkL s) []).2; rw [List.length_nil] at hl2; refine enter (N := 23) (T := [(0, _), (1, _)]) (F := fun k => k < w0.heap.size) (L := []) Tryd.func17 rfl Tryd.ntmps17 rfl rfl hG (fun _ h => h) (fun _ h => by cases h) (fun _ h => by cases h) (fun _ h => by cases h) List.Pairwise.nil ?_; intro a H; refine c_seq (fun _ hK1 => ?_); refine c_region ?_; (iterate 3 refine s_assign H wn rfl rfl ?_; clear H; intro a H); refine wl_nil ?_; refine hK1 _ _ ?_; clear hK1; refine c_seq (fun _ hK2 => ?_); refine c_seq (fun _ hK3 => ?_); refine c_region ?_; refine s_move H wn rfl rfl ?_; clear H; intro a H; refine s_call en18bsm H wn rfl (valid_spec _ _ H.hp.ro s (by omega)) rfl ?_; clear H; rintro v9 _ a w ⟨rfl, rfl⟩ - H; rw [hs.ok] at H; refine s_not H wn rfl rfl ?_; clear H; intro a H; refine s_move H wn rfl rfl ?_; clear H; intro a H; refine s_split H 11 rfl ?_ ?_
  · intro h11
    try have p11 := of_decide_eq_true h11
    exact absurd h11 (by decide)
  intro h11
  try have p11 := of_decide_eq_false h11
  refine s_move H (wg H rfl rfl h11) rfl rfl ?_; clear H; intro a H; refine s_call en18bsm H (wg H rfl rfl h11) rfl (valid_spec _ _ H.hp.ro t (by omega)) rfl ?_; clear H; rintro v13 _ a w ⟨rfl, rfl⟩ - H; rw [ht.ok] at H; refine s_not H (wg H rfl rfl h11) rfl rfl ?_; clear H; intro a H; refine s_pick_f H wn rfl h11 rfl rfl ?_; clear H; intro a H; refine wl_nil ?_; refine hK3 _ _ ?_; clear hK3; refine c_cond H rfl ?_ ?_
  · intro h15
    try have p15 := of_decide_eq_true h15
    exact absurd h15 (by decide)
  intro h15
  try have p15 := of_decide_eq_false h15
  refine c_skip ?_; refine hK2 _ _ ?_; clear hK2; refine c_seq (fun _ hK4 => ?_); refine c_region ?_; refine s_makeMap H wn rfl ?_; clear H; intro bm a w hbm H; refine s_assign H wn rfl rfl ?_; clear H; intro a H; refine wl_nil ?_; refine hK4 _ _ ?_; clear hK4; refine c_seq (fun _ hK5 => ?_); refine c_region ?_; (iterate 2 refine s_move H wn rfl rfl ?_; clear H; intro a H); refine s_callL en24bsm (Li := []) (L := [bMap bm []]) H wn rfl (btokens_spec [] (Hp.owns (Li := []) H.hp) h0 s hs hz1 (by decide)) rfl ?_; clear H; rintro v19 G19 L19 a w ⟨rfl, hr19⟩ hm19 H; (iterate 2 refine s_move H wn rfl rfl ?_; clear H; intro a H); refine s_callL en24bsm (Li := []) (L := [bMap bm _]) H wn rfl (btokens_spec _ (Hp.owns (Li := []) H.hp) (fun b o h => hm19 b o (h0 b o h)) t ht hz2 (by omega)) rfl ?_; clear H; rintro v22 G22 L22 a w ⟨rfl, hr22⟩ hm22 H; (iterate 3 refine s_assign H wn rfl rfl ?_; clear H; intro a H); refine wl_nil ?_; refine hK5 _ _ ?_; clear hK5; refine c_ret ?_; refine (leaveT H Tryd.results17 (.cons (rv_tmp H rfl) (.cons (rv_tmp H rfl) (.cons (rv_tmp H rfl) .nil))) ?_).1; exact H.hp.ret ⟨_, _, rfl, hr19.mono hm22, hr22⟩
def sumW : List TokD → Int
  | [] => 0
  | x :: l => x.weight + sumW l
theorem sumW_snoc (l : List TokD) (x : TokD) : sumW (l ++ [x]) = sumW l + x.weight := by
  induction l with
  | nil => simp [sumW]
  | cons y l ih => simp only [List.cons_append, sumW, ih]; omega
theorem sumW_in : ∀ (l : List TokD), (∀ x ∈ l, 1 ≤ x.weight ∧ x.weight ≤ 1000) → (l.length : Int) ≤ sumW l ∧ sumW l ≤ 1000 * l.length
  | [], _ => by simp [sumW]
  | x :: l, h => by
    have h1 := h x (List.mem_cons_self ..); have h2 := sumW_in l fun y hy => h y (List.mem_cons_of_mem _ hy)
    simp only [sumW, List.length_cons]; omega
/-- The similarity of two lists of tokens. -/
def alnS (a b : List TokD) : Int := if sumW (a ++ b) = 0 then 1000 else (2000 * sol a b 0 0).tdiv (sumW (a ++ b))
theorem chkT_ok {l : List TokD} (h : ∀ x ∈ l, 1 ≤ x.weight ∧ x.weight ≤ 1000) (hl : l.length ≤ 2048) : chkT l = 0 := by
  rw [chkT, if_neg (by omega), if_pos]; rw [List.all_eq_true]; intro x hx; have := h x hx
  simp [okT, this]
theorem tokrow_row {G : GH} {l : List TokD} {v : Value} (h : RepV G (.sl 2 (l.map TokD.dat)) v) : RepRow G (tokRow l) [v] := by
  simp only [tokRow, RepRow]
  exact ⟨_, _, rfl, h, rfl⟩
set_option maxHeartbeats 1000000 in
theorem asim_spec (G : GH) (w0 : World) (hG : Hold G w0) (la lb : List TokD) (v u : Value) (hv : RepV G (.sl 2 (la.map TokD.dat)) v) (hu : RepV G (.sl 2 (lb.map TokD.dat)) u) (ha : la.length ≤ 2048) (hb : lb.length ≤ 2048) (hwa : ∀ x ∈ la, 1 ≤ x.weight ∧ x.weight ≤ 1000) (hwb : ∀ x ∈ lb, 1 ≤ x.weight ∧ x.weight ≤ 1000) :
    Calls Tryd.prog 28 #[v, u] w0 (Ret w0 G fun r G' => r = .tuple #[vi (alnS la lb), vi 0]) := by
  obtain ⟨vA, vc, rfl, hc1, hc2, -⟩ := hv.slice; obtain ⟨uA, uc, rfl, hd1, hd2, -⟩ := hu.slice; have hml : maxLen = 9223372036854775807 := rfl; have hsb := sol_bound hwa hwb _ 0 0 (Nat.le_refl _)
  have hok : bothT la lb = 0 := by rw [bothT, if_pos (chkT_ok hwa ha), chkT_ok hwb hb]
  have hll : (la ++ lb).length = la.length + lb.length := List.length_append; have hsw := sumW_in (la ++ lb) (fun x hx => (List.mem_append.1 hx).elim (hwa x) (hwb x)); (iterate 2 rw [List.length_map] at *); refine enter (N := 39) (T := [(0, _), (1, _)]) (F := fun k => k < w0.heap.size) (L := []) Tryd.func28 rfl Tryd.ntmps28 rfl rfl hG (fun _ h => h) (fun _ h => by cases h) (fun _ h => by cases h) (fun _ h => by cases h) List.Pairwise.nil ?_; intro a H; refine c_seq (fun _ hK1 => ?_); refine c_region ?_; (iterate 2 refine s_assign H wn rfl rfl ?_; clear H; intro a H); refine wl_nil ?_; refine hK1 _ _ ?_; clear hK1; refine c_seq (fun _ hK2 => ?_); refine c_seq (fun _ hK3 => ?_); refine c_region ?_; (iterate 2 refine s_move H wn rfl rfl ?_; clear H; intro a H); refine s_call en36bsm H wn rfl (both_spec _ _ H.hp.ro la lb _ _ hv hu) rfl ?_; clear H; rintro v12 _ a w ⟨rfl, rfl⟩ - H; rw [hok] at H; refine s_assign H wn rfl rfl ?_; clear H; intro a H; refine wl_nil ?_; refine hK3 _ _ ?_; clear hK3; refine c_seq (fun _ hK4 => ?_); refine c_region ?_; refine s_move H wn rfl rfl ?_; clear H; intro a H; refine s_cmp H wn rfl rfl rfl rfl ?_; clear H; intro a H; refine wl_nil ?_; refine hK4 _ _ ?_; clear hK4; refine c_cond H rfl ?_ ?_
  · intro h14
    try have p14 := of_decide_eq_true h14
    exact absurd h14 (by decide)
  intro h14
  try have p14 := of_decide_eq_false h14
  refine c_skip ?_; refine hK2 _ _ ?_; clear hK2; refine c_seq (fun _ hK5 => ?_); refine c_region ?_; refine s_assign H wn rfl rfl ?_; clear H; intro a H; refine wl_nil ?_; refine hK5 _ _ ?_; clear hK5; refine c_seq (fun _ hK6 => ?_); refine c_seq (fun _ hK7 => ?_); refine c_region ?_; (iterate 2 refine s_move H wn rfl rfl ?_; clear H; intro a H); refine s_buildSlice un105bsm ty41bsm [_, _] [_, _] H wn rfl rfl rfl rfl rfl (by intro i q h; match i, h with | 0, h => exact h | 1, h => exact h | n + 2, h => simp at h) rfl rfl ?_; clear H; intro b18 a w hb18 H; obtain ⟨G18, hm18, hg18, H⟩ := H.giveBox; refine s_call en37bsm H wn rfl (concatT_spec _ _ H.hp.ro [la, lb] _ (RepV.of_row (xs := [.slice vA la.length vc, .slice uA lb.length uc]) hg18 rfl (Nat.le_refl _) (by decide) rfl (by simpa using ((RepCat.nil (sz := 1)).snoc (tokrow_row (hv.mono hm18)) rfl).snoc (tokrow_row (hu.mono hm18)) rfl)) (by simp; omega)) rfl ?_; clear H; rintro v19 G19 a w hr19 hm19 H; rw [show [la, lb].flatten = la ++ lb by simp] at hr19; obtain ⟨cA, cc, rfl, he1, he2, -⟩ := hr19.slice; rw [List.length_map] at *; refine s_len un41bsm H wn rfl rfl ?_; clear H; intro a H; refine s_move H wn rfl rfl ?_; clear H; intro a H; refine wl_nil ?_; refine hK7 _ _ ?_; clear hK7; refine c_block ?_; skip; refine c_loopS (ι := Nat) (Tc := [(0, _), (1, _), (19, _), (20, _)]) (Lc := []) (fun (gh : Nat) => [(7, vi (sumW ((la ++ lb).take gh))), (21, vi gh)]) (fun (gh : Nat) => []) (fun (gh : Nat) => G19) (fun (gh : Nat) => gh ≤ (la ++ lb).length) (fun (gh : Nat) => (la ++ lb).length - gh) (0) (by exact (H).sub ⟨rfl, rfl, rfl, rfl, rfl, rfl, trivial⟩) ?_ ?_
  · exact Nat.zero_le _
  clear H; intro gh a w hI H; obtain ⟨k, hgh⟩ : ∃ x, x = gh := ⟨_, rfl⟩; subst hgh; have hk := hI; dsimp only [List.cons_append, List.nil_append, List.append_nil] at H; refine c_seq (fun _ hK8 => ?_); refine c_region ?_; refine s_cmp H wn rfl rfl rfl rfl ?_; clear H; intro a H; refine wl_nil ?_; refine hK8 _ _ ?_; clear hK8; refine c_seq (fun _ hK9 => ?_); refine c_cond H rfl ?_ ?_
  · intro h22
    try have p22 := of_decide_eq_true h22
    have hk1 : k < (la ++ lb).length := by omega
    obtain ⟨b, o, rfl, hrow⟩ := tok_at hr19 hk1
    have hsu : sumW ((la ++ lb).take (k + 1)) = sumW ((la ++ lb).take k) + (la ++ lb)[k].weight := by rw [List.take_succ_eq_append_getElem hk1, sumW_snoc]
    have hin := sumW_in ((la ++ lb).take (k + 1)) (fun x hx => (List.mem_append.1 (List.mem_of_mem_take hx)).elim (hwa x) (hwb x))
    have htk : ((la ++ lb).take (k + 1)).length ≤ (la ++ lb).length := by rw [List.length_take]; omega
    refine c_skip ?_; refine hK9 _ _ ?_; clear hK9; refine c_seq (fun _ hK10 => ?_); refine c_block ?_; refine c_seq (fun _ hK11 => ?_); refine c_region ?_; refine s_index un41bsm ty48bsm _ H wn rfl rfl rfl (by first | assumption | omega) rfl ?_; clear H; intro a H; refine s_loada ty48bsm (cs := [_, _]) H wn rfl rfl (fun j v hj => H.hp.gcell (hrow j v hj)) rfl ?_; clear H; intro a H; refine s_alloc ty48bsm H wn rfl ?_; clear H; intro b9 a w hb9 H; refine s_store ty48bsm 0 (vs := [_, _]) _ H wn rfl rfl rfl rfl rfl rfl rfl rfl ?_; clear H; intro w H; dsimp only [List.set, setRow] at H; refine wl_nil ?_; refine hK11 _ _ ?_; clear hK11; refine c_region ?_; refine s_move H wn rfl rfl ?_; clear H; intro a H; refine s_field fd48_1bsm H wn rfl rfl ?_; clear H; intro a H; refine s_load ty3bsm H wn rfl (H.hp.ocell 0 rfl rfl) rfl ?_; clear H; intro a H; refine s_add _ H wn rfl rfl rfl (by omega) (by omega) rfl ?_; clear H; intro a H; rw [← hsu] at H; refine s_assign H wn rfl rfl ?_; clear H; intro a H; refine wl_nil ?_; refine hK10 _ _ ?_; clear hK10; refine c_region ?_; refine s_add _ H wn rfl rfl rfl (by omega) (by omega) rfl ?_; clear H; intro a H; refine s_move H wn rfl rfl ?_; clear H; intro a H; refine wl_nil ?_; refine loop_end ((k + 1)) (by exact (H.pickT (Pl := [_]) (Pl' := []) [] (by decide) rfl).sub ⟨rfl, rfl, rfl, rfl, rfl, rfl, trivial⟩) ?_ ?_
    · omega
    first | omega | (dsimp only; omega)
  intro h22
  try have p22 := of_decide_eq_false h22
  refine c_exit ?_; refine hK6 _ _ ?_; clear hK6; refine c_seq (fun _ hK12 => ?_); refine c_seq (fun _ hK13 => ?_); refine c_region ?_; refine s_move H wn rfl rfl ?_; clear H; intro a H; refine s_cmp H wn rfl rfl rfl rfl ?_; clear H; intro a H; refine wl_nil ?_; refine hK13 _ _ ?_; clear hK13; refine c_cond H rfl ?_ ?_
  · intro h31
    try have p31 := of_decide_eq_true h31
    refine c_seq (fun _ hK14 => ?_); refine c_region ?_; (iterate 2 refine s_assign H wn rfl rfl ?_; clear H; intro a H); refine wl_nil ?_; refine hK14 _ _ ?_; clear hK14; refine c_ret ?_; refine (leaveT H Tryd.results28 (.cons (rv_tmp H rfl) (.cons (rv_tmp H rfl) .nil)) ?_).1; exact H.hp.ret (by rw [alnS, if_pos (by rw [List.take_of_length_le (by omega)] at p31; exact p31)])
  intro h31
  try have p31 := of_decide_eq_false h31
  refine c_skip ?_; refine hK12 _ _ ?_; clear hK12; refine c_seq (fun _ hK15 => ?_); rw [show (la ++ lb).take k = la ++ lb from List.take_of_length_le (by omega)] at H p31; refine c_region ?_; (iterate 2 refine s_move H wn rfl rfl ?_; clear H; intro a H); refine s_call en38bsm H wn rfl (solve_spec _ _ H.hp.ro la lb _ _ ((hv.mono hm18).mono hm19) ((hu.mono hm18).mono hm19) ha hb hwa hwb) rfl ?_; clear H; rintro v34 G34 a w ⟨q1, q2, q3, rfl⟩ hm34 H; refine s_vfield (off := 0) ⟨by kernel_rfl⟩ H wn rfl rfl rfl ?_; clear H; intro a H; refine s_mul _ H wn rfl rfl rfl (by omega) (by omega) rfl ?_; clear H; intro a H; refine s_move H wn rfl rfl ?_; clear H; intro a H; have hq1 : 0 ≤ (2000 * sol la lb 0 0).tdiv (sumW (la ++ lb)) := Int.tdiv_nonneg (by omega) (by omega)
  have hq2 : (2000 * sol la lb 0 0).tdiv (sumW (la ++ lb)) ≤ 2000 * sol la lb 0 0 := by
    rw [Int.tdiv_eq_ediv_of_nonneg (by omega)]; exact Int.ediv_le_self _ (by omega)
  refine s_quo _ H wn rfl rfl (by omega) rfl (by omega) (by omega) rfl ?_; clear H; intro a H; (iterate 2 refine s_assign H wn rfl rfl ?_; clear H; intro a H); refine wl_nil ?_; refine hK15 _ _ ?_; clear hK15; refine c_ret ?_; refine (leaveT H Tryd.results28 (.cons (rv_tmp H rfl) (.cons (rv_tmp H rfl) .nil)) ?_).1; exact H.hp.ret (by rw [alnS, if_neg (by omega)])
end Go.Proofs.YtpmcdlhhfbobfaaDoor
