/-
  Package alignment: Check, both, weight; slices.Grow and Concat of tokens.
-/
import Derived.Test.YtpmcdlhhfbobfaaDoorBst
namespace Go.Proofs.YtpmcdlhhfbobfaaDoor
open Go.RowKit
theorem un41aln : Tryd.prog.underlying 41 = some (.slice 48) := by kernel_rfl
theorem ty48aln : Ty Tryd.prog 48 2 16 [.int .i64 0, .int .i64 0] true := ⟨by kernel_rfl, by kernel_rfl⟩
theorem fd48_1aln : Fld Tryd.prog 48 1 1 := ⟨by kernel_rfl⟩
theorem ty3aln : Ty Tryd.prog 3 1 8 [.int .i64 0] false := ⟨by kernel_rfl, by kernel_rfl⟩
theorem en50aln : ∀ args w, (callFunc 50 args).run Tryd.prog w = .ok (.enter 50 args) w := enters Tryd.func50 rfl (by kernel_rfl)
theorem un3aln : Tryd.prog.underlying 3 = some (.int .i64) := by kernel_rfl
theorem en51aln : ∀ args w, (callFunc 51 args).run Tryd.prog w = .ok (.enter 51 args) w := enters Tryd.func51 rfl (by kernel_rfl)
theorem un105aln : Tryd.prog.underlying 105 = some (.slice 41) := by kernel_rfl
theorem ty41aln : Ty Tryd.prog 41 1 24 [.slice none 0 0] false := ⟨by kernel_rfl, by kernel_rfl⟩
structure TokD where
  key : Int
  weight : Int
def TokD.dat (x : TokD) : List Dat := [li x.key, li x.weight]
theorem tok_row (G : GH) (x : TokD) : RepRow G x.dat [vi x.key, vi x.weight] := by
  simp only [TokD.dat, RepRow]
  exact ⟨_, _, rfl, by simp [RepV, Value.oneCell'], _, _, rfl, by simp [RepV, Value.oneCell'], rfl⟩
theorem tok_of {G : GH} {x : TokD} {cs : List Value} (h : RepRow G x.dat cs) : cs = [vi x.key, vi x.weight] := by
  simp only [TokD.dat, RepRow, RepV] at h
  obtain ⟨v1, _, rfl, ⟨rfl, -⟩, v2, _, rfl, ⟨rfl, -⟩, rfl⟩ := h
  rfl
theorem tok_at {G : GH} {l : List TokD} {A : Option Addr} {n c k : Nat} (hv : RepV G (.sl 2 (l.map TokD.dat)) (.slice A n c)) (hk : k < l.length) : ∃ b o, A = some ⟨b, o, none⟩ ∧ (∀ j u, [vi l[k].key, vi l[k].weight][j]? = some u → gcell G b (o + k * 2 + j) = some u) := by
  obtain ⟨A', c', he, _, _, hg⟩ := hv.slice
  injection he with e1 e2 e3
  subst e1; obtain ⟨b, o, cs, h1, h2, h3, h4⟩ := hg k l[k].dat (by simp [hk]); obtain rfl := tok_of h4; exact ⟨b, o, h1, h3⟩
def okT (x : TokD) : Bool := decide (1 ≤ x.weight) && decide (x.weight ≤ 1000)
/-- The error of a list of tokens. -/
def chkT (l : List TokD) : Int := if 2048 < l.length then 9 else if l.all okT then 0 else 5
theorem checkT_spec (G : GH) (w0 : World) (hG : Hold G w0) (l : List TokD) (v : Value) (hv : RepV G (.sl 2 (l.map TokD.dat)) v) :
    Calls Tryd.prog 50 #[v] w0 (Ret w0 G fun u G' => u = vi (chkT l) ∧ G = G') := by
  obtain ⟨A, c, rfl, hc1, hc2, -⟩ := hv.slice; have hml : maxLen = 9223372036854775807 := rfl; rw [List.length_map] at *; refine enter (N := 23) (T := [(0, _)]) (F := fun k => k < w0.heap.size) (L := []) Tryd.func50 rfl Tryd.ntmps50 rfl rfl hG (fun _ h => h) (fun _ h => by cases h) (fun _ h => by cases h) (fun _ h => by cases h) List.Pairwise.nil ?_; intro a H; refine c_seq (fun _ hK1 => ?_); refine c_region ?_; refine s_assign H wn rfl rfl ?_; clear H; intro a H; refine wl_nil ?_; refine hK1 _ _ ?_; clear hK1; refine c_seq (fun _ hK2 => ?_); refine c_seq (fun _ hK3 => ?_); refine c_region ?_; refine s_move H wn rfl rfl ?_; clear H; intro a H; refine s_len un41aln H wn rfl rfl ?_; clear H; intro a H; refine s_cmp H wn rfl rfl rfl rfl ?_; clear H; intro a H; refine wl_nil ?_; refine hK3 _ _ ?_; clear hK3; refine c_cond H rfl ?_ ?_
  · intro h7
    try have p7 := of_decide_eq_true h7
    refine c_seq (fun _ hK4 => ?_); refine c_region ?_; refine s_assign H wn rfl rfl ?_; clear H; intro a H; refine wl_nil ?_; refine hK4 _ _ ?_; clear hK4; refine c_ret ?_; refine (leave1 H Tryd.results50 (.cons (rv_tmp H rfl) .nil) ?_).1; exact H.hp.ret ⟨by rw [chkT, if_pos (by omega)], rfl⟩
  intro h7
  try have p7 := of_decide_eq_false h7
  refine c_skip ?_; refine hK2 _ _ ?_; clear hK2; refine c_seq (fun _ hK5 => ?_); refine c_seq (fun _ hK6 => ?_); refine c_region ?_; refine s_move H wn rfl rfl ?_; clear H; intro a H; refine s_len un41aln H wn rfl rfl ?_; clear H; intro a H; refine s_move H wn rfl rfl ?_; clear H; intro a H; refine wl_nil ?_; refine hK6 _ _ ?_; clear hK6; refine c_block ?_; skip; refine c_loopS (ι := Nat) (Tc := [(8, _), (9, _)]) (Lc := []) (fun (gh : Nat) => [(10, vi gh)]) (fun (gh : Nat) => []) (fun (gh : Nat) => G) (fun (gh : Nat) => gh ≤ l.length ∧ ∀ q (hq : q < gh) (hq2 : q < l.length), okT l[q] = true) (fun (gh : Nat) => l.length - gh) (0) (by exact (H).sub ⟨rfl, rfl, rfl, trivial⟩) ?_ ?_
  · exact ⟨by omega, fun q hq => absurd hq (Nat.not_lt_zero _)⟩
  clear H; intro gh a w hI H; obtain ⟨k, hgh⟩ : ∃ x, x = gh := ⟨_, rfl⟩; subst hgh; obtain ⟨hk, hoks⟩ := hI; dsimp only [List.cons_append, List.nil_append, List.append_nil] at H; refine c_seq (fun _ hK7 => ?_); refine c_region ?_; refine s_cmp H wn rfl rfl rfl rfl ?_; clear H; intro a H; refine wl_nil ?_; refine hK7 _ _ ?_; clear hK7; refine c_seq (fun _ hK8 => ?_); refine c_cond H rfl ?_ ?_
  · intro h11
    try have p11 := of_decide_eq_true h11
    have hk2 : k < l.length := by omega
    obtain ⟨b, o, rfl, hrow⟩ := tok_at hv hk2; refine c_skip ?_; refine hK8 _ _ ?_; clear hK8; refine c_seq (fun _ hK9 => ?_); refine c_block ?_; refine c_seq (fun _ hK10 => ?_); refine c_region ?_; refine s_index un41aln ty48aln _ H wn rfl rfl rfl (by first | assumption | omega) rfl ?_; clear H; intro a H; refine s_loada ty48aln (cs := [_, _]) H wn rfl rfl (fun j v hj => H.hp.gcell (hrow j v hj)) rfl ?_; clear H; intro a H; refine s_alloc ty48aln H wn rfl ?_; clear H; intro b4 a w hb4 H; refine s_store ty48aln 0 (vs := [_, _]) _ H wn rfl rfl rfl rfl rfl rfl rfl rfl ?_; clear H; intro w H; dsimp only [List.set, setRow] at H; refine wl_nil ?_; refine hK10 _ _ ?_; clear hK10; refine c_seq (fun _ hK11 => ?_); refine c_region ?_; refine s_field fd48_1aln H wn rfl rfl ?_; clear H; intro a H; refine s_load ty3aln H wn rfl (H.hp.ocell 0 rfl rfl) rfl ?_; clear H; intro a H; refine s_cmp H wn rfl rfl rfl rfl ?_; clear H; intro a H; refine s_move H wn rfl rfl ?_; clear H; intro a H; refine s_split H 17 rfl ?_ ?_
    · intro h17
      try have p17 := of_decide_eq_true h17
      (iterate 3 refine s_skip H rfl rfl h17 rfl ?_; clear H; intro a H); refine s_pick_t H wn rfl h17 rfl rfl ?_; clear H; intro a H; refine wl_nil ?_; refine hK11 _ _ ?_; clear hK11; refine c_cond_t H rfl rfl ?_; refine c_seq (fun _ hK12 => ?_); refine c_region ?_; refine s_assign H wn rfl rfl ?_; clear H; intro a H; refine wl_nil ?_; refine hK12 _ _ ?_; clear hK12; refine c_ret ?_; refine (leave1 H Tryd.results50 (.cons (rv_tmp H rfl) .nil) ?_).1
      first
        | (have hr : ¬ l.all okT = true := fun h => by
            have := List.all_eq_true.1 h _ (List.getElem_mem hk2)
            simp only [okT, Bool.and_eq_true, decide_eq_true_eq] at this
            omega
           exact H.hp.ret ⟨by rw [chkT, if_neg (by omega), if_neg hr], rfl⟩)
        | exact H.hp.ret ⟨by rw [chkT, if_neg (by omega), if_pos (List.all_eq_true.2 fun x hx => by
              obtain ⟨q, hq, rfl⟩ := List.getElem_of_mem hx
              exact hoks q (by omega) hq)], rfl⟩
    intro h17
    try have p17 := of_decide_eq_false h17
    refine s_field fd48_1aln H (wg H rfl rfl h17) rfl rfl ?_; clear H; intro a H; refine s_load ty3aln H (wg H rfl rfl h17) rfl (H.hp.ocell 0 rfl rfl) rfl ?_; clear H; intro a H; refine s_cmp H (wg H rfl rfl h17) rfl rfl rfl rfl ?_; clear H; intro a H; refine s_pick_f H wn rfl h17 rfl rfl ?_; clear H; intro a H; refine wl_nil ?_; refine hK11 _ _ ?_; clear hK11; refine c_cond H rfl ?_ ?_
    · intro h21
      try have p21 := of_decide_eq_true h21
      refine c_seq (fun _ hK13 => ?_); refine c_region ?_; refine s_assign H wn rfl rfl ?_; clear H; intro a H; refine wl_nil ?_; refine hK13 _ _ ?_; clear hK13; refine c_ret ?_; refine (leave1 H Tryd.results50 (.cons (rv_tmp H rfl) .nil) ?_).1
      first
        | (have hr : ¬ l.all okT = true := fun h => by
            have := List.all_eq_true.1 h _ (List.getElem_mem hk2)
            simp only [okT, Bool.and_eq_true, decide_eq_true_eq] at this
            omega
           exact H.hp.ret ⟨by rw [chkT, if_neg (by omega), if_neg hr], rfl⟩)
        | exact H.hp.ret ⟨by rw [chkT, if_neg (by omega), if_pos (List.all_eq_true.2 fun x hx => by
              obtain ⟨q, hq, rfl⟩ := List.getElem_of_mem hx
              exact hoks q (by omega) hq)], rfl⟩
    intro h21
    try have p21 := of_decide_eq_false h21
    refine c_skip ?_; refine hK9 _ _ ?_; clear hK9; refine c_region ?_; refine s_add _ H wn rfl rfl rfl (by omega) (by omega) rfl ?_; clear H; intro a H; refine s_move H wn rfl rfl ?_; clear H; intro a H; refine wl_nil ?_; refine loop_end ((k + 1)) (by exact (H.pickT (Pl := [_]) (Pl' := []) [] (by decide) rfl).sub ⟨rfl, rfl, rfl, trivial⟩) ?_ ?_
    · exact ⟨by omega, fun q hq hq2 => by
          by_cases e : q = k
          · subst e; simp only [okT, Bool.and_eq_true, decide_eq_true_eq]; omega
          exact hoks q (by omega) hq2⟩
    first | omega | (dsimp only; omega)
  intro h11
  try have p11 := of_decide_eq_false h11
  refine c_exit ?_; refine hK5 _ _ ?_; clear hK5; refine c_seq (fun _ hK14 => ?_); refine c_region ?_; refine s_assign H wn rfl rfl ?_; clear H; intro a H; refine wl_nil ?_; refine hK14 _ _ ?_; clear hK14; refine c_ret ?_; refine (leave1 H Tryd.results50 (.cons (rv_tmp H rfl) .nil) ?_).1
  first
    | (have hr : ¬ l.all okT = true := fun h => by
        have := List.all_eq_true.1 h _ (List.getElem_mem hk2)
        simp only [okT, Bool.and_eq_true, decide_eq_true_eq] at this
        omega
       exact H.hp.ret ⟨by rw [chkT, if_neg (by omega), if_neg hr], rfl⟩)
    | exact H.hp.ret ⟨by rw [chkT, if_neg (by omega), if_pos (List.all_eq_true.2 fun x hx => by
          obtain ⟨q, hq, rfl⟩ := List.getElem_of_mem hx
          exact hoks q (by omega) hq)], rfl⟩
def bothT (a b : List TokD) : Int := if chkT a = 0 then chkT b else chkT a
theorem both_spec (G : GH) (w0 : World) (hG : Hold G w0) (la lb : List TokD) (v u : Value) (hv : RepV G (.sl 2 (la.map TokD.dat)) v) (hu : RepV G (.sl 2 (lb.map TokD.dat)) u) :
    Calls Tryd.prog 36 #[v, u] w0 (Ret w0 G fun r G' => r = vi (bothT la lb) ∧ G = G') := by
  refine enter (N := 13) (T := [(0, _), (1, _)]) (F := fun k => k < w0.heap.size) (L := []) Tryd.func36 rfl Tryd.ntmps36 rfl rfl hG (fun _ h => h) (fun _ h => by cases h) (fun _ h => by cases h) (fun _ h => by cases h) List.Pairwise.nil ?_; intro a H; refine c_seq (fun _ hK1 => ?_); refine c_region ?_; refine s_assign H wn rfl rfl ?_; clear H; intro a H; refine wl_nil ?_; refine hK1 _ _ ?_; clear hK1; refine c_seq (fun _ hK2 => ?_); refine c_seq (fun _ hK3 => ?_); refine c_region ?_; refine s_move H wn rfl rfl ?_; clear H; intro a H; refine s_call en50aln H wn rfl (checkT_spec _ _ H.hp.ro la v hv) rfl ?_; clear H; rintro v7 _ a w ⟨rfl, rfl⟩ - H; refine s_assign H wn rfl rfl ?_; clear H; intro a H; refine wl_nil ?_; refine hK3 _ _ ?_; clear hK3; refine c_seq (fun _ hK4 => ?_); refine c_region ?_; refine s_move H wn rfl rfl ?_; clear H; intro a H; refine s_cmp H wn rfl rfl rfl rfl ?_; clear H; intro a H; refine wl_nil ?_; refine hK4 _ _ ?_; clear hK4; refine c_cond H rfl ?_ ?_
  · intro h9
    try have p9 := of_decide_eq_true h9
    refine c_seq (fun _ hK5 => ?_); refine c_region ?_; refine s_move H wn rfl rfl ?_; clear H; intro a H; refine s_assign H wn rfl rfl ?_; clear H; intro a H; refine wl_nil ?_; refine hK5 _ _ ?_; clear hK5; refine c_ret ?_; refine (leave1 H Tryd.results36 (.cons (rv_tmp H rfl) .nil) ?_).1; exact H.hp.ret ⟨by rw [bothT, if_neg p9], rfl⟩
  intro h9
  try have p9 := of_decide_eq_false h9
  refine c_skip ?_; refine hK2 _ _ ?_; clear hK2; refine c_seq (fun _ hK6 => ?_); refine c_region ?_; refine s_move H wn rfl rfl ?_; clear H; intro a H; refine s_call en50aln H wn rfl (checkT_spec _ _ H.hp.ro lb u hu) rfl ?_; clear H; rintro v12 _ a w ⟨rfl, rfl⟩ - H; refine s_assign H wn rfl rfl ?_; clear H; intro a H; refine wl_nil ?_; refine hK6 _ _ ?_; clear hK6; refine c_ret ?_; refine (leave1 H Tryd.results36 (.cons (rv_tmp H rfl) .nil) ?_).1; exact H.hp.ret ⟨by rw [bothT, if_pos (Decidable.not_not.1 p9)], rfl⟩
def wtT (a b : TokD) : Int := min a.weight b.weight
theorem weight_spec (G : GH) (w0 : World) (hG : Hold G w0) (a b : TokD) : Calls Tryd.prog 53 #[.agg #[vi a.key, vi a.weight], .agg #[vi b.key, vi b.weight]] w0 (Ret w0 G fun u G' => u = vi (wtT a b) ∧ G = G') := by
  refine enter (N := 10) (T := [(0, _), (1, _)]) (F := fun k => k < w0.heap.size) (L := []) Tryd.func53 rfl Tryd.ntmps53 rfl rfl hG (fun _ h => h) (fun _ h => by cases h) (fun _ h => by cases h) (fun _ h => by cases h) List.Pairwise.nil ?_; intro a H; refine c_seq (fun _ hK1 => ?_); refine c_region ?_; refine s_box (cs := [_, _]) H wn rfl rfl rfl ?_; clear H; intro b2 a w hb2 H; refine s_box (cs := [_, _]) H wn rfl rfl rfl ?_; clear H; intro b3 a w hb3 H; refine s_assign H wn rfl rfl ?_; clear H; intro a H; refine wl_nil ?_; refine hK1 _ _ ?_; clear hK1; refine c_seq (fun _ hK2 => ?_); refine c_region ?_; refine s_field fd48_1aln H wn rfl rfl ?_; clear H; intro a H; refine s_load ty3aln H wn rfl (H.hp.ocell 1 rfl rfl) rfl ?_; clear H; intro a H; refine s_field fd48_1aln H wn rfl rfl ?_; clear H; intro a H; refine s_load ty3aln H wn rfl (H.hp.ocell 0 rfl rfl) rfl ?_; clear H; intro a H; refine s_min H wn rfl rfl rfl ?_; clear H; intro a H; refine s_assign H wn rfl rfl ?_; clear H; intro a H; refine wl_nil ?_; refine hK2 _ _ ?_; clear hK2; refine c_ret ?_; refine (leave1 H Tryd.results53 (.cons (rv_tmp H rfl) .nil) ?_).1; exact H.hp.ret ⟨rfl, rfl⟩
theorem growT_spec (G : GH) (w0 : World) (n : Nat) (hO : Owns G [] w0) (hn : n ≤ 4294967296) : Calls Tryd.prog 51 #[.slice none 0 0, vi n] w0 (RetL w0 G [] fun u G' L' => G = G' ∧ IsRow 48 2 u 0 [] L') := by
  have hml : 4294967297 ≤ maxLen := by decide
  refine enterL (N := 27) (T := [(0, _), (1, _)]) Tryd.func51 rfl Tryd.ntmps51 rfl rfl hO ?_; intro a H; refine c_seq (fun _ hK1 => ?_); refine c_region ?_; refine s_assign H wn rfl rfl ?_; clear H; intro a H; refine wl_nil ?_; refine hK1 _ _ ?_; clear hK1; refine c_seq (fun _ hK2 => ?_); refine c_seq (fun _ hK3 => ?_); refine c_region ?_; refine s_move H wn rfl rfl ?_; clear H; intro a H; refine s_cmp H wn rfl rfl rfl rfl ?_; clear H; intro a H; refine wl_nil ?_; refine hK3 _ _ ?_; clear hK3; refine c_cond H rfl ?_ ?_
  · intro h6
    try have p6 := of_decide_eq_true h6
    exact absurd p6 (by omega)
  intro h6
  try have p6 := of_decide_eq_false h6
  refine c_skip ?_; refine hK2 _ _ ?_; clear hK2; refine c_seq (fun _ hK4 => ?_); refine c_seq (fun _ hK5 => ?_); refine c_region ?_; (iterate 2 refine s_move H wn rfl rfl ?_; clear H; intro a H); refine s_cap un41aln H wn rfl rfl ?_; clear H; intro a H; refine s_move H wn rfl rfl ?_; clear H; intro a H; refine s_len un41aln H wn rfl rfl ?_; clear H; intro a H; (iterate 2 refine s_sub _ H wn rfl rfl rfl (by omega) (by omega) rfl ?_; clear H; intro a H); rw [show ((n : Int) - (((0 : Nat) : Int) - ((0 : Nat) : Int))) = (n : Int) by omega] at H; refine s_assign H wn rfl rfl ?_; clear H; intro a H; refine wl_nil ?_; refine hK5 _ _ ?_; clear hK5; refine c_seq (fun _ hK6 => ?_); refine c_region ?_; refine s_move H wn rfl rfl ?_; clear H; intro a H; refine s_cmp H wn rfl rfl rfl rfl ?_; clear H; intro a H; refine wl_nil ?_; refine hK6 _ _ ?_; clear hK6; refine c_cond H rfl ?_ ?_
  · intro h16
    try have p16 := of_decide_eq_true h16
    refine c_region ?_; (iterate 2 refine s_move H wn rfl rfl ?_; clear H; intro a H); refine s_cap un41aln H wn rfl rfl ?_; clear H; intro a H; refine s_sliceTo un41aln ty48aln 0 H wn rfl rfl rfl (Nat.le_refl _) rfl ?_; clear H; intro a H; refine s_move H wn rfl rfl ?_; clear H; intro a H; refine s_appendZ un41aln un3aln ty48aln rfl rfl H wn rfl rfl (by omega) (by omega) (by omega) rfl ?_; clear H; intro b22 cap22 cur22 a w hb22 hc22 hcm22 hcs22 H; refine s_move H wn rfl rfl ?_; clear H; intro a H; refine s_len un41aln H wn rfl rfl ?_; clear H; intro a H; refine s_sliceTo un41aln ty48aln 0 H wn rfl rfl rfl (Nat.zero_le _) rfl ?_; clear H; intro a H; refine s_assign H wn rfl rfl ?_; clear H; intro a H; refine wl_nil ?_; refine hK4 _ _ ?_; clear hK4; refine c_seq (fun _ hK7 => ?_); refine c_region ?_; refine s_move H wn rfl rfl ?_; clear H; intro a H; refine s_assign H wn rfl rfl ?_; clear H; intro a H; refine wl_nil ?_; refine hK7 _ _ ?_; clear hK7; refine c_ret ?_; refine (leave1 H Tryd.results51 (.cons (rv_tmp H rfl) .nil) ?_).1; exact H.hp.retL ⟨rfl, by simp, .inr ⟨b22, cap22, cur22, rfl, rfl, Nat.zero_le _, hcm22, hcs22, by simp⟩⟩
  intro h16
  try have p16 := of_decide_eq_false h16
  refine c_skip ?_; refine hK4 _ _ ?_; clear hK4; refine c_seq (fun _ hK8 => ?_); refine c_region ?_; refine s_move H wn rfl rfl ?_; clear H; intro a H; refine s_assign H wn rfl rfl ?_; clear H; intro a H; refine wl_nil ?_; refine hK8 _ _ ?_; clear hK8; refine c_ret ?_; refine (leave1 H Tryd.results51 (.cons (rv_tmp H rfl) .nil) ?_).1; exact H.hp.retL ⟨rfl, IsRow.nil⟩
def tokRow (l : List TokD) : List Dat := [.sl 2 (l.map TokD.dat)]
theorem toks_at {G : GH} {S : List (List TokD)} {A : Option Addr} {n c i : Nat} (hv : RepV G (.sl 1 (S.map tokRow)) (.slice A n c)) (hi : i < S.length) : ∃ b o bA bc, A = some ⟨b, o, none⟩ ∧ gcell G b (o + i * 1) = some (.slice bA S[i].length bc) ∧ RepV G (.sl 2 (S[i].map TokD.dat)) (.slice bA S[i].length bc) := by
  obtain ⟨A', c', he, _, _, hg⟩ := hv.slice
  injection he with e1 e2 e3
  subst e1; obtain ⟨b, o, cs, h1, h2, h3, h4⟩ := hg i (tokRow S[i]) (by simp [hi])
  simp only [tokRow, RepRow] at h4
  obtain ⟨v, _, rfl, h5, rfl⟩ := h4; obtain ⟨bA, bn, bc, rfl⟩ := h5.form; obtain ⟨_, _, he5, -⟩ := h5.slice; obtain ⟨-, hn, -⟩ := Value.slice.inj he5; rw [List.length_map] at hn; subst hn; exact ⟨b, o, bA, bc, h1, h3 0 _ rfl, h5⟩
theorem flat_succ {α : Type} {S : List (List α)} {k : Nat} (h : k < S.length) : (S.take (k + 1)).flatten = (S.take k).flatten ++ S[k] := by rw [List.take_succ_eq_append_getElem h, List.flatten_append, List.flatten_cons, List.flatten_nil, List.append_nil]
theorem flat_take {α : Type} (S : List (List α)) (k : Nat) : (S.take k).flatten.length ≤ S.flatten.length := by
  have e := congrArg List.length (congrArg List.flatten (List.take_append_drop k S)); rw [List.flatten_append, List.length_append] at e; omega
theorem concatT_spec (G : GH) (w0 : World) (hG : Hold G w0) (S : List (List TokD)) (v : Value) (hv : RepV G (.sl 1 (S.map tokRow)) v) (hz : S.flatten.length ≤ 1073741824) :
    Calls Tryd.prog 37 #[v] w0 (Ret w0 G fun u G' => RepV G' (.sl 2 (S.flatten.map TokD.dat)) u) := by
  obtain ⟨A, c, rfl, hc1, hc2, -⟩ := hv.slice; have hml : maxLen = 9223372036854775807 := rfl; rw [List.length_map] at *; refine enter (N := 36) (T := [(0, _)]) (F := fun k => k < w0.heap.size) (L := []) Tryd.func37 rfl Tryd.ntmps37 rfl rfl hG (fun _ h => h) (fun _ h => by cases h) (fun _ h => by cases h) (fun _ h => by cases h) List.Pairwise.nil ?_; intro a H; refine c_seq (fun _ hK1 => ?_); refine c_region ?_; refine s_assign H wn rfl rfl ?_; clear H; intro a H; refine wl_nil ?_; refine hK1 _ _ ?_; clear hK1; refine c_seq (fun _ hK2 => ?_); refine c_region ?_; refine s_assign H wn rfl rfl ?_; clear H; intro a H; refine wl_nil ?_; refine hK2 _ _ ?_; clear hK2; refine c_seq (fun _ hK3 => ?_); refine c_seq (fun _ hK4 => ?_); refine c_region ?_; refine s_move H wn rfl rfl ?_; clear H; intro a H; refine s_len un105aln H wn rfl rfl ?_; clear H; intro a H; refine s_move H wn rfl rfl ?_; clear H; intro a H; refine wl_nil ?_; refine hK4 _ _ ?_; clear hK4; refine c_block ?_; skip; refine c_loopS (ι := Nat) (Tc := [(0, _), (9, _), (10, _)]) (Lc := []) (fun (gh : Nat) => [(3, vi ((S.take gh).flatten.length : Nat)), (11, vi gh)]) (fun (gh : Nat) => []) (fun (gh : Nat) => G) (fun (gh : Nat) => gh ≤ S.length) (fun (gh : Nat) => S.length - gh) (0) (by exact (H).sub ⟨rfl, rfl, rfl, rfl, rfl, trivial⟩) ?_ ?_
  · exact Nat.zero_le _
  clear H; intro gh a w hI H; obtain ⟨k, hgh⟩ : ∃ x, x = gh := ⟨_, rfl⟩; subst hgh; have hk : k ≤ S.length := hI; dsimp only [List.cons_append, List.nil_append, List.append_nil] at H; refine c_seq (fun _ hK5 => ?_); refine c_region ?_; refine s_cmp H wn rfl rfl rfl rfl ?_; clear H; intro a H; refine wl_nil ?_; refine hK5 _ _ ?_; clear hK5; refine c_seq (fun _ hK6 => ?_); refine c_cond H rfl ?_ ?_
  · intro h12
    try have p12 := of_decide_eq_true h12
    have hk2 : k < S.length := by omega
    obtain ⟨b, o, bA, bc, rfl, g1, g2⟩ := toks_at hv hk2; have hft := flat_take S (k + 1); have hfs := congrArg List.length (flat_succ hk2); rw [List.length_append] at hfs; refine c_skip ?_; refine hK6 _ _ ?_; clear hK6; refine c_seq (fun _ hK7 => ?_); refine c_block ?_; refine c_seq (fun _ hK8 => ?_); refine c_region ?_; refine s_index un105aln ty41aln _ H wn rfl rfl rfl (by first | assumption | omega) rfl ?_; clear H; intro a H; refine s_load ty41aln H wn rfl (H.hp.gcell (by assumption)) rfl ?_; clear H; intro a H; refine s_assign H wn rfl rfl ?_; clear H; intro a H; refine wl_nil ?_; refine hK8 _ _ ?_; clear hK8; refine c_seq (fun _ hK9 => ?_); refine c_region ?_; (iterate 2 refine s_move H wn rfl rfl ?_; clear H; intro a H); refine s_len un41aln H wn rfl rfl ?_; clear H; intro a H; refine s_add _ H wn rfl rfl rfl (by omega) (by omega) rfl ?_; clear H; intro a H; rw [show (((S.take k).flatten.length : Nat) : Int) + (S[k].length : Int) = (((S.take (k + 1)).flatten.length : Nat) : Int) by omega] at H; refine s_assign H wn rfl rfl ?_; clear H; intro a H; refine wl_nil ?_; refine hK9 _ _ ?_; clear hK9; refine c_seq (fun _ hK10 => ?_); refine c_region ?_; refine s_move H wn rfl rfl ?_; clear H; intro a H; refine s_cmp H wn rfl rfl rfl rfl ?_; clear H; intro a H; refine wl_nil ?_; refine hK10 _ _ ?_; clear hK10; refine c_cond H rfl ?_ ?_
    · intro h20
      try have p20 := of_decide_eq_true h20
      exact absurd p20 (by omega)
    intro h20
    try have p20 := of_decide_eq_false h20
    refine c_skip ?_; refine hK7 _ _ ?_; clear hK7; refine c_region ?_; refine s_add _ H wn rfl rfl rfl (by omega) (by omega) rfl ?_; clear H; intro a H; refine s_move H wn rfl rfl ?_; clear H; intro a H; refine wl_nil ?_; refine loop_end ((k + 1)) (by exact (H).sub ⟨rfl, rfl, rfl, rfl, rfl, trivial⟩) ?_ ?_
    · exact hk2
    first | omega | (dsimp only; omega)
  intro h12
  try have p12 := of_decide_eq_false h12
  refine c_exit ?_; refine hK3 _ _ ?_; clear hK3; refine c_seq (fun _ hK11 => ?_); rw [show S.take k = S from List.take_of_length_le (by omega)] at H; refine c_region ?_; refine s_move H wn rfl rfl ?_; clear H; intro a H; refine s_callL en51aln (Li := []) (L := []) H wn rfl (growT_spec _ _ S.flatten.length (Hp.owns (Li := []) H.hp) (by omega)) rfl ?_; clear H; rintro v24 _ L24 a w ⟨rfl, hrw24⟩ hm24 H; dsimp only [List.nil_append] at H; refine s_assign H wn rfl rfl ?_; clear H; intro a H; refine wl_nil ?_; refine hK11 _ _ ?_; clear hK11; refine c_seq (fun _ hK12 => ?_); refine c_seq (fun _ hK13 => ?_); refine c_region ?_; refine s_move H wn rfl rfl ?_; clear H; intro a H; refine s_len un105aln H wn rfl rfl ?_; clear H; intro a H; refine s_move H wn rfl rfl ?_; clear H; intro a H; refine wl_nil ?_; refine hK13 _ _ ?_; clear hK13; refine c_block ?_; skip; refine c_loopS (ι := Nat × Value × List Value × OL) (Tc := [(25, _), (26, _)]) (Lc := []) (fun (gh : Nat × Value × List Value × OL) => [(6, gh.2.1), (27, vi gh.1)]) (fun (gh : Nat × Value × List Value × OL) => [] ++ gh.2.2.2) (fun (gh : Nat × Value × List Value × OL) => G) (fun (gh : Nat × Value × List Value × OL) => gh.1 ≤ S.length ∧ IsRow 48 2 gh.2.1 (S.take gh.1).flatten.length gh.2.2.1 gh.2.2.2 ∧ RepCat G 2 ((S.take gh.1).flatten.map TokD.dat) gh.2.2.1) (fun (gh : Nat × Value × List Value × OL) => S.length - gh.1) ((0, v24, [], L24)) (by exact (H : St _ _ _ _ _ _ ([] ++ L24) _ _ _).sub ⟨rfl, rfl, rfl, rfl, trivial⟩) ?_ ?_
  · exact ⟨Nat.zero_le _, hrw24, RepCat.nil⟩
  clear H; intro gh a w hI H; obtain ⟨j, v, xs, Lo⟩ := gh; dsimp only at hI H; obtain ⟨hj, hrw, hcat⟩ := hI; dsimp only [List.cons_append, List.nil_append, List.append_nil] at H; refine c_seq (fun _ hK14 => ?_); refine c_region ?_; refine s_cmp H wn rfl rfl rfl rfl ?_; clear H; intro a H; refine wl_nil ?_; refine hK14 _ _ ?_; clear hK14; refine c_seq (fun _ hK15 => ?_); refine c_cond H rfl ?_ ?_
  · intro h28
    try have p28 := of_decide_eq_true h28
    have hj2 : j < S.length := by omega
    obtain ⟨b, o, bA, bc, rfl, g1, g2⟩ := toks_at hv hj2; have hft := flat_take S (j + 1); have hfs := congrArg List.length (flat_succ hj2); rw [List.length_append] at hfs; refine c_skip ?_; refine hK15 _ _ ?_; clear hK15; refine c_seq (fun _ hK16 => ?_); refine c_block ?_; refine c_seq (fun _ hK17 => ?_); refine c_region ?_; refine s_index un105aln ty41aln _ H wn rfl rfl rfl (by first | assumption | omega) rfl ?_; clear H; intro a H; refine s_load ty41aln H wn rfl (H.hp.gcell (by assumption)) rfl ?_; clear H; intro a H; refine s_assign H wn rfl rfl ?_; clear H; intro a H; refine wl_nil ?_; refine hK17 _ _ ?_; clear hK17; refine c_region ?_; (iterate 2 refine s_move H wn rfl rfl ?_; clear H; intro a H); refine s_appendG (Li := []) (Lo := Lo) un41aln ty48aln rfl rfl H wn rfl rfl hrw g2 (by omega) (by omega) rfl ?_; clear H; intro v33 Lo33 news33 a w hrw33 hcat33 H; dsimp only [List.nil_append] at H; refine s_assign H wn rfl rfl ?_; clear H; intro a H; refine wl_nil ?_; refine hK16 _ _ ?_; clear hK16; refine c_region ?_; refine s_add _ H wn rfl rfl rfl (by omega) (by omega) rfl ?_; clear H; intro a H; refine s_move H wn rfl rfl ?_; clear H; intro a H; refine wl_nil ?_; refine loop_end ((j + 1, v33, xs ++ news33, Lo33)) (by exact (H).sub ⟨rfl, rfl, rfl, rfl, trivial⟩) ?_ ?_
    · (try dsimp only); exact ⟨by omega, by rw [hfs]; exact hrw33, by rw [flat_succ hj2, List.map_append]; exact hcat.append hcat33⟩
    first | omega | (dsimp only; omega)
  intro h28
  try have p28 := of_decide_eq_false h28
  refine c_exit ?_; refine hK12 _ _ ?_; clear hK12; refine c_seq (fun _ hK18 => ?_); obtain ⟨Gr, hmr, hrep, H⟩ := St.giveRow (Li := []) H hrw (rows := (S.take j).flatten.map TokD.dat) (by rw [List.length_map]) hcat; rw [show S.take j = S from List.take_of_length_le (by omega)] at hrep; refine c_region ?_; refine s_move H wn rfl rfl ?_; clear H; intro a H; refine s_assign H wn rfl rfl ?_; clear H; intro a H; refine wl_nil ?_; refine hK18 _ _ ?_; clear hK18; refine c_ret ?_; refine (leave1 H Tryd.results37 (.cons (rv_tmp H rfl) .nil) ?_).1; exact H.hp.ret hrep
end Go.Proofs.YtpmcdlhhfbobfaaDoor
