/-
  Package segment: find, is.
-/
import Derived.Test.YtpmcdlhhfbobfaaDoorPts
namespace Go.Proofs.YtpmcdlhhfbobfaaDoor
open Go.RowKit
theorem fd117_1fnd : Fld Tryd.prog 117 1 1 := ⟨by kernel_rfl⟩
theorem ty3fnd : Ty Tryd.prog 3 1 8 [.int .i64 0] false := ⟨by kernel_rfl, by kernel_rfl⟩
theorem fd117_0fnd : Fld Tryd.prog 117 0 0 := ⟨by kernel_rfl⟩
theorem un93fnd : Tryd.prog.underlying 93 = some (.int .u64) := by kernel_rfl
theorem un3fnd : Tryd.prog.underlying 3 = some (.int .i64) := by kernel_rfl
theorem un96fnd : Tryd.prog.underlying 96 = some (.slice 117) := by kernel_rfl
theorem ty117fnd : Ty Tryd.prog 117 3 24 [.int .i64 0, .int .i64 0, .int .i64 0] true := ⟨by kernel_rfl, by kernel_rfl⟩
theorem en59fnd : ∀ args w, (callFunc 59 args).run Tryd.prog w = .ok (.enter 59 args) w := enters Tryd.func59 rfl (by kernel_rfl)
theorem en58fnd : ∀ args w, (callFunc 58 args).run Tryd.prog w = .ok (.enter 58 args) w := enters Tryd.func58 rfl (by kernel_rfl)
theorem fd117_2fnd : Fld Tryd.prog 117 2 2 := ⟨by kernel_rfl⟩
theorem un32fnd : Tryd.prog.underlying 32 = some (.slice 3) := by kernel_rfl
theorem en73fnd : ∀ args w, (callFunc 73 args).run Tryd.prog w = .ok (.enter 73 args) w := enters Tryd.func73 rfl (by kernel_rfl)
theorem en68fnd : ∀ args w, (callFunc 68 args).run Tryd.prog w = .ok (.enter 68 args) w := enters Tryd.func68 rfl (by kernel_rfl)
theorem fd100_0fnd : Fld Tryd.prog 100 0 0 := ⟨by kernel_rfl⟩
def cmpS (x : SpanD) (p : Int) : Int := if x.high < p then -1 else if x.low > p then 1 else 0
theorem cmp_spec (G : GH) (w0 : World) (hG : Hold G w0) (x : SpanD) (p : Int) : Calls Tryd.prog 59 #[.agg #[vi x.low, vi x.high, vi x.cls], vi p] w0 (Ret w0 G fun u G' => u = vi (cmpS x p)) := by
  refine enter (N := 15) (T := [(0, _), (1, _)]) (F := fun k => k < w0.heap.size) (L := []) Tryd.func59 rfl Tryd.ntmps59 rfl rfl hG (fun _ h => h) (fun _ h => by cases h) (fun _ h => by cases h) (fun _ h => by cases h) List.Pairwise.nil ?_; intro a H; refine c_seq (fun _ hK1 => ?_); refine c_region ?_; refine s_box (cs := [_, _, _]) H wn rfl rfl rfl ?_; clear H; intro b2 a w hb2 H; refine s_assign H wn rfl rfl ?_; clear H; intro a H; refine wl_nil ?_; refine hK1 _ _ ?_; clear hK1; refine c_seq (fun _ hK2 => ?_); refine c_block ?_; refine c_seq (fun _ hK3 => ?_); refine c_region ?_; refine s_field fd117_1fnd H wn rfl rfl ?_; clear H; intro a H; refine s_load ty3fnd H wn rfl (H.hp.ocell 0 rfl rfl) rfl ?_; clear H; intro a H; refine s_move H wn rfl rfl ?_; clear H; intro a H; refine s_cmp H wn rfl rfl rfl rfl ?_; clear H; intro a H; refine s_assign H wn rfl rfl ?_; clear H; intro a H; refine wl_nil ?_; refine hK3 _ _ ?_; clear hK3; refine c_cond H rfl ?_ ?_
  · intro h5
    try have p5 := of_decide_eq_true h5
    refine c_seq (fun _ hK4 => ?_); refine c_region ?_; refine s_assign H wn rfl rfl ?_; clear H; intro a H; refine wl_nil ?_; refine hK4 _ _ ?_; clear hK4; refine c_ret ?_; refine (leave1 H Tryd.results59 (.cons (rv_tmp H rfl) .nil) ?_).1; exact H.hp.ret (by unfold cmpS; repeat (first | rw [if_pos (by omega)] | rw [if_neg (by omega)]))
  intro h5
  try have p5 := of_decide_eq_false h5
  refine c_seq (fun _ hK5 => ?_); refine c_region ?_; refine s_field fd117_0fnd H wn rfl rfl ?_; clear H; intro a H; refine s_load ty3fnd H wn rfl (H.hp.ocell 0 rfl rfl) rfl ?_; clear H; intro a H; refine s_move H wn rfl rfl ?_; clear H; intro a H; refine s_cmp H wn rfl rfl rfl rfl ?_; clear H; intro a H; refine s_assign H wn rfl rfl ?_; clear H; intro a H; refine wl_nil ?_; refine hK5 _ _ ?_; clear hK5; refine c_cond H rfl ?_ ?_
  · intro h10
    try have p10 := of_decide_eq_true h10
    refine c_seq (fun _ hK6 => ?_); refine c_region ?_; refine s_assign H wn rfl rfl ?_; clear H; intro a H; refine wl_nil ?_; refine hK6 _ _ ?_; clear hK6; refine c_ret ?_; refine (leave1 H Tryd.results59 (.cons (rv_tmp H rfl) .nil) ?_).1; exact H.hp.ret (by unfold cmpS; repeat (first | rw [if_pos (by omega)] | rw [if_neg (by omega)]))
  intro h10
  try have p10 := of_decide_eq_false h10
  refine c_skip ?_; refine hK2 _ _ ?_; clear hK2; refine c_seq (fun _ hK7 => ?_); refine c_region ?_; refine s_assign H wn rfl rfl ?_; clear H; intro a H; refine wl_nil ?_; refine hK7 _ _ ?_; clear hK7; refine c_ret ?_; refine (leave1 H Tryd.results59 (.cons (rv_tmp H rfl) .nil) ?_).1; exact H.hp.ret (by unfold cmpS; repeat (first | rw [if_pos (by omega)] | rw [if_neg (by omega)]))
def geS (l : List SpanD) (p : Int) (i : Nat) : Bool := match l[i]? with | some x => decide (¬ cmpS x p < 0) | none => false
def fndK (l : List SpanD) (p : Int) : Nat := bs (geS l p) l.length 0 l.length
def fndB (l : List SpanD) (p : Int) : Bool := match l[fndK l p]? with | some x => decide (cmpS x p = 0) | none => false
/-- The class of a code point. -/
def fndS (l : List SpanD) (p : Int) : Int := match l[fndK l p]? with | some x => if cmpS x p = 0 then x.cls else 0 | none => 0
theorem bsearch_spec (G : GH) (w0 : World) (hG : Hold G w0) (l : List SpanD) (p : Int) (v : Value) (hv : RepV G (.sl 3 (l.map SpanD.dat)) v) (hl : l.length ≤ 4294967296) :
    Calls Tryd.prog 58 #[v, vi p, .func (.func 59) #[] #[]] w0 (Ret w0 G fun u G' => u = .tuple #[vi (fndK l p), .bool (fndB l p)]) := by
  obtain ⟨A, c, rfl, hc1, hc2, -⟩ := hv.slice; rw [List.length_map] at *; refine enter (N := 49) (T := [(0, _), (1, _), (2, _)]) (F := fun k => k < w0.heap.size) (L := []) Tryd.func58 rfl Tryd.ntmps58 rfl rfl hG (fun _ h => h) (fun _ h => by cases h) (fun _ h => by cases h) (fun _ h => by cases h) List.Pairwise.nil ?_; intro a H; refine c_seq (fun _ hK1 => ?_); refine c_region ?_; (iterate 2 refine s_assign H wn rfl rfl ?_; clear H; intro a H); refine wl_nil ?_; refine hK1 _ _ ?_; clear hK1; refine c_seq (fun _ hK2 => ?_); refine c_region ?_; refine s_move H wn rfl rfl ?_; clear H; intro a H; refine s_len un96fnd H wn rfl rfl ?_; clear H; intro a H; refine s_assign H wn rfl rfl ?_; clear H; intro a H; refine wl_nil ?_; refine hK2 _ _ ?_; clear hK2; refine c_seq (fun _ hK3 => ?_); refine c_region ?_; refine s_move H wn rfl rfl ?_; clear H; intro a H; (iterate 2 refine s_assign H wn rfl rfl ?_; clear H; intro a H); refine wl_nil ?_; refine hK3 _ _ ?_; clear hK3; refine c_seq (fun _ hK4 => ?_); refine c_block ?_; skip; refine c_loopS (ι := Nat × Nat × Nat × GH) (Tc := [(0, _), (1, _), (2, _), (8, _)]) (Lc := []) (fun (gh : Nat × Nat × Nat × GH) => [(9, vi gh.1), (10, vi gh.2.1)]) (fun (gh : Nat × Nat × Nat × GH) => []) (fun (gh : Nat × Nat × Nat × GH) => gh.2.2.2) (fun (gh : Nat × Nat × Nat × GH) => gh.1 ≤ gh.2.1 ∧ gh.2.1 ≤ l.length ∧ gh.2.1 - gh.1 ≤ gh.2.2.1 ∧ bs (geS l p) gh.2.2.1 gh.1 gh.2.1 = fndK l p ∧ (∀ b o, G b = some o → gh.2.2.2 b = some o)) (fun (gh : Nat × Nat × Nat × GH) => gh.2.1 - gh.1) ((0, l.length, l.length, G)) (by exact (H).sub ⟨rfl, rfl, rfl, rfl, rfl, rfl, trivial⟩) ?_ ?_
  · exact ⟨Nat.zero_le _, Nat.le_refl _, Nat.sub_le _ _, rfl, fun _ _ h => h⟩
  clear H; intro gh a w hI H; obtain ⟨i, j, f, g⟩ := gh; dsimp only at hI H; obtain ⟨hij, hj, hf1, heq, hgm⟩ := hI; dsimp only [List.cons_append, List.nil_append, List.append_nil] at H; refine c_seq (fun _ hK5 => ?_); refine c_seq (fun _ hK6 => ?_); refine c_region ?_; (iterate 2 refine s_move H wn rfl rfl ?_; clear H; intro a H); refine s_cmp H wn rfl rfl rfl rfl ?_; clear H; intro a H; refine wl_nil ?_; refine hK6 _ _ ?_; clear hK6; refine c_cond H rfl ?_ ?_
  · intro h17
    try have p17 := of_decide_eq_true h17
    have hlt : i < j := by omega
    have hh : (i + j) / 2 < l.length := by omega
    rw [bs_step hf1 hlt] at heq
    have hge : geS l p ((i + j) / 2) = decide (¬ cmpS l[(i + j) / 2] p < 0) := by simp only [geS, List.getElem?_eq_getElem hh]
    rw [hge] at heq; obtain ⟨b, o, rfl, hrow⟩ := span_at hv hh; replace hrow := fun j u hj => gcell_mono hgm (hrow j u hj); refine c_skip ?_; refine hK5 _ _ ?_; clear hK5; refine c_block ?_; refine c_seq (fun _ hK7 => ?_); refine c_region ?_; (iterate 2 refine s_move H wn rfl rfl ?_; clear H; intro a H); refine s_add _ H wn rfl rfl rfl (by omega) (by omega) rfl ?_; clear H; intro a H; rw [show ((i : Int) + (j : Int)) = ((i + j : Nat) : Int) by push_cast; rfl] at H; refine s_conv ((i + j : Nat) : Int) un93fnd un3fnd H wn rfl (uwrap (by omega) (by omega)) rfl ?_; clear H; intro a H; refine s_shr _ H wn rfl rfl rfl (by decide) rfl ?_; clear H; intro a H; rw [shr_one] at H; refine s_conv (((i + j) / 2 : Nat) : Int) un3fnd un93fnd H wn rfl (i64_wrap (by omega) (by omega)) rfl ?_; clear H; intro a H; refine s_assign H wn rfl rfl ?_; clear H; intro a H; refine wl_nil ?_; refine hK7 _ _ ?_; clear hK7; refine c_seq (fun _ hK8 => ?_); refine c_region ?_; (iterate 3 refine s_move H wn rfl rfl ?_; clear H; intro a H); refine s_index un96fnd ty117fnd ((i + j) / 2) H wn rfl rfl rfl hh rfl ?_; clear H; intro a H; refine s_loada ty117fnd (cs := [_, _, _]) H wn rfl rfl (fun j v hj => H.hp.gcell (hrow j v hj)) rfl ?_; clear H; intro a H; refine s_move H wn rfl rfl ?_; clear H; intro a H; refine s_callv0 H wn rfl rfl (callV_func (caps := []) (args := [_, _]) en59fnd (cmp_spec _ _ H.hp.ro l[(i + j) / 2] p)) rfl ?_; clear H; rintro v30 G30 a w rfl hm30 H; refine s_cmp H wn rfl rfl rfl rfl ?_; clear H; intro a H; refine wl_nil ?_; refine hK8 _ _ ?_; clear hK8; refine c_cond H rfl ?_ ?_
    · intro h31
      try have p31 := of_decide_eq_true h31
      rw [if_neg (by simpa using p31)] at heq; refine c_region ?_; refine s_move H wn rfl rfl ?_; clear H; intro a H; refine s_add _ H wn rfl rfl rfl (by omega) (by omega) rfl ?_; clear H; intro a H; refine s_assign H wn rfl rfl ?_; clear H; intro a H; refine wl_nil ?_; refine loop_end (((i + j) / 2 + 1, j, f - 1, G30)) (by exact (H).sub ⟨rfl, rfl, rfl, rfl, rfl, rfl, trivial⟩) ?_ ?_
      · (try dsimp only); exact ⟨by omega, hj, by omega, heq, fun b o h => hm30 b o (hgm b o h)⟩
      first | omega | (dsimp only; omega)
    intro h31
    try have p31 := of_decide_eq_false h31
    rw [if_pos (by simpa using p31)] at heq; refine c_region ?_; refine s_move H wn rfl rfl ?_; clear H; intro a H; refine s_assign H wn rfl rfl ?_; clear H; intro a H; refine wl_nil ?_; refine loop_end ((i, (i + j) / 2, f - 1, G30)) (by exact (H).sub ⟨rfl, rfl, rfl, rfl, rfl, rfl, trivial⟩) ?_ ?_
    · (try dsimp only); exact ⟨by omega, by omega, by omega, heq, fun b o h => hm30 b o (hgm b o h)⟩
    first | omega | (dsimp only; omega)
  intro h17
  try have p17 := of_decide_eq_false h17
  refine c_exit ?_; refine hK4 _ _ ?_; clear hK4; refine c_seq (fun _ hK9 => ?_); rw [bs_end (by omega)] at heq; refine c_region ?_; (iterate 3 refine s_move H wn rfl rfl ?_; clear H; intro a H); refine s_cmp H wn rfl rfl rfl rfl ?_; clear H; intro a H; refine s_move H wn rfl rfl ?_; clear H; intro a H; refine s_split H 39 rfl ?_ ?_
  · intro h39
    try have p39 := of_decide_eq_true h39
    have hh : i < l.length := by omega
    have hfb : fndB l p = decide (cmpS l[i] p = 0) := by simp only [fndB, ← heq, List.getElem?_eq_getElem hh]
    obtain ⟨b, o, rfl, hrow⟩ := span_at hv hh; replace hrow := fun j u hj => gcell_mono hgm (hrow j u hj); (iterate 3 refine s_move H (wg H rfl rfl h39) rfl rfl ?_; clear H; intro a H); refine s_index un96fnd ty117fnd i H (wg H rfl rfl h39) rfl rfl rfl hh rfl ?_; clear H; intro a H; refine s_loada ty117fnd (cs := [_, _, _]) H (wg H rfl rfl h39) rfl rfl (fun j v hj => H.hp.gcell (hrow j v hj)) rfl ?_; clear H; intro a H; refine s_move H (wg H rfl rfl h39) rfl rfl ?_; clear H; intro a H; refine s_callv0 H (wg H rfl rfl h39) rfl rfl (callV_func (caps := []) (args := [_, _]) en59fnd (cmp_spec _ _ H.hp.ro l[i] p)) rfl ?_; clear H; rintro v46 G46 a w rfl hm46 H; refine s_cmp H (wg H rfl rfl h39) rfl rfl rfl rfl ?_; clear H; intro a H; refine s_pick_t H wn rfl h39 rfl rfl ?_; clear H; intro a H; (iterate 2 refine s_assign H wn rfl rfl ?_; clear H; intro a H); refine wl_nil ?_; refine hK9 _ _ ?_; clear hK9; refine c_ret ?_; refine (leaveT H Tryd.results58 (.cons (rv_tmp H rfl) (.cons (rv_tmp H rfl) .nil)) ?_).1; exact H.hp.ret (by rw [hfb, ← heq]; try rfl)
  intro h39
  try have p39 := of_decide_eq_false h39
  have hfb : fndB l p = false := by simp only [fndB, ← heq, List.getElem?_eq_none (show l.length ≤ i by omega)]
  (iterate 8 refine s_skip H rfl rfl h39 rfl ?_; clear H; intro a H); refine s_pick_f H wn rfl h39 rfl rfl ?_; clear H; intro a H; (iterate 2 refine s_assign H wn rfl rfl ?_; clear H; intro a H); refine wl_nil ?_; refine hK9 _ _ ?_; clear hK9; refine c_ret ?_; refine (leaveT H Tryd.results58 (.cons (rv_tmp H rfl) (.cons (rv_tmp H rfl) .nil)) ?_).1; exact H.hp.ret (by rw [hfb, ← heq]; try rfl)
theorem find_spec (G : GH) (w0 : World) (hG : Hold G w0) (l : List SpanD) (p : Int) (v : Value) (hv : RepV G (.sl 3 (l.map SpanD.dat)) v) (hl : l.length ≤ 4294967296) :
    Calls Tryd.prog 45 #[v, vi p] w0 (Ret w0 G fun u G' => u = vi (fndS l p)) := by
  obtain ⟨A, c, rfl, hc1, hc2, -⟩ := hv.slice; rw [List.length_map] at *; obtain ⟨k, hk⟩ : ∃ k, k = fndK l p := ⟨_, rfl⟩; refine enter (N := 20) (T := [(0, _), (1, _)]) (F := fun k => k < w0.heap.size) (L := []) Tryd.func45 rfl Tryd.ntmps45 rfl rfl hG (fun _ h => h) (fun _ h => by cases h) (fun _ h => by cases h) (fun _ h => by cases h) List.Pairwise.nil ?_; intro a H; refine c_seq (fun _ hK1 => ?_); refine c_region ?_; refine s_assign H wn rfl rfl ?_; clear H; intro a H; refine wl_nil ?_; refine hK1 _ _ ?_; clear hK1; refine c_seq (fun _ hK2 => ?_); refine c_region ?_; (iterate 2 refine s_move H wn rfl rfl ?_; clear H; intro a H); refine s_call en58fnd H wn rfl (bsearch_spec _ _ H.hp.ro l p _ hv hl) rfl ?_; clear H; rintro v10 G10 a w rfl hm10 H; rw [← hk] at H; refine s_move H wn rfl rfl ?_; clear H; intro a H; (iterate 2 refine s_extract H wn rfl rfl rfl ?_; clear H; intro a H); (iterate 2 refine s_assign H wn rfl rfl ?_; clear H; intro a H); refine wl_nil ?_; refine hK2 _ _ ?_; clear hK2; refine c_seq (fun _ hK3 => ?_); refine c_seq (fun _ hK4 => ?_); refine c_region ?_; refine s_move H wn rfl rfl ?_; clear H; intro a H; refine s_not H wn rfl rfl ?_; clear H; intro a H; refine wl_nil ?_; refine hK4 _ _ ?_; clear hK4; refine c_cond H rfl ?_ ?_
  · intro h14
    try have p14 := of_decide_eq_true h14
    refine c_seq (fun _ hK5 => ?_); refine c_region ?_; refine s_assign H wn rfl rfl ?_; clear H; intro a H; refine wl_nil ?_; refine hK5 _ _ ?_; clear hK5; refine c_ret ?_; refine (leave1 H Tryd.results45 (.cons (rv_tmp H rfl) .nil) ?_).1
    have hfb : fndB l p = false := by simpa using h14
    exact H.hp.ret (by
      rw [fndB, ← hk] at hfb; rw [fndS, ← hk]
      cases h : l[k]? with
      | none => rfl
      | some x => rw [h] at hfb; dsimp only at hfb ⊢; rw [if_neg (by simpa using hfb)])
  intro h14
  try have p14 := of_decide_eq_false h14
  have hfb : fndB l p = true := by simpa using h14
  have hkl : k < l.length := by
    by_cases h : k < l.length
    · exact h
    rw [fndB, ← hk, List.getElem?_eq_none (by omega)] at hfb; cases hfb
  have hcm : cmpS l[k] p = 0 := by rw [fndB, ← hk, List.getElem?_eq_getElem hkl] at hfb; simpa using hfb
  obtain ⟨b, o, rfl, hrow⟩ := span_at hv hkl; have h2 := gcell_mono hm10 (hrow 2 _ rfl); refine c_skip ?_; refine hK3 _ _ ?_; clear hK3; refine c_seq (fun _ hK6 => ?_); refine c_region ?_; (iterate 2 refine s_move H wn rfl rfl ?_; clear H; intro a H); refine s_index un96fnd ty117fnd k H wn rfl rfl rfl hkl rfl ?_; clear H; intro a H; refine s_field fd117_2fnd H wn rfl rfl ?_; clear H; intro a H; refine s_load ty3fnd H wn rfl (H.hp.gcell (by assumption)) rfl ?_; clear H; intro a H; refine s_assign H wn rfl rfl ?_; clear H; intro a H; refine wl_nil ?_; refine hK6 _ _ ?_; clear hK6; refine c_ret ?_; refine (leave1 H Tryd.results45 (.cons (rv_tmp H rfl) .nil) ?_).1; exact H.hp.ret (by rw [fndS, ← hk, List.getElem?_eq_getElem hkl]; dsimp only; rw [if_pos hcm])
theorem index_spec (G : GH) (w0 : World) (hG : Hold G w0) (l : List Int) (x : Int) (v : Value) (hv : RepV G (.sl 1 (l.map numDat)) v) :
    Calls Tryd.prog 73 #[v, vi x] w0 (Ret w0 G fun u G' => G = G' ∧ ∃ z : Int, u = vi z ∧ (0 ≤ z ↔ x ∈ l)) := by
  obtain ⟨A, c, rfl, hc1, hc2, -⟩ := hv.slice; have hml : maxLen = 9223372036854775807 := rfl; rw [List.length_map] at *; refine enter (N := 19) (T := [(0, _), (1, _)]) (F := fun k => k < w0.heap.size) (L := []) Tryd.func73 rfl Tryd.ntmps73 rfl rfl hG (fun _ h => h) (fun _ h => by cases h) (fun _ h => by cases h) (fun _ h => by cases h) List.Pairwise.nil ?_; intro a H; refine c_seq (fun _ hK1 => ?_); refine c_region ?_; refine s_assign H wn rfl rfl ?_; clear H; intro a H; refine wl_nil ?_; refine hK1 _ _ ?_; clear hK1; refine c_seq (fun _ hK2 => ?_); refine c_seq (fun _ hK3 => ?_); refine c_region ?_; refine s_move H wn rfl rfl ?_; clear H; intro a H; refine s_len un32fnd H wn rfl rfl ?_; clear H; intro a H; refine s_move H wn rfl rfl ?_; clear H; intro a H; refine wl_nil ?_; refine hK3 _ _ ?_; clear hK3; refine c_block ?_; skip; refine c_loopS (ι := Nat) (Tc := [(0, _), (1, _), (7, _)]) (Lc := []) (fun (gh : Nat) => [(8, vi gh)]) (fun (gh : Nat) => []) (fun (gh : Nat) => G) (fun (gh : Nat) => gh ≤ l.length ∧ ∀ q (hq : q < gh) (hq2 : q < l.length), ¬ l[q] = x) (fun (gh : Nat) => l.length - gh) (0) (by exact (H).sub ⟨rfl, rfl, rfl, rfl, trivial⟩) ?_ ?_
  · exact ⟨Nat.zero_le _, fun q hq => absurd hq (Nat.not_lt_zero _)⟩
  clear H; intro gh a w hI H; obtain ⟨k, hgh⟩ : ∃ x, x = gh := ⟨_, rfl⟩; subst hgh; obtain ⟨hk, hno⟩ := hI; dsimp only [List.cons_append, List.nil_append, List.append_nil] at H; refine c_seq (fun _ hK4 => ?_); refine c_region ?_; refine s_cmp H wn rfl rfl rfl rfl ?_; clear H; intro a H; refine wl_nil ?_; refine hK4 _ _ ?_; clear hK4; refine c_seq (fun _ hK5 => ?_); refine c_cond H rfl ?_ ?_
  · intro h9
    try have p9 := of_decide_eq_true h9
    have hk2 : k < l.length := by omega
    obtain ⟨b, o, rfl, hrow⟩ := num_at hv hk2; refine c_skip ?_; refine hK5 _ _ ?_; clear hK5; refine c_seq (fun _ hK6 => ?_); refine c_block ?_; refine c_seq (fun _ hK7 => ?_); refine c_region ?_; refine s_move H wn rfl rfl ?_; clear H; intro a H; refine s_assign H wn rfl rfl ?_; clear H; intro a H; refine wl_nil ?_; refine hK7 _ _ ?_; clear hK7; refine c_seq (fun _ hK8 => ?_); refine c_region ?_; (iterate 3 refine s_move H wn rfl rfl ?_; clear H; intro a H); refine s_index un32fnd ty3fnd _ H wn rfl rfl rfl (by first | assumption | omega) rfl ?_; clear H; intro a H; refine s_load ty3fnd H wn rfl (H.hp.gcell (by assumption)) rfl ?_; clear H; intro a H; refine s_cmp H wn rfl rfl rfl rfl ?_; clear H; intro a H; refine wl_nil ?_; refine hK8 _ _ ?_; clear hK8; refine c_cond H rfl ?_ ?_
    · intro h16
      try have p16 := of_decide_eq_true h16
      refine c_seq (fun _ hK9 => ?_); refine c_region ?_; refine s_move H wn rfl rfl ?_; clear H; intro a H; refine s_assign H wn rfl rfl ?_; clear H; intro a H; refine wl_nil ?_; refine hK9 _ _ ?_; clear hK9; refine c_ret ?_; refine (leave1 H Tryd.results73 (.cons (rv_tmp H rfl) .nil) ?_).1; exact H.hp.ret ⟨rfl, _, rfl, ⟨fun _ => by rw [p16]; exact List.getElem_mem hk2, fun _ => by omega⟩⟩
    intro h16
    try have p16 := of_decide_eq_false h16
    refine c_skip ?_; refine hK6 _ _ ?_; clear hK6; refine c_region ?_; refine s_add _ H wn rfl rfl rfl (by omega) (by omega) rfl ?_; clear H; intro a H; refine s_move H wn rfl rfl ?_; clear H; intro a H; refine wl_nil ?_; refine loop_end ((k + 1)) (by exact (H).sub ⟨rfl, rfl, rfl, rfl, trivial⟩) ?_ ?_
    · exact ⟨by omega, fun q hq hq2 => by
          by_cases e : q = k
          · subst e; omega
          exact hno q (by omega) hq2⟩
    first | omega | (dsimp only; omega)
  intro h9
  try have p9 := of_decide_eq_false h9
  refine c_exit ?_; refine hK2 _ _ ?_; clear hK2; refine c_seq (fun _ hK10 => ?_); refine c_region ?_; refine s_assign H wn rfl rfl ?_; clear H; intro a H; refine wl_nil ?_; refine hK10 _ _ ?_; clear hK10; refine c_ret ?_; refine (leave1 H Tryd.results73 (.cons (rv_tmp H rfl) .nil) ?_).1
  exact H.hp.ret ⟨rfl, _, rfl, ⟨fun h => absurd h (by decide), fun h => by
  obtain ⟨q, hq, e⟩ := List.getElem_of_mem h
  exact absurd e (hno q (by omega) hq)⟩⟩
theorem contains_spec (G : GH) (w0 : World) (hG : Hold G w0) (l : List Int) (x : Int) (v : Value) (hv : RepV G (.sl 1 (l.map numDat)) v) :
    Calls Tryd.prog 68 #[v, vi x] w0 (Ret w0 G fun u G' => G = G' ∧ u = .bool (decide (x ∈ l))) := by
  refine enter (N := 9) (T := [(0, _), (1, _)]) (F := fun k => k < w0.heap.size) (L := []) Tryd.func68 rfl Tryd.ntmps68 rfl rfl hG (fun _ h => h) (fun _ h => by cases h) (fun _ h => by cases h) (fun _ h => by cases h) List.Pairwise.nil ?_; intro a H; refine c_seq (fun _ hK1 => ?_); refine c_region ?_; refine s_assign H wn rfl rfl ?_; clear H; intro a H; refine wl_nil ?_; refine hK1 _ _ ?_; clear hK1; refine c_seq (fun _ hK2 => ?_); refine c_region ?_; (iterate 2 refine s_move H wn rfl rfl ?_; clear H; intro a H); refine s_call en73fnd H wn rfl (index_spec _ _ H.hp.ro l x _ hv) rfl ?_; clear H; rintro v7 _ a w ⟨rfl, z, rfl, hz⟩ - H; refine s_cmp H wn rfl rfl rfl rfl ?_; clear H; intro a H; refine s_assign H wn rfl rfl ?_; clear H; intro a H; refine wl_nil ?_; refine hK2 _ _ ?_; clear hK2; refine c_ret ?_; refine (leave1 H Tryd.results68 (.cons (rv_tmp H rfl) .nil) ?_).1; exact H.hp.ret ⟨rfl, by congr 1; rw [decide_eq_decide]; exact hz⟩
structure ClD where
  cls : Int
  from_ : Int
  to : Int
def ClD.dat (x : ClD) : List Dat := [li x.cls, li x.from_, li x.to]
def ClD.cells (x : ClD) : List Value := [vi x.cls, vi x.from_, vi x.to]
theorem is_spec (G : GH) (w0 : World) (hG : Hold G w0) (x : ClD) (l : List Int) (v : Value) (hv : RepV G (.sl 1 (l.map numDat)) v) :
    Calls Tryd.prog 60 #[.agg #[vi x.cls, vi x.from_, vi x.to], v] w0 (Ret w0 G fun u G' => G = G' ∧ u = .bool (decide (x.cls ∈ l))) := by
  refine enter (N := 9) (T := [(0, _), (1, _)]) (F := fun k => k < w0.heap.size) (L := []) Tryd.func60 rfl Tryd.ntmps60 rfl rfl hG (fun _ h => h) (fun _ h => by cases h) (fun _ h => by cases h) (fun _ h => by cases h) List.Pairwise.nil ?_; intro a H; refine c_seq (fun _ hK1 => ?_); refine c_region ?_; refine s_box (cs := [_, _, _]) H wn rfl rfl rfl ?_; clear H; intro b2 a w hb2 H; refine s_assign H wn rfl rfl ?_; clear H; intro a H; refine wl_nil ?_; refine hK1 _ _ ?_; clear hK1; refine c_seq (fun _ hK2 => ?_); refine c_region ?_; refine s_move H wn rfl rfl ?_; clear H; intro a H; refine s_field fd100_0fnd H wn rfl rfl ?_; clear H; intro a H; refine s_load ty3fnd H wn rfl (H.hp.ocell 0 rfl rfl) rfl ?_; clear H; intro a H; refine s_call en68fnd H wn rfl (contains_spec _ _ H.hp.ro l x.cls _ hv) rfl ?_; clear H; rintro v8 _ a w ⟨rfl, rfl⟩ - H; refine s_assign H wn rfl rfl ?_; clear H; intro a H; refine wl_nil ?_; refine hK2 _ _ ?_; clear hK2; refine c_ret ?_; refine (leave1 H Tryd.results60 (.cons (rv_tmp H rfl) .nil) ?_).1; exact H.hp.ret ⟨rfl, rfl⟩
end Go.Proofs.YtpmcdlhhfbobfaaDoor
