/-
  What the claim stands on, part 4: Packages run and paragraph: check, Slice, parts. Regions that draw the order of their operations, in which each operation has its own part of what is owned: the layout is told by what is done. Regions that draw the order of their operations, in which one operation among the others makes what is owned more. Drawn regions in which one operation makes what is owned more, and others look into what is owned. Drawn regions in which one operation, not the last, stores into what is owned. Package run: Index. Package strings: the builder, as run.Text uses it. Package run: Text of texts; package paragraph: Text, Own of a block that is not there. Package property: find, Group, Fits, CheckValue, Get. Package property: find, Group, groups, Fits, CheckValue, Get. Package property: Check, Get, Clone. Pointers that may be nil.
-/
import Derived.Test.YtlnhhlighgaapaaGreatPc
namespace Go.Proofs.YtlnhhlighgaapaaGreat
section
open Go.RowKit
theorem en207sl : ∀ args w, (callFunc 207 args).run Tryz.prog w = .ok (.enter 207 args) w := enters Tryz.func207 rfl (by kernel_rfl)
theorem en208sl : ∀ args w, (callFunc 208 args).run Tryz.prog w = .ok (.enter 208 args) w := enters Tryz.func208 rfl (by kernel_rfl)
theorem en206sl : ∀ args w, (callFunc 206 args).run Tryz.prog w = .ok (.enter 206 args) w := enters Tryz.func206 rfl (by kernel_rfl)
theorem en171sl : ∀ args w, (callFunc 171 args).run Tryz.prog w = .ok (.enter 171 args) w := enters Tryz.func171 rfl (by kernel_rfl)
theorem fd91_3sl : Fld Tryz.prog 91 3 3 := ⟨by kernel_rfl⟩
theorem en172sl : ∀ args w, (callFunc 172 args).run Tryz.prog w = .ok (.enter 172 args) w := enters Tryz.func172 rfl (by kernel_rfl)
/-- The error of a range of units. -/
def rngS (l : List ItemD) (fr to : Int) : Int := if lenE l = 0 then (if fr < 0 ∨ to < fr ∨ lenS l < to then 2 else 0) else lenE l
theorem check_run (G : GH) (w0 : World) (hG : Hold G w0) (l : List ItemD) (fr to : Int) (v : Value) (hv : RepV G (.sl 11 (l.map ItemD.dat)) v) (hz : zItems l ≤ 4294967296) :
    Calls Tryz.prog 207 #[v, vi fr, vi to] w0 (Ret w0 G fun u G' => u = vi (rngS l fr to)) := by
  refine enter (N := 31) (T := [(0, _), (1, _), (2, _)]) (F := fun k => k < w0.heap.size) (L := []) Tryz.func207 rfl Tryz.ntmps207 rfl rfl hG (fun _ h => h) (fun _ h => by cases h) (fun _ h => by cases h) (fun _ h => by cases h) List.Pairwise.nil ?_; intro a H; refine c_seqR (fun _ hK1 => ?_); refine s_assign H wn rfl rfl ?_; clear H; intro a H; refine hK1 _ _ ?_; clear hK1; refine c_seqR (fun _ hK2 => ?_); refine s_move H wn rfl rfl ?_; clear H; intro a H; refine s_call en8par H wn rfl (len_spec _ _ H.hp.ro l v hv hz) rfl ?_; clear H; rintro v11 _ a w ⟨rfl, rfl⟩ - H; refine s_move H wn rfl rfl ?_; clear H; intro a H; (iterate 2 refine s_extract H wn rfl rfl rfl ?_; clear H; intro a H); (iterate 2 refine s_assign H wn rfl rfl ?_; clear H; intro a H); refine hK2 _ _ ?_; clear hK2; refine c_seq (fun _ hK3 => ?_); refine c_block ?_; refine c_seqR (fun _ hK4 => ?_); refine s_move H wn rfl rfl ?_; clear H; intro a H; refine s_cmp H wn rfl rfl rfl rfl ?_; clear H; intro a H; refine s_assign H wn rfl rfl ?_; clear H; intro a H; refine hK4 _ _ ?_; clear hK4; refine c_cond H rfl ?_ ?_
  · intro h14
    try have p14 := of_decide_eq_true h14
    refine c_seqR (fun _ hK5 => ?_); refine s_move H wn rfl rfl ?_; clear H; intro a H; refine s_assign H wn rfl rfl ?_; clear H; intro a H; refine hK5 _ _ ?_; clear hK5; refine c_ret ?_; refine (leave1 H Tryz.results207 (.cons (rv_tmp H rfl) .nil) ?_).1; exact H.hp.ret (by rw [rngS, if_neg p14])
  intro h14
  try have p14 := of_decide_eq_false h14
  refine c_seqR (fun _ hK6 => ?_); refine s_move H wn rfl rfl ?_; clear H; intro a H; refine s_cmp H wn rfl rfl rfl rfl ?_; clear H; intro a H; refine s_move H wn rfl rfl ?_; clear H; intro a H; refine s_split H 21 rfl ?_ ?_
  · intro h21
    try have p21 := of_decide_eq_true h21
    (iterate 3 refine s_skip H rfl rfl h21 rfl ?_; clear H; intro a H); refine s_pick_t H wn rfl h21 rfl rfl ?_; clear H; intro a H; refine s_move H wn rfl rfl ?_; clear H; intro a H; (iterate 3 refine s_skip H rfl rfl rfl rfl ?_; clear H; intro a H); refine s_pick_t H wn rfl rfl rfl rfl ?_; clear H; intro a H; refine s_assign H wn rfl rfl ?_; clear H; intro a H; refine hK6 _ _ ?_; clear hK6; refine c_cond_t H rfl rfl ?_; refine c_seqR (fun _ hK7 => ?_); refine s_assign H wn rfl rfl ?_; clear H; intro a H; refine hK7 _ _ ?_; clear hK7; refine c_ret ?_; refine (leave1 H Tryz.results207 (.cons (rv_tmp H rfl) .nil) ?_).1
    have h0 : lenE l = 0 := by omega
    refine H.hp.ret ?_; rw [rngS, if_pos h0]
    first
      | (rw [if_pos (by omega)]; done)
      | (rw [if_neg (by omega)]; done)
  intro h21
  try have p21 := of_decide_eq_false h21
  (iterate 2 refine s_move H (wg H rfl rfl h21) rfl rfl ?_; clear H; intro a H); refine s_cmp H (wg H rfl rfl h21) rfl rfl rfl rfl ?_; clear H; intro a H; refine s_pick_f H wn rfl h21 rfl rfl ?_; clear H; intro a H; refine s_move H wn rfl rfl ?_; clear H; intro a H; refine s_split H 26 rfl ?_ ?_
  · intro h26
    try have p26 := of_decide_eq_true h26
    (iterate 3 refine s_skip H rfl rfl h26 rfl ?_; clear H; intro a H); refine s_pick_t H wn rfl h26 rfl rfl ?_; clear H; intro a H; refine s_assign H wn rfl rfl ?_; clear H; intro a H; refine hK6 _ _ ?_; clear hK6; refine c_cond_t H rfl rfl ?_; refine c_seqR (fun _ hK8 => ?_); refine s_assign H wn rfl rfl ?_; clear H; intro a H; refine hK8 _ _ ?_; clear hK8; refine c_ret ?_; refine (leave1 H Tryz.results207 (.cons (rv_tmp H rfl) .nil) ?_).1
    have h0 : lenE l = 0 := by omega
    refine H.hp.ret ?_; rw [rngS, if_pos h0]
    first
      | (rw [if_pos (by omega)]; done)
      | (rw [if_neg (by omega)]; done)
  intro h26
  try have p26 := of_decide_eq_false h26
  (iterate 2 refine s_move H (wg H rfl rfl h26) rfl rfl ?_; clear H; intro a H); refine s_cmp H (wg H rfl rfl h26) rfl rfl rfl rfl ?_; clear H; intro a H; refine s_pick_f H wn rfl h26 rfl rfl ?_; clear H; intro a H; refine s_assign H wn rfl rfl ?_; clear H; intro a H; refine hK6 _ _ ?_; clear hK6; refine c_cond H rfl ?_ ?_
  · intro h18
    try have p18 := of_decide_eq_true h18
    refine c_seqR (fun _ hK9 => ?_); refine s_assign H wn rfl rfl ?_; clear H; intro a H; refine hK9 _ _ ?_; clear hK9; refine c_ret ?_; refine (leave1 H Tryz.results207 (.cons (rv_tmp H rfl) .nil) ?_).1
    have h0 : lenE l = 0 := by omega
    refine H.hp.ret ?_; rw [rngS, if_pos h0]
    first
      | (rw [if_pos (by omega)]; done)
      | (rw [if_neg (by omega)]; done)
  intro h18
  try have p18 := of_decide_eq_false h18
  refine c_skip ?_; refine hK3 _ _ ?_; clear hK3; refine c_seqR (fun _ hK10 => ?_); refine s_assign H wn rfl rfl ?_; clear H; intro a H; refine hK10 _ _ ?_; clear hK10; refine c_ret ?_; refine (leave1 H Tryz.results207 (.cons (rv_tmp H rfl) .nil) ?_).1
  have h0 : lenE l = 0 := by omega
  refine H.hp.ret ?_; rw [rngS, if_pos h0]
  first
    | (rw [if_pos (by omega)]; done)
    | (rw [if_neg (by omega)]; done)
def PlainL (m : List ItemD) : Prop := NoJoin m ∧ ∀ x ∈ m, PlainI x
theorem zItems_sub : ∀ {m l : List ItemD}, m.Sublist l → zItems m ≤ zItems l
  | _, _, .slnil => Nat.le_refl _
  | _, _, .cons a h => by have := zItems_sub h; simp only [zItems, List.map_cons, szRs] at *; omega
  | _, _, .cons_cons a h => by have := zItems_sub h; simp only [zItems, List.map_cons, szRs] at *; omega
theorem offs_snd : ∀ (l : List ItemD) (o : Nat), (offs o l).map (·.2) = l
  | [], _ => rfl
  | x :: l, o => by simp [offs, offs_snd l]
theorem leftS_sub (t : Int) (l : List ItemD) : (leftS t l).Sublist l := by
  have h : (lA t (offs 0 l)).Sublist ((offs 0 l).map (·.2)) := List.Sublist.map _ List.filter_sublist
  rwa [offs_snd] at h
theorem rightS_sub (t : Int) (l : List ItemD) : (rightS t l).Sublist l := by
  have h : (rA t (offs 0 l)).Sublist ((offs 0 l).map (·.2)) := List.Sublist.map _ List.filter_sublist
  rwa [offs_snd] at h
def CutOk (t : Int) (l : List ItemD) : Prop := ∀ a ∈ offs 0 l, fitA t a = true ∨ t ≤ a.1
/-- Slice, where no item is cut and at most one item is left, which has no parts. -/
theorem slice_run (G : GH) (w0 : World) (hG : Hold G w0) (l : List ItemD) (fr to : Int) (v : Value) (hv : RepV G (.sl 11 (l.map ItemD.dat)) v) (hz : zItems l ≤ 1073741824) (hr : rngS l fr to = 0)
    (h1 : CutOk to l) (h2 : CutOk fr (leftS to l)) (hp : PlainL (rightS fr (leftS to l))) :
    Calls Tryz.prog 172 #[v, vi fr, vi to] w0 (Ret w0 G fun u G' => ∃ x, u = .tuple #[x, vi 0] ∧ RepV G' (.sl 11 ((rightS fr (leftS to l)).map ItemD.dat)) x) := by
  have z1 := zItems_sub (leftS_sub to l); have z2 := zItems_sub (rightS_sub fr (leftS to l)); refine enter (N := 34) (T := [(0, _), (1, _), (2, _)]) (F := fun k => k < w0.heap.size) (L := []) Tryz.func172 rfl Tryz.ntmps172 rfl rfl hG (fun _ h => h) (fun _ h => by cases h) (fun _ h => by cases h) (fun _ h => by cases h) List.Pairwise.nil ?_; intro a H; refine c_seqR (fun _ hK1 => ?_); (iterate 2 refine s_assign H wn rfl rfl ?_; clear H; intro a H); refine hK1 _ _ ?_; clear hK1; refine c_seq (fun _ hK2 => ?_); refine c_seqR (fun _ hK3 => ?_); (iterate 3 refine s_move H wn rfl rfl ?_; clear H; intro a H); refine s_call en207sl H wn rfl (check_run _ _ H.hp.ro l fr to v hv (by omega)) rfl ?_; clear H; rintro v16 G16 a w rfl hm16 H; rw [hr] at H; refine s_assign H wn rfl rfl ?_; clear H; intro a H; refine hK3 _ _ ?_; clear hK3; refine c_seqR (fun _ hK4 => ?_); refine s_move H wn rfl rfl ?_; clear H; intro a H; refine s_cmp H wn rfl rfl rfl rfl ?_; clear H; intro a H; refine hK4 _ _ ?_; clear hK4; refine c_cond H rfl ?_ ?_
  · intro h18
    try have p18 := of_decide_eq_true h18
    exact absurd h18 (by decide)
  intro h18
  try have p18 := of_decide_eq_false h18
  refine c_skip ?_; refine hK2 _ _ ?_; clear hK2; refine c_seqR (fun _ hK5 => ?_); (iterate 2 refine s_move H wn rfl rfl ?_; clear H; intro a H); refine s_call en208sl H wn rfl (divide_spec _ _ H.hp.ro l to v (hv.mono hm16) hz h1) rfl ?_; clear H; rintro v23 G23 a w ⟨x, y, rfl, hx, hy⟩ hm23 H; refine s_move H wn rfl rfl ?_; clear H; intro a H; (iterate 2 refine s_extract H wn rfl rfl rfl ?_; clear H; intro a H); (iterate 2 refine s_assign H wn rfl rfl ?_; clear H; intro a H); refine hK5 _ _ ?_; clear hK5; refine c_seqR (fun _ hK6 => ?_); (iterate 2 refine s_move H wn rfl rfl ?_; clear H; intro a H); refine s_call en208sl H wn rfl (divide_spec _ _ H.hp.ro (leftS to l) fr x hx (by omega) h2) rfl ?_; clear H; rintro v29 G29 a w ⟨x2, y2, rfl, hx2, hy2⟩ hm29 H; refine s_move H wn rfl rfl ?_; clear H; intro a H; (iterate 2 refine s_extract H wn rfl rfl rfl ?_; clear H; intro a H); (iterate 2 refine s_assign H wn rfl rfl ?_; clear H; intro a H); refine hK6 _ _ ?_; clear hK6; refine c_seqR (fun _ hK7 => ?_); refine s_move H wn rfl rfl ?_; clear H; intro a H; refine s_call en209nrm H wn rfl (normalPlain_spec _ _ H.hp.ro _ y2 hy2 hp.1 hp.2 (by omega)) rfl ?_; clear H; rintro v33 G33 a w hp33 hm33 H; obtain ⟨A33, n33, c33, rfl⟩ := hp33.form; (iterate 2 refine s_assign H wn rfl rfl ?_; clear H; intro a H); refine hK7 _ _ ?_; clear hK7; refine c_ret ?_; refine (leaveT H Tryz.results172 (.cons (rv_tmp H rfl) (.cons (rv_tmp H rfl) .nil)) ?_).1; exact H.hp.ret ⟨_, rfl, hp33⟩
theorem blk_eql (a b : BlkD) : Value.bool (if BinOp.eql = BinOp.eql then [(0, false), (1, false), (2, false), (3, true)].all fun o => getV #[vi a.kind, vi a.from_, vi a.to, .bool a.mark] o == getV #[vi b.kind, vi b.from_, vi b.to, .bool b.mark] o else !([(0, false), (1, false), (2, false), (3, true)].all fun o => getV #[vi a.kind, vi a.from_, vi a.to, .bool a.mark] o == getV #[vi b.kind, vi b.from_, vi b.to, .bool b.mark] o)) = .bool (decide (a = b)) := by
  congr 1
  have h := BlkD.eq_iff a b; rw [Bool.eq_iff_iff]
  simp only [decide_eq_true_eq]
  rw [← h]
  simp [getV]
theorem indexBlk (G : GH) (w0 : World) (hG : Hold G w0) (A : List BlkD) (b : BlkD) (v : Value) (hv : RepV G (.sl 4 (A.map bkDat)) v) :
    Calls Tryz.prog 206 #[v, bkV b] w0 (Ret w0 G fun u G' => u = vi (ixI (A.findIdx? fun x => decide (b = x)))) := by
  obtain ⟨vA, c, rfl, hc1, hc2, hg⟩ := hv.slice; have hml : maxLen = 9223372036854775807 := rfl; rw [List.length_map] at *; refine enter (N := 19) (T := [(0, _), (1, _)]) (F := fun k => k < w0.heap.size) (L := []) Tryz.func206 rfl Tryz.ntmps206 rfl rfl hG (fun _ h => h) (fun _ h => by cases h) (fun _ h => by cases h) (fun _ h => by cases h) List.Pairwise.nil ?_; intro a H; refine c_seqR (fun _ hK1 => ?_); refine s_box (cs := [_, _, _, _]) H wn rfl rfl rfl ?_; clear H; intro b3 a w hb3 H; refine s_assign H wn rfl rfl ?_; clear H; intro a H; refine hK1 _ _ ?_; clear hK1; refine c_seq (fun _ hK2 => ?_); refine c_seqR (fun _ hK3 => ?_); refine s_move H wn rfl rfl ?_; clear H; intro a H; refine s_len un84pas H wn rfl rfl ?_; clear H; intro a H; refine s_move H wn rfl rfl ?_; clear H; intro a H; refine hK3 _ _ ?_; clear hK3; refine c_block ?_; skip; refine c_loopS (ι := Nat × GH) (Tc := [(0, _), (3, _), (7, _)]) (Lc := [(_, _)]) (fun (gh : Nat × GH) => [(8, vi gh.1)]) (fun (gh : Nat × GH) => []) (fun (gh : Nat × GH) => gh.2) (fun (gh : Nat × GH) => gh.1 ≤ A.length ∧ (A.take gh.1).findIdx? (fun x => decide (b = x)) = none ∧ (∀ b o, G b = some o → gh.2 b = some o)) (fun (gh : Nat × GH) => A.length - gh.1) ((0, G)) (by exact (H).sub ⟨rfl, rfl, rfl, rfl, trivial⟩) ?_ ?_
  · exact ⟨by omega, rfl, fun _ _ h => h⟩
  clear H; intro gh a w hI H; obtain ⟨k, g⟩ := gh; dsimp only at hI H; obtain ⟨hk, hno, hgm⟩ := hI; dsimp only [List.cons_append, List.nil_append, List.append_nil] at H; refine c_seqR (fun _ hK4 => ?_); refine s_cmp H wn rfl rfl rfl rfl ?_; clear H; intro a H; refine hK4 _ _ ?_; clear hK4; refine c_seq (fun _ hK5 => ?_); refine c_cond H rfl ?_ ?_
  · intro h9
    try have p9 := of_decide_eq_true h9
    have hk2 : k < A.length := by omega
    obtain ⟨b1, o1, cs1, rfl, hcl1, hrow1, hr1⟩ := hg k (bkDat A[k]) (by simp [hk2]); obtain rfl := bk_of hr1; refine c_skip ?_; refine hK5 _ _ ?_; clear hK5; refine c_seq (fun _ hK6 => ?_); refine c_block ?_; refine c_seqR (fun _ hK7 => ?_); refine s_move H wn rfl rfl ?_; clear H; intro a H; refine s_assign H wn rfl rfl ?_; clear H; intro a H; refine hK7 _ _ ?_; clear hK7; refine c_seq (fun _ hK8 => ?_); refine c_drawI (hmx) [[], [], [], [1, 2], [1, 2, 3], [0, 1, 2, 3, 4]] [] (by kernel_rfl) (by kernel_rfl) (fun (ix_ : Nat) (v : Value) (G : GH) => match ix_ with | 0 => v = bkV b | 1 => v = .slice (some ⟨b1, o1, none⟩) A.length c | 2 => v = vi k | 3 => v = .pointer (some ⟨b1, o1 + k * 4, none⟩) | 4 => v = bkV A[k] | 5 => v = .bool (decide (b = A[k])) | _ => True) (fun _ _ _ _ _ h => h) H ?_ ?_
    · clear H; refine (allI_cons ?_ (allI_cons ?_ (allI_cons ?_ (allI_cons ?_ (allI_cons ?_ (allI_cons ?_ allI_nil))))))
      · refine opI [] rfl trivial (by kernel_rfl) (fun _ _ _ _ _ h => h) rfl rfl ?_; intro Sd_ a w G1 hG HT H fin; refine s_loada ty91par (cs := [_, _, _, _]) H wn rfl rfl (H.hp.ocells 0 rfl rfl) rfl ?_; clear H; intro a H; exact fin H (fun _ _ h => h) (rfl)
      · refine opI [] rfl trivial (by kernel_rfl) (fun _ _ _ _ _ h => h) rfl rfl ?_; intro Sd_ a w G1 hG HT H fin; refine s_move H wn rfl rfl ?_; clear H; intro a H; exact fin H (fun _ _ h => h) (rfl)
      · refine opI [] rfl trivial (by kernel_rfl) (fun _ _ _ _ _ h => h) rfl rfl ?_; intro Sd_ a w G1 hG HT H fin; refine s_move H wn rfl rfl ?_; clear H; intro a H; exact fin H (fun _ _ h => h) (rfl)
      · refine opI [(1, 12, _), (2, 13, _)] rfl ⟨fun _ _ h => h, fun _ _ h => h, trivial⟩ (by kernel_rfl) (fun _ _ _ _ _ h => h) rfl rfl ?_; intro Sd_ a w G1 hG HT H fin; refine s_index un84pas ty91par _ H wn rfl rfl rfl (by first | assumption | omega) rfl ?_; clear H; intro a H; exact fin H (fun _ _ h => h) (rfl)
      · refine opI [(3, 14, _)] rfl ⟨fun _ _ h => h, trivial⟩ (by kernel_rfl) (fun _ _ _ _ _ h => h) rfl rfl ?_; intro Sd_ a w G1 hG HT H fin; refine s_loada ty91par (cs := [_, _, _, _]) H wn rfl rfl (fun j v hj => H.hp.gcell (gcell_mono hG (gcell_mono hgm (hrow1 j v hj)))) rfl ?_; clear H; intro a H; exact fin H (fun _ _ h => h) (rfl)
      refine opI [(0, 11, _), (4, 15, _)] rfl ⟨fun _ _ h => h, fun _ _ h => h, trivial⟩ (by kernel_rfl) (fun _ _ _ _ _ h => h) rfl rfl ?_; intro Sd_ a w G1 hG HT H fin; refine s_eqs (.inl rfl) eqs91l14b H wn rfl rfl rfl rfl ?_; clear H; intro a H; exact fin H (fun _ _ h => h) (blk_eql _ _)
    clear H; intro a w G hGm4 H hv; obtain ⟨u16, hu16, hp16⟩ := hv 5 16 (by decide) rfl; obtain rfl : u16 = .bool (decide (b = A[k])) := hp16; have H := H.addS hu16; clear hv; refine wl_nil ⟨rfl, ?_⟩; refine hK8 _ _ ?_; clear hK8; refine c_cond H rfl ?_ ?_
    · intro h16
      try have p16 := of_decide_eq_true h16
      refine c_seqR (fun _ hK9 => ?_); refine s_move H wn rfl rfl ?_; clear H; intro a H; refine s_assign H wn rfl rfl ?_; clear H; intro a H; refine hK9 _ _ ?_; clear hK9; refine c_ret ?_; refine (leave1 H Tryz.results206 (.cons (rv_tmp H rfl) .nil) ?_).1; exact H.hp.ret (by rw [idx_stop hk2 hno h16]; rfl)
    intro h16
    try have p16 := of_decide_eq_false h16
    refine c_skip ?_; refine hK6 _ _ ?_; clear hK6; refine c_region ?_; refine s_add _ H wn rfl rfl rfl (by omega) (by omega) rfl ?_; clear H; intro a H; refine s_move H wn rfl rfl ?_; clear H; intro a H; refine wl_nil ?_; refine loop_end ((k + 1, G)) (by exact (H).sub ⟨rfl, rfl, rfl, rfl, trivial⟩) ?_ ?_
    · (try dsimp only); exact ⟨by omega, idx_next hk2 hno h16, fun b o h => hGm4 b o (hgm b o h)⟩
    first | omega | (dsimp only; omega)
  intro h9
  try have p9 := of_decide_eq_false h9
  refine c_exit ?_; refine hK2 _ _ ?_; clear hK2; refine c_seqR (fun _ hK10 => ?_); refine s_assign H wn rfl rfl ?_; clear H; intro a H; refine hK10 _ _ ?_; clear hK10; refine c_ret ?_; refine (leave1 H Tryz.results206 (.cons (rv_tmp H rfl) .nil) ?_).1; exact H.hp.ret (by rw [show A.take k = A from List.take_of_length_le (by omega)] at hno; rw [hno]; rfl)
theorem containsBlk (G : GH) (w0 : World) (hG : Hold G w0) (A : List BlkD) (b : BlkD) (v : Value) (hv : RepV G (.sl 4 (A.map bkDat)) v) :
    Calls Tryz.prog 171 #[v, bkV b] w0 (Ret w0 G fun u G' => u = .bool (A.findIdx? fun x => decide (b = x)).isSome) := by
  refine enter (N := 9) (T := [(0, _), (1, _)]) (F := fun k => k < w0.heap.size) (L := []) Tryz.func171 rfl Tryz.ntmps171 rfl rfl hG (fun _ h => h) (fun _ h => by cases h) (fun _ h => by cases h) (fun _ h => by cases h) List.Pairwise.nil ?_; intro a H; refine c_seqR (fun _ hK1 => ?_); refine s_box (cs := [_, _, _, _]) H wn rfl rfl rfl ?_; clear H; intro b3 a w hb3 H; refine s_assign H wn rfl rfl ?_; clear H; intro a H; refine hK1 _ _ ?_; clear hK1; refine c_seqR (fun _ hK2 => ?_); refine s_move H wn rfl rfl ?_; clear H; intro a H; refine s_loada ty91par (cs := [_, _, _, _]) H wn rfl rfl (H.hp.ocells 0 rfl rfl) rfl ?_; clear H; intro a H; refine s_call en206sl H wn rfl (indexBlk _ _ H.hp.ro A b _ hv) rfl ?_; clear H; rintro v7 G7 a w rfl hm7 H; refine s_cmp H wn rfl rfl rfl rfl ?_; clear H; intro a H; refine s_assign H wn rfl rfl ?_; clear H; intro a H; refine hK2 _ _ ?_; clear hK2; refine c_ret ?_; refine (leave1 H Tryz.results171 (.cons (rv_tmp H rfl) .nil) ?_).1
  exact H.hp.ret (by cases h : A.findIdx? (fun x => decide (b = x)) <;> simp [ixI])
def endB (b : BlkD) : Int := if b.mark then b.to - 1 else b.to
theorem parts_none (G : GH) (w0 : World) (hG : Hold G w0) (l : List ItemD) (b : BlkD) (v : Value) (hv : RepV G (.sl 11 (l.map ItemD.dat)) v) (hz : zItems l ≤ 1073741824) (he : lenE l = 0) (hb : (blocksS l).findIdx? (fun x => decide (b = x)) = none) :
    Calls Tryz.prog 96 #[v, bkV b] w0 (Ret w0 G fun u G' => u = .tuple #[.slice none 0 0, .slice none 0 0, vi 8]) := by
  refine enter (N := 45) (T := [(0, _), (1, _)]) (F := fun k => k < w0.heap.size) (L := []) Tryz.func96 rfl Tryz.ntmps96 rfl rfl hG (fun _ h => h) (fun _ h => by cases h) (fun _ h => by cases h) (fun _ h => by cases h) List.Pairwise.nil ?_; intro a H; refine c_seqR (fun _ hK1 => ?_); refine s_box (cs := [_, _, _, _]) H wn rfl rfl rfl ?_; clear H; intro b3 a w hb3 H; (iterate 3 refine s_assign H wn rfl rfl ?_; clear H; intro a H); refine hK1 _ _ ?_; clear hK1; refine c_seqR (fun _ hK2 => ?_); refine s_move H wn rfl rfl ?_; clear H; intro a H; refine s_call en35pas H wn rfl (Blocks_spec _ _ H.hp.ro l v hv hz) rfl ?_; clear H; rintro v11 G11 a w ⟨x, rfl, hrep⟩ hm11 H; obtain ⟨A11, n11, c11, rfl⟩ := hrep.form; refine s_move H wn rfl rfl ?_; clear H; intro a H; (iterate 2 refine s_extract H wn rfl rfl rfl ?_; clear H; intro a H); (iterate 2 refine s_assign H wn rfl rfl ?_; clear H; intro a H); refine hK2 _ _ ?_; clear hK2; refine c_seq (fun _ hK3 => ?_); refine c_seqR (fun _ hK4 => ?_); refine s_move H wn rfl rfl ?_; clear H; intro a H; refine s_cmp H wn rfl rfl rfl rfl ?_; clear H; intro a H; refine hK4 _ _ ?_; clear hK4; refine c_cond H rfl ?_ ?_
  · intro h15
    try have p15 := of_decide_eq_true h15
    exact absurd he p15
  intro h15
  try have p15 := of_decide_eq_false h15
  refine c_skip ?_; refine hK3 _ _ ?_; clear hK3; refine c_seq (fun _ hK5 => ?_); refine c_seqR (fun _ hK6 => ?_); refine s_move H wn rfl rfl ?_; clear H; intro a H; refine s_loada ty91par (cs := [_, _, _, _]) H wn rfl rfl (H.hp.ocells 0 rfl rfl) rfl ?_; clear H; intro a H; refine s_call en171sl H wn rfl (containsBlk _ _ H.hp.ro (blocksS l) b _ hrep) rfl ?_; clear H; rintro v19 G19 a w rfl hm19 H; rw [hb] at H; refine s_not H wn rfl rfl ?_; clear H; intro a H; refine hK6 _ _ ?_; clear hK6; refine c_cond H rfl ?_ ?_
  · intro h20
    try have p20 := of_decide_eq_true h20
    refine c_seqR (fun _ hK7 => ?_); (iterate 3 refine s_assign H wn rfl rfl ?_; clear H; intro a H); refine hK7 _ _ ?_; clear hK7; refine c_ret ?_; refine (leaveT H Tryz.results96 (.cons (rv_tmp H rfl) (.cons (rv_tmp H rfl) (.cons (rv_tmp H rfl) .nil))) ?_).1; exact H.hp.ret rfl
  intro h20
  try have p20 := of_decide_eq_false h20
  exact absurd h20 (by decide)
theorem parts_some (G : GH) (w0 : World) (hG : Hold G w0) (l : List ItemD) (b : BlkD) (v : Value) (hv : RepV G (.sl 11 (l.map ItemD.dat)) v) (hz : zItems l ≤ 1073741824) (he : lenE l = 0) (i : Nat) (hb : (blocksS l).findIdx? (fun x => decide (b = x)) = some i) (hto : -1000 < b.to ∧ b.to < 1000)
    (hr1 : rngS l b.from_ (endB b) = 0) (h1 : CutOk (endB b) l) (h2 : CutOk b.from_ (leftS (endB b) l)) (hp : PlainL (rightS b.from_ (leftS (endB b) l)))
    (hr2 : rngS l (endB b) b.to = 0) (h3 : CutOk b.to l) (h4 : CutOk (endB b) (leftS b.to l)) (hp2 : PlainL (rightS (endB b) (leftS b.to l))) :
    Calls Tryz.prog 96 #[v, bkV b] w0 (Ret w0 G fun u G' => ∃ x y, u = .tuple #[x, y, vi 0] ∧ RepV G' (.sl 11 ((rightS b.from_ (leftS (endB b) l)).map ItemD.dat)) x ∧ RepV G' (.sl 11 ((rightS (endB b) (leftS b.to l)).map ItemD.dat)) y) := by
  refine enter (N := 45) (T := [(0, _), (1, _)]) (F := fun k => k < w0.heap.size) (L := []) Tryz.func96 rfl Tryz.ntmps96 rfl rfl hG (fun _ h => h) (fun _ h => by cases h) (fun _ h => by cases h) (fun _ h => by cases h) List.Pairwise.nil ?_; intro a H; refine c_seqR (fun _ hK1 => ?_); refine s_box (cs := [_, _, _, _]) H wn rfl rfl rfl ?_; clear H; intro b3 a w hb3 H; (iterate 3 refine s_assign H wn rfl rfl ?_; clear H; intro a H); refine hK1 _ _ ?_; clear hK1; refine c_seqR (fun _ hK2 => ?_); refine s_move H wn rfl rfl ?_; clear H; intro a H; refine s_call en35pas H wn rfl (Blocks_spec _ _ H.hp.ro l v hv hz) rfl ?_; clear H; rintro v11 G11 a w ⟨x, rfl, hrep⟩ hm11 H; obtain ⟨A11, n11, c11, rfl⟩ := hrep.form; refine s_move H wn rfl rfl ?_; clear H; intro a H; (iterate 2 refine s_extract H wn rfl rfl rfl ?_; clear H; intro a H); (iterate 2 refine s_assign H wn rfl rfl ?_; clear H; intro a H); refine hK2 _ _ ?_; clear hK2; refine c_seq (fun _ hK3 => ?_); refine c_seqR (fun _ hK4 => ?_); refine s_move H wn rfl rfl ?_; clear H; intro a H; refine s_cmp H wn rfl rfl rfl rfl ?_; clear H; intro a H; refine hK4 _ _ ?_; clear hK4; refine c_cond H rfl ?_ ?_
  · intro h15
    try have p15 := of_decide_eq_true h15
    exact absurd he p15
  intro h15
  try have p15 := of_decide_eq_false h15
  refine c_skip ?_; refine hK3 _ _ ?_; clear hK3; refine c_seq (fun _ hK5 => ?_); refine c_seqR (fun _ hK6 => ?_); refine s_move H wn rfl rfl ?_; clear H; intro a H; refine s_loada ty91par (cs := [_, _, _, _]) H wn rfl rfl (H.hp.ocells 0 rfl rfl) rfl ?_; clear H; intro a H; refine s_call en171sl H wn rfl (containsBlk _ _ H.hp.ro (blocksS l) b _ hrep) rfl ?_; clear H; rintro v19 G19 a w rfl hm19 H; rw [hb] at H; refine s_not H wn rfl rfl ?_; clear H; intro a H; refine hK6 _ _ ?_; clear hK6; refine c_cond H rfl ?_ ?_
  · intro h20
    try have p20 := of_decide_eq_true h20
    exact absurd h20 (by simp)
  intro h20
  try have p20 := of_decide_eq_false h20
  refine c_skip ?_; refine hK5 _ _ ?_; clear hK5; refine c_seqR (fun _ hK7 => ?_); refine s_field fd91_2pas H wn rfl rfl ?_; clear H; intro a H; refine s_load ty3run H wn rfl (H.hp.ocell 0 rfl rfl) rfl ?_; clear H; intro a H; refine s_assign H wn rfl rfl ?_; clear H; intro a H; refine hK7 _ _ ?_; clear hK7; refine c_seq (fun _ hK8 => ?_); refine c_seqR (fun _ hK9 => ?_); refine s_field fd91_3sl H wn rfl rfl ?_; clear H; intro a H; refine s_load ty4doc H wn rfl (H.hp.ocell 0 rfl rfl) rfl ?_; clear H; intro a H; refine hK9 _ _ ?_; clear hK9; refine c_cond H rfl ?_ ?_
  · intro h24
    try have p24 := of_decide_eq_true h24
    have hend : b.to - 1 = endB b := by rw [endB, if_pos h24]
    refine c_region ?_; refine s_move H wn rfl rfl ?_; clear H; intro a H; refine s_sub _ H wn rfl rfl rfl (by omega) (by omega) rfl ?_; clear H; intro a H; rw [hend] at H; refine s_assign H wn rfl rfl ?_; clear H; intro a H; refine wl_nil ?_; refine hK8 _ _ ?_; clear hK8; refine c_seqR (fun _ hK10 => ?_); refine s_move H wn rfl rfl ?_; clear H; intro a H; refine s_field fd91_1pas H wn rfl rfl ?_; clear H; intro a H; refine s_load ty3run H wn rfl (H.hp.ocell 0 rfl rfl) rfl ?_; clear H; intro a H; refine s_move H wn rfl rfl ?_; clear H; intro a H; refine s_call en172sl H wn rfl (slice_run _ _ H.hp.ro l b.from_ _ v (hv.mono fun b o h => hm19 b o (hm11 b o h)) hz (by first | exact hr1 | (rw [← hend] at hr1; exact hr1)) (by first | exact h1 | (rw [← hend] at h1; exact h1)) (by first | exact h2 | (rw [← hend] at h2; exact h2)) (by first | exact hp | (rw [← hend] at hp; exact hp))) rfl ?_; clear H; rintro v32 G32 a w ⟨x32, rfl, hx32⟩ hm32 H; obtain ⟨A32, n32, c32, rfl⟩ := hx32.form; refine s_move H wn rfl rfl ?_; clear H; intro a H; (iterate 2 refine s_extract H wn rfl rfl rfl ?_; clear H; intro a H); refine s_assign H wn rfl rfl ?_; clear H; intro a H; refine hK10 _ _ ?_; clear hK10; refine c_seqR (fun _ hK11 => ?_); (iterate 2 refine s_move H wn rfl rfl ?_; clear H; intro a H); refine s_field fd91_2pas H wn rfl rfl ?_; clear H; intro a H; refine s_load ty3run H wn rfl (H.hp.ocell 0 rfl rfl) rfl ?_; clear H; intro a H; refine s_call en172sl H wn rfl (slice_run _ _ H.hp.ro l _ b.to v (hv.mono fun b o h => hm32 b o (hm19 b o (hm11 b o h))) hz (by first | exact hr2 | (rw [← hend] at hr2; exact hr2)) h3 (by first | exact h4 | (rw [← hend] at h4; exact h4)) (by first | exact hp2 | (rw [← hend] at hp2; exact hp2))) rfl ?_; clear H; rintro v40 G40 a w ⟨x40, rfl, hx40⟩ hm40 H; obtain ⟨A40, n40, c40, rfl⟩ := hx40.form; refine s_move H wn rfl rfl ?_; clear H; intro a H; (iterate 2 refine s_extract H wn rfl rfl rfl ?_; clear H; intro a H); refine s_assign H wn rfl rfl ?_; clear H; intro a H; refine hK11 _ _ ?_; clear hK11; refine c_seqR (fun _ hK12 => ?_); (iterate 2 refine s_move H wn rfl rfl ?_; clear H; intro a H); (iterate 3 refine s_assign H wn rfl rfl ?_; clear H; intro a H); refine hK12 _ _ ?_; clear hK12; refine c_ret ?_; refine (leaveT H Tryz.results96 (.cons (rv_tmp H rfl) (.cons (rv_tmp H rfl) (.cons (rv_tmp H rfl) .nil))) ?_).1; exact H.hp.ret ⟨_, _, rfl, by first | exact hx32.mono hm40 | (rw [← hend]; exact hx32.mono hm40), by first | exact hx40 | (rw [← hend]; exact hx40)⟩
  intro h24
  try have p24 := of_decide_eq_false h24
  have hend : b.to = endB b := by rw [endB, if_neg (by rw [h24]; decide)]
  refine c_skip ?_; refine hK8 _ _ ?_; clear hK8; refine c_seqR (fun _ hK13 => ?_); refine s_move H wn rfl rfl ?_; clear H; intro a H; refine s_field fd91_1pas H wn rfl rfl ?_; clear H; intro a H; refine s_load ty3run H wn rfl (H.hp.ocell 0 rfl rfl) rfl ?_; clear H; intro a H; refine s_move H wn rfl rfl ?_; clear H; intro a H; refine s_call en172sl H wn rfl (slice_run _ _ H.hp.ro l b.from_ _ v (hv.mono fun b o h => hm19 b o (hm11 b o h)) hz (by first | exact hr1 | (rw [← hend] at hr1; exact hr1)) (by first | exact h1 | (rw [← hend] at h1; exact h1)) (by first | exact h2 | (rw [← hend] at h2; exact h2)) (by first | exact hp | (rw [← hend] at hp; exact hp))) rfl ?_; clear H; rintro v32 G32 a w ⟨x32, rfl, hx32⟩ hm32 H; obtain ⟨A32, n32, c32, rfl⟩ := hx32.form; refine s_move H wn rfl rfl ?_; clear H; intro a H; (iterate 2 refine s_extract H wn rfl rfl rfl ?_; clear H; intro a H); refine s_assign H wn rfl rfl ?_; clear H; intro a H; refine hK13 _ _ ?_; clear hK13; refine c_seqR (fun _ hK14 => ?_); (iterate 2 refine s_move H wn rfl rfl ?_; clear H; intro a H); refine s_field fd91_2pas H wn rfl rfl ?_; clear H; intro a H; refine s_load ty3run H wn rfl (H.hp.ocell 0 rfl rfl) rfl ?_; clear H; intro a H; refine s_call en172sl H wn rfl (slice_run _ _ H.hp.ro l _ b.to v (hv.mono fun b o h => hm32 b o (hm19 b o (hm11 b o h))) hz (by first | exact hr2 | (rw [← hend] at hr2; exact hr2)) h3 (by first | exact h4 | (rw [← hend] at h4; exact h4)) (by first | exact hp2 | (rw [← hend] at hp2; exact hp2))) rfl ?_; clear H; rintro v40 G40 a w ⟨x40, rfl, hx40⟩ hm40 H; obtain ⟨A40, n40, c40, rfl⟩ := hx40.form; refine s_move H wn rfl rfl ?_; clear H; intro a H; (iterate 2 refine s_extract H wn rfl rfl rfl ?_; clear H; intro a H); refine s_assign H wn rfl rfl ?_; clear H; intro a H; refine hK14 _ _ ?_; clear hK14; refine c_seqR (fun _ hK15 => ?_); (iterate 2 refine s_move H wn rfl rfl ?_; clear H; intro a H); (iterate 3 refine s_assign H wn rfl rfl ?_; clear H; intro a H); refine hK15 _ _ ?_; clear hK15; refine c_ret ?_; refine (leaveT H Tryz.results96 (.cons (rv_tmp H rfl) (.cons (rv_tmp H rfl) (.cons (rv_tmp H rfl) .nil))) ?_).1; exact H.hp.ret ⟨_, _, rfl, by first | exact hx32.mono hm40 | (rw [← hend]; exact hx32.mono hm40), by first | exact hx40 | (rw [← hend]; exact hx40)⟩
end
section
open Go.RowKit
section
variable {N : Nat} {D : List Deferred} {w0 : World} {F : Nat → Prop} {G0 G : GH} {L : OL} {T T' : List (Nat × Value)}
variable {r : Option Nat} {P : Program} {Q : Exit → Act → World → Prop} {l : List Oper} {a a' : Act} {w w' : World} {ε : Type}
/-- What the slots of the operations that are done hold. -/
def Vals (l : List Oper) (pr : ε → Nat → Value → Prop) (T : List (Nat × Value)) (S : Nat → Bool) (E : ε) (T' : List (Nat × Value)) : Prop :=
  (∀ t v, lk T t = some v → lk T' t = some v) ∧ ∀ i d, S i = true → dstOf l i = some d → ∃ v, lk T' d = some v ∧ pr E i v
theorem Vals.put {pr : ε → Nat → Value → Prop} {S : Nat → Bool} {E E' : ε} {i d : Nat} {v : Value} (h : Vals l pr T S E T') (hok : dstOk l T = true) (hi : dstOf l i = some d) (hv : pr E' i v) (hE : ∀ j u, j ≠ i → pr E j u → pr E' j u) : Vals l pr T (setT S i) E' ((d, v) :: T') := by
  have hil := dstOf_lt hi
  have hok1 := List.all_eq_true.1 hok i (List.mem_range.2 hil)
  rw [dst1, hi] at hok1
  simp only [Bool.and_eq_true, Option.isNone_iff_eq_none, List.all_eq_true, List.mem_range] at hok1
  refine ⟨fun t u ht => ?_, fun j e hj he => ?_⟩
  · rw [lk_cons_ne (fun e => by subst e; rw [hok1.1] at ht; cases ht)]; exact h.1 t u ht
  · by_cases hji : j = i
    · subst hji; rw [hi] at he; cases he; exact ⟨v, lk_cons_self _ _ _, hv⟩
    · have hSj : S j = true := by unfold setT at hj; rwa [if_neg hji] at hj
      obtain ⟨u, hu1, hu2⟩ := h.2 j e hSj he
      have hne : d ≠ e := by
        intro e'; subst e'
        have h2 := hok1.2 j (dstOf_lt he)
        have hb : Nat.beq i j = false := beq_no (fun h => hji h.symm)
        rw [hb, he] at h2
        simp at h2
      exact ⟨u, by rw [lk_cons_ne hne]; exact hu1, hE j u hji hu2⟩
theorem Vals.unit {pr : ε → Nat → Value → Prop} {S : Nat → Bool} {E : ε} {i : Nat} (h : Vals l pr T S E T') (hi : dstOf l i = none) : Vals l pr T (setT S i) E T' :=
  ⟨h.1, fun j e hj he => h.2 j e (by
    unfold setT at hj
    by_cases hji : j = i
    · subst hji; rw [hi] at he; cases he
    · rwa [if_neg hji] at hj) he⟩
theorem Vals.add {pr : ε → Nat → Value → Prop} {S : Nat → Bool} {E : ε} (h : Vals l pr T S E T') {t : Nat} {u : Value} (hu : lk T' t = some u) : Vals l pr T S E ((t, u) :: T') := by
  have e : ∀ s v, lk T' s = some v → lk ((t, u) :: T') s = some v := fun s v hs => by
    by_cases hst : t = s
    · subst hst; rw [hu] at hs; cases hs; exact lk_cons_self _ _ _
    · rw [lk_cons_ne hst]; exact hs
  exact ⟨fun s v hs => e s v (h.1 s v hs), fun i d hi hd => by
    obtain ⟨v, h1, h2⟩ := h.2 i d hi hd
    exact ⟨v, e d v h1, h2⟩⟩
end
end
section
open Go.RowKit
section
variable {N : Nat} {D : List Deferred} {w0 : World} {F : Nat → Prop} {G0 G G1 G2 : GH} {L L1 : OL} {T Xs : List (Nat × Value)}
variable {r : Option Nat} {P : Program} {Q : Exit → Act → World → Prop} {l : List Oper} {a a' : Act} {w w' : World}
theorem c_drawG {id : Nat} (hm : P.follows .mixedOrders = true) (clo : List (List Nat)) (B : List Nat) (hk : drawOk l clo = true) (hB : tailOk l clo B = true) (X : (Nat → Bool) → Act → World → Prop) (h0 : X (fun _ => false) a w.drew)
    (hstep : ∀ i o S a w, l[i]? = some o → B.contains i = false → S i = false → (∀ j ∈ clo.getD i [], S j = true) → (∀ j, j < l.length → i ∈ clo.getD j [] → S j = false) → X S a w → WL r P l.toArray (fun e a' w' => e = .normal ∧ X (setT S i) a' w') [o] a w)
    (hend : ∀ S a w, (∀ i, i < l.length → B.contains i = false → S i = true) → (∀ i, B.contains i = true → S i = false) → X S a w → WL r P l.toArray (fun e a w => e = .normal ∧ Q .normal a w) (opsAt l B) a w) : WP r P (.region id l.toArray true) Q a w := by
  have hB1 : ∀ p b, B[p]? = some b → b < l.length ∧ ∀ i, i < l.length → (B.contains i = false ∨ (B.take p).contains i = true) → i ∈ clo.getD b [] := by
    intro p b hp
    simp only [tailOk, Bool.and_eq_true] at hB
    have h1 := List.all_eq_true.1 hB.1 p (List.mem_range.2 (List.getElem?_eq_some_iff.1 hp).1)
    rw [hp] at h1
    simp only [Bool.and_eq_true, List.all_eq_true, List.mem_range] at h1
    refine ⟨Eq.mp Nat.blt_eq h1.1, fun i hi hor => ?_⟩
    have h2 := h1.2 i hi
    rcases hor with h3 | h3
    · have h4 : i ∉ B := by simpa using h3
      simpa [h4] using h2
    · have h4 : i ∈ B.take p := by simpa using h3
      simpa [h4] using h2
  have hB2 : ∀ i, i < l.length → B.contains i = false → ∀ j ∈ clo.getD i [], B.contains j = false := by
    intro i hi hb j hj
    simp only [tailOk, Bool.and_eq_true] at hB
    have h1 := List.all_eq_true.1 hB.2 i (List.mem_range.2 hi)
    rw [hb] at h1
    simp only [Bool.false_or, List.all_eq_true] at h1
    simpa using h1 j hj
  refine c_draw hm clo hk (fun S a w => ((∀ i, B.contains i = true → S i = false) ∧ X S a w) ∨
      ∃ p, (∀ i, i < l.length → B.contains i = false → S i = true) ∧ (∀ i, (B.take p).contains i = true → S i = true) ∧ (∀ q b, B[q]? = some b → p ≤ q → S b = false) ∧ WL r P l.toArray (fun e a w => e = .normal ∧ Q .normal a w) (opsAt l (B.drop p)) a w)
    (.inl ⟨fun _ _ => rfl, h0⟩) ?_ ?_
  · intro i o S a w ho hX hSi hclo hdesc
    have hil : i < l.length := (List.getElem?_eq_some_iff.1 ho).1
    by_cases hbi : B.contains i = true
    · -- an operation of the tail: all that stands ahead of it is done
      obtain ⟨p0, hp0⟩ := List.getElem?_of_mem (by simpa using hbi : i ∈ B)
      have hall : ∀ j, j < l.length → B.contains j = false → S j = true := fun j hj hb => hclo j ((hB1 p0 i hp0).2 j hj (.inl hb))
      have hphase : ∃ p, (∀ i, (B.take p).contains i = true → S i = true) ∧ (∀ q b, B[q]? = some b → p ≤ q → S b = false) ∧ WL r P l.toArray (fun e a w => e = .normal ∧ Q .normal a w) (opsAt l (B.drop p)) a w := by
        rcases hX with ⟨h1, hD⟩ | ⟨p, _, h2, h3, h4⟩
        · exact ⟨0, by simp, fun q b hq _ => h1 b (by simpa using List.mem_of_getElem? hq), hend S a w hall h1 hD⟩
        · exact ⟨p, h2, h3, h4⟩
      obtain ⟨p, h2, h3, h4⟩ := hphase
      -- i is the next one
      have hpp : p ≤ p0 := by
        rcases Nat.lt_or_ge p0 p with hlt | hge
        · have : (B.take p).contains i = true := by
            simp only [List.contains_iff_mem]
            exact List.mem_of_getElem? (i := p0) (by rw [List.getElem?_take, if_pos hlt]; exact hp0)
          rw [h2 i this] at hSi; cases hSi
        · exact hge
      have hplt : p < B.length := by have := (List.getElem?_eq_some_iff.1 hp0).1; omega
      have hbp : B[p]? = some B[p] := List.getElem?_eq_getElem hplt
      have heq : B[p] = i := by
        rcases Nat.lt_or_ge p p0 with hlt | hge
        · exfalso
          have hin : B[p] ∈ clo.getD i [] := (hB1 p0 i hp0).2 _ (hB1 p _ hbp).1 (.inr (by
            simp only [List.contains_iff_mem]
            exact List.mem_of_getElem? (i := p) (by rw [List.getElem?_take, if_pos hlt]; exact hbp)))
          have := hclo _ hin
          rw [h3 p _ hbp (Nat.le_refl _)] at this; cases this
        · have : p = p0 := by omega
          subst this
          rw [hbp] at hp0; simpa using hp0
      have hdrop : B.drop p = i :: B.drop (p + 1) := by rw [List.drop_eq_getElem_cons hplt, heq]
      have hops : opsAt l (B.drop p) = o :: opsAt l (B.drop (p + 1)) := by rw [hdrop]; simp [opsAt, ho]
      rw [hops] at h4
      refine wl_split (fun a' w' h5 => .inr ⟨p + 1, fun j hj hb => ?_, fun j hj => ?_, fun q b hq hpq => ?_, h5⟩) h4
      · unfold setT; split
        · rfl
        · exact hall j hj hb
      · unfold setT; split
        · rfl
        · rename_i hne
          refine h2 j ?_
          simp only [List.contains_iff_mem] at hj ⊢
          rw [List.take_succ_eq_append_getElem hplt, List.mem_append] at hj
          rcases hj with hj | hj
          · exact hj
          · simp only [List.mem_singleton] at hj; exact absurd (hj.trans heq) hne
      · unfold setT
        rw [if_neg ?_]
        · exact h3 q b hq (by omega)
        · rintro rfl
          -- i would stand twice in B: it would come ahead of itself
          have h6 := (hB1 q b hq).2 b (hB1 q b hq).1 (.inr (by
            simp only [List.contains_iff_mem]
            exact List.mem_of_getElem? (i := p) (by rw [List.getElem?_take, if_pos (by omega)]; rw [hbp, heq])))
          rw [hclo _ h6] at hSi; cases hSi
    · have hbi' : B.contains i = false := by cases h : B.contains i with | false => rfl | true => exact absurd h hbi
      rcases hX with ⟨h1, hX⟩ | ⟨p, h0, _, _, _⟩
      · refine wl_mono (fun e a' w' ⟨he, hD⟩ => ⟨he, .inl ⟨fun j hj => ?_, hD⟩⟩) (hstep i o S a w ho hbi' hSi hclo hdesc hX)
        unfold setT
        rw [if_neg (by rintro rfl; rw [hbi'] at hj; cases hj)]
        exact h1 j hj
      · rw [h0 i hil hbi'] at hSi; cases hSi
  · intro S a w hall hX
    rcases hX with ⟨h1, hD⟩ | ⟨p, _, _, h3, h4⟩
    · have hnil : B = [] := by
        cases B with
        | nil => rfl
        | cons b B => have h5 := h1 b (by simp); rw [hall b (hB1 0 b rfl).1] at h5; cases h5
      subst hnil
      exact (hend S a w (fun j hj _ => hall j hj) h1 hD).2
    · have hnil : B.drop p = [] := by
        cases hd : B.drop p with
        | nil => rfl
        | cons b B' =>
          have hb : B[p]? = some b := by
            have := congrArg (fun x : List Nat => x[0]?) hd
            simpa using this
          have h5 := h3 p b hb (Nat.le_refl _)
          rw [hall b (hB1 p b hb).1] at h5; cases h5
      rw [hnil] at h4
      exact h4.2
/-- The operation that makes what is owned more. -/
theorem draw_mid {pr : Nat → Value → GH → Prop} {S : Nat → Bool} {i d : Nat} {v : Value} (hok : dst1 l T i = true) (hi : dstOf l i = some d) 
    (HT : St N D w0 F G0 G1 L T a w) (Hb : St N D w0 F G0 G1 L (Xs ++ full N a) a w) (hG : ∀ k o, G k = some o → G1 k = some o) (hv : ∀ j d, j ≠ i → S j = true → dstOf l j = some d → ∃ v, a.tmps[d]? = some v ∧ pr j v G1)
    (hp : pr i v G1) (H : St N D w0 F G0 G1 L1 ((d, v) :: (Xs ++ full N a)) a' w') : DX N D w0 F G0 G L1 T l pr (setT S i) a' w' := by
  have hil : i < l.length := dstOf_lt hi
  have hok1 := hok
  rw [dst1, hi] at hok1
  simp only [Bool.and_eq_true, Option.isNone_iff_eq_none, List.all_eq_true, List.mem_range] at hok1
  have hsame : ∀ t, t ≠ d → a'.tmps[t]? = a.tmps[t]? := by
    intro t ht
    by_cases hlt : t < N
    · have h1 : ∃ u, lk (Xs ++ full N a) t = some u := by
        rw [lk_append]
        cases lk Xs t with
        | some u => exact ⟨u, rfl⟩
        | none => exact ⟨_, lk_full a hlt⟩
      obtain ⟨u, hu⟩ := h1
      rw [Hb.get t u hu, H.get t u (by rw [lk_cons_ne (Ne.symm ht)]; exact hu)]
    · rw [Array.getElem?_eq_none (by rw [H.asz]; omega), Array.getElem?_eq_none (by rw [Hb.asz]; omega)]
  refine ⟨G1, hG, ⟨H.asz, fun t u ht => ?_, H.dfr, H.hp⟩, fun j e hj he => ?_⟩
  · rw [hsame t (fun e => by rw [e, hok1.1] at ht; cases ht)]
    exact HT.get t u ht
  · by_cases hji : j = i
    · subst hji
      rw [hi] at he
      simp only [Option.some.injEq] at he
      subst he
      exact ⟨v, H.get d v (lk_cons_self _ _ _), hp⟩
    · have hSj : S j = true := by unfold setT at hj; rwa [if_neg hji] at hj
      obtain ⟨u, hu1, hu2⟩ := hv j e hji hSj he
      have hne : e ≠ d := by
        intro e'
        subst e'
        have h2 := hok1.2 j (dstOf_lt he)
        rw [beq_no (fun h => hji h.symm), he] at h2
        simp at h2
      exact ⟨u, by rw [hsame e hne]; exact hu1, hu2⟩
end
end
section
open Go.RowKit
section
variable {N : Nat} {D : List Deferred} {w0 : World} {F : Nat → Prop} {G0 G G1 G2 : GH} {L L1 : OL} {T Xs : List (Nat × Value)}
variable {r : Option Nat} {P : Program} {Q : Exit → Act → World → Prop} {l : List Oper} {a a' : Act} {w w' : World}
/-- The same, where the other operations look into what is owned. -/
theorem c_drawK {id : Nat} (hm : P.follows .mixedOrders = true) (clo : List (List Nat)) (B : List Nat) (hk : drawOk l clo = true) (hB : tailOk l clo B = true) (m : Nat) (hmB : B.contains m = false) (ob : Obj) (pr : Nat → Nat → Value → GH → Prop)
    (hprb : ∀ b b' i v G, i ≠ m → pr b i v G → pr b' i v G) (H : St N D w0 F G0 G L T a w)
    (hstep : allI (fun i o => ∀ b L' S a w G1, (∀ x, x ∈ L → x ∈ L') → B.contains i = false → Nat.beq i m = false → S i = false → (∀ j ∈ clo.getD i [], S j = true) → (∀ k o, G k = some o → G1 k = some o) → St N D w0 F G0 G1 L' T a w → (∀ i d, S i = true → dstOf l i = some d → ∃ v, a.tmps[d]? = some v ∧ pr b i v G1) →
      WL r P l.toArray (fun e a' w' => e = .normal ∧ DX N D w0 F G0 G L' T l (pr b) (setT S i) a' w') [o] a w) 0 l)
    (hmid : ∀ o S a w G1, l[m]? = some o → S m = false → (∀ j ∈ clo.getD m [], S j = true) → (∀ k o, G k = some o → G1 k = some o) → St N D w0 F G0 G1 L T a w → (∀ b i d, i ≠ m → S i = true → dstOf l i = some d → ∃ v, a.tmps[d]? = some v ∧ pr b i v G1) →
      WL r P l.toArray (fun e a' w' => e = .normal ∧ ∃ b, DX N D w0 F G0 G ((b, ob) :: L) T l (pr b) (setT S m) a' w') [o] a w)
    (hend : ∀ b a w G1, (∀ k o, G k = some o → G1 k = some o) → St N D w0 F G0 G1 ((b, ob) :: L) T a w → (∀ i d, B.contains i = false → dstOf l i = some d → ∃ v, a.tmps[d]? = some v ∧ pr b i v G1) → WL r P l.toArray (fun e a w => e = .normal ∧ Q .normal a w) (opsAt l B) a w)
    (hml : Nat.blt m l.length = true) : WP r P (.region id l.toArray true) Q a w := by
  refine c_drawG hm clo B hk hB (fun S a w => ∃ b L', (S m = false → L' = L) ∧ (S m = true → L' = (b, ob) :: L) ∧ DX N D w0 F G0 G L' T l (pr b) S a w)
    ⟨0, L, fun _ => rfl, fun h => absurd (show false = true from h) (by decide), G, fun _ _ h => h, H.move H.hp.drew, fun _ _ h => absurd (show false = true from h) (by decide)⟩ ?_ ?_
  · rintro i o S a w ho hb hSi hclo hdesc ⟨b, L', h1, h2, G1, hG, HS, hv⟩
    by_cases him : i = m
    · subst him
      have e := h1 hSi; subst e
      have h := hmid o S a w G1 ho hSi hclo hG HS fun b' j d hj hSj hd => by
        obtain ⟨v, hv1, hv2⟩ := hv j d hSj hd
        exact ⟨v, hv1, hprb b b' j v _ hj hv2⟩
      have e1 : setT S i i = true := if_pos rfl
      exact wl_mono (fun e a' w' ⟨he, b', hD⟩ => ⟨he, b', _, fun h => absurd (e1.symm.trans h) (by decide), fun _ => rfl, hD⟩) h
    · have h := allI_get hstep i o ho
      rw [Nat.zero_add] at h
      have e : setT S i m = S m := if_neg (fun h => him h.symm)
      exact wl_mono (fun e' a' w' ⟨he, hD⟩ => ⟨he, b, L', fun h => h1 (e ▸ h), fun h => h2 (e ▸ h), hD⟩) (h b L' S a w G1 (fun x hx => by
        cases hS : S m with
        | false => rw [h1 hS]; exact hx
        | true => rw [h2 hS]; exact List.mem_cons_of_mem _ hx) hb (beq_no him) hSi hclo hG HS hv)
  · rintro S a w hall hnB ⟨b, L', h1, h2, G1, hG, HS, hv⟩
    have hmS : S m = true := hall m (Eq.mp Nat.blt_eq hml) hmB
    have e := h2 hmS; subst e
    exact hend b a w G1 hG HS fun j d hb hd => hv j d (hall j (dstOf_lt hd) hb) hd
end
end
section
open Go.RowKit
section
variable {N : Nat} {D : List Deferred} {w0 : World} {F : Nat → Prop} {G0 G G1 G2 : GH} {L L1 L2 : OL} {T Xs : List (Nat × Value)}
variable {r : Option Nat} {P : Program} {Q : Exit → Act → World → Prop} {l : List Oper} {a a' : Act} {w w' : World}
theorem draw_unit2 {pr : Nat → Value → GH → Prop} {S : Nat → Bool} {i : Nat} (hi : dstOf l i = none) (HT : St N D w0 F G0 G1 L T a w) (hG : ∀ k o, G k = some o → G1 k = some o) (hv : ∀ i d, S i = true → dstOf l i = some d → ∃ v, a.tmps[d]? = some v ∧ pr i v G1)
    (H : St N D w0 F G0 G1 L2 (Xs ++ full N a) a w') : DX N D w0 F G0 G L2 T l pr (setT S i) a w' :=
  ⟨G1, hG, HT.move H.hp, fun j e hj he => hv j e (by
    unfold setT at hj
    by_cases hji : j = i
    · subst hji; rw [hi] at he; cases he
    · rwa [if_neg hji] at hj) he⟩
/-- One operation turns one owned block into another one; the others are shown beside both. -/
theorem c_drawW {id : Nat} (hm : P.follows .mixedOrders = true) (clo : List (List Nat)) (B : List Nat) (hk : drawOk l clo = true) (hB : tailOk l clo B = true) (m : Nat) (hmB : B.contains m = false) (pr : Nat → Value → GH → Prop) (ix : Nat) (ob : Nat × Obj)
    (H : St N D w0 F G0 G L T a w)
    (hstep : allI (fun i o => ∀ S a w G1, B.contains i = false → Nat.beq i m = false → S i = false → (∀ j ∈ clo.getD i [], S j = true) → (∀ k o, G k = some o → G1 k = some o) → St N D w0 F G0 G1 L T a w → (∀ i d, S i = true → dstOf l i = some d → ∃ v, a.tmps[d]? = some v ∧ pr i v G1) →
      WL r P l.toArray (fun e a' w' => e = .normal ∧ DX N D w0 F G0 G L T l pr (setT S i) a' w') [o] a w) 0 l)
    (hmid : ∀ o S a w G1, l[m]? = some o → S m = false → (∀ j ∈ clo.getD m [], S j = true) → (∀ k o, G k = some o → G1 k = some o) → St N D w0 F G0 G1 L T a w → (∀ i d, S i = true → dstOf l i = some d → ∃ v, a.tmps[d]? = some v ∧ pr i v G1) →
      WL r P l.toArray (fun e a' w' => e = .normal ∧ DX N D w0 F G0 G (L.set ix ob) T l pr (setT S m) a' w') [o] a w)
    (hstep2 : allI (fun i o => ∀ S a w G1, B.contains i = false → Nat.beq i m = false → S i = false → (∀ j ∈ clo.getD i [], S j = true) → (∀ k o, G k = some o → G1 k = some o) → St N D w0 F G0 G1 (L.set ix ob) T a w → (∀ i d, S i = true → dstOf l i = some d → ∃ v, a.tmps[d]? = some v ∧ pr i v G1) →
      WL r P l.toArray (fun e a' w' => e = .normal ∧ DX N D w0 F G0 G (L.set ix ob) T l pr (setT S i) a' w') [o] a w) 0 l)
    (hend : ∀ a w G1, (∀ k o, G k = some o → G1 k = some o) → St N D w0 F G0 G1 (L.set ix ob) T a w → (∀ i d, B.contains i = false → dstOf l i = some d → ∃ v, a.tmps[d]? = some v ∧ pr i v G1) → WL r P l.toArray (fun e a w => e = .normal ∧ Q .normal a w) (opsAt l B) a w)
    (hml : Nat.blt m l.length = true) : WP r P (.region id l.toArray true) Q a w := by
  refine c_drawG hm clo B hk hB (fun S a w => (S m = false ∧ DX N D w0 F G0 G L T l pr S a w) ∨ (S m = true ∧ DX N D w0 F G0 G (L.set ix ob) T l pr S a w))
    (.inl ⟨rfl, G, fun _ _ h => h, H.move H.hp.drew, fun _ _ h => absurd (show false = true from h) (by decide)⟩) ?_ ?_
  · rintro i o S a w ho hb hSi hclo hdesc hX
    by_cases him : i = m
    · subst him
      rcases hX with ⟨_, G1, hG, HS, hv⟩ | ⟨h1, _⟩
      · have h := hmid o S a w G1 ho hSi hclo hG HS hv
        have e1 : setT S i i = true := if_pos rfl
        exact wl_mono (fun e a' w' ⟨he, hD⟩ => ⟨he, .inr ⟨e1, hD⟩⟩) h
      · rw [h1] at hSi; cases hSi
    · have e : setT S i m = S m := if_neg (fun h => him h.symm)
      rcases hX with ⟨h1, G1, hG, HS, hv⟩ | ⟨h1, G1, hG, HS, hv⟩
      · have h := allI_get hstep i o ho
        rw [Nat.zero_add] at h
        exact wl_mono (fun e' a' w' ⟨he, hD⟩ => ⟨he, .inl ⟨e.trans h1, hD⟩⟩) (h S a w G1 hb (beq_no him) hSi hclo hG HS hv)
      · have h := allI_get hstep2 i o ho
        rw [Nat.zero_add] at h
        exact wl_mono (fun e' a' w' ⟨he, hD⟩ => ⟨he, .inr ⟨e.trans h1, hD⟩⟩) (h S a w G1 hb (beq_no him) hSi hclo hG HS hv)
  · rintro S a w hall hnB hX
    have hmS : S m = true := hall m (Eq.mp Nat.blt_eq hml) hmB
    rcases hX with ⟨h1, _⟩ | ⟨h1, G1, hG, HS, hv⟩
    · rw [h1] at hmS; cases hmS
    · exact hend a w G1 hG HS fun j d hb hd => hv j d (hall j (dstOf_lt hd) hb) hd
end
end
section
open Go.RowKit
theorem ty22rix : Ty Tryz.prog 22 1 8 [.int .i64 0] false := ⟨by kernel_rfl, by kernel_rfl⟩
def ovr (t : Int) (a : Nat × ItemD) : Bool := decide (t < (a.1 : Int) + (unitsS a.2 : Int))
/-- What Index gives: the index of the item that has a unit, and the unit's place there; or the error. -/
def rixS (l : List ItemD) (t : Int) : Int × Int × Int :=
  if lenE l = 0 then
    if t < 0 ∨ lenS l ≤ t then (0, 0, 2) else match (offs 0 l).findIdx? (ovr t) with | some i => (i, t - (((offs 0 l)[i]?.map (·.1)).getD 0 : Nat), 0) | none => (0, 0, 2)
  else (0, 0, lenE l)
theorem rindex_spec (G : GH) (w0 : World) (hG : Hold G w0) (l : List ItemD) (t : Int) (v : Value) (hv : RepV G (.sl 11 (l.map ItemD.dat)) v) (hz : zItems l ≤ 1073741824) :
    Calls Tryz.prog 102 #[v, vi t] w0 (Ret w0 G fun u G' => u = .tuple #[vi (rixS l t).1, vi (rixS l t).2.1, vi (rixS l t).2.2]) := by
  have hls : lenS l ≤ 1073741824 := by
    have h1 := sumS_le l; have h2 := txtS_le l
    unfold lenS; split <;> omega
  have hol := offs_len l 0; have hll := zItems_length l; refine enter (N := 50) (T := [(0, _), (1, _)]) (F := fun k => k < w0.heap.size) (L := []) Tryz.func102 rfl Tryz.ntmps102 rfl rfl hG (fun _ h => h) (fun _ h => by cases h) (fun _ h => by cases h) (fun _ h => by cases h) List.Pairwise.nil ?_; intro a H; refine c_seqR (fun _ hK1 => ?_); refine s_box (cs := [_]) H wn rfl rfl rfl ?_; clear H; intro b3 a w hb3 H; refine s_alloc ty3run H wn rfl ?_; clear H; intro b4 a w hb4 H; refine s_alloc ty3run H wn rfl ?_; clear H; intro b5 a w hb5 H; refine s_alloc ty22rix H wn rfl ?_; clear H; intro b6 a w hb6 H; refine hK1 _ _ ?_; clear hK1; refine c_seqR (fun _ hK2 => ?_); refine s_move H wn rfl rfl ?_; clear H; intro a H; refine s_call en8par H wn rfl (len_spec _ _ H.hp.ro _ _ hv (by omega)) rfl ?_; clear H; rintro v15 _ a w ⟨rfl, rfl⟩ - H; refine s_move H wn rfl rfl ?_; clear H; intro a H; (iterate 2 refine s_extract H wn rfl rfl rfl ?_; clear H; intro a H); refine s_assign H wn rfl rfl ?_; clear H; intro a H; refine s_store ty22rix 0 (vs := [_]) _ H wn rfl rfl rfl rfl rfl rfl rfl rfl ?_; clear H; intro w H; dsimp only [List.set, setRow] at H; refine hK2 _ _ ?_; clear hK2; refine c_seq (fun _ hK3 => ?_); refine c_block ?_; refine c_seqR (fun _ hK4 => ?_); refine s_load ty22rix H wn rfl (H.hp.ocell 0 rfl rfl) rfl ?_; clear H; intro a H; refine s_cmp H wn rfl rfl rfl rfl ?_; clear H; intro a H; refine s_assign H wn rfl rfl ?_; clear H; intro a H; refine hK4 _ _ ?_; clear hK4; refine c_cond H rfl ?_ ?_
  · intro h18
    try have p18 := of_decide_eq_true h18
    refine c_seq (fun _ hK5 => ?_); refine c_drawI (hmx) [[], [], [1], [0, 1, 2]] [3] (by kernel_rfl) (by kernel_rfl) (fun (ix_ : Nat) (v : Value) (G : GH) => match ix_ with | 0 => v = vi (lenE l) | _ => True) (fun _ _ _ _ _ h => h) H ?_ ?_
    · clear H; refine (allI_cons ?_ (allI_cons ?_ (allI_cons ?_ (allI_cons ?_ allI_nil))))
      · refine opI [] rfl trivial (by kernel_rfl) (fun _ _ _ _ _ h => h) rfl rfl ?_; intro Sd_ a w G1 hG HT H fin; refine s_load ty22rix H wn rfl (H.hp.ocell 0 rfl rfl) rfl ?_; clear H; intro a H; exact fin H (fun _ _ h => h) (rfl)
      · intro Sd_ a w G1 _ hSi hc hG HT hv; have H := HT; clear hSi; have Hb := H.full; have H := Hb; clear hc; refine s_store ty3run 2 (vs := [_]) _ H wn rfl rfl rfl rfl rfl rfl rfl rfl ?_; clear H; intro w H; dsimp only [List.set, setRow] at H; refine wl_nil ⟨rfl, ?_⟩; exact draw_unit rfl HT hG hv H
      · intro Sd_ a w G1 _ hSi hc hG HT hv; have H := HT; clear hSi; have Hb := H.full; have H := Hb; clear hc; refine s_store ty3run 1 (vs := [_]) _ H wn rfl rfl rfl rfl rfl rfl rfl rfl ?_; clear H; intro w H; dsimp only [List.set, setRow] at H; refine wl_nil ⟨rfl, ?_⟩; exact draw_unit rfl HT hG hv H
      intro _ _ _ _ hB; exact absurd hB (by decide)
    clear H; intro a w G hGm3 H hv; obtain ⟨u21, hu21, hp21⟩ := hv 0 21 (by decide) rfl; obtain rfl : u21 = vi (lenE l) := hp21; have H := H.addS hu21; clear hv; refine s_store ty22rix 0 (vs := [_]) _ H wn rfl rfl rfl rfl rfl rfl rfl rfl ?_; clear H; intro w H; dsimp only [List.set, setRow] at H; refine wl_nil ⟨rfl, ?_⟩; refine hK5 _ _ ?_; clear hK5; refine c_ret ?_; refine (leaveT H Tryz.results102 (.cons (rv_cell ty3run H rfl (H.hp.ocell 2 rfl rfl)) (.cons (rv_cell ty3run H rfl (H.hp.ocell 1 rfl rfl)) (.cons (rv_cell ty22rix H rfl (H.hp.ocell 0 rfl rfl)) .nil))) ?_).1
    first
      | exact H.hp.ret (by obtain ⟨h1, h2, h3⟩ := hI; rw [rixS, if_pos he, if_neg (by omega), h2, h3]; simp [List.getElem?_eq_getElem h1])
      | exact H.hp.ret (by rw [rixS, if_pos he, if_neg (by omega), idx_done (by simpa using hI)]; rfl)
      | exact H.hp.ret (by rw [rixS]; simp_all)
  intro h18
  try have p18 := of_decide_eq_false h18
  have he : lenE l = 0 := by omega
  rw [he] at H; refine c_seqR (fun _ hK6 => ?_); refine s_load ty3run H wn rfl (H.hp.ocell 3 rfl rfl) rfl ?_; clear H; intro a H; refine s_cmp H wn rfl rfl rfl rfl ?_; clear H; intro a H; refine s_move H wn rfl rfl ?_; clear H; intro a H; refine s_split H 25 rfl ?_ ?_
  · intro h25
    try have p25 := of_decide_eq_true h25
    (iterate 3 refine s_skip H rfl rfl h25 rfl ?_; clear H; intro a H); refine s_pick_t H wn rfl h25 rfl rfl ?_; clear H; intro a H; refine s_assign H wn rfl rfl ?_; clear H; intro a H; refine hK6 _ _ ?_; clear hK6; refine c_cond_t H rfl rfl ?_; refine c_seqR (fun _ hK7 => ?_); refine s_store ty3run 2 (vs := [_]) _ H wn rfl rfl rfl rfl rfl rfl rfl rfl ?_; clear H; intro w H; dsimp only [List.set, setRow] at H; refine s_store ty3run 1 (vs := [_]) _ H wn rfl rfl rfl rfl rfl rfl rfl rfl ?_; clear H; intro w H; dsimp only [List.set, setRow] at H; refine s_store ty22rix 0 (vs := [_]) _ H wn rfl rfl rfl rfl rfl rfl rfl rfl ?_; clear H; intro w H; dsimp only [List.set, setRow] at H; refine hK7 _ _ ?_; clear hK7; refine c_ret ?_; refine (leaveT H Tryz.results102 (.cons (rv_cell ty3run H rfl (H.hp.ocell 2 rfl rfl)) (.cons (rv_cell ty3run H rfl (H.hp.ocell 1 rfl rfl)) (.cons (rv_cell ty22rix H rfl (H.hp.ocell 0 rfl rfl)) .nil))) ?_).1
    first
      | exact H.hp.ret (by obtain ⟨h1, h2, h3⟩ := hI; rw [rixS, if_pos he, if_neg (by omega), h2, h3]; simp [List.getElem?_eq_getElem h1])
      | exact H.hp.ret (by rw [rixS, if_pos he, if_neg (by omega), idx_done (by simpa using hI)]; rfl)
      | exact H.hp.ret (by rw [rixS]; simp_all)
  intro h25
  try have p25 := of_decide_eq_false h25
  refine s_load ty3run H (wg H rfl rfl h25) rfl (H.hp.ocell 3 rfl rfl) rfl ?_; clear H; intro a H; refine s_move H (wg H rfl rfl h25) rfl rfl ?_; clear H; intro a H; refine s_cmp H (wg H rfl rfl h25) rfl rfl rfl rfl ?_; clear H; intro a H; refine s_pick_f H wn rfl h25 rfl rfl ?_; clear H; intro a H; refine s_assign H wn rfl rfl ?_; clear H; intro a H; refine hK6 _ _ ?_; clear hK6; refine c_cond H rfl ?_ ?_
  · intro h22
    try have p22 := of_decide_eq_true h22
    refine c_seqR (fun _ hK8 => ?_); refine s_store ty3run 2 (vs := [_]) _ H wn rfl rfl rfl rfl rfl rfl rfl rfl ?_; clear H; intro w H; dsimp only [List.set, setRow] at H; refine s_store ty3run 1 (vs := [_]) _ H wn rfl rfl rfl rfl rfl rfl rfl rfl ?_; clear H; intro w H; dsimp only [List.set, setRow] at H; refine s_store ty22rix 0 (vs := [_]) _ H wn rfl rfl rfl rfl rfl rfl rfl rfl ?_; clear H; intro w H; dsimp only [List.set, setRow] at H; refine hK8 _ _ ?_; clear hK8; refine c_ret ?_; refine (leaveT H Tryz.results102 (.cons (rv_cell ty3run H rfl (H.hp.ocell 2 rfl rfl)) (.cons (rv_cell ty3run H rfl (H.hp.ocell 1 rfl rfl)) (.cons (rv_cell ty22rix H rfl (H.hp.ocell 0 rfl rfl)) .nil))) ?_).1
    first
      | exact H.hp.ret (by obtain ⟨h1, h2, h3⟩ := hI; rw [rixS, if_pos he, if_neg (by omega), h2, h3]; simp [List.getElem?_eq_getElem h1])
      | exact H.hp.ret (by rw [rixS, if_pos he, if_neg (by omega), idx_done (by simpa using hI)]; rfl)
      | exact H.hp.ret (by rw [rixS]; simp_all)
  intro h22
  try have p22 := of_decide_eq_false h22
  refine c_skip ?_; refine hK3 _ _ ?_; clear hK3; refine c_seqR (fun _ hK9 => ?_); refine s_alloc ty3run H wn rfl ?_; clear H; intro b8 a w hb8 H; refine s_store ty3run 0 (vs := [_]) _ H wn rfl rfl rfl rfl rfl rfl rfl rfl ?_; clear H; intro w H; dsimp only [List.set, setRow] at H; refine hK9 _ _ ?_; clear hK9; refine c_seq (fun _ hK10 => ?_); refine c_seqR (fun _ hK11 => ?_); refine s_move H wn rfl rfl ?_; clear H; intro a H; refine s_call en176div H wn rfl (items_spec _ _ H.hp.ro l _ hv (by omega)) rfl ?_; clear H; rintro v31 G31 a w ⟨bd, rfl, hit⟩ hm31 H; refine hK11 _ _ ?_; clear hK11; refine c_block ?_; skip; refine c_rangeJ (ι := Unit) (κ := Nat × Int) (Lc := []) (fun (k : Nat) (gh : Unit) => [(b8, .cells #[vi k] 3 (0, 0)), (b3, .cells #[vi t] 3 (0, 0)), (b4, .cells #[vi 0] 3 (0, 0)), (b5, .cells #[vi 0] 3 (0, 0)), (b6, .cells #[vi 0] 22 (0, 0))]) (fun (k : Nat) (gh : Unit) => []) (fun (k : Nat) (gh : Unit) (g : GH) => ((offs 0 l).take k).findIdx? (ovr t) = none) (fun (gx : Nat × Int) => Code.ret) (fun (gx : Nat × Int) => [(b8, .cells #[vi gx.1] 3 (0, 0)), (b3, .cells #[vi t] 3 (0, 0)), (b4, .cells #[vi gx.1] 3 (0, 0)), (b5, .cells #[vi gx.2] 3 (0, 0)), (b6, .cells #[vi 0] 22 (0, 0))]) (fun (gx : Nat × Int) => []) (fun (gx : Nat × Int) (g : GH) => ∃ h : gx.1 < (offs 0 l).length, (offs 0 l).findIdx? (ovr t) = some gx.1 ∧ gx.2 = t - ((offs 0 l)[gx.1].1 : Int)) (()) (by exact H.pickT (Pl := [_, _, _, _, _]) (Pl' := [_, _, _, _, _]) [0, 4, 3, 2, 1] (by decide) rfl) rfl en211it (hit) (fun _ _ h => h) rfl (fun k args g h => by obtain ⟨_, _, rfl, _⟩ := it_at h; rfl) (fun _ _ _ _ _ h => h) (fun _ _ _ _ h => h) (rfl) ?_ ?_ ?_
  · clear H; intro l8 rdy bsy bk k args gh G8 w8 F8 B8 a hk8 hm8 hI hbeg8 hnext8 hstop8 H; obtain ⟨hk, cs8, rfl, hr8⟩ := it_at hk8; obtain ⟨pA, pn, pc, dA, dn, dc, yA, yn, yc, fA, fn, fc, rA, rn, rc, rfl, hh8, hf8, hr8⟩ := hr8.item; have hmem := offs_mem (List.getElem_mem hk); have hm1 := txtS_mem hmem.1; have hm2 := txtS_le l; have hm3 := unitsS_le (offs 0 l)[k].2; dsimp only [asg, List.cons_append, List.nil_append] at H; refine c_seqR (fun _ hK12 => ?_); refine s_assign H wn rfl rfl ?_; clear H; intro a H; refine hK12 _ _ ?_; clear hK12; refine c_region ?_; refine s_alloc ty35run H wn rfl ?_; clear H; intro b10 a w hb10 H; refine s_store ty35run 0 (vs := [_, _, _, _, _, _, _, _, _, _, _]) _ H wn rfl rfl rfl rfl rfl rfl rfl rfl ?_; clear H; intro w H; dsimp only [List.set, setRow] at H; refine wl_nil ?_; refine hbeg8 _ _ _ _ _ _ (by exact H.pickT (Pl := [_, _, _, _, _, _, _]) (Pl' := [_, _, _, _, _, _, _]) [1, 0, 2, 3, 4, 5, 6] (by decide) rfl) ?_; clear H; intro w H; refine c_block ?_; refine c_seq (fun _ hK13 => ?_); refine c_seqR (fun _ hK14 => ?_); refine s_loada ty35run (cs := [_, _, _, _, _, _, _, _, _, _, _]) H wn rfl rfl (H.hp.ocells 1 rfl rfl) rfl ?_; clear H; intro a H; refine s_call en34run H wn rfl (units_spec _ _ H.hp.ro _ _ _ _ _ _ _ _ _ _ (by omega)) rfl ?_; clear H; rintro v36 _ a w ⟨rfl, rfl⟩ - H; refine s_move H wn rfl rfl ?_; clear H; intro a H; (iterate 2 refine s_extract H wn rfl rfl rfl ?_; clear H; intro a H); (iterate 2 refine s_assign H wn rfl rfl ?_; clear H; intro a H); refine hK14 _ _ ?_; clear hK14; refine c_seqR (fun _ hK15 => ?_); refine s_load ty3run H wn rfl (H.hp.ocell 3 rfl rfl) rfl ?_; clear H; intro a H; (iterate 2 refine s_move H wn rfl rfl ?_; clear H; intro a H); refine s_add _ H wn rfl rfl rfl (by omega) (by omega) rfl ?_; clear H; intro a H; refine s_cmp H wn rfl rfl rfl rfl ?_; clear H; intro a H; refine hK15 _ _ ?_; clear hK15; refine c_cond H rfl ?_ ?_
    · intro h43
      try have p43 := of_decide_eq_true h43
      refine c_seq (fun _ hK16 => ?_); refine c_drawW (hmx) [[], [], [], [1, 2], [0], [0, 1, 2, 3, 4], [0, 1, 2, 3, 4, 5]] [5, 6] (by kernel_rfl) (by kernel_rfl) 4 (by decide) (fun (ix_ : Nat) (v : Value) (G : GH) => match ix_ with | 0 => v = vi k | 1 => v = vi t | 2 => v = vi ((offs 0 l)[k].1 : Int) | 3 => v = vi (t - ((offs 0 l)[k].1 : Int)) | _ => True) 4 ((b4, .cells #[vi k] 3 (0, 0))) H ?_ ?_ ?_ ?_ (by kernel_rfl)
      · clear H; refine (allI_cons ?_ (allI_cons ?_ (allI_cons ?_ (allI_cons ?_ (allI_cons ?_ (allI_cons ?_ (allI_cons ?_ allI_nil)))))))
        · intro Sd_ a w G1 _ _ hSi hc hG HT hv; have H := HT; clear hSi; have Hb := H.full; have H := Hb; clear hc; refine s_load ty3run H wn rfl (H.hp.ocell 2 rfl rfl) rfl ?_; clear H; intro a H; refine wl_nil ⟨rfl, ?_⟩; exact draw_val (by kernel_rfl) (fun _ _ _ _ _ h => h) rfl rfl HT Hb hG hv (fun _ _ h => h) (rfl) H
        · intro Sd_ a w G1 _ _ hSi hc hG HT hv; have H := HT; clear hSi; have Hb := H.full; have H := Hb; clear hc; refine s_load ty3run H wn rfl (H.hp.ocell 3 rfl rfl) rfl ?_; clear H; intro a H; refine wl_nil ⟨rfl, ?_⟩; exact draw_val (by kernel_rfl) (fun _ _ _ _ _ h => h) rfl rfl HT Hb hG hv (fun _ _ h => h) (rfl) H
        · intro Sd_ a w G1 _ _ hSi hc hG HT hv; have H := HT; clear hSi; have Hb := H.full; have H := Hb; clear hc; refine s_move H wn rfl rfl ?_; clear H; intro a H; refine wl_nil ⟨rfl, ?_⟩; exact draw_val (by kernel_rfl) (fun _ _ _ _ _ h => h) rfl rfl HT Hb hG hv (fun _ _ h => h) (rfl) H
        · intro Sd_ a w G1 _ _ hSi hc hG HT hv; have H := HT; clear hSi; obtain ⟨u45, hu45, hp45⟩ := hv 1 45 (hc 1 (by decide)) rfl; obtain rfl : u45 = vi t := hp45; have H := H.addS hu45; obtain ⟨u46, hu46, hp46⟩ := hv 2 46 (hc 2 (by decide)) rfl; obtain rfl : u46 = vi ((offs 0 l)[k].1 : Int) := hp46; have H := H.addS hu46; have Hb := H.full; have H := Hb; clear hc; refine s_sub _ H wn rfl rfl rfl (by omega) (by omega) rfl ?_; clear H; intro a H; refine wl_nil ⟨rfl, ?_⟩; exact draw_val (by kernel_rfl) (fun _ _ _ _ _ h => h) rfl rfl HT Hb hG hv (fun _ _ h => h) (rfl) H
        · intro _ _ _ _ _ hB; exact absurd hB (by decide)
        · intro _ _ _ _ hB; exact absurd hB (by decide)
        intro _ _ _ _ hB; exact absurd hB (by decide)
      · clear H; intro o_ Sd_ a w G1 ho_ _ hc hG HT hv; obtain rfl : _ = o_ := Option.some.inj ho_; clear ho_; have H := HT; obtain ⟨u44, hu44, hp44⟩ := hv 0 44 (hc 0 (by decide)) rfl; obtain rfl : u44 = vi k := hp44; have H := H.addS hu44; have Hb := H.full; have H := Hb; clear hc; refine s_store ty3run 4 (vs := [_]) _ H wn rfl rfl rfl rfl rfl rfl rfl rfl ?_; clear H; intro w H; dsimp only [List.set, setRow] at H; refine wl_nil ⟨rfl, ?_⟩; exact draw_unit2 rfl HT hG hv H
      · clear H; refine (allI_cons ?_ (allI_cons ?_ (allI_cons ?_ (allI_cons ?_ (allI_cons ?_ (allI_cons ?_ (allI_cons ?_ allI_nil)))))))
        · intro Sd_ a w G1 _ _ hSi hc hG HT hv; have H := HT; dsimp only [List.set, List.append, List.cons_append, List.nil_append] at H; clear hSi; have Hb := H.full; have H := Hb; clear hc; refine s_load ty3run H wn rfl (H.hp.ocell 2 rfl rfl) rfl ?_; clear H; intro a H; refine wl_nil ⟨rfl, ?_⟩; exact draw_val (by kernel_rfl) (fun _ _ _ _ _ h => h) rfl rfl HT Hb hG hv (fun _ _ h => h) (rfl) H
        · intro Sd_ a w G1 _ _ hSi hc hG HT hv; have H := HT; dsimp only [List.set, List.append, List.cons_append, List.nil_append] at H; clear hSi; have Hb := H.full; have H := Hb; clear hc; refine s_load ty3run H wn rfl (H.hp.ocell 3 rfl rfl) rfl ?_; clear H; intro a H; refine wl_nil ⟨rfl, ?_⟩; exact draw_val (by kernel_rfl) (fun _ _ _ _ _ h => h) rfl rfl HT Hb hG hv (fun _ _ h => h) (rfl) H
        · intro Sd_ a w G1 _ _ hSi hc hG HT hv; have H := HT; dsimp only [List.set, List.append, List.cons_append, List.nil_append] at H; clear hSi; have Hb := H.full; have H := Hb; clear hc; refine s_move H wn rfl rfl ?_; clear H; intro a H; refine wl_nil ⟨rfl, ?_⟩; exact draw_val (by kernel_rfl) (fun _ _ _ _ _ h => h) rfl rfl HT Hb hG hv (fun _ _ h => h) (rfl) H
        · intro Sd_ a w G1 _ _ hSi hc hG HT hv; have H := HT; dsimp only [List.set, List.append, List.cons_append, List.nil_append] at H; clear hSi; obtain ⟨u45, hu45, hp45⟩ := hv 1 45 (hc 1 (by decide)) rfl; obtain rfl : u45 = vi t := hp45; have H := H.addS hu45; obtain ⟨u46, hu46, hp46⟩ := hv 2 46 (hc 2 (by decide)) rfl; obtain rfl : u46 = vi ((offs 0 l)[k].1 : Int) := hp46; have H := H.addS hu46; have Hb := H.full; have H := Hb; clear hc; refine s_sub _ H wn rfl rfl rfl (by omega) (by omega) rfl ?_; clear H; intro a H; refine wl_nil ⟨rfl, ?_⟩; exact draw_val (by kernel_rfl) (fun _ _ _ _ _ h => h) rfl rfl HT Hb hG hv (fun _ _ h => h) (rfl) H
        · intro _ _ _ _ _ hB; exact absurd hB (by decide)
        · intro _ _ _ _ hB; exact absurd hB (by decide)
        intro _ _ _ _ hB; exact absurd hB (by decide)
      clear H; intro a w G hGm12 H hv; dsimp only [List.set, List.append, List.cons_append, List.nil_append] at H; obtain ⟨u47, hu47, hp47⟩ := hv 3 47 (by decide) rfl; obtain rfl : u47 = vi (t - ((offs 0 l)[k].1 : Int)) := hp47; have H := H.addS hu47; clear hv; refine s_store ty3run 5 (vs := [_]) _ H wn rfl rfl rfl rfl rfl rfl rfl rfl ?_; clear H; intro w H; dsimp only [List.set, setRow] at H; refine s_store ty22rix 6 (vs := [_]) _ H wn rfl rfl rfl rfl rfl rfl rfl rfl ?_; clear H; intro w H; dsimp only [List.set, setRow] at H; refine wl_nil ⟨rfl, ?_⟩; refine hK16 _ _ ?_; clear hK16; refine c_ret ?_; refine (hstop8 ((k, t - ((offs 0 l)[k].1 : Int))) _ _ _ _ _ (by exact H.pickT (Pl := [_, _, _, _, _, _, _]) (Pl' := [_, _, _, _, _, _]) [0, 2, 3, 4, 5, 6] (by decide) rfl) ?_).1 rfl; exact ⟨hk, idx_stop hk hI h43, rfl⟩
    intro h43
    try have p43 := of_decide_eq_false h43
    refine c_skip ?_; refine hK13 _ _ ?_; clear hK13; refine c_region ?_; refine s_load ty3run H wn rfl (H.hp.ocell 2 rfl rfl) rfl ?_; clear H; intro a H; refine s_add _ H wn rfl rfl rfl (by omega) (by omega) rfl ?_; clear H; intro a H; refine s_store ty3run 2 (vs := [_]) _ H wn rfl rfl rfl rfl rfl rfl rfl rfl ?_; clear H; intro w H; dsimp only [List.set, setRow] at H; refine wl_nil ?_; refine hnext8 (()) _ _ _ _ _ (by exact H.pickT (Pl := [_, _, _, _, _, _, _]) (Pl' := [_, _, _, _, _, _]) [0, 2, 3, 4, 5, 6] (by decide) rfl) ?_; exact idx_next hk hI h43
  · clear H; intro Dk8 gh Gd8 a w hm8 hI H; dsimp only [List.cons_append, List.nil_append, List.append_nil] at H; refine hK10 _ _ ?_; clear hK10; refine c_seqR (fun _ hK17 => ?_); refine s_store ty3run 3 (vs := [_]) _ H wn rfl rfl rfl rfl rfl rfl rfl rfl ?_; clear H; intro w H; dsimp only [List.set, setRow] at H; refine s_store ty3run 4 (vs := [_]) _ H wn rfl rfl rfl rfl rfl rfl rfl rfl ?_; clear H; intro w H; dsimp only [List.set, setRow] at H; refine s_store ty22rix 5 (vs := [_]) _ H wn rfl rfl rfl rfl rfl rfl rfl rfl ?_; clear H; intro w H; dsimp only [List.set, setRow] at H; refine hK17 _ _ ?_; clear hK17; refine c_ret ?_; refine (leaveM H 0 rfl ?_).1; clear H; intro a w H; dsimp only [List.eraseIdx_cons_succ, List.eraseIdx_cons_zero] at H; refine (leaveT H Tryz.results102 (.cons (rv_cell ty3run H rfl (H.hp.ocell 2 rfl rfl)) (.cons (rv_cell ty3run H rfl (H.hp.ocell 3 rfl rfl)) (.cons (rv_cell ty22rix H rfl (H.hp.ocell 4 rfl rfl)) .nil))) ?_).1
    first
      | exact H.hp.ret (by obtain ⟨h1, h2, h3⟩ := hI; rw [rixS, if_pos he, if_neg (by omega), h2, h3]; simp [List.getElem?_eq_getElem h1])
      | exact H.hp.ret (by rw [rixS, if_pos he, if_neg (by omega), idx_done (by simpa using hI)]; rfl)
      | exact H.hp.ret (by rw [rixS]; simp_all)
  clear H; intro Dk8 gx Gd8 a w hm8 hI H; obtain ⟨x, hgh⟩ : ∃ x, x = gx := ⟨_, rfl⟩; subst hgh; dsimp only [List.cons_append, List.nil_append, List.append_nil] at H; refine c_ret ?_; refine (leaveM H 0 rfl ?_).1; clear H; intro a w H; dsimp only [List.eraseIdx_cons_succ, List.eraseIdx_cons_zero] at H; refine (leaveT H Tryz.results102 (.cons (rv_cell ty3run H rfl (H.hp.ocell 2 rfl rfl)) (.cons (rv_cell ty3run H rfl (H.hp.ocell 3 rfl rfl)) (.cons (rv_cell ty22rix H rfl (H.hp.ocell 4 rfl rfl)) .nil))) ?_).1
  first
    | exact H.hp.ret (by obtain ⟨h1, h2, h3⟩ := hI; rw [rixS, if_pos he, if_neg (by omega), h2, h3]; simp [List.getElem?_eq_getElem h1])
    | exact H.hp.ret (by rw [rixS, if_pos he, if_neg (by omega), idx_done (by simpa using hI)]; rfl)
    | exact H.hp.ret (by rw [rixS]; simp_all)
end
section
open Go.RowKit
theorem sizB : Siz Tryz.prog 265 := ⟨by kernel_rfl⟩
theorem u8B : U8 Tryz.prog 5 := ⟨by kernel_rfl⟩
theorem liesB : liesAt Tryz.prog Tryz.prog.depth 265 (2 / Tryz.prog.cellsOf 265) 0 265 1 = true := by kernel_rfl
theorem cellsU8 : Tryz.prog.cellsOf 5 = 1 := by kernel_rfl
theorem noEsc (v : Value) (w : World) : (callFunc 231 #[v]).run Tryz.prog w = .ok (.value v) w := run_noEsc Tryz.func231 (by kernel_rfl) (by kernel_rfl) (by kernel_rfl) (by kernel_rfl) v w
theorem un262bld : Tryz.prog.underlying 262 = some (.pointer 265) := by kernel_rfl
theorem un327bld : Tryz.prog.underlying 327 = some .unsafePointer := by kernel_rfl
theorem fd265_0bld : Fld Tryz.prog 265 0 0 := ⟨by kernel_rfl⟩
theorem ty262bld : Ty Tryz.prog 262 1 8 [.pointer none] false := ⟨by kernel_rfl, by kernel_rfl⟩
theorem en210bld : ∀ args w, (callFunc 210 args).run Tryz.prog w = .ok (.enter 210 args) w := enters Tryz.func210 rfl (by kernel_rfl)
theorem un263bld : Tryz.prog.underlying 263 = some (.slice 5) := by kernel_rfl
theorem fd265_1bld : Fld Tryz.prog 265 1 1 := ⟨by kernel_rfl⟩
theorem ty263bld : Ty Tryz.prog 263 1 24 [.slice none 0 0] false := ⟨by kernel_rfl, by kernel_rfl⟩
theorem un306bld : Tryz.prog.underlying 306 = some (.pointer 5) := by kernel_rfl
/-- A builder's block. -/
abbrev bB (b : Nat) (p v : Value) : Nat × Obj := (b, .cells #[p, v] 265 (0, 0))
theorem copyNil (G : GH) (L : OL) (w0 : World) (b : Nat) (A : Option Addr) (n c : Nat) (hO : Owns G (bB b (.pointer none) (.slice A n c) :: L) w0) :
    Calls Tryz.prog 210 #[.pointer (some ⟨b, 0, none⟩)] w0 (RetL w0 G (bB b (.pointer none) (.slice A n c) :: L) fun u G' L' => L' = bB b (.pointer (some ⟨b, 0, none⟩)) (.slice A n c) :: L ∧ G' = G) := by
  refine enterL (N := 20) (T := [(0, _)]) Tryz.func210 rfl Tryz.ntmps210 rfl rfl hO ?_; intro a H; refine c_seqR (fun _ hK1 => ?_); refine s_move H wn rfl rfl ?_; clear H; intro a H; refine s_nilCheck H wn rfl rfl ?_; clear H; intro a H; refine s_field fd265_0bld H wn rfl rfl ?_; clear H; intro a H; refine s_load ty262bld H wn rfl (H.hp.ocell 0 rfl rfl) rfl ?_; clear H; intro a H; refine s_eqnilp un262bld H wn rfl rfl ?_; clear H; intro a H; refine hK1 _ _ ?_; clear hK1; refine c_cond H rfl ?_ ?_
  · intro h6
    try have p6 := of_decide_eq_true h6
    refine c_region ?_; (iterate 2 refine s_move H wn rfl rfl ?_; clear H; intro a H); refine s_toUnsafe un262bld un327bld sizB H wn rfl 0 rfl rfl rfl ?_; clear H; intro a H; refine s_noEscape (xs := [.tmp 9]) (noEsc _) H wn rfl rfl ?_; clear H; intro a H; refine s_fromUnsafe un327bld un262bld sizB H wn rfl 0 rfl liesB rfl ?_; clear H; intro a H; refine s_nilCheck H wn rfl rfl ?_; clear H; intro a H; refine s_field fd265_0bld H wn rfl rfl ?_; clear H; intro a H; refine s_store ty262bld 0 (vs := [_]) _ H wn rfl rfl rfl rfl rfl rfl rfl rfl ?_; clear H; intro w H; dsimp only [List.set, setRow] at H; refine wl_nil ?_; refine (leave0 H Tryz.results210 ?_).2; exact H.hp.retL ⟨rfl, rfl⟩
  intro h6
  try have p6 := of_decide_eq_false h6
  exact absurd h6 (by decide)
theorem copySelf (G : GH) (L : OL) (w0 : World) (b : Nat) (A : Option Addr) (n c : Nat) (hO : Owns G (bB b (.pointer (some ⟨b, 0, none⟩)) (.slice A n c) :: L) w0) :
    Calls Tryz.prog 210 #[.pointer (some ⟨b, 0, none⟩)] w0 (RetL w0 G (bB b (.pointer (some ⟨b, 0, none⟩)) (.slice A n c) :: L) fun u G' L' => L' = bB b (.pointer (some ⟨b, 0, none⟩)) (.slice A n c) :: L ∧ G' = G) := by
  refine enterL (N := 20) (T := [(0, _)]) Tryz.func210 rfl Tryz.ntmps210 rfl rfl hO ?_; intro a H; refine c_seqR (fun _ hK1 => ?_); refine s_move H wn rfl rfl ?_; clear H; intro a H; refine s_nilCheck H wn rfl rfl ?_; clear H; intro a H; refine s_field fd265_0bld H wn rfl rfl ?_; clear H; intro a H; refine s_load ty262bld H wn rfl (H.hp.ocell 0 rfl rfl) rfl ?_; clear H; intro a H; refine s_eqnilp un262bld H wn rfl rfl ?_; clear H; intro a H; refine hK1 _ _ ?_; clear hK1; refine c_cond H rfl ?_ ?_
  · intro h6
    try have p6 := of_decide_eq_true h6
    exact absurd h6 (by simp)
  intro h6
  try have p6 := of_decide_eq_false h6
  refine c_seqR (fun _ hK2 => ?_); refine s_move H wn rfl rfl ?_; clear H; intro a H; refine s_nilCheck H wn rfl rfl ?_; clear H; intro a H; refine s_field fd265_0bld H wn rfl rfl ?_; clear H; intro a H; refine s_load ty262bld H wn rfl (H.hp.ocell 0 rfl rfl) rfl ?_; clear H; intro a H; refine s_move H wn rfl rfl ?_; clear H; intro a H; refine s_neqsame un262bld sizB H wn rfl rfl rfl ?_; clear H; intro a H; refine hK2 _ _ ?_; clear hK2; refine c_cond H rfl ?_ ?_
  · intro h19
    try have p19 := of_decide_eq_true h19
    exact absurd h19 (by decide)
  intro h19
  try have p19 := of_decide_eq_false h19
  refine c_skip ?_; refine (leave0 H Tryz.results210 ?_).2; exact H.hp.retL ⟨rfl, rfl⟩
theorem copy_spec (G : GH) (L : OL) (w0 : World) (b : Nat) (p : Value) (A : Option Addr) (n c : Nat) (hp : p = .pointer none ∨ p = .pointer (some ⟨b, 0, none⟩)) (hO : Owns G (bB b p (.slice A n c) :: L) w0) :
    Calls Tryz.prog 210 #[.pointer (some ⟨b, 0, none⟩)] w0 (RetL w0 G (bB b p (.slice A n c) :: L) fun u G' L' => L' = bB b (.pointer (some ⟨b, 0, none⟩)) (.slice A n c) :: L ∧ G' = G) := by
  rcases hp with rfl | rfl
  · exact copyNil G L w0 b A n c hO
  exact copySelf G L w0 b A n c hO
theorem wstr_spec (G : GH) (Lo : OL) (w0 : World) (b : Nat) (p v : Value) (n : Nat) (xs : List Value) (s : ByteArray) (hp : p = .pointer none ∨ p = .pointer (some ⟨b, 0, none⟩)) (hO : Owns G (bB b p v :: Lo) w0) (hrow : IsRow 5 1 v n xs Lo) (hn : n + s.size ≤ 140737488355328) :
    Calls Tryz.prog 173 #[.pointer (some ⟨b, 0, none⟩), .string s] w0 (RetL w0 G (bB b p v :: Lo) fun u G' L' => ∃ v' Lo', L' = bB b (.pointer (some ⟨b, 0, none⟩)) v' :: Lo' ∧ IsRow 5 1 v' (n + s.size) (xs ++ Lib.strCells s) Lo' ∧ G' = G) := by
  obtain ⟨A, c, rfl, -, -⟩ := hrow.shape; refine enterL (N := 19) (T := [(0, _), (1, _)]) Tryz.func173 rfl Tryz.ntmps173 rfl rfl hO ?_; intro a H; refine c_seqR (fun _ hK1 => ?_); (iterate 2 refine s_assign H wn rfl rfl ?_; clear H; intro a H); refine hK1 _ _ ?_; clear hK1; refine c_seqR (fun _ hK2 => ?_); refine s_move H wn rfl rfl ?_; clear H; intro a H; refine s_callL en210bld (Li := []) (L := bB b p _ :: Lo) H wn rfl (copy_spec _ _ _ b p A n c hp (Hp.owns (Li := []) H.hp)) rfl ?_; clear H; rintro v7 _ L7 a w ⟨rfl, rfl⟩ hm7 H; dsimp only [List.nil_append] at H; refine hK2 _ _ ?_; clear hK2; refine c_seqR (fun _ hK3 => ?_); (iterate 2 refine s_move H wn rfl rfl ?_; clear H; intro a H); refine s_nilCheck H wn rfl rfl ?_; clear H; intro a H; refine s_field fd265_1bld H wn rfl rfl ?_; clear H; intro a H; refine s_load ty263bld H wn rfl (H.hp.ocell 0 rfl rfl) rfl ?_; clear H; intro a H; refine s_move H wn rfl rfl ?_; clear H; intro a H; refine s_appendStr (Li := [_]) (Lo := Lo) un263bld un9cp u8B H wn rfl rfl hrow hn rfl ?_; clear H; intro v14 Lo14 a w hrw14 H; obtain ⟨A14, c14, rfl, -, -⟩ := hrw14.shape; refine s_nilCheck H wn rfl rfl ?_; clear H; intro a H; refine s_field fd265_1bld H wn rfl rfl ?_; clear H; intro a H; refine s_store ty263bld 0 (vs := [_]) _ H wn rfl rfl rfl rfl rfl rfl rfl rfl ?_; clear H; intro w H; dsimp only [List.set, setRow] at H; refine hK3 _ _ ?_; clear hK3; refine c_seqR (fun _ hK4 => ?_); refine s_move H wn rfl rfl ?_; clear H; intro a H; refine s_lens un9cp H wn rfl rfl ?_; clear H; intro a H; (iterate 2 refine s_assign H wn rfl rfl ?_; clear H; intro a H); refine hK4 _ _ ?_; clear hK4; refine c_ret ?_; refine (leaveT H Tryz.results173 (.cons (rv_tmp H rfl) (.cons (rv_tmp H rfl) .nil)) ?_).1; exact H.hp.retL ⟨_, _, rfl, hrw14, rfl⟩
theorem str_spec (G : GH) (Lo : OL) (w0 : World) (b : Nat) (p v : Value) (l : List UInt8) (hO : Owns G (bB b p v :: Lo) w0) (hrow : IsRow 5 1 v l.length (Lib.byteCells l) Lo) (h0 : l ≠ []) :
    Calls Tryz.prog 175 #[.pointer (some ⟨b, 0, none⟩)] w0 (RetL w0 G (bB b p v :: Lo) fun u G' L' => u = .string ⟨l.toArray⟩) := by
  rcases hrow.2 with ⟨-, h, -⟩ | ⟨b2, cap, cur, rfl, rfl, hc1, hc2, hc3, hc4⟩
  · exact absurd (List.eq_nil_of_length_eq_zero h) h0
  have hl0 : l.length ≠ 0 := fun h => h0 (List.eq_nil_of_length_eq_zero h); have hml : maxLen = 9223372036854775807 := rfl; refine enterL (N := 14) (T := [(0, _)]) Tryz.func175 rfl Tryz.ntmps175 rfl rfl hO ?_; intro a H; refine c_seqR (fun _ hK1 => ?_); refine s_assign H wn rfl rfl ?_; clear H; intro a H; refine hK1 _ _ ?_; clear hK1; refine c_seq (fun _ hK2 => ?_); have H := H.sub (T' := [(0, _)]) ⟨rfl, trivial⟩; refine c_drawI (hmx) [[], [0], [0, 1], [0, 1, 2], [0, 1, 2, 3], [], [5], [5, 6], [5, 6, 7], [5, 6, 7, 8], [0, 1, 2, 3, 4, 5, 6, 7, 8, 9], [0, 1, 2, 3, 4, 5, 6, 7, 8, 9, 10]] [10, 11] (by kernel_rfl) (by kernel_rfl) (fun (ix_ : Nat) (v : Value) (G : GH) => match ix_ with | 0 => v = .pointer (some ⟨b, 0, none⟩) | 1 => v = .pointer (some ⟨b, 0, none⟩) | 2 => v = .pointer (some ⟨b, 1, none⟩) | 3 => v = .slice (some ⟨b2, 0, none⟩) l.length cap | 4 => v = .pointer (some ⟨b2, 0, none⟩) | 5 => v = .pointer (some ⟨b, 0, none⟩) | 6 => v = .pointer (some ⟨b, 0, none⟩) | 7 => v = .pointer (some ⟨b, 1, none⟩) | 8 => v = .slice (some ⟨b2, 0, none⟩) l.length cap | 9 => v = vi l.length | _ => True) (fun _ _ _ _ _ h => h) H ?_ ?_
  · clear H; refine (allI_cons ?_ (allI_cons ?_ (allI_cons ?_ (allI_cons ?_ (allI_cons ?_ (allI_cons ?_ (allI_cons ?_ (allI_cons ?_ (allI_cons ?_ (allI_cons ?_ (allI_cons ?_ (allI_cons ?_ allI_nil))))))))))))
    · refine opI [] rfl trivial (by kernel_rfl) (fun _ _ _ _ _ h => h) rfl rfl ?_; intro Sd_ a w G1 hG HT H fin; refine s_move H wn rfl rfl ?_; clear H; intro a H; exact fin H (fun _ _ h => h) (rfl)
    · refine opI [(0, 3, _)] rfl ⟨fun _ _ h => h, trivial⟩ (by kernel_rfl) (fun _ _ _ _ _ h => h) rfl rfl ?_; intro Sd_ a w G1 hG HT H fin; refine s_nilCheck H wn rfl rfl ?_; clear H; intro a H; exact fin H (fun _ _ h => h) (rfl)
    · refine opI [(1, 4, _)] rfl ⟨fun _ _ h => h, trivial⟩ (by kernel_rfl) (fun _ _ _ _ _ h => h) rfl rfl ?_; intro Sd_ a w G1 hG HT H fin; refine s_field fd265_1bld H wn rfl rfl ?_; clear H; intro a H; exact fin H (fun _ _ h => h) (rfl)
    · refine opI [(2, 5, _)] rfl ⟨fun _ _ h => h, trivial⟩ (by kernel_rfl) (fun _ _ _ _ _ h => h) rfl rfl ?_; intro Sd_ a w G1 hG HT H fin; refine s_load ty263bld H wn rfl (H.hp.ocell 0 rfl rfl) rfl ?_; clear H; intro a H; exact fin H (fun _ _ h => h) (rfl)
    · refine opI [(3, 6, _)] rfl ⟨fun _ _ h => h, trivial⟩ (by kernel_rfl) (fun _ _ _ _ _ h => h) rfl rfl ?_; intro Sd_ a w G1 hG HT H fin; refine s_sliceData H wn rfl (by omega) rfl ?_; clear H; intro a H; exact fin H (fun _ _ h => h) (rfl)
    · refine opI [] rfl trivial (by kernel_rfl) (fun _ _ _ _ _ h => h) rfl rfl ?_; intro Sd_ a w G1 hG HT H fin; refine s_move H wn rfl rfl ?_; clear H; intro a H; exact fin H (fun _ _ h => h) (rfl)
    · refine opI [(5, 8, _)] rfl ⟨fun _ _ h => h, trivial⟩ (by kernel_rfl) (fun _ _ _ _ _ h => h) rfl rfl ?_; intro Sd_ a w G1 hG HT H fin; refine s_nilCheck H wn rfl rfl ?_; clear H; intro a H; exact fin H (fun _ _ h => h) (rfl)
    · refine opI [(6, 9, _)] rfl ⟨fun _ _ h => h, trivial⟩ (by kernel_rfl) (fun _ _ _ _ _ h => h) rfl rfl ?_; intro Sd_ a w G1 hG HT H fin; refine s_field fd265_1bld H wn rfl rfl ?_; clear H; intro a H; exact fin H (fun _ _ h => h) (rfl)
    · refine opI [(7, 10, _)] rfl ⟨fun _ _ h => h, trivial⟩ (by kernel_rfl) (fun _ _ _ _ _ h => h) rfl rfl ?_; intro Sd_ a w G1 hG HT H fin; refine s_load ty263bld H wn rfl (H.hp.ocell 0 rfl rfl) rfl ?_; clear H; intro a H; exact fin H (fun _ _ h => h) (rfl)
    · refine opI [(8, 11, _)] rfl ⟨fun _ _ h => h, trivial⟩ (by kernel_rfl) (fun _ _ _ _ _ h => h) rfl rfl ?_; intro Sd_ a w G1 hG HT H fin; refine s_len un263bld H wn rfl rfl ?_; clear H; intro a H; exact fin H (fun _ _ h => h) (rfl)
    · intro _ _ _ _ hB; exact absurd hB (by decide)
    intro _ _ _ _ hB; exact absurd hB (by decide)
  clear H; intro a w G hGm1 H hv; obtain ⟨u7, hu7, hp7⟩ := hv 4 7 (by decide) rfl; obtain rfl : u7 = .pointer (some ⟨b2, 0, none⟩) := hp7; have H := H.addS hu7; obtain ⟨u12, hu12, hp12⟩ := hv 9 12 (by decide) rfl; obtain rfl : u12 = vi l.length := hp12; have H := H.addS hu12; clear hv; refine s_unsafeString (i := 1) l un306bld cellsU8 h0 (by omega) H wn rfl rfl rfl (by rw [← hc4, Nat.mul_one]) rfl ?_; clear H; intro fz a w H; dsimp only [List.set] at H; refine s_assign H wn rfl rfl ?_; clear H; intro a H; refine wl_nil ⟨rfl, ?_⟩; refine hK2 _ _ ?_; clear hK2; refine c_ret ?_; refine (leave1 H Tryz.results175 (.cons (rv_tmp H rfl) .nil) ?_).1; exact H.hp.retL rfl
end
section
open Go.RowKit
theorem en173txt : ∀ args w, (callFunc 173 args).run Tryz.prog w = .ok (.enter 173 args) w := enters Tryz.func173 rfl (by kernel_rfl)
theorem en175txt : ∀ args w, (callFunc 175 args).run Tryz.prog w = .ok (.enter 175 args) w := enters Tryz.func175 rfl (by kernel_rfl)
theorem ty265txt : Ty Tryz.prog 265 2 32 [.pointer none, .slice none 0 0] true := ⟨by kernel_rfl, by kernel_rfl⟩
theorem en96txt : ∀ args w, (callFunc 96 args).run Tryz.prog w = .ok (.enter 96 args) w := enters Tryz.func96 rfl (by kernel_rfl)
theorem en97txt : ∀ args w, (callFunc 97 args).run Tryz.prog w = .ok (.enter 97 args) w := enters Tryz.func97 rfl (by kernel_rfl)
def bsT (l : List ItemD) : List UInt8 := l.flatMap fun x => x.text.data.toList
theorem bsT_succ {l : List ItemD} {k : Nat} (hk : k < l.length) : bsT (l.take (k + 1)) = bsT (l.take k) ++ l[k].text.data.toList := by
  rw [List.take_succ_eq_append_getElem hk]; simp only [bsT, List.flatMap_append, List.flatMap_cons, List.flatMap_nil, List.append_nil]
theorem bsT_len : ∀ l : List ItemD, (bsT l).length ≤ zItems l
  | [] => Nat.le_refl _
  | x :: l => by
    have := bsT_len l; have h2 := zItem_eq x; have h3 : x.text.data.toList.length = x.text.size := Array.length_toList
    simp only [bsT, List.flatMap_cons, List.length_append, zItems, List.map_cons, szRs] at *; omega
theorem byteC_append (a b : List UInt8) : Lib.byteCells (a ++ b) = Lib.byteCells a ++ Lib.byteCells b := by simp [Lib.byteCells]
theorem textT_spec (G : GH) (w0 : World) (hG : Hold G w0) (l : List ItemD) (v : Value) (hv : RepV G (.sl 11 (l.map ItemD.dat)) v) (hz : zItems l ≤ 1073741824) (hk1 : ∀ x ∈ l, x.kind = 1) (h0 : bsT l ≠ []) :
    Calls Tryz.prog 97 #[v] w0 (Ret w0 G fun u G' => u = .string ⟨(bsT l).toArray⟩) := by
  obtain ⟨A, c, rfl, hc1, hc2, hg⟩ := hv.slice; rw [List.length_map] at *; have hll := zItems_length l; refine enter (N := 23) (T := [(0, _)]) (F := fun k => k < w0.heap.size) (L := []) Tryz.func97 rfl Tryz.ntmps97 rfl rfl hG (fun _ h => h) (fun _ h => by cases h) (fun _ h => by cases h) (fun _ h => by cases h) List.Pairwise.nil ?_; intro a H; refine c_seqR (fun _ hK1 => ?_); refine s_assign H wn rfl rfl ?_; clear H; intro a H; refine hK1 _ _ ?_; clear hK1; refine c_seqR (fun _ hK2 => ?_); refine s_alloc ty265txt H wn rfl ?_; clear H; intro b3 a w hb3 H; refine hK2 _ _ ?_; clear hK2; refine c_seq (fun _ hK3 => ?_); refine c_seqR (fun _ hK4 => ?_); refine s_move H wn rfl rfl ?_; clear H; intro a H; refine s_len un32run H wn rfl rfl ?_; clear H; intro a H; refine s_move H wn rfl rfl ?_; clear H; intro a H; refine hK4 _ _ ?_; clear hK4; refine c_block ?_; skip; refine c_loopS (ι := Nat × Value × Value × OL) (Tc := [(3, _), (6, _), (7, _)]) (Lc := []) (fun (gh : Nat × Value × Value × OL) => [(8, vi gh.1)]) (fun (gh : Nat × Value × Value × OL) => [bB b3 gh.2.1 gh.2.2.1] ++ gh.2.2.2) (fun (gh : Nat × Value × Value × OL) => G) (fun (gh : Nat × Value × Value × OL) => gh.1 ≤ l.length ∧ (gh.2.1 = .pointer none ∨ gh.2.1 = .pointer (some ⟨b3, 0, none⟩)) ∧ IsRow 5 1 gh.2.2.1 (bsT (l.take gh.1)).length (Lib.byteCells (bsT (l.take gh.1))) gh.2.2.2) (fun (gh : Nat × Value × Value × OL) => l.length - gh.1) ((0, .pointer none, .slice none 0 0, [])) (by exact (H).sub ⟨rfl, rfl, rfl, rfl, trivial⟩) ?_ ?_
  · exact ⟨by omega, .inl rfl, IsRow.nil⟩
  clear H; intro gh a w hI H; obtain ⟨k, p, v, Lo⟩ := gh; dsimp only at hI H; obtain ⟨hk, hp, hrw⟩ := hI; dsimp only [List.cons_append, List.nil_append, List.append_nil] at H; refine c_seqR (fun _ hK5 => ?_); refine s_cmp H wn rfl rfl rfl rfl ?_; clear H; intro a H; refine hK5 _ _ ?_; clear hK5; refine c_seq (fun _ hK6 => ?_); refine c_cond H rfl ?_ ?_
  · intro h9
    try have p9 := of_decide_eq_true h9
    have hk2 : k < l.length := by omega
    obtain ⟨b, o, pA, pn, pc, dA, dn, dc, yA, yn, yc, fA, fn, fc, rA, rn, rc, rfl, hrow, hhd, hfl, hrs⟩ := flow_get hk2 hg; have hkind := hk1 _ (List.getElem_mem hk2); have hbl := bsT_len (l.take (k + 1)); have hzt := zItems_append (l.take (k + 1)) (l.drop (k + 1)); rw [List.take_append_drop] at hzt; have hbs := congrArg List.length (bsT_succ hk2); rw [List.length_append] at hbs; have hts : l[k].text.data.toList.length = l[k].text.size := Array.length_toList; refine c_skip ?_; refine hK6 _ _ ?_; clear hK6; refine c_seq (fun _ hK7 => ?_); refine c_block ?_; refine c_seqR (fun _ hK8 => ?_); refine s_index un32run ty35run _ H wn rfl rfl rfl (by first | assumption | omega) rfl ?_; clear H; intro a H; refine s_loada ty35run (cs := [_, _, _, _, _, _, _, _, _, _, _]) H wn rfl rfl (fun j v hj => H.hp.gcell (hrow j v hj)) rfl ?_; clear H; intro a H; refine s_alloc ty35run H wn rfl ?_; clear H; intro b5 a w hb5 H; refine s_store ty35run 0 (vs := [_, _, _, _, _, _, _, _, _, _, _]) _ H wn rfl rfl rfl rfl rfl rfl rfl rfl ?_; clear H; intro w H; dsimp only [List.set, setRow] at H; refine hK8 _ _ ?_; clear hK8; refine c_seqR (fun _ hK9 => ?_); refine s_field fd35_0run H wn rfl rfl ?_; clear H; intro a H; refine s_load ty3run H wn rfl (H.hp.ocell 0 rfl rfl) rfl ?_; clear H; intro a H; refine s_cmp H wn rfl rfl rfl rfl ?_; clear H; intro a H; refine hK9 _ _ ?_; clear hK9; refine c_cond H rfl ?_ ?_
    · intro h14
      try have p14 := of_decide_eq_true h14
      refine c_region ?_; refine s_field fd35_3run H wn rfl rfl ?_; clear H; intro a H; refine s_load ty9run H wn rfl (H.hp.ocell 0 rfl rfl) rfl ?_; clear H; intro a H; refine s_callL en173txt (Li := [_]) (L := bB b3 p v :: Lo) H wn rfl (wstr_spec _ _ _ b3 p v _ _ _ hp (Hp.owns (Li := [_]) H.hp) hrw (by omega)) rfl ?_; clear H; rintro v_ _ L17 a w ⟨v17, Lo17, rfl, hrw17, rfl⟩ hm17 H; refine wl_nil ?_; refine hK7 _ _ ?_; clear hK7; refine c_region ?_; refine s_add _ H wn rfl rfl rfl (by omega) (by omega) rfl ?_; clear H; intro a H; refine s_move H wn rfl rfl ?_; clear H; intro a H; refine wl_nil ?_; refine loop_end ((k + 1, .pointer (some ⟨b3, 0, none⟩), v17, Lo17)) (by exact (H.pickT (Pl := [_, _]) (Pl' := [_]) [1] (by decide) rfl).sub ⟨rfl, rfl, rfl, rfl, trivial⟩) ?_ ?_
      · (try dsimp only); exact ⟨by omega, .inr rfl, by rw [bsT_succ hk2, byteC_append, List.length_append, hts]; exact hrw17⟩
      first | omega | (dsimp only; omega)
    intro h14
    try have p14 := of_decide_eq_false h14
    exact absurd hkind p14
  intro h9
  try have p9 := of_decide_eq_false h9
  refine c_exit ?_; refine hK3 _ _ ?_; clear hK3; refine c_seq (fun _ hK10 => ?_); rw [show l.take k = l from List.take_of_length_le (by omega)] at hrw; refine c_region ?_; refine s_callL en175txt (Li := []) (L := bB b3 p v :: Lo) H wn rfl (str_spec _ _ _ b3 p v (bsT l) (Hp.owns (Li := []) H.hp) hrw h0) rfl ?_; clear H; rintro v22 G22 L22 a w rfl hm22 H; refine s_assign H wn rfl rfl ?_; clear H; intro a H; refine wl_nil ?_; refine hK10 _ _ ?_; clear hK10; refine c_ret ?_; refine (leave1 H Tryz.results97 (.cons (rv_tmp H rfl) .nil) ?_).1; exact H.hp.ret rfl
theorem ptext_spec (G : GH) (w0 : World) (hG : Hold G w0) (l : List ItemD) (b : BlkD) (v : Value) (hv : RepV G (.sl 11 (l.map ItemD.dat)) v) (hz : zItems l ≤ 1073741824) (he : lenE l = 0) (i : Nat) (hb : (blocksS l).findIdx? (fun x => decide (b = x)) = some i) (hto : -1000 < b.to ∧ b.to < 1000)
    (hr1 : rngS l b.from_ (endB b) = 0) (h1 : CutOk (endB b) l) (h2 : CutOk b.from_ (leftS (endB b) l)) (hp : PlainL (rightS b.from_ (leftS (endB b) l)))
    (hr2 : rngS l (endB b) b.to = 0) (h3 : CutOk b.to l) (h4 : CutOk (endB b) (leftS b.to l)) (hp2 : PlainL (rightS (endB b) (leftS b.to l)))
    (hk1 : ∀ x ∈ rightS b.from_ (leftS (endB b) l), x.kind = 1) (h0 : bsT (rightS b.from_ (leftS (endB b) l)) ≠ []) :
    Calls Tryz.prog 37 #[v, bkV b] w0 (Ret w0 G fun u G' => u = .tuple #[.string ⟨(bsT (rightS b.from_ (leftS (endB b) l))).toArray⟩, vi 0]) := by
  have z1 := zItems_sub (leftS_sub (endB b) l); have z2 := zItems_sub (rightS_sub b.from_ (leftS (endB b) l)); refine enter (N := 19) (T := [(0, _), (1, _)]) (F := fun k => k < w0.heap.size) (L := []) Tryz.func37 rfl Tryz.ntmps37 rfl rfl hG (fun _ h => h) (fun _ h => by cases h) (fun _ h => by cases h) (fun _ h => by cases h) List.Pairwise.nil ?_; intro a H; refine c_seqR (fun _ hK1 => ?_); refine s_box (cs := [_, _, _, _]) H wn rfl rfl rfl ?_; clear H; intro b3 a w hb3 H; (iterate 2 refine s_assign H wn rfl rfl ?_; clear H; intro a H); refine hK1 _ _ ?_; clear hK1; refine c_seqR (fun _ hK2 => ?_); refine s_move H wn rfl rfl ?_; clear H; intro a H; refine s_loada ty91par (cs := [_, _, _, _]) H wn rfl rfl (H.hp.ocells 0 rfl rfl) rfl ?_; clear H; intro a H; refine s_call en96txt H wn rfl (parts_some _ _ H.hp.ro l b v hv hz he i hb hto hr1 h1 h2 hp hr2 h3 h4 hp2) rfl ?_; clear H; rintro v12 G12 a w ⟨x, y, rfl, hx, -⟩ hm12 H; refine s_move H wn rfl rfl ?_; clear H; intro a H; (iterate 3 refine s_extract H wn rfl rfl rfl ?_; clear H; intro a H); (iterate 3 refine s_assign H wn rfl rfl ?_; clear H; intro a H); refine hK2 _ _ ?_; clear hK2; refine c_seqR (fun _ hK3 => ?_); refine s_move H wn rfl rfl ?_; clear H; intro a H; refine s_call en97txt H wn rfl (textT_spec _ _ H.hp.ro _ x hx (by omega) hk1 h0) rfl ?_; clear H; rintro v17 G17 a w rfl hm17 H; refine s_move H wn rfl rfl ?_; clear H; intro a H; (iterate 2 refine s_assign H wn rfl rfl ?_; clear H; intro a H); refine hK3 _ _ ?_; clear hK3; refine c_ret ?_; refine (leaveT H Tryz.results37 (.cons (rv_tmp H rfl) (.cons (rv_tmp H rfl) .nil)) ?_).1; exact H.hp.ret rfl
theorem ownNone_spec (G : GH) (w0 : World) (hG : Hold G w0) (l : List ItemD) (b : BlkD) (v : Value) (hv : RepV G (.sl 11 (l.map ItemD.dat)) v) (hz : zItems l ≤ 1073741824) (he : lenE l = 0) (hb : (blocksS l).findIdx? (fun x => decide (b = x)) = none) :
    Calls Tryz.prog 38 #[v, bkV b] w0 (Ret w0 G fun u G' => ∃ x, u = .tuple #[x, vi 8]) := by
  refine enter (N := 30) (T := [(0, _), (1, _)]) (F := fun k => k < w0.heap.size) (L := []) Tryz.func38 rfl Tryz.ntmps38 rfl rfl hG (fun _ h => h) (fun _ h => by cases h) (fun _ h => by cases h) (fun _ h => by cases h) List.Pairwise.nil ?_; intro a H; refine c_seqR (fun _ hK1 => ?_); refine s_box (cs := [_, _, _, _]) H wn rfl rfl rfl ?_; clear H; intro b3 a w hb3 H; (iterate 2 refine s_assign H wn rfl rfl ?_; clear H; intro a H); refine hK1 _ _ ?_; clear hK1; refine c_seqR (fun _ hK2 => ?_); refine s_move H wn rfl rfl ?_; clear H; intro a H; refine s_loada ty91par (cs := [_, _, _, _]) H wn rfl rfl (H.hp.ocells 0 rfl rfl) rfl ?_; clear H; intro a H; refine s_call en96txt H wn rfl (parts_none _ _ H.hp.ro l b v hv hz he hb) rfl ?_; clear H; rintro v12 G12 a w rfl hm12 H; refine s_move H wn rfl rfl ?_; clear H; intro a H; (iterate 3 refine s_extract H wn rfl rfl rfl ?_; clear H; intro a H); (iterate 3 refine s_assign H wn rfl rfl ?_; clear H; intro a H); refine hK2 _ _ ?_; clear hK2; refine c_seq (fun _ hK3 => ?_); refine c_seqR (fun _ hK4 => ?_); refine s_move H wn rfl rfl ?_; clear H; intro a H; refine s_cmp H wn rfl rfl rfl rfl ?_; clear H; intro a H; refine s_move H wn rfl rfl ?_; clear H; intro a H; refine s_split H 18 rfl ?_ ?_
  · intro h18
    try have p18 := of_decide_eq_true h18
    (iterate 3 refine s_skip H rfl rfl h18 rfl ?_; clear H; intro a H); refine s_pick_t H wn rfl h18 rfl rfl ?_; clear H; intro a H; refine hK4 _ _ ?_; clear hK4; refine c_cond_t H rfl rfl ?_; refine c_seqR (fun _ hK5 => ?_); refine s_move H wn rfl rfl ?_; clear H; intro a H; (iterate 2 refine s_assign H wn rfl rfl ?_; clear H; intro a H); refine hK5 _ _ ?_; clear hK5; refine c_ret ?_; refine (leaveT H Tryz.results38 (.cons (rv_tmp H rfl) (.cons (rv_tmp H rfl) .nil)) ?_).1; exact H.hp.ret ⟨_, rfl⟩
  intro h18
  try have p18 := of_decide_eq_false h18
  exact absurd h18 (by decide)
end
section
open Go.RowKit
theorem fd279_0prp : Fld Tryz.prog 279 0 0 := ⟨by kernel_rfl⟩
theorem en218prp : ∀ args w, (callFunc 218 args).run Tryz.prog w = .ok (.enter 218 args) w := enters Tryz.func218 rfl (by kernel_rfl)
theorem un329prp : Tryz.prog.underlying 329 = some (.int .u64) := by kernel_rfl
theorem fd40_0prp : Fld Tryz.prog 40 0 0 := ⟨by kernel_rfl⟩
theorem en217prp : ∀ args w, (callFunc 217 args).run Tryz.prog w = .ok (.enter 217 args) w := enters Tryz.func217 rfl (by kernel_rfl)
theorem en221prp : ∀ args w, (callFunc 221 args).run Tryz.prog w = .ok (.enter 221 args) w := enters Tryz.func221 rfl (by kernel_rfl)
theorem cbkey_spec (G : GH) (w0 : World) (hG : Hold G w0) (x : KeyD) (t : Int) : CallV Tryz.prog (.func (.func 217) #[] #[]) [.agg x.cells.toArray, vi t] w0 (Ret w0 G fun u G' => u = vi (cmp3 x.num t)) := by
  refine callV_func (caps := []) en217prp ?_; refine enter (N := 9) (T := [(0, _), (1, _)]) (F := fun k => k < w0.heap.size) (L := []) Tryz.func217 rfl Tryz.ntmps217 rfl rfl hG (fun _ h => h) (fun _ h => by cases h) (fun _ h => by cases h) (fun _ h => by cases h) List.Pairwise.nil ?_; intro a H; refine c_seqR (fun _ hK1 => ?_); refine s_box (cs := [_, _, _, _, _, _]) H wn rfl rfl rfl ?_; clear H; intro b2 a w hb2 H; refine s_assign H wn rfl rfl ?_; clear H; intro a H; refine hK1 _ _ ?_; clear hK1; refine c_seqR (fun _ hK2 => ?_); refine s_field fd279_0prp H wn rfl rfl ?_; clear H; intro a H; refine s_load ty3run H wn rfl (H.hp.ocell 0 rfl rfl) rfl ?_; clear H; intro a H; refine s_move H wn rfl rfl ?_; clear H; intro a H; refine s_call en218prp H wn rfl (compare_spec _ _ H.hp.ro x.num t) rfl ?_; clear H; rintro v8 G8 a w rfl hm8 H; refine s_assign H wn rfl rfl ?_; clear H; intro a H; refine hK2 _ _ ?_; clear hK2; refine c_ret ?_; refine (leave1 H Tryz.results217 (.cons (rv_tmp H rfl) .nil) ?_).1; exact H.hp.ret rfl
theorem bskey_spec (G : GH) (w0 : World) (hG : Hold G w0) (l : List KeyD) (t : Int) (v : Value) (hv : RepV G (.sl 6 (l.map KeyD.dat)) v) (hl : l.length ≤ 4294967296) :
    Calls Tryz.prog 216 #[v, vi t, .func (.func 217) #[] #[]] w0 (Ret w0 G fun u G' => u = .tuple #[vi (bsK (l.map KeyD.num) t), .bool (hasK (l.map KeyD.num) t)]) := by
  obtain ⟨A, c, rfl, hc1, hc2, -⟩ := hv.slice; rw [List.length_map] at *; obtain ⟨p, hp⟩ : ∃ p : Nat → Bool, p = fun h => decide (¬ (l.map KeyD.num).getD h 0 < t) := ⟨_, rfl⟩
  have hbs : bsK (l.map KeyD.num) t = hvF p l.length 0 l.length := by rw [hp, bsK, List.length_map]
  refine enter (N := 49) (T := [(0, _), (1, _), (2, _)]) (F := fun k => k < w0.heap.size) (L := []) Tryz.func216 rfl Tryz.ntmps216 rfl rfl hG (fun _ h => h) (fun _ h => by cases h) (fun _ h => by cases h) (fun _ h => by cases h) List.Pairwise.nil ?_; intro a H; refine c_seqR (fun _ hK1 => ?_); (iterate 2 refine s_assign H wn rfl rfl ?_; clear H; intro a H); refine hK1 _ _ ?_; clear hK1; refine c_seqR (fun _ hK2 => ?_); refine s_move H wn rfl rfl ?_; clear H; intro a H; refine s_len un309prk H wn rfl rfl ?_; clear H; intro a H; refine s_assign H wn rfl rfl ?_; clear H; intro a H; refine hK2 _ _ ?_; clear hK2; refine c_seqR (fun _ hK3 => ?_); refine s_move H wn rfl rfl ?_; clear H; intro a H; (iterate 2 refine s_assign H wn rfl rfl ?_; clear H; intro a H); refine hK3 _ _ ?_; clear hK3; refine c_seq (fun _ hK4 => ?_); refine c_block ?_; skip; refine c_loopS (ι := Nat × Nat × Nat × GH) (Tc := [(0, _), (1, _), (2, _), (8, _)]) (Lc := []) (fun (gh : Nat × Nat × Nat × GH) => [(9, vi gh.1), (10, vi gh.2.1)]) (fun (gh : Nat × Nat × Nat × GH) => []) (fun (gh : Nat × Nat × Nat × GH) => gh.2.2.2) (fun (gh : Nat × Nat × Nat × GH) => gh.1 ≤ gh.2.1 ∧ gh.2.1 ≤ l.length ∧ gh.2.1 - gh.1 ≤ gh.2.2.1 ∧ hvF p gh.2.2.1 gh.1 gh.2.1 = bsK (l.map KeyD.num) t ∧ (∀ b o, G b = some o → gh.2.2.2 b = some o)) (fun (gh : Nat × Nat × Nat × GH) => gh.2.1 - gh.1) ((0, l.length, l.length, G)) (by exact (H).sub ⟨rfl, rfl, rfl, rfl, rfl, rfl, trivial⟩) ?_ ?_
  · exact ⟨Nat.zero_le _, Nat.le_refl _, Nat.sub_le _ _, hbs.symm, fun _ _ h => h⟩
  clear H; intro gh a w hI H; obtain ⟨i, j, f, g⟩ := gh; dsimp only at hI H; obtain ⟨hij, hj, hf1, heq, hgm⟩ := hI; have hvg := hv.mono hgm; dsimp only [List.cons_append, List.nil_append, List.append_nil] at H; refine c_seq (fun _ hK5 => ?_); refine c_seqR (fun _ hK6 => ?_); (iterate 2 refine s_move H wn rfl rfl ?_; clear H; intro a H); refine s_cmp H wn rfl rfl rfl rfl ?_; clear H; intro a H; refine hK6 _ _ ?_; clear hK6; refine c_cond H rfl ?_ ?_
  · intro h17
    try have p17 := of_decide_eq_true h17
    have hlt : i < j := by omega
    rw [hv_step hf1 hlt] at heq; obtain ⟨m, hm⟩ : ∃ m, m = (i + j) / 2 := ⟨_, rfl⟩; rw [← hm] at heq
    have hml : m < l.length := by omega
    obtain ⟨b, o, rfl, hrow⟩ := key_at hvg hml
    have hpm : p m = decide (¬ l[m].num < t) := by rw [hp]; dsimp only; rw [getD_map hml]
    rw [hpm] at heq; refine c_skip ?_; refine hK5 _ _ ?_; clear hK5; refine c_block ?_; refine c_seqR (fun _ hK7 => ?_); (iterate 2 refine s_move H wn rfl rfl ?_; clear H; intro a H); refine s_add _ H wn rfl rfl rfl (by omega) (by omega) rfl ?_; clear H; intro a H; rw [show ((i : Int) + (j : Int)) = ((i + j : Nat) : Int) by push_cast; rfl] at H; refine s_conv ((i + j : Nat) : Int) un329prp un3cp H wn rfl (hv_wrap (by omega) (by omega)) rfl ?_; clear H; intro a H; refine s_shr _ H wn rfl rfl rfl (by decide) rfl ?_; clear H; intro a H; rw [hv_shr, ← hm] at H; refine s_conv (m : Int) un3cp un329prp H wn rfl (i64_wrap (by omega) (by omega)) rfl ?_; clear H; intro a H; refine s_assign H wn rfl rfl ?_; clear H; intro a H; refine hK7 _ _ ?_; clear hK7; refine c_seqR (fun _ hK8 => ?_); (iterate 3 refine s_move H wn rfl rfl ?_; clear H; intro a H); refine s_index un309prk ty279prk _ H wn rfl rfl rfl (by first | assumption | omega) rfl ?_; clear H; intro a H; refine s_loada ty279prk (cs := [_, _, _, _, _, _]) H wn rfl rfl (fun j v hj => H.hp.gcell (hrow j v hj)) rfl ?_; clear H; intro a H; refine s_move H wn rfl rfl ?_; clear H; intro a H; refine s_callv0 H wn rfl rfl (cbkey_spec _ _ H.hp.ro l[m] t) rfl ?_; clear H; rintro v30 G30 a w rfl hm30 H; refine s_cmp H wn rfl rfl rfl rfl ?_; clear H; intro a H; refine hK8 _ _ ?_; clear hK8; refine c_cond H rfl ?_ ?_
    · intro h31
      try have p31 := of_decide_eq_true h31
      rw [if_neg (by simpa using cmp3_lt.1 p31)] at heq; refine c_region ?_; refine s_move H wn rfl rfl ?_; clear H; intro a H; refine s_add _ H wn rfl rfl rfl (by omega) (by omega) rfl ?_; clear H; intro a H; refine s_assign H wn rfl rfl ?_; clear H; intro a H; refine wl_nil ?_; refine loop_end ((m + 1, j, f - 1, G30)) (by exact (H).sub ⟨rfl, rfl, rfl, rfl, rfl, rfl, trivial⟩) ?_ ?_
      · (try dsimp only); exact ⟨by omega, hj, by omega, heq, fun b o h => hm30 b o (hgm b o h)⟩
      first | omega | (dsimp only; omega)
    intro h31
    try have p31 := of_decide_eq_false h31
    rw [if_pos (by simpa using fun h => p31 (cmp3_lt.2 h))] at heq; refine c_region ?_; refine s_move H wn rfl rfl ?_; clear H; intro a H; refine s_assign H wn rfl rfl ?_; clear H; intro a H; refine wl_nil ?_; refine loop_end ((i, m, f - 1, G30)) (by exact (H).sub ⟨rfl, rfl, rfl, rfl, rfl, rfl, trivial⟩) ?_ ?_
    · (try dsimp only); exact ⟨by omega, by omega, by omega, heq, fun b o h => hm30 b o (hgm b o h)⟩
    first | omega | (dsimp only; omega)
  intro h17
  try have p17 := of_decide_eq_false h17
  refine c_exit ?_; refine hK4 _ _ ?_; clear hK4; refine c_seq (fun _ hK9 => ?_); rw [hv_end (by omega)] at heq; refine c_region ?_; (iterate 3 refine s_move H wn rfl rfl ?_; clear H; intro a H); refine s_cmp H wn rfl rfl rfl rfl ?_; clear H; intro a H; refine s_move H wn rfl rfl ?_; clear H; intro a H; refine s_split H 39 rfl ?_ ?_
  · intro h39
    try have p39 := of_decide_eq_true h39
    have hil : i < l.length := by omega
    obtain ⟨b, o, rfl, hrow⟩ := key_at hvg hil; (iterate 3 refine s_move H (wg H rfl rfl h39) rfl rfl ?_; clear H; intro a H); refine s_index un309prk ty279prk _ H (wg H rfl rfl h39) rfl rfl rfl (by first | assumption | omega) rfl ?_; clear H; intro a H; refine s_loada ty279prk (cs := [_, _, _, _, _, _]) H (wg H rfl rfl h39) rfl rfl (fun j v hj => H.hp.gcell (hrow j v hj)) rfl ?_; clear H; intro a H; refine s_move H (wg H rfl rfl h39) rfl rfl ?_; clear H; intro a H; refine s_callv0 H (wg H rfl rfl h39) rfl rfl (cbkey_spec _ _ H.hp.ro l[i] t) rfl ?_; clear H; rintro v46 G46 a w rfl hm46 H; refine s_cmp H (wg H rfl rfl h39) rfl rfl rfl rfl ?_; clear H; intro a H; refine s_pick_t H wn rfl h39 rfl rfl ?_; clear H; intro a H; (iterate 2 refine s_assign H wn rfl rfl ?_; clear H; intro a H); refine wl_nil ?_; refine hK9 _ _ ?_; clear hK9; refine c_ret ?_; refine (leaveT H Tryz.results216 (.cons (rv_tmp H rfl) (.cons (rv_tmp H rfl) .nil)) ?_).1; exact H.hp.ret (by rw [hasK_in heq.symm (by rw [List.length_map]; omega), ← heq]; simp)
  intro h39
  try have p39 := of_decide_eq_false h39
  (iterate 8 refine s_skip H rfl rfl h39 rfl ?_; clear H; intro a H); refine s_pick_f H wn rfl h39 rfl rfl ?_; clear H; intro a H; (iterate 2 refine s_assign H wn rfl rfl ?_; clear H; intro a H); refine wl_nil ?_; refine hK9 _ _ ?_; clear hK9; refine c_ret ?_; refine (leaveT H Tryz.results216 (.cons (rv_tmp H rfl) (.cons (rv_tmp H rfl) .nil)) ?_).1; exact H.hp.ret (by rw [hasK_off heq.symm (by rw [List.length_map]; omega), ← heq])
theorem cbprop_spec (G : GH) (w0 : World) (hG : Hold G w0) (x : PropD) (t : Int) : CallV Tryz.prog (.func (.func 221) #[] #[]) [.agg x.cells.toArray, vi t] w0 (Ret w0 G fun u G' => u = vi (cmp3 x.key t)) := by
  refine callV_func (caps := []) en221prp ?_; refine enter (N := 9) (T := [(0, _), (1, _)]) (F := fun k => k < w0.heap.size) (L := []) Tryz.func221 rfl Tryz.ntmps221 rfl rfl hG (fun _ h => h) (fun _ h => by cases h) (fun _ h => by cases h) (fun _ h => by cases h) List.Pairwise.nil ?_; intro a H; refine c_seqR (fun _ hK1 => ?_); refine s_box (cs := [_, _]) H wn rfl rfl rfl ?_; clear H; intro b2 a w hb2 H; refine s_assign H wn rfl rfl ?_; clear H; intro a H; refine hK1 _ _ ?_; clear hK1; refine c_seqR (fun _ hK2 => ?_); refine s_field fd40_0prp H wn rfl rfl ?_; clear H; intro a H; refine s_load ty3run H wn rfl (H.hp.ocell 0 rfl rfl) rfl ?_; clear H; intro a H; refine s_move H wn rfl rfl ?_; clear H; intro a H; refine s_call en218prp H wn rfl (compare_spec _ _ H.hp.ro x.key t) rfl ?_; clear H; rintro v8 G8 a w rfl hm8 H; refine s_assign H wn rfl rfl ?_; clear H; intro a H; refine hK2 _ _ ?_; clear hK2; refine c_ret ?_; refine (leave1 H Tryz.results221 (.cons (rv_tmp H rfl) .nil) ?_).1; exact H.hp.ret rfl
theorem bsprop_spec (G : GH) (w0 : World) (hG : Hold G w0) (l : List PropD) (t : Int) (v : Value) (hv : RepV G (.sl 2 (l.map PropD.dat)) v) (hl : l.length ≤ 4294967296) :
    Calls Tryz.prog 220 #[v, vi t, .func (.func 221) #[] #[]] w0 (Ret w0 G fun u G' => u = .tuple #[vi (bsK (l.map PropD.key) t), .bool (hasK (l.map PropD.key) t)]) := by
  obtain ⟨A, c, rfl, hc1, hc2, -⟩ := hv.slice; rw [List.length_map] at *; obtain ⟨p, hp⟩ : ∃ p : Nat → Bool, p = fun h => decide (¬ (l.map PropD.key).getD h 0 < t) := ⟨_, rfl⟩
  have hbs : bsK (l.map PropD.key) t = hvF p l.length 0 l.length := by rw [hp, bsK, List.length_map]
  refine enter (N := 49) (T := [(0, _), (1, _), (2, _)]) (F := fun k => k < w0.heap.size) (L := []) Tryz.func220 rfl Tryz.ntmps220 rfl rfl hG (fun _ h => h) (fun _ h => by cases h) (fun _ h => by cases h) (fun _ h => by cases h) List.Pairwise.nil ?_; intro a H; refine c_seqR (fun _ hK1 => ?_); (iterate 2 refine s_assign H wn rfl rfl ?_; clear H; intro a H); refine hK1 _ _ ?_; clear hK1; refine c_seqR (fun _ hK2 => ?_); refine s_move H wn rfl rfl ?_; clear H; intro a H; refine s_len un25run H wn rfl rfl ?_; clear H; intro a H; refine s_assign H wn rfl rfl ?_; clear H; intro a H; refine hK2 _ _ ?_; clear hK2; refine c_seqR (fun _ hK3 => ?_); refine s_move H wn rfl rfl ?_; clear H; intro a H; (iterate 2 refine s_assign H wn rfl rfl ?_; clear H; intro a H); refine hK3 _ _ ?_; clear hK3; refine c_seq (fun _ hK4 => ?_); refine c_block ?_; skip; refine c_loopS (ι := Nat × Nat × Nat × GH) (Tc := [(0, _), (1, _), (2, _), (8, _)]) (Lc := []) (fun (gh : Nat × Nat × Nat × GH) => [(9, vi gh.1), (10, vi gh.2.1)]) (fun (gh : Nat × Nat × Nat × GH) => []) (fun (gh : Nat × Nat × Nat × GH) => gh.2.2.2) (fun (gh : Nat × Nat × Nat × GH) => gh.1 ≤ gh.2.1 ∧ gh.2.1 ≤ l.length ∧ gh.2.1 - gh.1 ≤ gh.2.2.1 ∧ hvF p gh.2.2.1 gh.1 gh.2.1 = bsK (l.map PropD.key) t ∧ (∀ b o, G b = some o → gh.2.2.2 b = some o)) (fun (gh : Nat × Nat × Nat × GH) => gh.2.1 - gh.1) ((0, l.length, l.length, G)) (by exact (H).sub ⟨rfl, rfl, rfl, rfl, rfl, rfl, trivial⟩) ?_ ?_
  · exact ⟨Nat.zero_le _, Nat.le_refl _, Nat.sub_le _ _, hbs.symm, fun _ _ h => h⟩
  clear H; intro gh a w hI H; obtain ⟨i, j, f, g⟩ := gh; dsimp only at hI H; obtain ⟨hij, hj, hf1, heq, hgm⟩ := hI; have hvg := hv.mono hgm; dsimp only [List.cons_append, List.nil_append, List.append_nil] at H; refine c_seq (fun _ hK5 => ?_); refine c_seqR (fun _ hK6 => ?_); (iterate 2 refine s_move H wn rfl rfl ?_; clear H; intro a H); refine s_cmp H wn rfl rfl rfl rfl ?_; clear H; intro a H; refine hK6 _ _ ?_; clear hK6; refine c_cond H rfl ?_ ?_
  · intro h17
    try have p17 := of_decide_eq_true h17
    have hlt : i < j := by omega
    rw [hv_step hf1 hlt] at heq; obtain ⟨m, hm⟩ : ∃ m, m = (i + j) / 2 := ⟨_, rfl⟩; rw [← hm] at heq
    have hml : m < l.length := by omega
    obtain ⟨b, o, rfl, hrow⟩ := prop_at hvg hml
    have hpm : p m = decide (¬ l[m].key < t) := by rw [hp]; dsimp only; rw [getD_map hml]
    rw [hpm] at heq; refine c_skip ?_; refine hK5 _ _ ?_; clear hK5; refine c_block ?_; refine c_seqR (fun _ hK7 => ?_); (iterate 2 refine s_move H wn rfl rfl ?_; clear H; intro a H); refine s_add _ H wn rfl rfl rfl (by omega) (by omega) rfl ?_; clear H; intro a H; rw [show ((i : Int) + (j : Int)) = ((i + j : Nat) : Int) by push_cast; rfl] at H; refine s_conv ((i + j : Nat) : Int) un329prp un3cp H wn rfl (hv_wrap (by omega) (by omega)) rfl ?_; clear H; intro a H; refine s_shr _ H wn rfl rfl rfl (by decide) rfl ?_; clear H; intro a H; rw [hv_shr, ← hm] at H; refine s_conv (m : Int) un3cp un329prp H wn rfl (i64_wrap (by omega) (by omega)) rfl ?_; clear H; intro a H; refine s_assign H wn rfl rfl ?_; clear H; intro a H; refine hK7 _ _ ?_; clear hK7; refine c_seqR (fun _ hK8 => ?_); (iterate 3 refine s_move H wn rfl rfl ?_; clear H; intro a H); refine s_index un25run ty40run _ H wn rfl rfl rfl (by first | assumption | omega) rfl ?_; clear H; intro a H; refine s_loada ty40run (cs := [_, _]) H wn rfl rfl (fun j v hj => H.hp.gcell (hrow j v hj)) rfl ?_; clear H; intro a H; refine s_move H wn rfl rfl ?_; clear H; intro a H; refine s_callv0 H wn rfl rfl (cbprop_spec _ _ H.hp.ro l[m] t) rfl ?_; clear H; rintro v30 G30 a w rfl hm30 H; refine s_cmp H wn rfl rfl rfl rfl ?_; clear H; intro a H; refine hK8 _ _ ?_; clear hK8; refine c_cond H rfl ?_ ?_
    · intro h31
      try have p31 := of_decide_eq_true h31
      rw [if_neg (by simpa using cmp3_lt.1 p31)] at heq; refine c_region ?_; refine s_move H wn rfl rfl ?_; clear H; intro a H; refine s_add _ H wn rfl rfl rfl (by omega) (by omega) rfl ?_; clear H; intro a H; refine s_assign H wn rfl rfl ?_; clear H; intro a H; refine wl_nil ?_; refine loop_end ((m + 1, j, f - 1, G30)) (by exact (H).sub ⟨rfl, rfl, rfl, rfl, rfl, rfl, trivial⟩) ?_ ?_
      · (try dsimp only); exact ⟨by omega, hj, by omega, heq, fun b o h => hm30 b o (hgm b o h)⟩
      first | omega | (dsimp only; omega)
    intro h31
    try have p31 := of_decide_eq_false h31
    rw [if_pos (by simpa using fun h => p31 (cmp3_lt.2 h))] at heq; refine c_region ?_; refine s_move H wn rfl rfl ?_; clear H; intro a H; refine s_assign H wn rfl rfl ?_; clear H; intro a H; refine wl_nil ?_; refine loop_end ((i, m, f - 1, G30)) (by exact (H).sub ⟨rfl, rfl, rfl, rfl, rfl, rfl, trivial⟩) ?_ ?_
    · (try dsimp only); exact ⟨by omega, by omega, by omega, heq, fun b o h => hm30 b o (hgm b o h)⟩
    first | omega | (dsimp only; omega)
  intro h17
  try have p17 := of_decide_eq_false h17
  refine c_exit ?_; refine hK4 _ _ ?_; clear hK4; refine c_seq (fun _ hK9 => ?_); rw [hv_end (by omega)] at heq; refine c_region ?_; (iterate 3 refine s_move H wn rfl rfl ?_; clear H; intro a H); refine s_cmp H wn rfl rfl rfl rfl ?_; clear H; intro a H; refine s_move H wn rfl rfl ?_; clear H; intro a H; refine s_split H 39 rfl ?_ ?_
  · intro h39
    try have p39 := of_decide_eq_true h39
    have hil : i < l.length := by omega
    obtain ⟨b, o, rfl, hrow⟩ := prop_at hvg hil; (iterate 3 refine s_move H (wg H rfl rfl h39) rfl rfl ?_; clear H; intro a H); refine s_index un25run ty40run _ H (wg H rfl rfl h39) rfl rfl rfl (by first | assumption | omega) rfl ?_; clear H; intro a H; refine s_loada ty40run (cs := [_, _]) H (wg H rfl rfl h39) rfl rfl (fun j v hj => H.hp.gcell (hrow j v hj)) rfl ?_; clear H; intro a H; refine s_move H (wg H rfl rfl h39) rfl rfl ?_; clear H; intro a H; refine s_callv0 H (wg H rfl rfl h39) rfl rfl (cbprop_spec _ _ H.hp.ro l[i] t) rfl ?_; clear H; rintro v46 G46 a w rfl hm46 H; refine s_cmp H (wg H rfl rfl h39) rfl rfl rfl rfl ?_; clear H; intro a H; refine s_pick_t H wn rfl h39 rfl rfl ?_; clear H; intro a H; (iterate 2 refine s_assign H wn rfl rfl ?_; clear H; intro a H); refine wl_nil ?_; refine hK9 _ _ ?_; clear hK9; refine c_ret ?_; refine (leaveT H Tryz.results220 (.cons (rv_tmp H rfl) (.cons (rv_tmp H rfl) .nil)) ?_).1; exact H.hp.ret (by rw [hasK_in heq.symm (by rw [List.length_map]; omega), ← heq]; simp)
  intro h39
  try have p39 := of_decide_eq_false h39
  (iterate 8 refine s_skip H rfl rfl h39 rfl ?_; clear H; intro a H); refine s_pick_f H wn rfl h39 rfl rfl ?_; clear H; intro a H; (iterate 2 refine s_assign H wn rfl rfl ?_; clear H; intro a H); refine wl_nil ?_; refine hK9 _ _ ?_; clear hK9; refine c_ret ?_; refine (leaveT H Tryz.results220 (.cons (rv_tmp H rfl) (.cons (rv_tmp H rfl) .nil)) ?_).1; exact H.hp.ret (by rw [hasK_off heq.symm (by rw [List.length_map]; omega), ← heq])
end
section
open Go.RowKit
theorem en215prq : ∀ args w, (callFunc 215 args).run Tryz.prog w = .ok (.enter 215 args) w := enters Tryz.func215 rfl (by kernel_rfl)
theorem en216prq : ∀ args w, (callFunc 216 args).run Tryz.prog w = .ok (.enter 216 args) w := enters Tryz.func216 rfl (by kernel_rfl)
theorem en182prq : ∀ args w, (callFunc 182 args).run Tryz.prog w = .ok (.enter 182 args) w := enters Tryz.func182 rfl (by kernel_rfl)
theorem fd279_1prq : Fld Tryz.prog 279 1 1 := ⟨by kernel_rfl⟩
theorem en219prq : ∀ args w, (callFunc 219 args).run Tryz.prog w = .ok (.enter 219 args) w := enters Tryz.func219 rfl (by kernel_rfl)
theorem en184prq : ∀ args w, (callFunc 184 args).run Tryz.prog w = .ok (.enter 184 args) w := enters Tryz.func184 rfl (by kernel_rfl)
theorem en183prq : ∀ args w, (callFunc 183 args).run Tryz.prog w = .ok (.enter 183 args) w := enters Tryz.func183 rfl (by kernel_rfl)
theorem fd279_2prq : Fld Tryz.prog 279 2 2 := ⟨by kernel_rfl⟩
theorem fd279_3prq : Fld Tryz.prog 279 3 3 := ⟨by kernel_rfl⟩
def kz : KeyD := ⟨0, 0, 0, 0, 0, ⟨#[]⟩⟩
def keyN : List Int := keyT.map KeyD.num
/-- The entry of a key, and whether there is one. -/
def findK (k : Int) : KeyD × Bool := if hasK keyN k = true then (keyT.getD (bsK keyN k) kz, true) else (kz, false)
theorem find_spec (G : GH) (w0 : World) (hG : Hold G w0) (k : Int) : Calls Tryz.prog 182 #[vi k] w0 (Ret w0 G fun u G' => u = .tuple #[.agg (findK k).1.cells.toArray, .bool (findK k).2]) := by
  refine enter (N := 21) (T := [(0, _)]) (F := fun k => k < w0.heap.size) (L := []) Tryz.func182 rfl Tryz.ntmps182 rfl rfl hG (fun _ h => h) (fun _ h => by cases h) (fun _ h => by cases h) (fun _ h => by cases h) List.Pairwise.nil ?_; intro a H; refine c_seqR (fun _ hK1 => ?_); refine s_alloc ty279prk H wn rfl ?_; clear H; intro b2 a w hb2 H; refine s_assign H wn rfl rfl ?_; clear H; intro a H; refine hK1 _ _ ?_; clear hK1; refine c_seqR (fun _ hK2 => ?_); refine s_call en215prq H wn rfl (ktable_spec _ _ H.hp.ro) rfl ?_; clear H; rintro v7 G7 a w hv7 hm7 H; obtain ⟨A, c, rfl, hc1, hc2, -⟩ := hv7.slice; rw [List.length_map] at *; refine s_assign H wn rfl rfl ?_; clear H; intro a H; refine hK2 _ _ ?_; clear hK2; refine c_seqR (fun _ hK3 => ?_); (iterate 2 refine s_move H wn rfl rfl ?_; clear H; intro a H); refine s_call en216prq H wn rfl (bskey_spec _ _ H.hp.ro keyT k _ hv7 (by decide)) rfl ?_; clear H; rintro v11 G11 a w rfl hm11 H; have hv7 := hv7.mono hm11; have hkn : keyT.map KeyD.num = keyN := rfl; rw [hkn] at H; obtain ⟨n, hn⟩ : ∃ n, n = bsK keyN k := ⟨_, rfl⟩; obtain ⟨q, hq⟩ : ∃ q, q = hasK keyN k := ⟨_, rfl⟩; rw [← hn, ← hq] at H; refine s_move H wn rfl rfl ?_; clear H; intro a H; (iterate 2 refine s_extract H wn rfl rfl rfl ?_; clear H; intro a H); (iterate 2 refine s_assign H wn rfl rfl ?_; clear H; intro a H); refine hK3 _ _ ?_; clear hK3; refine c_seq (fun _ hK4 => ?_); refine c_seqR (fun _ hK5 => ?_); refine s_move H wn rfl rfl ?_; clear H; intro a H; refine s_not H wn rfl rfl ?_; clear H; intro a H; refine hK5 _ _ ?_; clear hK5; refine c_cond H rfl ?_ ?_
  · intro h15
    try have p15 := of_decide_eq_true h15
    refine c_seqR (fun _ hK6 => ?_); refine s_build sr279prk [_, _, _, _, _, _] H wn rfl rfl rfl rfl ?_; clear H; intro a H; refine s_store ty279prk 0 (vs := [_, _, _, _, _, _]) _ H wn rfl rfl rfl rfl rfl rfl rfl rfl ?_; clear H; intro w H; dsimp only [List.set, setRow] at H; refine s_assign H wn rfl rfl ?_; clear H; intro a H; refine hK6 _ _ ?_; clear hK6; refine c_ret ?_; refine (leaveT H Tryz.results182 (.cons (rv_cella ty279prk (cs := [_, _, _, _, _, _]) H rfl rfl (H.hp.ocells 0 rfl rfl)) (.cons (rv_tmp H rfl) .nil)) ?_).1; exact H.hp.ret (by rw [findK, if_neg (by rw [← hq]; simpa using h15)]; rfl)
  intro h15
  try have p15 := of_decide_eq_false h15
  have hlt : n < keyT.length := by have := hasK_lt (ks := keyN) (t := k) (by rw [← hq]; simpa using h15); rw [← hn] at this; simpa [keyN] using this
  obtain ⟨b, o, rfl, hrow⟩ := key_at hv7 hlt; refine c_skip ?_; refine hK4 _ _ ?_; clear hK4; refine c_seqR (fun _ hK7 => ?_); (iterate 2 refine s_move H wn rfl rfl ?_; clear H; intro a H); refine s_index un309prk ty279prk _ H wn rfl rfl rfl (by first | assumption | omega) rfl ?_; clear H; intro a H; refine s_loada ty279prk (cs := [_, _, _, _, _, _]) H wn rfl rfl (fun j v hj => H.hp.gcell (hrow j v hj)) rfl ?_; clear H; intro a H; refine s_store ty279prk 0 (vs := [_, _, _, _, _, _]) _ H wn rfl rfl rfl rfl rfl rfl rfl rfl ?_; clear H; intro w H; dsimp only [List.set, setRow] at H; refine s_assign H wn rfl rfl ?_; clear H; intro a H; refine hK7 _ _ ?_; clear hK7; refine c_ret ?_; refine (leaveT H Tryz.results182 (.cons (rv_cella ty279prk (cs := [_, _, _, _, _, _]) H rfl rfl (H.hp.ocells 0 rfl rfl)) (.cons (rv_tmp H rfl) .nil)) ?_).1; exact H.hp.ret (by rw [findK, if_pos (by rw [← hq]; simpa using h15), ← hn, List.getD_eq_getElem?_getD, List.getElem?_eq_getElem hlt]; rfl)
def groupE (k : Int) : Int := if (findK k).2 = true then 0 else 4
def groupK (k : Int) : Int := if (findK k).2 = true then (findK k).1.grp else 0
theorem group_spec (G : GH) (w0 : World) (hG : Hold G w0) (k : Int) : Calls Tryz.prog 113 #[vi k] w0 (Ret w0 G fun u G' => u = .tuple #[vi (groupK k), vi (groupE k)]) := by
  refine enter (N := 15) (T := [(0, _)]) (F := fun k => k < w0.heap.size) (L := []) Tryz.func113 rfl Tryz.ntmps113 rfl rfl hG (fun _ h => h) (fun _ h => by cases h) (fun _ h => by cases h) (fun _ h => by cases h) List.Pairwise.nil ?_; intro a H; refine c_seqR (fun _ hK1 => ?_); (iterate 2 refine s_assign H wn rfl rfl ?_; clear H; intro a H); refine hK1 _ _ ?_; clear hK1; refine c_seqR (fun _ hK2 => ?_); refine s_move H wn rfl rfl ?_; clear H; intro a H; refine s_call en182prq H wn rfl (find_spec _ _ H.hp.ro k) rfl ?_; clear H; rintro v8 G8 a w rfl hm8 H; dsimp only [KeyD.cells] at H; refine s_move H wn rfl rfl ?_; clear H; intro a H; (iterate 2 refine s_extract H wn rfl rfl rfl ?_; clear H; intro a H); refine s_alloc ty279prk H wn rfl ?_; clear H; intro b4 a w hb4 H; refine s_store ty279prk 0 (vs := [_, _, _, _, _, _]) _ H wn rfl rfl rfl rfl rfl rfl rfl rfl ?_; clear H; intro w H; dsimp only [List.set, setRow] at H; refine s_assign H wn rfl rfl ?_; clear H; intro a H; refine hK2 _ _ ?_; clear hK2; refine c_seq (fun _ hK3 => ?_); refine c_seqR (fun _ hK4 => ?_); refine s_move H wn rfl rfl ?_; clear H; intro a H; refine s_not H wn rfl rfl ?_; clear H; intro a H; refine hK4 _ _ ?_; clear hK4; refine c_cond H rfl ?_ ?_
  · intro h12
    try have p12 := of_decide_eq_true h12
    refine c_seqR (fun _ hK5 => ?_); (iterate 2 refine s_assign H wn rfl rfl ?_; clear H; intro a H); refine hK5 _ _ ?_; clear hK5; refine c_ret ?_; refine (leaveT H Tryz.results113 (.cons (rv_tmp H rfl) (.cons (rv_tmp H rfl) .nil)) ?_).1; exact H.hp.ret (by unfold groupK groupE; simp_all)
  intro h12
  try have p12 := of_decide_eq_false h12
  refine c_skip ?_; refine hK3 _ _ ?_; clear hK3; refine c_seqR (fun _ hK6 => ?_); refine s_field fd279_1prq H wn rfl rfl ?_; clear H; intro a H; refine s_load ty3run H wn rfl (H.hp.ocell 0 rfl rfl) rfl ?_; clear H; intro a H; (iterate 2 refine s_assign H wn rfl rfl ?_; clear H; intro a H); refine hK6 _ _ ?_; clear hK6; refine c_ret ?_; refine (leaveT H Tryz.results113 (.cons (rv_tmp H rfl) (.cons (rv_tmp H rfl) .nil)) ?_).1; exact H.hp.ret (by unfold groupK groupE; simp_all)
def groupsS (e : Int) : List Int := if e = 1 ∨ e = 4 ∨ e = 5 ∨ e = 6 then [1] else if e = 2 then [1, 2] else if e = 3 then [3] else if e = 7 then [6] else if e = 9 then [4] else if e = 10 then [5] else []
theorem ints_cat (G : GH) (A : List Int) : RepCat G 1 (A.map fun k => [li k]) (A.map vi) := by
  refine ⟨A.map fun k => [vi k], ?_, by simp, fun j r cs hr hc => ?_⟩
  · induction A with
    | nil => rfl
    | cons a A ih => simpa using ih
  rw [List.getElem?_map] at hr hc
  cases h : A[j]? with
  | none => rw [h] at hr; cases hr
  | some x =>
    rw [h] at hr hc
    cases hr; cases hc
    exact ⟨by simp only [RepRow]; exact ⟨_, _, rfl, by simp [RepV, Value.oneCell'], rfl⟩, rfl⟩
theorem groups_spec (G : GH) (w0 : World) (hG : Hold G w0) (e : Int) : Calls Tryz.prog 184 #[vi e] w0 (Ret w0 G fun u G' => RepV G' (.sl 1 ((groupsS e).map fun k => [li k])) u) := by
  refine enter (N := 25) (T := [(0, _)]) (F := fun k => k < w0.heap.size) (L := []) Tryz.func184 rfl Tryz.ntmps184 rfl rfl hG (fun _ h => h) (fun _ h => by cases h) (fun _ h => by cases h) (fun _ h => by cases h) List.Pairwise.nil ?_; intro a H; refine c_seqR (fun _ hK1 => ?_); refine s_assign H wn rfl rfl ?_; clear H; intro a H; refine hK1 _ _ ?_; clear hK1; refine c_seq (fun _ hK2 => ?_); refine c_seqR (fun _ hK3 => ?_); refine s_move H wn rfl rfl ?_; clear H; intro a H; refine hK3 _ _ ?_; clear hK3; refine c_block ?_; refine c_seq (fun _ hK4 => ?_); refine c_seqR (fun _ hK5 => ?_); refine s_cmp H wn rfl rfl rfl rfl ?_; clear H; intro a H; refine s_assign H wn rfl rfl ?_; clear H; intro a H; refine hK5 _ _ ?_; clear hK5; refine c_cond H rfl ?_ ?_
  · intro h4
    try have p4 := of_decide_eq_true h4
    refine c_skip ?_; refine hK4 _ _ ?_; clear hK4; refine c_cond_t H rfl h4 ?_; refine c_seqR (fun _ hK6 => ?_); refine s_buildSlice un38l14c ty3run [_] [_] H wn rfl rfl rfl rfl rfl (by intro i q h; match i, h with | 0, h => exact h | n + 1, h => simp at h) rfl rfl ?_; clear H; intro b9 a w hb9 H; refine s_assign H wn rfl rfl ?_; clear H; intro a H; refine hK6 _ _ ?_; clear hK6; refine c_ret ?_; refine (leave1 H Tryz.results184 (.cons (rv_tmp H rfl) .nil) ?_).1
    first
      | exact H.hp.ret (by rw [groupsS, if_neg (by omega), if_neg (by omega), if_neg (by omega), if_neg (by omega), if_neg (by omega), if_neg (by omega)]; exact RepV.nil_ rfl (by decide))
      | (obtain ⟨Gz, hmz, hbz, H⟩ := H.giveBox
         first
           | exact H.hp.ret (by rw [groupsS, if_pos (by omega)]; exact RepV.of_row (n := 1) (cap := 1) hbz rfl (Nat.le_refl _) (show 1 ≤ maxLen by decide) rfl (ints_cat _ [1]))
           | exact H.hp.ret (by rw [groupsS, if_neg (by omega), if_pos (by omega)]; exact RepV.of_row (n := 2) (cap := 2) hbz rfl (Nat.le_refl _) (show 2 ≤ maxLen by decide) rfl (ints_cat _ [1, 2]))
           | exact H.hp.ret (by rw [groupsS, if_neg (by omega), if_neg (by omega), if_pos (by omega)]; exact RepV.of_row (n := 1) (cap := 1) hbz rfl (Nat.le_refl _) (show 1 ≤ maxLen by decide) rfl (ints_cat _ [3]))
           | exact H.hp.ret (by rw [groupsS, if_neg (by omega), if_neg (by omega), if_neg (by omega), if_pos (by omega)]; exact RepV.of_row (n := 1) (cap := 1) hbz rfl (Nat.le_refl _) (show 1 ≤ maxLen by decide) rfl (ints_cat _ [6]))
           | exact H.hp.ret (by rw [groupsS, if_neg (by omega), if_neg (by omega), if_neg (by omega), if_neg (by omega), if_pos (by omega)]; exact RepV.of_row (n := 1) (cap := 1) hbz rfl (Nat.le_refl _) (show 1 ≤ maxLen by decide) rfl (ints_cat _ [4]))
           | exact H.hp.ret (by rw [groupsS, if_neg (by omega), if_neg (by omega), if_neg (by omega), if_neg (by omega), if_neg (by omega), if_pos (by omega)]; exact RepV.of_row (n := 1) (cap := 1) hbz rfl (Nat.le_refl _) (show 1 ≤ maxLen by decide) rfl (ints_cat _ [5])))
  intro h4
  try have p4 := of_decide_eq_false h4
  refine c_seqR (fun _ hK7 => ?_); refine s_cmp H wn rfl rfl rfl rfl ?_; clear H; intro a H; refine s_assign H wn rfl rfl ?_; clear H; intro a H; refine hK7 _ _ ?_; clear hK7; refine c_cond H rfl ?_ ?_
  · intro h4
    try have p4 := of_decide_eq_true h4
    refine c_skip ?_; refine hK4 _ _ ?_; clear hK4; refine c_cond_t H rfl h4 ?_; refine c_seqR (fun _ hK8 => ?_); refine s_buildSlice un38l14c ty3run [_] [_] H wn rfl rfl rfl rfl rfl (by intro i q h; match i, h with | 0, h => exact h | n + 1, h => simp at h) rfl rfl ?_; clear H; intro b9 a w hb9 H; refine s_assign H wn rfl rfl ?_; clear H; intro a H; refine hK8 _ _ ?_; clear hK8; refine c_ret ?_; refine (leave1 H Tryz.results184 (.cons (rv_tmp H rfl) .nil) ?_).1
    first
      | exact H.hp.ret (by rw [groupsS, if_neg (by omega), if_neg (by omega), if_neg (by omega), if_neg (by omega), if_neg (by omega), if_neg (by omega)]; exact RepV.nil_ rfl (by decide))
      | (obtain ⟨Gz, hmz, hbz, H⟩ := H.giveBox
         first
           | exact H.hp.ret (by rw [groupsS, if_pos (by omega)]; exact RepV.of_row (n := 1) (cap := 1) hbz rfl (Nat.le_refl _) (show 1 ≤ maxLen by decide) rfl (ints_cat _ [1]))
           | exact H.hp.ret (by rw [groupsS, if_neg (by omega), if_pos (by omega)]; exact RepV.of_row (n := 2) (cap := 2) hbz rfl (Nat.le_refl _) (show 2 ≤ maxLen by decide) rfl (ints_cat _ [1, 2]))
           | exact H.hp.ret (by rw [groupsS, if_neg (by omega), if_neg (by omega), if_pos (by omega)]; exact RepV.of_row (n := 1) (cap := 1) hbz rfl (Nat.le_refl _) (show 1 ≤ maxLen by decide) rfl (ints_cat _ [3]))
           | exact H.hp.ret (by rw [groupsS, if_neg (by omega), if_neg (by omega), if_neg (by omega), if_pos (by omega)]; exact RepV.of_row (n := 1) (cap := 1) hbz rfl (Nat.le_refl _) (show 1 ≤ maxLen by decide) rfl (ints_cat _ [6]))
           | exact H.hp.ret (by rw [groupsS, if_neg (by omega), if_neg (by omega), if_neg (by omega), if_neg (by omega), if_pos (by omega)]; exact RepV.of_row (n := 1) (cap := 1) hbz rfl (Nat.le_refl _) (show 1 ≤ maxLen by decide) rfl (ints_cat _ [4]))
           | exact H.hp.ret (by rw [groupsS, if_neg (by omega), if_neg (by omega), if_neg (by omega), if_neg (by omega), if_neg (by omega), if_pos (by omega)]; exact RepV.of_row (n := 1) (cap := 1) hbz rfl (Nat.le_refl _) (show 1 ≤ maxLen by decide) rfl (ints_cat _ [5])))
  intro h4
  try have p4 := of_decide_eq_false h4
  refine c_seqR (fun _ hK9 => ?_); refine s_cmp H wn rfl rfl rfl rfl ?_; clear H; intro a H; refine s_assign H wn rfl rfl ?_; clear H; intro a H; refine hK9 _ _ ?_; clear hK9; refine c_cond H rfl ?_ ?_
  · intro h4
    try have p4 := of_decide_eq_true h4
    refine c_skip ?_; refine hK4 _ _ ?_; clear hK4; refine c_cond_t H rfl h4 ?_; refine c_seqR (fun _ hK10 => ?_); refine s_buildSlice un38l14c ty3run [_] [_] H wn rfl rfl rfl rfl rfl (by intro i q h; match i, h with | 0, h => exact h | n + 1, h => simp at h) rfl rfl ?_; clear H; intro b9 a w hb9 H; refine s_assign H wn rfl rfl ?_; clear H; intro a H; refine hK10 _ _ ?_; clear hK10; refine c_ret ?_; refine (leave1 H Tryz.results184 (.cons (rv_tmp H rfl) .nil) ?_).1
    first
      | exact H.hp.ret (by rw [groupsS, if_neg (by omega), if_neg (by omega), if_neg (by omega), if_neg (by omega), if_neg (by omega), if_neg (by omega)]; exact RepV.nil_ rfl (by decide))
      | (obtain ⟨Gz, hmz, hbz, H⟩ := H.giveBox
         first
           | exact H.hp.ret (by rw [groupsS, if_pos (by omega)]; exact RepV.of_row (n := 1) (cap := 1) hbz rfl (Nat.le_refl _) (show 1 ≤ maxLen by decide) rfl (ints_cat _ [1]))
           | exact H.hp.ret (by rw [groupsS, if_neg (by omega), if_pos (by omega)]; exact RepV.of_row (n := 2) (cap := 2) hbz rfl (Nat.le_refl _) (show 2 ≤ maxLen by decide) rfl (ints_cat _ [1, 2]))
           | exact H.hp.ret (by rw [groupsS, if_neg (by omega), if_neg (by omega), if_pos (by omega)]; exact RepV.of_row (n := 1) (cap := 1) hbz rfl (Nat.le_refl _) (show 1 ≤ maxLen by decide) rfl (ints_cat _ [3]))
           | exact H.hp.ret (by rw [groupsS, if_neg (by omega), if_neg (by omega), if_neg (by omega), if_pos (by omega)]; exact RepV.of_row (n := 1) (cap := 1) hbz rfl (Nat.le_refl _) (show 1 ≤ maxLen by decide) rfl (ints_cat _ [6]))
           | exact H.hp.ret (by rw [groupsS, if_neg (by omega), if_neg (by omega), if_neg (by omega), if_neg (by omega), if_pos (by omega)]; exact RepV.of_row (n := 1) (cap := 1) hbz rfl (Nat.le_refl _) (show 1 ≤ maxLen by decide) rfl (ints_cat _ [4]))
           | exact H.hp.ret (by rw [groupsS, if_neg (by omega), if_neg (by omega), if_neg (by omega), if_neg (by omega), if_neg (by omega), if_pos (by omega)]; exact RepV.of_row (n := 1) (cap := 1) hbz rfl (Nat.le_refl _) (show 1 ≤ maxLen by decide) rfl (ints_cat _ [5])))
  intro h4
  try have p4 := of_decide_eq_false h4
  refine c_region ?_; refine s_cmp H wn rfl rfl rfl rfl ?_; clear H; intro a H; refine s_assign H wn rfl rfl ?_; clear H; intro a H; refine wl_nil ?_; refine hK4 _ _ ?_; clear hK4; refine c_cond H rfl ?_ ?_
  · intro h4
    try have p4 := of_decide_eq_true h4
    refine c_seqR (fun _ hK11 => ?_); refine s_buildSlice un38l14c ty3run [_] [_] H wn rfl rfl rfl rfl rfl (by intro i q h; match i, h with | 0, h => exact h | n + 1, h => simp at h) rfl rfl ?_; clear H; intro b9 a w hb9 H; refine s_assign H wn rfl rfl ?_; clear H; intro a H; refine hK11 _ _ ?_; clear hK11; refine c_ret ?_; refine (leave1 H Tryz.results184 (.cons (rv_tmp H rfl) .nil) ?_).1
    first
      | exact H.hp.ret (by rw [groupsS, if_neg (by omega), if_neg (by omega), if_neg (by omega), if_neg (by omega), if_neg (by omega), if_neg (by omega)]; exact RepV.nil_ rfl (by decide))
      | (obtain ⟨Gz, hmz, hbz, H⟩ := H.giveBox
         first
           | exact H.hp.ret (by rw [groupsS, if_pos (by omega)]; exact RepV.of_row (n := 1) (cap := 1) hbz rfl (Nat.le_refl _) (show 1 ≤ maxLen by decide) rfl (ints_cat _ [1]))
           | exact H.hp.ret (by rw [groupsS, if_neg (by omega), if_pos (by omega)]; exact RepV.of_row (n := 2) (cap := 2) hbz rfl (Nat.le_refl _) (show 2 ≤ maxLen by decide) rfl (ints_cat _ [1, 2]))
           | exact H.hp.ret (by rw [groupsS, if_neg (by omega), if_neg (by omega), if_pos (by omega)]; exact RepV.of_row (n := 1) (cap := 1) hbz rfl (Nat.le_refl _) (show 1 ≤ maxLen by decide) rfl (ints_cat _ [3]))
           | exact H.hp.ret (by rw [groupsS, if_neg (by omega), if_neg (by omega), if_neg (by omega), if_pos (by omega)]; exact RepV.of_row (n := 1) (cap := 1) hbz rfl (Nat.le_refl _) (show 1 ≤ maxLen by decide) rfl (ints_cat _ [6]))
           | exact H.hp.ret (by rw [groupsS, if_neg (by omega), if_neg (by omega), if_neg (by omega), if_neg (by omega), if_pos (by omega)]; exact RepV.of_row (n := 1) (cap := 1) hbz rfl (Nat.le_refl _) (show 1 ≤ maxLen by decide) rfl (ints_cat _ [4]))
           | exact H.hp.ret (by rw [groupsS, if_neg (by omega), if_neg (by omega), if_neg (by omega), if_neg (by omega), if_neg (by omega), if_pos (by omega)]; exact RepV.of_row (n := 1) (cap := 1) hbz rfl (Nat.le_refl _) (show 1 ≤ maxLen by decide) rfl (ints_cat _ [5])))
  intro h4
  try have p4 := of_decide_eq_false h4
  refine c_seqR (fun _ hK12 => ?_); refine s_cmp H wn rfl rfl rfl rfl ?_; clear H; intro a H; refine s_assign H wn rfl rfl ?_; clear H; intro a H; refine hK12 _ _ ?_; clear hK12; refine c_cond H rfl ?_ ?_
  · intro h10
    try have p10 := of_decide_eq_true h10
    refine c_seqR (fun _ hK13 => ?_); refine s_buildSlice un38l14c ty3run [_, _] [_, _] H wn rfl rfl rfl rfl rfl (by intro i q h; match i, h with | 0, h => exact h | 1, h => exact h | n + 2, h => simp at h) rfl rfl ?_; clear H; intro b12 a w hb12 H; refine s_assign H wn rfl rfl ?_; clear H; intro a H; refine hK13 _ _ ?_; clear hK13; refine c_ret ?_; refine (leave1 H Tryz.results184 (.cons (rv_tmp H rfl) .nil) ?_).1
    first
      | exact H.hp.ret (by rw [groupsS, if_neg (by omega), if_neg (by omega), if_neg (by omega), if_neg (by omega), if_neg (by omega), if_neg (by omega)]; exact RepV.nil_ rfl (by decide))
      | (obtain ⟨Gz, hmz, hbz, H⟩ := H.giveBox
         first
           | exact H.hp.ret (by rw [groupsS, if_pos (by omega)]; exact RepV.of_row (n := 1) (cap := 1) hbz rfl (Nat.le_refl _) (show 1 ≤ maxLen by decide) rfl (ints_cat _ [1]))
           | exact H.hp.ret (by rw [groupsS, if_neg (by omega), if_pos (by omega)]; exact RepV.of_row (n := 2) (cap := 2) hbz rfl (Nat.le_refl _) (show 2 ≤ maxLen by decide) rfl (ints_cat _ [1, 2]))
           | exact H.hp.ret (by rw [groupsS, if_neg (by omega), if_neg (by omega), if_pos (by omega)]; exact RepV.of_row (n := 1) (cap := 1) hbz rfl (Nat.le_refl _) (show 1 ≤ maxLen by decide) rfl (ints_cat _ [3]))
           | exact H.hp.ret (by rw [groupsS, if_neg (by omega), if_neg (by omega), if_neg (by omega), if_pos (by omega)]; exact RepV.of_row (n := 1) (cap := 1) hbz rfl (Nat.le_refl _) (show 1 ≤ maxLen by decide) rfl (ints_cat _ [6]))
           | exact H.hp.ret (by rw [groupsS, if_neg (by omega), if_neg (by omega), if_neg (by omega), if_neg (by omega), if_pos (by omega)]; exact RepV.of_row (n := 1) (cap := 1) hbz rfl (Nat.le_refl _) (show 1 ≤ maxLen by decide) rfl (ints_cat _ [4]))
           | exact H.hp.ret (by rw [groupsS, if_neg (by omega), if_neg (by omega), if_neg (by omega), if_neg (by omega), if_neg (by omega), if_pos (by omega)]; exact RepV.of_row (n := 1) (cap := 1) hbz rfl (Nat.le_refl _) (show 1 ≤ maxLen by decide) rfl (ints_cat _ [5])))
  intro h10
  try have p10 := of_decide_eq_false h10
  refine c_seqR (fun _ hK14 => ?_); refine s_cmp H wn rfl rfl rfl rfl ?_; clear H; intro a H; refine s_assign H wn rfl rfl ?_; clear H; intro a H; refine hK14 _ _ ?_; clear hK14; refine c_cond H rfl ?_ ?_
  · intro h13
    try have p13 := of_decide_eq_true h13
    refine c_seqR (fun _ hK15 => ?_); refine s_buildSlice un38l14c ty3run [_] [_] H wn rfl rfl rfl rfl rfl (by intro i q h; match i, h with | 0, h => exact h | n + 1, h => simp at h) rfl rfl ?_; clear H; intro b15 a w hb15 H; refine s_assign H wn rfl rfl ?_; clear H; intro a H; refine hK15 _ _ ?_; clear hK15; refine c_ret ?_; refine (leave1 H Tryz.results184 (.cons (rv_tmp H rfl) .nil) ?_).1
    first
      | exact H.hp.ret (by rw [groupsS, if_neg (by omega), if_neg (by omega), if_neg (by omega), if_neg (by omega), if_neg (by omega), if_neg (by omega)]; exact RepV.nil_ rfl (by decide))
      | (obtain ⟨Gz, hmz, hbz, H⟩ := H.giveBox
         first
           | exact H.hp.ret (by rw [groupsS, if_pos (by omega)]; exact RepV.of_row (n := 1) (cap := 1) hbz rfl (Nat.le_refl _) (show 1 ≤ maxLen by decide) rfl (ints_cat _ [1]))
           | exact H.hp.ret (by rw [groupsS, if_neg (by omega), if_pos (by omega)]; exact RepV.of_row (n := 2) (cap := 2) hbz rfl (Nat.le_refl _) (show 2 ≤ maxLen by decide) rfl (ints_cat _ [1, 2]))
           | exact H.hp.ret (by rw [groupsS, if_neg (by omega), if_neg (by omega), if_pos (by omega)]; exact RepV.of_row (n := 1) (cap := 1) hbz rfl (Nat.le_refl _) (show 1 ≤ maxLen by decide) rfl (ints_cat _ [3]))
           | exact H.hp.ret (by rw [groupsS, if_neg (by omega), if_neg (by omega), if_neg (by omega), if_pos (by omega)]; exact RepV.of_row (n := 1) (cap := 1) hbz rfl (Nat.le_refl _) (show 1 ≤ maxLen by decide) rfl (ints_cat _ [6]))
           | exact H.hp.ret (by rw [groupsS, if_neg (by omega), if_neg (by omega), if_neg (by omega), if_neg (by omega), if_pos (by omega)]; exact RepV.of_row (n := 1) (cap := 1) hbz rfl (Nat.le_refl _) (show 1 ≤ maxLen by decide) rfl (ints_cat _ [4]))
           | exact H.hp.ret (by rw [groupsS, if_neg (by omega), if_neg (by omega), if_neg (by omega), if_neg (by omega), if_neg (by omega), if_pos (by omega)]; exact RepV.of_row (n := 1) (cap := 1) hbz rfl (Nat.le_refl _) (show 1 ≤ maxLen by decide) rfl (ints_cat _ [5])))
  intro h13
  try have p13 := of_decide_eq_false h13
  refine c_seqR (fun _ hK16 => ?_); refine s_cmp H wn rfl rfl rfl rfl ?_; clear H; intro a H; refine s_assign H wn rfl rfl ?_; clear H; intro a H; refine hK16 _ _ ?_; clear hK16; refine c_cond H rfl ?_ ?_
  · intro h16
    try have p16 := of_decide_eq_true h16
    refine c_seqR (fun _ hK17 => ?_); refine s_buildSlice un38l14c ty3run [_] [_] H wn rfl rfl rfl rfl rfl (by intro i q h; match i, h with | 0, h => exact h | n + 1, h => simp at h) rfl rfl ?_; clear H; intro b18 a w hb18 H; refine s_assign H wn rfl rfl ?_; clear H; intro a H; refine hK17 _ _ ?_; clear hK17; refine c_ret ?_; refine (leave1 H Tryz.results184 (.cons (rv_tmp H rfl) .nil) ?_).1
    first
      | exact H.hp.ret (by rw [groupsS, if_neg (by omega), if_neg (by omega), if_neg (by omega), if_neg (by omega), if_neg (by omega), if_neg (by omega)]; exact RepV.nil_ rfl (by decide))
      | (obtain ⟨Gz, hmz, hbz, H⟩ := H.giveBox
         first
           | exact H.hp.ret (by rw [groupsS, if_pos (by omega)]; exact RepV.of_row (n := 1) (cap := 1) hbz rfl (Nat.le_refl _) (show 1 ≤ maxLen by decide) rfl (ints_cat _ [1]))
           | exact H.hp.ret (by rw [groupsS, if_neg (by omega), if_pos (by omega)]; exact RepV.of_row (n := 2) (cap := 2) hbz rfl (Nat.le_refl _) (show 2 ≤ maxLen by decide) rfl (ints_cat _ [1, 2]))
           | exact H.hp.ret (by rw [groupsS, if_neg (by omega), if_neg (by omega), if_pos (by omega)]; exact RepV.of_row (n := 1) (cap := 1) hbz rfl (Nat.le_refl _) (show 1 ≤ maxLen by decide) rfl (ints_cat _ [3]))
           | exact H.hp.ret (by rw [groupsS, if_neg (by omega), if_neg (by omega), if_neg (by omega), if_pos (by omega)]; exact RepV.of_row (n := 1) (cap := 1) hbz rfl (Nat.le_refl _) (show 1 ≤ maxLen by decide) rfl (ints_cat _ [6]))
           | exact H.hp.ret (by rw [groupsS, if_neg (by omega), if_neg (by omega), if_neg (by omega), if_neg (by omega), if_pos (by omega)]; exact RepV.of_row (n := 1) (cap := 1) hbz rfl (Nat.le_refl _) (show 1 ≤ maxLen by decide) rfl (ints_cat _ [4]))
           | exact H.hp.ret (by rw [groupsS, if_neg (by omega), if_neg (by omega), if_neg (by omega), if_neg (by omega), if_neg (by omega), if_pos (by omega)]; exact RepV.of_row (n := 1) (cap := 1) hbz rfl (Nat.le_refl _) (show 1 ≤ maxLen by decide) rfl (ints_cat _ [5])))
  intro h16
  try have p16 := of_decide_eq_false h16
  refine c_seqR (fun _ hK18 => ?_); refine s_cmp H wn rfl rfl rfl rfl ?_; clear H; intro a H; refine s_assign H wn rfl rfl ?_; clear H; intro a H; refine hK18 _ _ ?_; clear hK18; refine c_cond H rfl ?_ ?_
  · intro h19
    try have p19 := of_decide_eq_true h19
    refine c_seqR (fun _ hK19 => ?_); refine s_buildSlice un38l14c ty3run [_] [_] H wn rfl rfl rfl rfl rfl (by intro i q h; match i, h with | 0, h => exact h | n + 1, h => simp at h) rfl rfl ?_; clear H; intro b21 a w hb21 H; refine s_assign H wn rfl rfl ?_; clear H; intro a H; refine hK19 _ _ ?_; clear hK19; refine c_ret ?_; refine (leave1 H Tryz.results184 (.cons (rv_tmp H rfl) .nil) ?_).1
    first
      | exact H.hp.ret (by rw [groupsS, if_neg (by omega), if_neg (by omega), if_neg (by omega), if_neg (by omega), if_neg (by omega), if_neg (by omega)]; exact RepV.nil_ rfl (by decide))
      | (obtain ⟨Gz, hmz, hbz, H⟩ := H.giveBox
         first
           | exact H.hp.ret (by rw [groupsS, if_pos (by omega)]; exact RepV.of_row (n := 1) (cap := 1) hbz rfl (Nat.le_refl _) (show 1 ≤ maxLen by decide) rfl (ints_cat _ [1]))
           | exact H.hp.ret (by rw [groupsS, if_neg (by omega), if_pos (by omega)]; exact RepV.of_row (n := 2) (cap := 2) hbz rfl (Nat.le_refl _) (show 2 ≤ maxLen by decide) rfl (ints_cat _ [1, 2]))
           | exact H.hp.ret (by rw [groupsS, if_neg (by omega), if_neg (by omega), if_pos (by omega)]; exact RepV.of_row (n := 1) (cap := 1) hbz rfl (Nat.le_refl _) (show 1 ≤ maxLen by decide) rfl (ints_cat _ [3]))
           | exact H.hp.ret (by rw [groupsS, if_neg (by omega), if_neg (by omega), if_neg (by omega), if_pos (by omega)]; exact RepV.of_row (n := 1) (cap := 1) hbz rfl (Nat.le_refl _) (show 1 ≤ maxLen by decide) rfl (ints_cat _ [6]))
           | exact H.hp.ret (by rw [groupsS, if_neg (by omega), if_neg (by omega), if_neg (by omega), if_neg (by omega), if_pos (by omega)]; exact RepV.of_row (n := 1) (cap := 1) hbz rfl (Nat.le_refl _) (show 1 ≤ maxLen by decide) rfl (ints_cat _ [4]))
           | exact H.hp.ret (by rw [groupsS, if_neg (by omega), if_neg (by omega), if_neg (by omega), if_neg (by omega), if_neg (by omega), if_pos (by omega)]; exact RepV.of_row (n := 1) (cap := 1) hbz rfl (Nat.le_refl _) (show 1 ≤ maxLen by decide) rfl (ints_cat _ [5])))
  intro h19
  try have p19 := of_decide_eq_false h19
  refine c_seqR (fun _ hK20 => ?_); refine s_cmp H wn rfl rfl rfl rfl ?_; clear H; intro a H; refine s_assign H wn rfl rfl ?_; clear H; intro a H; refine hK20 _ _ ?_; clear hK20; refine c_cond H rfl ?_ ?_
  · intro h22
    try have p22 := of_decide_eq_true h22
    refine c_seqR (fun _ hK21 => ?_); refine s_buildSlice un38l14c ty3run [_] [_] H wn rfl rfl rfl rfl rfl (by intro i q h; match i, h with | 0, h => exact h | n + 1, h => simp at h) rfl rfl ?_; clear H; intro b24 a w hb24 H; refine s_assign H wn rfl rfl ?_; clear H; intro a H; refine hK21 _ _ ?_; clear hK21; refine c_ret ?_; refine (leave1 H Tryz.results184 (.cons (rv_tmp H rfl) .nil) ?_).1
    first
      | exact H.hp.ret (by rw [groupsS, if_neg (by omega), if_neg (by omega), if_neg (by omega), if_neg (by omega), if_neg (by omega), if_neg (by omega)]; exact RepV.nil_ rfl (by decide))
      | (obtain ⟨Gz, hmz, hbz, H⟩ := H.giveBox
         first
           | exact H.hp.ret (by rw [groupsS, if_pos (by omega)]; exact RepV.of_row (n := 1) (cap := 1) hbz rfl (Nat.le_refl _) (show 1 ≤ maxLen by decide) rfl (ints_cat _ [1]))
           | exact H.hp.ret (by rw [groupsS, if_neg (by omega), if_pos (by omega)]; exact RepV.of_row (n := 2) (cap := 2) hbz rfl (Nat.le_refl _) (show 2 ≤ maxLen by decide) rfl (ints_cat _ [1, 2]))
           | exact H.hp.ret (by rw [groupsS, if_neg (by omega), if_neg (by omega), if_pos (by omega)]; exact RepV.of_row (n := 1) (cap := 1) hbz rfl (Nat.le_refl _) (show 1 ≤ maxLen by decide) rfl (ints_cat _ [3]))
           | exact H.hp.ret (by rw [groupsS, if_neg (by omega), if_neg (by omega), if_neg (by omega), if_pos (by omega)]; exact RepV.of_row (n := 1) (cap := 1) hbz rfl (Nat.le_refl _) (show 1 ≤ maxLen by decide) rfl (ints_cat _ [6]))
           | exact H.hp.ret (by rw [groupsS, if_neg (by omega), if_neg (by omega), if_neg (by omega), if_neg (by omega), if_pos (by omega)]; exact RepV.of_row (n := 1) (cap := 1) hbz rfl (Nat.le_refl _) (show 1 ≤ maxLen by decide) rfl (ints_cat _ [4]))
           | exact H.hp.ret (by rw [groupsS, if_neg (by omega), if_neg (by omega), if_neg (by omega), if_neg (by omega), if_neg (by omega), if_pos (by omega)]; exact RepV.of_row (n := 1) (cap := 1) hbz rfl (Nat.le_refl _) (show 1 ≤ maxLen by decide) rfl (ints_cat _ [5])))
  intro h22
  try have p22 := of_decide_eq_false h22
  refine c_skip ?_; refine hK2 _ _ ?_; clear hK2; refine c_seqR (fun _ hK22 => ?_); refine s_assign H wn rfl rfl ?_; clear H; intro a H; refine hK22 _ _ ?_; clear hK22; refine c_ret ?_; refine (leave1 H Tryz.results184 (.cons (rv_tmp H rfl) .nil) ?_).1
  first
    | exact H.hp.ret (by rw [groupsS, if_neg (by omega), if_neg (by omega), if_neg (by omega), if_neg (by omega), if_neg (by omega), if_neg (by omega)]; exact RepV.nil_ rfl (by decide))
    | (obtain ⟨Gz, hmz, hbz, H⟩ := H.giveBox
       first
         | exact H.hp.ret (by rw [groupsS, if_pos (by omega)]; exact RepV.of_row (n := 1) (cap := 1) hbz rfl (Nat.le_refl _) (show 1 ≤ maxLen by decide) rfl (ints_cat _ [1]))
         | exact H.hp.ret (by rw [groupsS, if_neg (by omega), if_pos (by omega)]; exact RepV.of_row (n := 2) (cap := 2) hbz rfl (Nat.le_refl _) (show 2 ≤ maxLen by decide) rfl (ints_cat _ [1, 2]))
         | exact H.hp.ret (by rw [groupsS, if_neg (by omega), if_neg (by omega), if_pos (by omega)]; exact RepV.of_row (n := 1) (cap := 1) hbz rfl (Nat.le_refl _) (show 1 ≤ maxLen by decide) rfl (ints_cat _ [3]))
         | exact H.hp.ret (by rw [groupsS, if_neg (by omega), if_neg (by omega), if_neg (by omega), if_pos (by omega)]; exact RepV.of_row (n := 1) (cap := 1) hbz rfl (Nat.le_refl _) (show 1 ≤ maxLen by decide) rfl (ints_cat _ [6]))
         | exact H.hp.ret (by rw [groupsS, if_neg (by omega), if_neg (by omega), if_neg (by omega), if_neg (by omega), if_pos (by omega)]; exact RepV.of_row (n := 1) (cap := 1) hbz rfl (Nat.le_refl _) (show 1 ≤ maxLen by decide) rfl (ints_cat _ [4]))
         | exact H.hp.ret (by rw [groupsS, if_neg (by omega), if_neg (by omega), if_neg (by omega), if_neg (by omega), if_neg (by omega), if_pos (by omega)]; exact RepV.of_row (n := 1) (cap := 1) hbz rfl (Nat.le_refl _) (show 1 ≤ maxLen by decide) rfl (ints_cat _ [5])))
/-- Whether a number is in a list. -/
theorem intAt {G : GH} {l : List Int} {A : Option Addr} {n c k : Nat} (hv : RepV G (.sl 1 (l.map fun k => [li k])) (.slice A n c)) (hk : k < l.length) : ∃ b o, A = some ⟨b, o, none⟩ ∧ gcell G b (o + k * 1) = some (vi l[k]) := by
  obtain ⟨A', c', he, _, _, hg⟩ := hv.slice
  injection he with e1 e2 e3
  subst e1; obtain ⟨b, o, cs, h1, h2, h3, h4⟩ := hg k [li l[k]] (by simp [hk])
  simp only [RepRow, RepV] at h4
  obtain ⟨v1, _, rfl, ⟨rfl, -⟩, rfl⟩ := h4; exact ⟨b, o, h1, h3 0 _ rfl⟩
theorem indexInt_spec (G : GH) (w0 : World) (hG : Hold G w0) (l : List Int) (t : Int) (v : Value) (hv : RepV G (.sl 1 (l.map fun k => [li k])) v) :
    Calls Tryz.prog 219 #[v, vi t] w0 (Ret w0 G fun u G' => u = vi (ixI (l.findIdx? fun x => decide (t = x)))) := by
  obtain ⟨A, c, rfl, hc1, hc2, -⟩ := hv.slice; have hml : maxLen = 9223372036854775807 := rfl; rw [List.length_map] at *; refine enter (N := 19) (T := [(0, _), (1, _)]) (F := fun k => k < w0.heap.size) (L := []) Tryz.func219 rfl Tryz.ntmps219 rfl rfl hG (fun _ h => h) (fun _ h => by cases h) (fun _ h => by cases h) (fun _ h => by cases h) List.Pairwise.nil ?_; intro a H; refine c_seqR (fun _ hK1 => ?_); refine s_assign H wn rfl rfl ?_; clear H; intro a H; refine hK1 _ _ ?_; clear hK1; refine c_seq (fun _ hK2 => ?_); refine c_seqR (fun _ hK3 => ?_); refine s_move H wn rfl rfl ?_; clear H; intro a H; refine s_len un38l14c H wn rfl rfl ?_; clear H; intro a H; refine s_move H wn rfl rfl ?_; clear H; intro a H; refine hK3 _ _ ?_; clear hK3; refine c_block ?_; skip; refine c_loopS (ι := Nat) (Tc := [(0, _), (1, _), (7, _)]) (Lc := []) (fun (gh : Nat) => [(8, vi gh)]) (fun (gh : Nat) => []) (fun (gh : Nat) => G) (fun (gh : Nat) => gh ≤ l.length ∧ (l.take gh).findIdx? (fun x => decide (t = x)) = none) (fun (gh : Nat) => l.length - gh) (0) (by exact (H).sub ⟨rfl, rfl, rfl, rfl, trivial⟩) ?_ ?_
  · exact ⟨Nat.zero_le _, rfl⟩
  clear H; intro gh a w hI H; obtain ⟨k, hgh⟩ : ∃ x, x = gh := ⟨_, rfl⟩; subst hgh; obtain ⟨hk, hno⟩ := hI; dsimp only [List.cons_append, List.nil_append, List.append_nil] at H; refine c_seqR (fun _ hK4 => ?_); refine s_cmp H wn rfl rfl rfl rfl ?_; clear H; intro a H; refine hK4 _ _ ?_; clear hK4; refine c_seq (fun _ hK5 => ?_); refine c_cond H rfl ?_ ?_
  · intro h9
    try have p9 := of_decide_eq_true h9
    have hk2 : k < l.length := by omega
    obtain ⟨b, o, rfl, hrow⟩ := intAt hv hk2; refine c_skip ?_; refine hK5 _ _ ?_; clear hK5; refine c_seq (fun _ hK6 => ?_); refine c_block ?_; refine c_seqR (fun _ hK7 => ?_); refine s_move H wn rfl rfl ?_; clear H; intro a H; refine s_assign H wn rfl rfl ?_; clear H; intro a H; refine hK7 _ _ ?_; clear hK7; refine c_seqR (fun _ hK8 => ?_); (iterate 3 refine s_move H wn rfl rfl ?_; clear H; intro a H); refine s_index un38l14c ty3run _ H wn rfl rfl rfl (by first | assumption | omega) rfl ?_; clear H; intro a H; refine s_load ty3run H wn rfl (H.hp.gcell (by assumption)) rfl ?_; clear H; intro a H; refine s_cmp H wn rfl rfl rfl rfl ?_; clear H; intro a H; refine hK8 _ _ ?_; clear hK8; refine c_cond H rfl ?_ ?_
    · intro h16
      try have p16 := of_decide_eq_true h16
      refine c_seqR (fun _ hK9 => ?_); refine s_move H wn rfl rfl ?_; clear H; intro a H; refine s_assign H wn rfl rfl ?_; clear H; intro a H; refine hK9 _ _ ?_; clear hK9; refine c_ret ?_; refine (leave1 H Tryz.results219 (.cons (rv_tmp H rfl) .nil) ?_).1; exact H.hp.ret (by rw [idx_stop hk2 hno (by simpa using p16)]; rfl)
    intro h16
    try have p16 := of_decide_eq_false h16
    refine c_skip ?_; refine hK6 _ _ ?_; clear hK6; refine c_region ?_; refine s_add _ H wn rfl rfl rfl (by omega) (by omega) rfl ?_; clear H; intro a H; refine s_move H wn rfl rfl ?_; clear H; intro a H; refine wl_nil ?_; refine loop_end ((k + 1)) (by exact (H).sub ⟨rfl, rfl, rfl, rfl, trivial⟩) ?_ ?_
    · exact ⟨by omega, idx_next hk2 hno (by simpa using p16)⟩
    first | omega | (dsimp only; omega)
  intro h9
  try have p9 := of_decide_eq_false h9
  refine c_exit ?_; refine hK2 _ _ ?_; clear hK2; refine c_seqR (fun _ hK10 => ?_); refine s_assign H wn rfl rfl ?_; clear H; intro a H; refine hK10 _ _ ?_; clear hK10; refine c_ret ?_; refine (leave1 H Tryz.results219 (.cons (rv_tmp H rfl) .nil) ?_).1; exact H.hp.ret (by rw [show l.take k = l from List.take_of_length_le (by omega)] at hno; rw [hno]; rfl)
theorem containsInt_spec (G : GH) (w0 : World) (hG : Hold G w0) (l : List Int) (t : Int) (v : Value) (hv : RepV G (.sl 1 (l.map fun k => [li k])) v) :
    Calls Tryz.prog 183 #[v, vi t] w0 (Ret w0 G fun u G' => u = .bool (decide (t ∈ l))) := by
  obtain ⟨A, c, rfl, hc1, hc2, -⟩ := hv.slice; rw [List.length_map] at *; refine enter (N := 9) (T := [(0, _), (1, _)]) (F := fun k => k < w0.heap.size) (L := []) Tryz.func183 rfl Tryz.ntmps183 rfl rfl hG (fun _ h => h) (fun _ h => by cases h) (fun _ h => by cases h) (fun _ h => by cases h) List.Pairwise.nil ?_; intro a H; refine c_seqR (fun _ hK1 => ?_); refine s_assign H wn rfl rfl ?_; clear H; intro a H; refine hK1 _ _ ?_; clear hK1; refine c_seqR (fun _ hK2 => ?_); (iterate 2 refine s_move H wn rfl rfl ?_; clear H; intro a H); refine s_call en219prq H wn rfl (indexInt_spec _ _ H.hp.ro l t _ hv) rfl ?_; clear H; rintro v7 G7 a w rfl hm7 H; refine s_cmp H wn rfl rfl rfl rfl ?_; clear H; intro a H; refine s_assign H wn rfl rfl ?_; clear H; intro a H; refine hK2 _ _ ?_; clear hK2; refine c_ret ?_; refine (leave1 H Tryz.results183 (.cons (rv_tmp H rfl) .nil) ?_).1
  exact H.hp.ret (by
    congr 1
    cases h : l.findIdx? (fun x => decide (t = x)) with
    | none =>
      rw [List.findIdx?_eq_none_iff] at h; have : t ∉ l := fun hm => absurd (h t hm) (by simp)
      simp [ixI, this]
    | some i =>
      obtain ⟨hi, he, -⟩ := List.findIdx?_eq_some_iff_getElem.1 h
      have : t ∈ l := by rw [of_decide_eq_true he]; exact List.getElem_mem _
      simp [ixI, this])
/-- Whether elements of a kind have a key. -/
def fitsS (e k : Int) : Bool := (findK k).2 && decide ((findK k).1.grp ∈ groupsS e)
theorem fits_spec (G : GH) (w0 : World) (hG : Hold G w0) (e k : Int) : Calls Tryz.prog 106 #[vi e, vi k] w0 (Ret w0 G fun u G' => u = .bool (fitsS e k)) := by
  refine enter (N := 20) (T := [(0, _), (1, _)]) (F := fun k => k < w0.heap.size) (L := []) Tryz.func106 rfl Tryz.ntmps106 rfl rfl hG (fun _ h => h) (fun _ h => by cases h) (fun _ h => by cases h) (fun _ h => by cases h) List.Pairwise.nil ?_; intro a H; refine c_seqR (fun _ hK1 => ?_); refine s_assign H wn rfl rfl ?_; clear H; intro a H; refine hK1 _ _ ?_; clear hK1; refine c_seqR (fun _ hK2 => ?_); refine s_move H wn rfl rfl ?_; clear H; intro a H; refine s_call en182prq H wn rfl (find_spec _ _ H.hp.ro k) rfl ?_; clear H; rintro v9 G9 a w rfl hm9 H; dsimp only [KeyD.cells] at H; refine s_move H wn rfl rfl ?_; clear H; intro a H; (iterate 2 refine s_extract H wn rfl rfl rfl ?_; clear H; intro a H); refine s_alloc ty279prk H wn rfl ?_; clear H; intro b5 a w hb5 H; refine s_store ty279prk 0 (vs := [_, _, _, _, _, _]) _ H wn rfl rfl rfl rfl rfl rfl rfl rfl ?_; clear H; intro w H; dsimp only [List.set, setRow] at H; refine s_assign H wn rfl rfl ?_; clear H; intro a H; refine hK2 _ _ ?_; clear hK2; refine c_seq (fun _ hK3 => ?_)
  by_cases c0 : (findK k).2 = true
  · skip
    have hprm2 : ∀ (ix_ : Nat) (v : Value) (G G' : GH), (∀ k o, G k = some o → G' k = some o) → (fun (ix_ : Nat) (v : Value) (G : GH) => match ix_ with | 0 => v = .bool (findK k).2 | 1 => v = .bool (decide ((findK k).2 = true)) | 2 => v = vi e | 3 => (findK k).2 = true → RepV G (.sl 1 ((groupsS e).map fun k => [li k])) v | 4 => v = .pointer (some ⟨b5, 1, none⟩) | 5 => v = vi (findK k).1.grp | 6 => v = .bool (decide ((findK k).1.grp ∈ groupsS e)) | 7 => v = .bool (fitsS e k) | _ => True) ix_ v G → (fun (ix_ : Nat) (v : Value) (G : GH) => match ix_ with | 0 => v = .bool (findK k).2 | 1 => v = .bool (decide ((findK k).2 = true)) | 2 => v = vi e | 3 => (findK k).2 = true → RepV G (.sl 1 ((groupsS e).map fun k => [li k])) v | 4 => v = .pointer (some ⟨b5, 1, none⟩) | 5 => v = vi (findK k).1.grp | 6 => v = .bool (decide ((findK k).1.grp ∈ groupsS e)) | 7 => v = .bool (fitsS e k) | _ => True) ix_ v G' := by
      intro ix_ v G G' hm h
      match ix_, h with
      | 0, h => exact h
      | 1, h => exact h
      | 2, h => exact h
      | 3, h => exact fun hf => (h hf).mono hm
      | 4, h => exact h
      | 5, h => exact h
      | 6, h => exact h
      | 7, h => exact h
      | 8, h => exact trivial
      | _ + 9, h => exact trivial
    refine c_drawI (hmx) [[], [0], [0, 1], [0, 1, 2], [0, 1], [0, 1, 4], [0, 1, 2, 3, 4, 5], [0, 1, 2, 3, 4, 5, 6], [0, 1, 2, 3, 4, 5, 6, 7]] [8] (by kernel_rfl) (by kernel_rfl) (fun (ix_ : Nat) (v : Value) (G : GH) => match ix_ with | 0 => v = .bool (findK k).2 | 1 => v = .bool (decide ((findK k).2 = true)) | 2 => v = vi e | 3 => (findK k).2 = true → RepV G (.sl 1 ((groupsS e).map fun k => [li k])) v | 4 => v = .pointer (some ⟨b5, 1, none⟩) | 5 => v = vi (findK k).1.grp | 6 => v = .bool (decide ((findK k).1.grp ∈ groupsS e)) | 7 => v = .bool (fitsS e k) | _ => True) hprm2 H ?_ ?_
    · clear H; refine (allI_cons ?_ (allI_cons ?_ (allI_cons ?_ (allI_cons ?_ (allI_cons ?_ (allI_cons ?_ (allI_cons ?_ (allI_cons ?_ (allI_cons ?_ allI_nil)))))))))
      · refine opI [] rfl trivial (by kernel_rfl) hprm2 rfl rfl ?_; intro Sd_ a w G1 hG HT H fin; refine s_move H wn rfl rfl ?_; clear H; intro a H; exact fin H (fun _ _ h => h) (rfl)
      · refine opI [(0, 12, _)] rfl ⟨fun _ _ h => h, trivial⟩ (by kernel_rfl) hprm2 rfl rfl ?_; intro Sd_ a w G1 hG HT H fin; refine s_move H wn rfl rfl ?_; clear H; intro a H; exact fin H (fun _ _ h => h) (by simp)
      · refine opI [(1, 13, _)] rfl ⟨fun _ _ h => h, trivial⟩ (by kernel_rfl) hprm2 rfl rfl ?_; intro Sd_ a w G1 hG HT H fin; refine s_move H (wg H rfl rfl (decide_eq_true c0)) rfl rfl ?_; clear H; intro a H; exact fin H (fun _ _ h => h) (rfl)
      · refine opI [(2, 14, _), (1, 13, _)] rfl ⟨fun _ _ h => h, fun _ _ h => h, trivial⟩ (by kernel_rfl) hprm2 rfl rfl ?_; intro Sd_ a w G1 hG HT H fin; refine s_call en184prq H (wg H rfl rfl (decide_eq_true c0)) rfl (groups_spec _ _ H.hp.ro e) rfl ?_; clear H; rintro v15 G15 a w hp15 hGm15 H; exact fin H hGm15 (by first | exact fun _ => hp15 | rfl)
      · refine opI [(1, 13, _)] rfl ⟨fun _ _ h => h, trivial⟩ (by kernel_rfl) hprm2 rfl rfl ?_; intro Sd_ a w G1 hG HT H fin; refine s_field fd279_1prq H (wg H rfl rfl (decide_eq_true c0)) rfl rfl ?_; clear H; intro a H; exact fin H (fun _ _ h => h) (rfl)
      · refine opI [(4, 16, _), (1, 13, _)] rfl ⟨fun _ _ h => h, fun _ _ h => h, trivial⟩ (by kernel_rfl) hprm2 rfl rfl ?_; intro Sd_ a w G1 hG HT H fin; refine s_load ty3run H (wg H rfl rfl (decide_eq_true c0)) rfl (H.hp.ocell 0 rfl rfl) rfl ?_; clear H; intro a H; exact fin H (fun _ _ h => h) (rfl)
      · intro Sd_ a w G1 _ hSi hc hG HT hv; have H := HT; clear hSi; obtain ⟨u15, hu15, hp15⟩ := hv 3 15 (hc 3 (by decide)) rfl; (try dsimp only at hp15); have H := H.addS hu15; obtain ⟨u17, hu17, hp17⟩ := hv 5 17 (hc 5 (by decide)) rfl; obtain rfl : u17 = vi (findK k).1.grp := hp17; have H := H.addS hu17; obtain ⟨u13, hu13, hp13⟩ := hv 1 13 (hc 1 (by decide)) rfl; obtain rfl : u13 = .bool (decide ((findK k).2 = true)) := hp13; have H := H.addS hu13; have Hb := H.full; have H := Hb; clear hc; refine s_call en183prq H (wg H rfl rfl (decide_eq_true c0)) rfl (containsInt_spec _ _ H.hp.ro _ _ _ (hp15 c0)) rfl ?_; clear H; rintro v18 G18 a w rfl hGm18 H; refine wl_nil ⟨rfl, ?_⟩; exact draw_val (by kernel_rfl) hprm2 rfl rfl HT Hb hG hv hGm18 (rfl) H
      · refine opI [(1, 13, _), (6, 18, _)] rfl ⟨fun _ _ h => h, fun _ _ h => h, trivial⟩ (by kernel_rfl) hprm2 rfl rfl ?_; intro Sd_ a w G1 hG HT H fin; refine s_pick_t H wn rfl (decide_eq_true c0) rfl rfl ?_; clear H; intro a H; exact fin H (fun _ _ h => h) (by unfold fitsS; simp_all)
      intro _ _ _ _ hB; exact absurd hB (by decide)
    clear H; intro a w G hGm2 H hv; obtain ⟨u19, hu19, hp19⟩ := hv 7 19 (by decide) rfl; obtain rfl : u19 = .bool (fitsS e k) := hp19; have H := H.addS hu19; clear hv; refine s_assign H wn rfl rfl ?_; clear H; intro a H; refine wl_nil ⟨rfl, ?_⟩; refine hK3 _ _ ?_; clear hK3; refine c_ret ?_; refine (leave1 H Tryz.results106 (.cons (rv_tmp H rfl) .nil) ?_).1; exact H.hp.ret rfl
  skip; refine c_drawI (hmx) [[], [0], [0, 1], [0, 1, 2], [0, 1], [0, 1, 4], [0, 1, 2, 3, 4, 5], [0, 1, 2, 3, 4, 5, 6], [0, 1, 2, 3, 4, 5, 6, 7]] [8] (by kernel_rfl) (by kernel_rfl) (fun (ix_ : Nat) (v : Value) (G : GH) => match ix_ with | 0 => v = .bool (findK k).2 | 1 => v = .bool (decide ((findK k).2 = true)) | 2 => v = undef | 3 => v = undef | 4 => v = undef | 5 => v = undef | 6 => v = undef | 7 => v = .bool (fitsS e k) | _ => True) (fun _ _ _ _ _ h => h) H ?_ ?_
  · clear H; refine (allI_cons ?_ (allI_cons ?_ (allI_cons ?_ (allI_cons ?_ (allI_cons ?_ (allI_cons ?_ (allI_cons ?_ (allI_cons ?_ (allI_cons ?_ allI_nil)))))))))
    · refine opI [] rfl trivial (by kernel_rfl) (fun _ _ _ _ _ h => h) rfl rfl ?_; intro Sd_ a w G1 hG HT H fin; refine s_move H wn rfl rfl ?_; clear H; intro a H; exact fin H (fun _ _ h => h) (rfl)
    · refine opI [(0, 12, _)] rfl ⟨fun _ _ h => h, trivial⟩ (by kernel_rfl) (fun _ _ _ _ _ h => h) rfl rfl ?_; intro Sd_ a w G1 hG HT H fin; refine s_move H wn rfl rfl ?_; clear H; intro a H; exact fin H (fun _ _ h => h) (by simp)
    · exact skipI (j := 1) (by kernel_rfl) (fun _ _ _ _ _ h => h) rfl rfl rfl rfl rfl (fun _ _ h => Eq.trans h (congrArg Value.bool (decide_eq_false c0))) rfl (fun _ => rfl)
    · intro Sd_ a w G1 _ hSi hc hG HT hv; have H := HT; clear hSi; obtain ⟨u14, hu14, hp14⟩ := hv 2 14 (hc 2 (by decide)) rfl; obtain rfl : u14 = undef := hp14; have H := H.addS hu14; obtain ⟨u13, hu13, hp13⟩ := hv 1 13 (hc 1 (by decide)) rfl; obtain rfl : u13 = .bool (decide ((findK k).2 = true)) := hp13; have H := H.addS hu13; have Hb := H.full; have H := Hb; clear hc; refine s_skip H rfl rfl (decide_eq_false c0) rfl ?_; clear H; intro a H; refine wl_nil ⟨rfl, ?_⟩; exact draw_val (by kernel_rfl) (fun _ _ _ _ _ h => h) rfl rfl HT Hb hG hv (fun _ _ h => h) (by first | exact fun _ => hp15 | rfl) H
    · exact skipI (j := 1) (by kernel_rfl) (fun _ _ _ _ _ h => h) rfl rfl rfl rfl rfl (fun _ _ h => Eq.trans h (congrArg Value.bool (decide_eq_false c0))) rfl (fun _ => rfl)
    · exact skipI (j := 1) (by kernel_rfl) (fun _ _ _ _ _ h => h) rfl rfl rfl rfl rfl (fun _ _ h => Eq.trans h (congrArg Value.bool (decide_eq_false c0))) rfl (fun _ => rfl)
    · exact skipI (j := 1) (by kernel_rfl) (fun _ _ _ _ _ h => h) rfl rfl rfl rfl rfl (fun _ _ h => Eq.trans h (congrArg Value.bool (decide_eq_false c0))) rfl (fun _ => rfl)
    · refine opI [(1, 13, _), (6, 18, _)] rfl ⟨fun _ _ h => h, fun _ _ h => h, trivial⟩ (by kernel_rfl) (fun _ _ _ _ _ h => h) rfl rfl ?_; intro Sd_ a w G1 hG HT H fin; refine s_pick_f H wn rfl (decide_eq_false c0) rfl rfl ?_; clear H; intro a H; exact fin H (fun _ _ h => h) (by unfold fitsS; simp_all)
    intro _ _ _ _ hB; exact absurd hB (by decide)
  clear H; intro a w G hGm2 H hv; obtain ⟨u19, hu19, hp19⟩ := hv 7 19 (by decide) rfl; obtain rfl : u19 = .bool (fitsS e k) := hp19; have H := H.addS hu19; clear hv; refine s_assign H wn rfl rfl ?_; clear H; intro a H; refine wl_nil ⟨rfl, ?_⟩; refine hK3 _ _ ?_; clear hK3; refine c_ret ?_; refine (leave1 H Tryz.results106 (.cons (rv_tmp H rfl) .nil) ?_).1; exact H.hp.ret rfl
/-- The error of a value of a key. -/
def chkVS (k v : Int) : Int := if (findK k).2 = false then 4 else if v < (findK k).1.low ∨ (findK k).1.high < v then 5 else 0
theorem checkValue_spec (G : GH) (w0 : World) (hG : Hold G w0) (k x : Int) : Calls Tryz.prog 107 #[vi k, vi x] w0 (Ret w0 G fun u G' => u = vi (chkVS k x)) := by
  refine enter (N := 26) (T := [(0, _), (1, _)]) (F := fun k => k < w0.heap.size) (L := []) Tryz.func107 rfl Tryz.ntmps107 rfl rfl hG (fun _ h => h) (fun _ h => by cases h) (fun _ h => by cases h) (fun _ h => by cases h) List.Pairwise.nil ?_; intro a H; refine c_seqR (fun _ hK1 => ?_); refine s_assign H wn rfl rfl ?_; clear H; intro a H; refine hK1 _ _ ?_; clear hK1; refine c_seqR (fun _ hK2 => ?_); refine s_move H wn rfl rfl ?_; clear H; intro a H; refine s_call en182prq H wn rfl (find_spec _ _ H.hp.ro k) rfl ?_; clear H; rintro v9 G9 a w rfl hm9 H; dsimp only [KeyD.cells] at H; refine s_move H wn rfl rfl ?_; clear H; intro a H; (iterate 2 refine s_extract H wn rfl rfl rfl ?_; clear H; intro a H); refine s_alloc ty279prk H wn rfl ?_; clear H; intro b5 a w hb5 H; refine s_store ty279prk 0 (vs := [_, _, _, _, _, _]) _ H wn rfl rfl rfl rfl rfl rfl rfl rfl ?_; clear H; intro w H; dsimp only [List.set, setRow] at H; refine s_assign H wn rfl rfl ?_; clear H; intro a H; refine hK2 _ _ ?_; clear hK2; refine c_seq (fun _ hK3 => ?_); refine c_block ?_; refine c_seqR (fun _ hK4 => ?_); refine s_move H wn rfl rfl ?_; clear H; intro a H; refine s_not H wn rfl rfl ?_; clear H; intro a H; refine s_assign H wn rfl rfl ?_; clear H; intro a H; refine hK4 _ _ ?_; clear hK4; refine c_cond H rfl ?_ ?_
  · intro h12
    try have p12 := of_decide_eq_true h12
    refine c_seqR (fun _ hK5 => ?_); refine s_assign H wn rfl rfl ?_; clear H; intro a H; refine hK5 _ _ ?_; clear hK5; refine c_ret ?_; refine (leave1 H Tryz.results107 (.cons (rv_tmp H rfl) .nil) ?_).1; exact H.hp.ret (by unfold chkVS; simp_all)
  intro h12
  try have p12 := of_decide_eq_false h12
  refine c_seqR (fun _ hK6 => ?_); refine s_move H wn rfl rfl ?_; clear H; intro a H; refine s_field fd279_2prq H wn rfl rfl ?_; clear H; intro a H; refine s_load ty3run H wn rfl (H.hp.ocell 0 rfl rfl) rfl ?_; clear H; intro a H; refine s_cmp H wn rfl rfl rfl rfl ?_; clear H; intro a H; refine s_move H wn rfl rfl ?_; clear H; intro a H; refine s_split H 20 rfl ?_ ?_
  · intro h20
    try have p20 := of_decide_eq_true h20
    (iterate 4 refine s_skip H rfl rfl h20 rfl ?_; clear H; intro a H); refine s_pick_t H wn rfl h20 rfl rfl ?_; clear H; intro a H; refine s_assign H wn rfl rfl ?_; clear H; intro a H; refine hK6 _ _ ?_; clear hK6; refine c_cond_t H rfl rfl ?_; refine c_seqR (fun _ hK7 => ?_); refine s_assign H wn rfl rfl ?_; clear H; intro a H; refine hK7 _ _ ?_; clear hK7; refine c_ret ?_; refine (leave1 H Tryz.results107 (.cons (rv_tmp H rfl) .nil) ?_).1; exact H.hp.ret (by unfold chkVS; simp_all)
  intro h20
  try have p20 := of_decide_eq_false h20
  refine s_move H (wg H rfl rfl h20) rfl rfl ?_; clear H; intro a H; refine s_field fd279_3prq H (wg H rfl rfl h20) rfl rfl ?_; clear H; intro a H; refine s_load ty3run H (wg H rfl rfl h20) rfl (H.hp.ocell 0 rfl rfl) rfl ?_; clear H; intro a H; refine s_cmp H (wg H rfl rfl h20) rfl rfl rfl rfl ?_; clear H; intro a H; refine s_pick_f H wn rfl h20 rfl rfl ?_; clear H; intro a H; refine s_assign H wn rfl rfl ?_; clear H; intro a H; refine hK6 _ _ ?_; clear hK6; refine c_cond H rfl ?_ ?_
  · intro h15
    try have p15 := of_decide_eq_true h15
    refine c_seqR (fun _ hK8 => ?_); refine s_assign H wn rfl rfl ?_; clear H; intro a H; refine hK8 _ _ ?_; clear hK8; refine c_ret ?_; refine (leave1 H Tryz.results107 (.cons (rv_tmp H rfl) .nil) ?_).1; exact H.hp.ret (by unfold chkVS; simp_all)
  intro h15
  try have p15 := of_decide_eq_false h15
  refine c_skip ?_; refine hK3 _ _ ?_; clear hK3; refine c_seqR (fun _ hK9 => ?_); refine s_assign H wn rfl rfl ?_; clear H; intro a H; refine hK9 _ _ ?_; clear hK9; refine c_ret ?_; refine (leave1 H Tryz.results107 (.cons (rv_tmp H rfl) .nil) ?_).1; exact H.hp.ret (by unfold chkVS; simp_all)
end
section
open Go.RowKit
theorem en106prc : ∀ args w, (callFunc 106 args).run Tryz.prog w = .ok (.enter 106 args) w := enters Tryz.func106 rfl (by kernel_rfl)
theorem fd40_1prc : Fld Tryz.prog 40 1 1 := ⟨by kernel_rfl⟩
theorem en107prc : ∀ args w, (callFunc 107 args).run Tryz.prog w = .ok (.enter 107 args) w := enters Tryz.func107 rfl (by kernel_rfl)
theorem en220prc : ∀ args w, (callFunc 220 args).run Tryz.prog w = .ok (.enter 220 args) w := enters Tryz.func220 rfl (by kernel_rfl)
theorem en185prc : ∀ args w, (callFunc 185 args).run Tryz.prog w = .ok (.enter 185 args) w := enters Tryz.func185 rfl (by kernel_rfl)
def ltB (q : Option Int) (k : Int) : Bool := match q with | some j => decide (k < j) | none => false
/-- The first error of the properties of an element behind a key. -/
def chkP (e : Int) : Option Int → List PropD → Int
  | _, [] => 0
  | q, p :: r => if fitsS e p.key = false then 4 else if q = some p.key then 7 else if ltB q p.key = true then 6 else if chkVS p.key p.value = 0 then chkP e (some p.key) r else chkVS p.key p.value
def prevP (l : List PropD) (k : Nat) : Option Int := if k = 0 then none else l[k - 1]?.map PropD.key
def chkPS (e : Int) (l : List PropD) : Int := if e < 1 ∨ 10 < e then 3 else chkP e none l
theorem chkP_at {e : Int} {l : List PropD} {k : Nat} (h : k < l.length) : chkP e (prevP l k) (l.drop k) = if fitsS e l[k].key = false then 4 else if prevP l k = some l[k].key then 7 else if ltB (prevP l k) l[k].key = true then 6 else if chkVS l[k].key l[k].value = 0 then chkP e (prevP l (k + 1)) (l.drop (k + 1)) else chkVS l[k].key l[k].value := by
  rw [List.drop_eq_getElem_cons h, chkP]
  have : prevP l (k + 1) = some l[k].key := by rw [prevP, if_neg (by omega), Nat.add_sub_cancel, List.getElem?_eq_getElem h]; rfl
  rw [this]
theorem prevP_0 {l : List PropD} {k : Nat} (h : k = 0) : prevP l k = none := if_pos h
theorem propCheck_spec (G : GH) (w0 : World) (hG : Hold G w0) (e : Int) (l : List PropD) (v : Value) (hv : RepV G (.sl 2 (l.map PropD.dat)) v) :
    Calls Tryz.prog 44 #[vi e, v] w0 (Ret w0 G fun u G' => u = vi (chkPS e l)) := by
  obtain ⟨A, c, rfl, hc1, hc2, -⟩ := hv.slice; have hml : maxLen = 9223372036854775807 := rfl; rw [List.length_map] at *; refine enter (N := 64) (T := [(0, _), (1, _)]) (F := fun k => k < w0.heap.size) (L := []) Tryz.func44 rfl Tryz.ntmps44 rfl rfl hG (fun _ h => h) (fun _ h => by cases h) (fun _ h => by cases h) (fun _ h => by cases h) List.Pairwise.nil ?_; intro a H; refine c_seqR (fun _ hK1 => ?_); refine s_assign H wn rfl rfl ?_; clear H; intro a H; refine hK1 _ _ ?_; clear hK1; refine c_seq (fun _ hK2 => ?_); refine c_seqR (fun _ hK3 => ?_); refine s_move H wn rfl rfl ?_; clear H; intro a H; refine s_cmp H wn rfl rfl rfl rfl ?_; clear H; intro a H; refine s_move H wn rfl rfl ?_; clear H; intro a H; refine s_split H 10 rfl ?_ ?_
  · intro h10
    try have p10 := of_decide_eq_true h10
    (iterate 2 refine s_skip H rfl rfl h10 rfl ?_; clear H; intro a H); refine s_pick_t H wn rfl h10 rfl rfl ?_; clear H; intro a H; refine hK3 _ _ ?_; clear hK3; refine c_cond_t H rfl rfl ?_; refine c_seqR (fun _ hK4 => ?_); refine s_assign H wn rfl rfl ?_; clear H; intro a H; refine hK4 _ _ ?_; clear hK4; refine c_ret ?_; refine (leave1 H Tryz.results44 (.cons (rv_tmp H rfl) .nil) ?_).1
    first
      | exact H.hp.ret (congrArg vi (by rw [if_neg (by simpa using p61)] at heq; rw [chkPS, if_neg (by omega)]; exact heq))
      | exact H.hp.ret (congrArg vi (by rw [if_pos (by simpa using h21)] at heq; rw [chkPS, if_neg (by omega)]; exact heq))
      | exact H.hp.ret (congrArg vi (by rw [chkPS, if_neg (by omega)]; exact heq))
      | exact H.hp.ret (congrArg vi (by rw [chkPS, if_neg (by omega), ← heq, show l.drop k = [] from List.drop_of_length_le (by omega)]; rfl))
      | exact H.hp.ret (congrArg vi (by rw [chkPS, if_pos (by omega)]))
  intro h10
  try have p10 := of_decide_eq_false h10
  refine s_move H (wg H rfl rfl h10) rfl rfl ?_; clear H; intro a H; refine s_cmp H (wg H rfl rfl h10) rfl rfl rfl rfl ?_; clear H; intro a H; refine s_pick_f H wn rfl h10 rfl rfl ?_; clear H; intro a H; refine hK3 _ _ ?_; clear hK3; refine c_cond H rfl ?_ ?_
  · intro h13
    try have p13 := of_decide_eq_true h13
    refine c_seqR (fun _ hK5 => ?_); refine s_assign H wn rfl rfl ?_; clear H; intro a H; refine hK5 _ _ ?_; clear hK5; refine c_ret ?_; refine (leave1 H Tryz.results44 (.cons (rv_tmp H rfl) .nil) ?_).1
    first
      | exact H.hp.ret (congrArg vi (by rw [if_neg (by simpa using p61)] at heq; rw [chkPS, if_neg (by omega)]; exact heq))
      | exact H.hp.ret (congrArg vi (by rw [if_pos (by simpa using h21)] at heq; rw [chkPS, if_neg (by omega)]; exact heq))
      | exact H.hp.ret (congrArg vi (by rw [chkPS, if_neg (by omega)]; exact heq))
      | exact H.hp.ret (congrArg vi (by rw [chkPS, if_neg (by omega), ← heq, show l.drop k = [] from List.drop_of_length_le (by omega)]; rfl))
      | exact H.hp.ret (congrArg vi (by rw [chkPS, if_pos (by omega)]))
  intro h13
  try have p13 := of_decide_eq_false h13
  refine c_skip ?_; refine hK2 _ _ ?_; clear hK2; refine c_seq (fun _ hK6 => ?_); refine c_seqR (fun _ hK7 => ?_); refine s_move H wn rfl rfl ?_; clear H; intro a H; refine s_len un25run H wn rfl rfl ?_; clear H; intro a H; refine s_move H wn rfl rfl ?_; clear H; intro a H; refine hK7 _ _ ?_; clear hK7; refine c_block ?_; skip; refine c_loopS (ι := Nat × GH) (Tc := [(0, _), (1, _), (14, _), (15, _)]) (Lc := []) (fun (gh : Nat × GH) => [(16, vi gh.1)]) (fun (gh : Nat × GH) => []) (fun (gh : Nat × GH) => gh.2) (fun (gh : Nat × GH) => gh.1 ≤ l.length ∧ chkP e (prevP l gh.1) (l.drop gh.1) = chkP e none l ∧ (∀ b o, G b = some o → gh.2 b = some o)) (fun (gh : Nat × GH) => l.length - gh.1) ((0, G)) (by exact (H).sub ⟨rfl, rfl, rfl, rfl, rfl, trivial⟩) ?_ ?_
  · exact ⟨Nat.zero_le _, rfl, fun _ _ h => h⟩
  clear H; intro gh a w hI H; obtain ⟨k, g⟩ := gh; dsimp only at hI H; obtain ⟨hk, heq, hgm⟩ := hI; dsimp only [List.cons_append, List.nil_append, List.append_nil] at H; refine c_seqR (fun _ hK8 => ?_); refine s_cmp H wn rfl rfl rfl rfl ?_; clear H; intro a H; refine hK8 _ _ ?_; clear hK8; refine c_seq (fun _ hK9 => ?_); refine c_cond H rfl ?_ ?_
  · intro h17
    try have p17 := of_decide_eq_true h17
    have hk2 : k < l.length := by omega
    have hvg := hv.mono hgm; obtain ⟨b, o, rfl, hrow⟩ := prop_at hvg hk2
    obtain ⟨pk, hpk⟩ : ∃ pk, 0 < k → gcell g b (o + (k - 1) * 2 + 0) = some (vi pk) ∧ prevP l k = some pk := by
      by_cases h0 : 0 < k
      · obtain ⟨b', o', he, hr'⟩ := prop_at hvg (show k - 1 < l.length by omega)
        injection he with he
        injection he with e1 e2 e3
        subst e1; subst e2; exact ⟨_, fun _ => ⟨hr' 0 _ rfl, by rw [prevP, if_neg (by omega), List.getElem?_eq_getElem (by omega)]; rfl⟩⟩
      exact ⟨0, fun h => absurd h h0⟩
    rw [chkP_at hk2] at heq; have heq0 := heq; refine c_skip ?_; refine hK9 _ _ ?_; clear hK9; refine c_seq (fun _ hK10 => ?_); refine c_block ?_; refine c_seqR (fun _ hK11 => ?_); refine s_move H wn rfl rfl ?_; clear H; intro a H; refine s_index un25run ty40run _ H wn rfl rfl rfl (by first | assumption | omega) rfl ?_; clear H; intro a H; refine s_loada ty40run (cs := [_, _]) H wn rfl rfl (fun j v hj => H.hp.gcell (hrow j v hj)) rfl ?_; clear H; intro a H; refine s_alloc ty40run H wn rfl ?_; clear H; intro b6 a w hb6 H; refine s_assign H wn rfl rfl ?_; clear H; intro a H; refine s_store ty40run 0 (vs := [_, _]) _ H wn rfl rfl rfl rfl rfl rfl rfl rfl ?_; clear H; intro w H; dsimp only [List.set, setRow] at H; refine hK11 _ _ ?_; clear hK11; refine c_seqJ (ι := GH) (Tc := [(0, _), (1, _), (6, _), (14, _), (15, _), (16, _)]) (Lc := [(_, _)]) (fun (gh : GH) => []) (fun (gh : GH) => []) (fun (gh : GH) => gh) (fun (gh : GH) => (if chkVS l[k].key l[k].value = 0 then chkP e (prevP l (k + 1)) (l.drop (k + 1)) else chkVS l[k].key l[k].value) = chkP e none l ∧ (∀ b o, g b = some o → gh b = some o)) (by exact (H).sub ⟨rfl, rfl, rfl, rfl, rfl, rfl, trivial⟩) ?_ ?_
    · skip; refine c_block ?_; refine c_seqR (fun _ hK12 => ?_); refine s_move H wn rfl rfl ?_; clear H; intro a H; refine s_field fd40_0prp H wn rfl rfl ?_; clear H; intro a H; refine s_load ty3run H wn rfl (H.hp.ocell 0 rfl rfl) rfl ?_; clear H; intro a H; refine s_call en106prc H wn rfl (fits_spec _ _ H.hp.ro e l[k].key) rfl ?_; clear H; rintro v25 G25 a w rfl hm25 H; replace hrow := fun j u hj => gcell_mono hm25 (hrow j u hj); refine s_not H wn rfl rfl ?_; clear H; intro a H; refine s_assign H wn rfl rfl ?_; clear H; intro a H; refine hK12 _ _ ?_; clear hK12; refine c_cond H rfl ?_ ?_
      · intro h21
        try have p21 := of_decide_eq_true h21
        refine c_seqR (fun _ hK13 => ?_); refine s_assign H wn rfl rfl ?_; clear H; intro a H; refine hK13 _ _ ?_; clear hK13; refine c_ret ?_; refine (leave1 H Tryz.results44 (.cons (rv_tmp H rfl) .nil) ?_).1
        first
          | exact H.hp.ret (congrArg vi (by rw [if_neg (by simpa using p61)] at heq; rw [chkPS, if_neg (by omega)]; exact heq))
          | exact H.hp.ret (congrArg vi (by rw [if_pos (by simpa using h21)] at heq; rw [chkPS, if_neg (by omega)]; exact heq))
          | exact H.hp.ret (congrArg vi (by rw [chkPS, if_neg (by omega)]; exact heq))
          | exact H.hp.ret (congrArg vi (by rw [chkPS, if_neg (by omega), ← heq, show l.drop k = [] from List.drop_of_length_le (by omega)]; rfl))
          | exact H.hp.ret (congrArg vi (by rw [chkPS, if_pos (by omega)]))
      intro h21
      try have p21 := of_decide_eq_false h21
      rw [if_neg (by simpa using h21)] at heq; refine c_seq (fun _ hK14 => ?_)
      by_cases c0 : 0 < (k : Int)
      · skip
        by_cases c1 : l[k].key = pk
        · skip; refine c_drawI (hmx) [[], [0], [0, 1], [0, 1, 2], [0, 1, 2, 3], [0, 1, 2], [0, 1, 2], [0, 1, 2, 6], [0, 1, 2, 5, 6, 7], [0, 1, 2, 5, 6, 7, 8], [0, 1, 2, 5, 6, 7, 8, 9], [0, 1, 2, 3, 4, 5, 6, 7, 8, 9, 10], [0, 1, 2, 3, 4, 5, 6, 7, 8, 9, 10, 11], [0, 1, 2, 3, 4, 5, 6, 7, 8, 9, 10, 11, 12]] [13] (by kernel_rfl) (by kernel_rfl) (fun (ix_ : Nat) (v : Value) (G : GH) => match ix_ with | 0 => v = vi k | 1 => v = .bool (decide (0 < (k : Int))) | 2 => v = .bool (decide (0 < (k : Int))) | 3 => v = .pointer (some ⟨b6, 0, none⟩) | 4 => v = vi l[k].key | 5 => v = .slice (some ⟨b, o, none⟩) l.length c | 6 => v = vi k | 7 => v = vi ((k - 1 : Nat) : Int) | 8 => v = .pointer (some ⟨b, o + (k - 1) * 2, none⟩) | 9 => v = .pointer (some ⟨b, o + (k - 1) * 2 + 0, none⟩) | 10 => v = vi pk | 11 => v = .bool (decide (l[k].key = pk)) | 12 => v = .bool (decide (l[k].key = pk)) | _ => True) (fun _ _ _ _ _ h => h) H ?_ ?_
          · clear H; refine (allI_cons ?_ (allI_cons ?_ (allI_cons ?_ (allI_cons ?_ (allI_cons ?_ (allI_cons ?_ (allI_cons ?_ (allI_cons ?_ (allI_cons ?_ (allI_cons ?_ (allI_cons ?_ (allI_cons ?_ (allI_cons ?_ (allI_cons ?_ allI_nil))))))))))))))
            · refine opI [] rfl trivial (by kernel_rfl) (fun _ _ _ _ _ h => h) rfl rfl ?_; intro Sd_ a w G1 hG HT H fin; refine s_move H wn rfl rfl ?_; clear H; intro a H; exact fin H (fun _ _ h => h) (rfl)
            · refine opI [(0, 28, _)] rfl ⟨fun _ _ h => h, trivial⟩ (by kernel_rfl) (fun _ _ _ _ _ h => h) rfl rfl ?_; intro Sd_ a w G1 hG HT H fin; refine s_cmp H wn rfl rfl rfl rfl ?_; clear H; intro a H; exact fin H (fun _ _ h => h) (rfl)
            · refine opI [(1, 29, _)] rfl ⟨fun _ _ h => h, trivial⟩ (by kernel_rfl) (fun _ _ _ _ _ h => h) rfl rfl ?_; intro Sd_ a w G1 hG HT H fin; refine s_move H wn rfl rfl ?_; clear H; intro a H; exact fin H (fun _ _ h => h) (rfl)
            · refine opI [(2, 30, _)] rfl ⟨fun _ _ h => h, trivial⟩ (by kernel_rfl) (fun _ _ _ _ _ h => h) rfl rfl ?_; intro Sd_ a w G1 hG HT H fin; refine s_field fd40_0prp H (wg H rfl rfl (decide_eq_true c0)) rfl rfl ?_; clear H; intro a H; exact fin H (fun _ _ h => h) (rfl)
            · refine opI [(3, 31, _), (2, 30, _)] rfl ⟨fun _ _ h => h, fun _ _ h => h, trivial⟩ (by kernel_rfl) (fun _ _ _ _ _ h => h) rfl rfl ?_; intro Sd_ a w G1 hG HT H fin; refine s_load ty3run H (wg H rfl rfl (decide_eq_true c0)) rfl (H.hp.ocell 0 rfl rfl) rfl ?_; clear H; intro a H; exact fin H (fun _ _ h => h) (rfl)
            · refine opI [(2, 30, _)] rfl ⟨fun _ _ h => h, trivial⟩ (by kernel_rfl) (fun _ _ _ _ _ h => h) rfl rfl ?_; intro Sd_ a w G1 hG HT H fin; refine s_move H (wg H rfl rfl (decide_eq_true c0)) rfl rfl ?_; clear H; intro a H; exact fin H (fun _ _ h => h) (rfl)
            · refine opI [(2, 30, _)] rfl ⟨fun _ _ h => h, trivial⟩ (by kernel_rfl) (fun _ _ _ _ _ h => h) rfl rfl ?_; intro Sd_ a w G1 hG HT H fin; refine s_move H (wg H rfl rfl (decide_eq_true c0)) rfl rfl ?_; clear H; intro a H; exact fin H (fun _ _ h => h) (rfl)
            · refine opI [(6, 34, _), (2, 30, _)] rfl ⟨fun _ _ h => h, fun _ _ h => h, trivial⟩ (by kernel_rfl) (fun _ _ _ _ _ h => h) rfl rfl ?_; intro Sd_ a w G1 hG HT H fin; refine s_sub _ H (wg H rfl rfl (decide_eq_true c0)) rfl rfl rfl (by omega) (by omega) rfl ?_; clear H; intro a H; exact fin H (fun _ _ h => h) (by first | rfl | exact congrArg vi (by omega))
            · refine opI [(5, 33, _), (7, 35, _), (2, 30, _)] rfl ⟨fun _ _ h => h, fun _ _ h => h, fun _ _ h => h, trivial⟩ (by kernel_rfl) (fun _ _ _ _ _ h => h) rfl rfl ?_; intro Sd_ a w G1 hG HT H fin; refine s_index un25run ty40run _ H (wg H rfl rfl (decide_eq_true c0)) rfl rfl rfl (by first | assumption | omega) rfl ?_; clear H; intro a H; exact fin H (fun _ _ h => h) (rfl)
            · refine opI [(8, 36, _), (2, 30, _)] rfl ⟨fun _ _ h => h, fun _ _ h => h, trivial⟩ (by kernel_rfl) (fun _ _ _ _ _ h => h) rfl rfl ?_; intro Sd_ a w G1 hG HT H fin; refine s_field fd40_0prp H (wg H rfl rfl (decide_eq_true c0)) rfl rfl ?_; clear H; intro a H; exact fin H (fun _ _ h => h) (rfl)
            · refine opI [(9, 37, _), (2, 30, _)] rfl ⟨fun _ _ h => h, fun _ _ h => h, trivial⟩ (by kernel_rfl) (fun _ _ _ _ _ h => h) rfl rfl ?_; intro Sd_ a w G1 hG HT H fin; refine s_load ty3run H (wg H rfl rfl (decide_eq_true c0)) rfl (H.hp.gcell (gcell_mono hG (gcell_mono hm25 (hpk (by omega)).1))) rfl ?_; clear H; intro a H; exact fin H (fun _ _ h => h) (rfl)
            · refine opI [(4, 32, _), (10, 38, _), (2, 30, _)] rfl ⟨fun _ _ h => h, fun _ _ h => h, fun _ _ h => h, trivial⟩ (by kernel_rfl) (fun _ _ _ _ _ h => h) rfl rfl ?_; intro Sd_ a w G1 hG HT H fin; refine s_cmp H (wg H rfl rfl (decide_eq_true c0)) rfl rfl rfl rfl ?_; clear H; intro a H; exact fin H (fun _ _ h => h) (rfl)
            · refine opI [(2, 30, _), (11, 39, _)] rfl ⟨fun _ _ h => h, fun _ _ h => h, trivial⟩ (by kernel_rfl) (fun _ _ _ _ _ h => h) rfl rfl ?_; intro Sd_ a w G1 hG HT H fin; refine s_pick_t H wn rfl (decide_eq_true c0) rfl rfl ?_; clear H; intro a H; exact fin H (fun _ _ h => h) (rfl)
            intro _ _ _ _ hB; exact absurd hB (by decide)
          clear H; intro a w G hGm8 H hv; obtain ⟨u40, hu40, hp40⟩ := hv 12 40 (by decide) rfl; obtain rfl : u40 = .bool (decide (l[k].key = pk)) := hp40; have H := H.addS hu40; clear hv; refine s_assign H wn rfl rfl ?_; clear H; intro a H; refine wl_nil ⟨rfl, ?_⟩; refine hK14 _ _ ?_; clear hK14; refine c_cond_t H rfl (decide_eq_true c1) ?_; refine c_seq (fun _ hK15 => ?_); rw [if_pos (by rw [(hpk (by omega)).2, c1])] at heq; refine c_region ?_; refine s_assign H wn rfl rfl ?_; clear H; intro a H; refine wl_nil ?_; refine hK15 _ _ ?_; clear hK15; refine c_ret ?_; refine (leave1 H Tryz.results44 (.cons (rv_tmp H rfl) .nil) ?_).1
          first
            | exact H.hp.ret (congrArg vi (by rw [if_neg (by simpa using p61)] at heq; rw [chkPS, if_neg (by omega)]; exact heq))
            | exact H.hp.ret (congrArg vi (by rw [if_pos (by simpa using h21)] at heq; rw [chkPS, if_neg (by omega)]; exact heq))
            | exact H.hp.ret (congrArg vi (by rw [chkPS, if_neg (by omega)]; exact heq))
            | exact H.hp.ret (congrArg vi (by rw [chkPS, if_neg (by omega), ← heq, show l.drop k = [] from List.drop_of_length_le (by omega)]; rfl))
            | exact H.hp.ret (congrArg vi (by rw [chkPS, if_pos (by omega)]))
        skip; refine c_drawI (hmx) [[], [0], [0, 1], [0, 1, 2], [0, 1, 2, 3], [0, 1, 2], [0, 1, 2], [0, 1, 2, 6], [0, 1, 2, 5, 6, 7], [0, 1, 2, 5, 6, 7, 8], [0, 1, 2, 5, 6, 7, 8, 9], [0, 1, 2, 3, 4, 5, 6, 7, 8, 9, 10], [0, 1, 2, 3, 4, 5, 6, 7, 8, 9, 10, 11], [0, 1, 2, 3, 4, 5, 6, 7, 8, 9, 10, 11, 12]] [13] (by kernel_rfl) (by kernel_rfl) (fun (ix_ : Nat) (v : Value) (G : GH) => match ix_ with | 0 => v = vi k | 1 => v = .bool (decide (0 < (k : Int))) | 2 => v = .bool (decide (0 < (k : Int))) | 3 => v = .pointer (some ⟨b6, 0, none⟩) | 4 => v = vi l[k].key | 5 => v = .slice (some ⟨b, o, none⟩) l.length c | 6 => v = vi k | 7 => v = vi ((k - 1 : Nat) : Int) | 8 => v = .pointer (some ⟨b, o + (k - 1) * 2, none⟩) | 9 => v = .pointer (some ⟨b, o + (k - 1) * 2 + 0, none⟩) | 10 => v = vi pk | 11 => v = .bool (decide (l[k].key = pk)) | 12 => v = .bool (decide (l[k].key = pk)) | _ => True) (fun _ _ _ _ _ h => h) H ?_ ?_
        · clear H; refine (allI_cons ?_ (allI_cons ?_ (allI_cons ?_ (allI_cons ?_ (allI_cons ?_ (allI_cons ?_ (allI_cons ?_ (allI_cons ?_ (allI_cons ?_ (allI_cons ?_ (allI_cons ?_ (allI_cons ?_ (allI_cons ?_ (allI_cons ?_ allI_nil))))))))))))))
          · refine opI [] rfl trivial (by kernel_rfl) (fun _ _ _ _ _ h => h) rfl rfl ?_; intro Sd_ a w G1 hG HT H fin; refine s_move H wn rfl rfl ?_; clear H; intro a H; exact fin H (fun _ _ h => h) (rfl)
          · refine opI [(0, 28, _)] rfl ⟨fun _ _ h => h, trivial⟩ (by kernel_rfl) (fun _ _ _ _ _ h => h) rfl rfl ?_; intro Sd_ a w G1 hG HT H fin; refine s_cmp H wn rfl rfl rfl rfl ?_; clear H; intro a H; exact fin H (fun _ _ h => h) (rfl)
          · refine opI [(1, 29, _)] rfl ⟨fun _ _ h => h, trivial⟩ (by kernel_rfl) (fun _ _ _ _ _ h => h) rfl rfl ?_; intro Sd_ a w G1 hG HT H fin; refine s_move H wn rfl rfl ?_; clear H; intro a H; exact fin H (fun _ _ h => h) (rfl)
          · refine opI [(2, 30, _)] rfl ⟨fun _ _ h => h, trivial⟩ (by kernel_rfl) (fun _ _ _ _ _ h => h) rfl rfl ?_; intro Sd_ a w G1 hG HT H fin; refine s_field fd40_0prp H (wg H rfl rfl (decide_eq_true c0)) rfl rfl ?_; clear H; intro a H; exact fin H (fun _ _ h => h) (rfl)
          · refine opI [(3, 31, _), (2, 30, _)] rfl ⟨fun _ _ h => h, fun _ _ h => h, trivial⟩ (by kernel_rfl) (fun _ _ _ _ _ h => h) rfl rfl ?_; intro Sd_ a w G1 hG HT H fin; refine s_load ty3run H (wg H rfl rfl (decide_eq_true c0)) rfl (H.hp.ocell 0 rfl rfl) rfl ?_; clear H; intro a H; exact fin H (fun _ _ h => h) (rfl)
          · refine opI [(2, 30, _)] rfl ⟨fun _ _ h => h, trivial⟩ (by kernel_rfl) (fun _ _ _ _ _ h => h) rfl rfl ?_; intro Sd_ a w G1 hG HT H fin; refine s_move H (wg H rfl rfl (decide_eq_true c0)) rfl rfl ?_; clear H; intro a H; exact fin H (fun _ _ h => h) (rfl)
          · refine opI [(2, 30, _)] rfl ⟨fun _ _ h => h, trivial⟩ (by kernel_rfl) (fun _ _ _ _ _ h => h) rfl rfl ?_; intro Sd_ a w G1 hG HT H fin; refine s_move H (wg H rfl rfl (decide_eq_true c0)) rfl rfl ?_; clear H; intro a H; exact fin H (fun _ _ h => h) (rfl)
          · refine opI [(6, 34, _), (2, 30, _)] rfl ⟨fun _ _ h => h, fun _ _ h => h, trivial⟩ (by kernel_rfl) (fun _ _ _ _ _ h => h) rfl rfl ?_; intro Sd_ a w G1 hG HT H fin; refine s_sub _ H (wg H rfl rfl (decide_eq_true c0)) rfl rfl rfl (by omega) (by omega) rfl ?_; clear H; intro a H; exact fin H (fun _ _ h => h) (by first | rfl | exact congrArg vi (by omega))
          · refine opI [(5, 33, _), (7, 35, _), (2, 30, _)] rfl ⟨fun _ _ h => h, fun _ _ h => h, fun _ _ h => h, trivial⟩ (by kernel_rfl) (fun _ _ _ _ _ h => h) rfl rfl ?_; intro Sd_ a w G1 hG HT H fin; refine s_index un25run ty40run _ H (wg H rfl rfl (decide_eq_true c0)) rfl rfl rfl (by first | assumption | omega) rfl ?_; clear H; intro a H; exact fin H (fun _ _ h => h) (rfl)
          · refine opI [(8, 36, _), (2, 30, _)] rfl ⟨fun _ _ h => h, fun _ _ h => h, trivial⟩ (by kernel_rfl) (fun _ _ _ _ _ h => h) rfl rfl ?_; intro Sd_ a w G1 hG HT H fin; refine s_field fd40_0prp H (wg H rfl rfl (decide_eq_true c0)) rfl rfl ?_; clear H; intro a H; exact fin H (fun _ _ h => h) (rfl)
          · refine opI [(9, 37, _), (2, 30, _)] rfl ⟨fun _ _ h => h, fun _ _ h => h, trivial⟩ (by kernel_rfl) (fun _ _ _ _ _ h => h) rfl rfl ?_; intro Sd_ a w G1 hG HT H fin; refine s_load ty3run H (wg H rfl rfl (decide_eq_true c0)) rfl (H.hp.gcell (gcell_mono hG (gcell_mono hm25 (hpk (by omega)).1))) rfl ?_; clear H; intro a H; exact fin H (fun _ _ h => h) (rfl)
          · refine opI [(4, 32, _), (10, 38, _), (2, 30, _)] rfl ⟨fun _ _ h => h, fun _ _ h => h, fun _ _ h => h, trivial⟩ (by kernel_rfl) (fun _ _ _ _ _ h => h) rfl rfl ?_; intro Sd_ a w G1 hG HT H fin; refine s_cmp H (wg H rfl rfl (decide_eq_true c0)) rfl rfl rfl rfl ?_; clear H; intro a H; exact fin H (fun _ _ h => h) (rfl)
          · refine opI [(2, 30, _), (11, 39, _)] rfl ⟨fun _ _ h => h, fun _ _ h => h, trivial⟩ (by kernel_rfl) (fun _ _ _ _ _ h => h) rfl rfl ?_; intro Sd_ a w G1 hG HT H fin; refine s_pick_t H wn rfl (decide_eq_true c0) rfl rfl ?_; clear H; intro a H; exact fin H (fun _ _ h => h) (rfl)
          intro _ _ _ _ hB; exact absurd hB (by decide)
        clear H; intro a w G hGm8 H hv; obtain ⟨u40, hu40, hp40⟩ := hv 12 40 (by decide) rfl; obtain rfl : u40 = .bool (decide (l[k].key = pk)) := hp40; have H := H.addS hu40; clear hv; refine s_assign H wn rfl rfl ?_; clear H; intro a H; refine wl_nil ⟨rfl, ?_⟩; refine hK14 _ _ ?_; clear hK14; refine c_cond_f H rfl (decide_eq_false c1) ?_; refine c_seq (fun _ hK16 => ?_)
        have q1 : ¬ (0 < (k : Int) ∧ l[k].key = pk) := by first | exact fun h => c1 h.2 | exact fun h => c0 h.1
        rw [if_neg (fun h => q1 (by
          by_cases h0 : 0 < k
          · rw [(hpk h0).2] at h
            injection h with h
            exact ⟨by omega, h.symm⟩
          rw [prevP_0 (by omega)] at h
          cases h))] at heq
        by_cases c3 : l[k].key < pk
        · skip; refine c_drawI (hmx) [[], [0], [0, 1], [0, 1, 2], [0, 1, 2, 3], [0, 1, 2], [0, 1, 2], [0, 1, 2, 6], [0, 1, 2, 5, 6, 7], [0, 1, 2, 5, 6, 7, 8], [0, 1, 2, 5, 6, 7, 8, 9], [0, 1, 2, 3, 4, 5, 6, 7, 8, 9, 10], [0, 1, 2, 3, 4, 5, 6, 7, 8, 9, 10, 11], [0, 1, 2, 3, 4, 5, 6, 7, 8, 9, 10, 11, 12]] [13] (by kernel_rfl) (by kernel_rfl) (fun (ix_ : Nat) (v : Value) (G : GH) => match ix_ with | 0 => v = vi k | 1 => v = .bool (decide (0 < (k : Int))) | 2 => v = .bool (decide (0 < (k : Int))) | 3 => v = .pointer (some ⟨b6, 0, none⟩) | 4 => v = vi l[k].key | 5 => v = .slice (some ⟨b, o, none⟩) l.length c | 6 => v = vi k | 7 => v = vi ((k - 1 : Nat) : Int) | 8 => v = .pointer (some ⟨b, o + (k - 1) * 2, none⟩) | 9 => v = .pointer (some ⟨b, o + (k - 1) * 2 + 0, none⟩) | 10 => v = vi pk | 11 => v = .bool (decide (l[k].key < pk)) | 12 => v = .bool (decide (l[k].key < pk)) | _ => True) (fun _ _ _ _ _ h => h) H ?_ ?_
          · clear H; refine (allI_cons ?_ (allI_cons ?_ (allI_cons ?_ (allI_cons ?_ (allI_cons ?_ (allI_cons ?_ (allI_cons ?_ (allI_cons ?_ (allI_cons ?_ (allI_cons ?_ (allI_cons ?_ (allI_cons ?_ (allI_cons ?_ (allI_cons ?_ allI_nil))))))))))))))
            · refine opI [] rfl trivial (by kernel_rfl) (fun _ _ _ _ _ h => h) rfl rfl ?_; intro Sd_ a w G1 hG HT H fin; refine s_move H wn rfl rfl ?_; clear H; intro a H; exact fin H (fun _ _ h => h) (rfl)
            · refine opI [(0, 42, _)] rfl ⟨fun _ _ h => h, trivial⟩ (by kernel_rfl) (fun _ _ _ _ _ h => h) rfl rfl ?_; intro Sd_ a w G1 hG HT H fin; refine s_cmp H wn rfl rfl rfl rfl ?_; clear H; intro a H; exact fin H (fun _ _ h => h) (rfl)
            · refine opI [(1, 43, _)] rfl ⟨fun _ _ h => h, trivial⟩ (by kernel_rfl) (fun _ _ _ _ _ h => h) rfl rfl ?_; intro Sd_ a w G1 hG HT H fin; refine s_move H wn rfl rfl ?_; clear H; intro a H; exact fin H (fun _ _ h => h) (rfl)
            · refine opI [(2, 44, _)] rfl ⟨fun _ _ h => h, trivial⟩ (by kernel_rfl) (fun _ _ _ _ _ h => h) rfl rfl ?_; intro Sd_ a w G1 hG HT H fin; refine s_field fd40_0prp H (wg H rfl rfl (decide_eq_true c0)) rfl rfl ?_; clear H; intro a H; exact fin H (fun _ _ h => h) (rfl)
            · refine opI [(3, 45, _), (2, 44, _)] rfl ⟨fun _ _ h => h, fun _ _ h => h, trivial⟩ (by kernel_rfl) (fun _ _ _ _ _ h => h) rfl rfl ?_; intro Sd_ a w G1 hG HT H fin; refine s_load ty3run H (wg H rfl rfl (decide_eq_true c0)) rfl (H.hp.ocell 0 rfl rfl) rfl ?_; clear H; intro a H; exact fin H (fun _ _ h => h) (rfl)
            · refine opI [(2, 44, _)] rfl ⟨fun _ _ h => h, trivial⟩ (by kernel_rfl) (fun _ _ _ _ _ h => h) rfl rfl ?_; intro Sd_ a w G1 hG HT H fin; refine s_move H (wg H rfl rfl (decide_eq_true c0)) rfl rfl ?_; clear H; intro a H; exact fin H (fun _ _ h => h) (rfl)
            · refine opI [(2, 44, _)] rfl ⟨fun _ _ h => h, trivial⟩ (by kernel_rfl) (fun _ _ _ _ _ h => h) rfl rfl ?_; intro Sd_ a w G1 hG HT H fin; refine s_move H (wg H rfl rfl (decide_eq_true c0)) rfl rfl ?_; clear H; intro a H; exact fin H (fun _ _ h => h) (rfl)
            · refine opI [(6, 48, _), (2, 44, _)] rfl ⟨fun _ _ h => h, fun _ _ h => h, trivial⟩ (by kernel_rfl) (fun _ _ _ _ _ h => h) rfl rfl ?_; intro Sd_ a w G1 hG HT H fin; refine s_sub _ H (wg H rfl rfl (decide_eq_true c0)) rfl rfl rfl (by omega) (by omega) rfl ?_; clear H; intro a H; exact fin H (fun _ _ h => h) (by first | rfl | exact congrArg vi (by omega))
            · refine opI [(5, 47, _), (7, 49, _), (2, 44, _)] rfl ⟨fun _ _ h => h, fun _ _ h => h, fun _ _ h => h, trivial⟩ (by kernel_rfl) (fun _ _ _ _ _ h => h) rfl rfl ?_; intro Sd_ a w G1 hG HT H fin; refine s_index un25run ty40run _ H (wg H rfl rfl (decide_eq_true c0)) rfl rfl rfl (by first | assumption | omega) rfl ?_; clear H; intro a H; exact fin H (fun _ _ h => h) (rfl)
            · refine opI [(8, 50, _), (2, 44, _)] rfl ⟨fun _ _ h => h, fun _ _ h => h, trivial⟩ (by kernel_rfl) (fun _ _ _ _ _ h => h) rfl rfl ?_; intro Sd_ a w G1 hG HT H fin; refine s_field fd40_0prp H (wg H rfl rfl (decide_eq_true c0)) rfl rfl ?_; clear H; intro a H; exact fin H (fun _ _ h => h) (rfl)
            · refine opI [(9, 51, _), (2, 44, _)] rfl ⟨fun _ _ h => h, fun _ _ h => h, trivial⟩ (by kernel_rfl) (fun _ _ _ _ _ h => h) rfl rfl ?_; intro Sd_ a w G1 hG HT H fin; refine s_load ty3run H (wg H rfl rfl (decide_eq_true c0)) rfl (H.hp.gcell (gcell_mono hG (gcell_mono hGm8 (gcell_mono hm25 (hpk (by omega)).1)))) rfl ?_; clear H; intro a H; exact fin H (fun _ _ h => h) (rfl)
            · refine opI [(4, 46, _), (10, 52, _), (2, 44, _)] rfl ⟨fun _ _ h => h, fun _ _ h => h, fun _ _ h => h, trivial⟩ (by kernel_rfl) (fun _ _ _ _ _ h => h) rfl rfl ?_; intro Sd_ a w G1 hG HT H fin; refine s_cmp H (wg H rfl rfl (decide_eq_true c0)) rfl rfl rfl rfl ?_; clear H; intro a H; exact fin H (fun _ _ h => h) (rfl)
            · refine opI [(2, 44, _), (11, 53, _)] rfl ⟨fun _ _ h => h, fun _ _ h => h, trivial⟩ (by kernel_rfl) (fun _ _ _ _ _ h => h) rfl rfl ?_; intro Sd_ a w G1 hG HT H fin; refine s_pick_t H wn rfl (decide_eq_true c0) rfl rfl ?_; clear H; intro a H; exact fin H (fun _ _ h => h) (rfl)
            intro _ _ _ _ hB; exact absurd hB (by decide)
          clear H; intro a w G hGm10 H hv; obtain ⟨u54, hu54, hp54⟩ := hv 12 54 (by decide) rfl; obtain rfl : u54 = .bool (decide (l[k].key < pk)) := hp54; have H := H.addS hu54; clear hv; refine s_assign H wn rfl rfl ?_; clear H; intro a H; refine wl_nil ⟨rfl, ?_⟩; refine hK16 _ _ ?_; clear hK16; refine c_cond_t H rfl (decide_eq_true c3) ?_; refine c_seq (fun _ hK17 => ?_); rw [if_pos (by rw [(hpk (by omega)).2]; exact decide_eq_true c3)] at heq; refine c_region ?_; refine s_assign H wn rfl rfl ?_; clear H; intro a H; refine wl_nil ?_; refine hK17 _ _ ?_; clear hK17; refine c_ret ?_; refine (leave1 H Tryz.results44 (.cons (rv_tmp H rfl) .nil) ?_).1
          first
            | exact H.hp.ret (congrArg vi (by rw [if_neg (by simpa using p61)] at heq; rw [chkPS, if_neg (by omega)]; exact heq))
            | exact H.hp.ret (congrArg vi (by rw [if_pos (by simpa using h21)] at heq; rw [chkPS, if_neg (by omega)]; exact heq))
            | exact H.hp.ret (congrArg vi (by rw [chkPS, if_neg (by omega)]; exact heq))
            | exact H.hp.ret (congrArg vi (by rw [chkPS, if_neg (by omega), ← heq, show l.drop k = [] from List.drop_of_length_le (by omega)]; rfl))
            | exact H.hp.ret (congrArg vi (by rw [chkPS, if_pos (by omega)]))
        skip; refine c_drawI (hmx) [[], [0], [0, 1], [0, 1, 2], [0, 1, 2, 3], [0, 1, 2], [0, 1, 2], [0, 1, 2, 6], [0, 1, 2, 5, 6, 7], [0, 1, 2, 5, 6, 7, 8], [0, 1, 2, 5, 6, 7, 8, 9], [0, 1, 2, 3, 4, 5, 6, 7, 8, 9, 10], [0, 1, 2, 3, 4, 5, 6, 7, 8, 9, 10, 11], [0, 1, 2, 3, 4, 5, 6, 7, 8, 9, 10, 11, 12]] [13] (by kernel_rfl) (by kernel_rfl) (fun (ix_ : Nat) (v : Value) (G : GH) => match ix_ with | 0 => v = vi k | 1 => v = .bool (decide (0 < (k : Int))) | 2 => v = .bool (decide (0 < (k : Int))) | 3 => v = .pointer (some ⟨b6, 0, none⟩) | 4 => v = vi l[k].key | 5 => v = .slice (some ⟨b, o, none⟩) l.length c | 6 => v = vi k | 7 => v = vi ((k - 1 : Nat) : Int) | 8 => v = .pointer (some ⟨b, o + (k - 1) * 2, none⟩) | 9 => v = .pointer (some ⟨b, o + (k - 1) * 2 + 0, none⟩) | 10 => v = vi pk | 11 => v = .bool (decide (l[k].key < pk)) | 12 => v = .bool (decide (l[k].key < pk)) | _ => True) (fun _ _ _ _ _ h => h) H ?_ ?_
        · clear H; refine (allI_cons ?_ (allI_cons ?_ (allI_cons ?_ (allI_cons ?_ (allI_cons ?_ (allI_cons ?_ (allI_cons ?_ (allI_cons ?_ (allI_cons ?_ (allI_cons ?_ (allI_cons ?_ (allI_cons ?_ (allI_cons ?_ (allI_cons ?_ allI_nil))))))))))))))
          · refine opI [] rfl trivial (by kernel_rfl) (fun _ _ _ _ _ h => h) rfl rfl ?_; intro Sd_ a w G1 hG HT H fin; refine s_move H wn rfl rfl ?_; clear H; intro a H; exact fin H (fun _ _ h => h) (rfl)
          · refine opI [(0, 42, _)] rfl ⟨fun _ _ h => h, trivial⟩ (by kernel_rfl) (fun _ _ _ _ _ h => h) rfl rfl ?_; intro Sd_ a w G1 hG HT H fin; refine s_cmp H wn rfl rfl rfl rfl ?_; clear H; intro a H; exact fin H (fun _ _ h => h) (rfl)
          · refine opI [(1, 43, _)] rfl ⟨fun _ _ h => h, trivial⟩ (by kernel_rfl) (fun _ _ _ _ _ h => h) rfl rfl ?_; intro Sd_ a w G1 hG HT H fin; refine s_move H wn rfl rfl ?_; clear H; intro a H; exact fin H (fun _ _ h => h) (rfl)
          · refine opI [(2, 44, _)] rfl ⟨fun _ _ h => h, trivial⟩ (by kernel_rfl) (fun _ _ _ _ _ h => h) rfl rfl ?_; intro Sd_ a w G1 hG HT H fin; refine s_field fd40_0prp H (wg H rfl rfl (decide_eq_true c0)) rfl rfl ?_; clear H; intro a H; exact fin H (fun _ _ h => h) (rfl)
          · refine opI [(3, 45, _), (2, 44, _)] rfl ⟨fun _ _ h => h, fun _ _ h => h, trivial⟩ (by kernel_rfl) (fun _ _ _ _ _ h => h) rfl rfl ?_; intro Sd_ a w G1 hG HT H fin; refine s_load ty3run H (wg H rfl rfl (decide_eq_true c0)) rfl (H.hp.ocell 0 rfl rfl) rfl ?_; clear H; intro a H; exact fin H (fun _ _ h => h) (rfl)
          · refine opI [(2, 44, _)] rfl ⟨fun _ _ h => h, trivial⟩ (by kernel_rfl) (fun _ _ _ _ _ h => h) rfl rfl ?_; intro Sd_ a w G1 hG HT H fin; refine s_move H (wg H rfl rfl (decide_eq_true c0)) rfl rfl ?_; clear H; intro a H; exact fin H (fun _ _ h => h) (rfl)
          · refine opI [(2, 44, _)] rfl ⟨fun _ _ h => h, trivial⟩ (by kernel_rfl) (fun _ _ _ _ _ h => h) rfl rfl ?_; intro Sd_ a w G1 hG HT H fin; refine s_move H (wg H rfl rfl (decide_eq_true c0)) rfl rfl ?_; clear H; intro a H; exact fin H (fun _ _ h => h) (rfl)
          · refine opI [(6, 48, _), (2, 44, _)] rfl ⟨fun _ _ h => h, fun _ _ h => h, trivial⟩ (by kernel_rfl) (fun _ _ _ _ _ h => h) rfl rfl ?_; intro Sd_ a w G1 hG HT H fin; refine s_sub _ H (wg H rfl rfl (decide_eq_true c0)) rfl rfl rfl (by omega) (by omega) rfl ?_; clear H; intro a H; exact fin H (fun _ _ h => h) (by first | rfl | exact congrArg vi (by omega))
          · refine opI [(5, 47, _), (7, 49, _), (2, 44, _)] rfl ⟨fun _ _ h => h, fun _ _ h => h, fun _ _ h => h, trivial⟩ (by kernel_rfl) (fun _ _ _ _ _ h => h) rfl rfl ?_; intro Sd_ a w G1 hG HT H fin; refine s_index un25run ty40run _ H (wg H rfl rfl (decide_eq_true c0)) rfl rfl rfl (by first | assumption | omega) rfl ?_; clear H; intro a H; exact fin H (fun _ _ h => h) (rfl)
          · refine opI [(8, 50, _), (2, 44, _)] rfl ⟨fun _ _ h => h, fun _ _ h => h, trivial⟩ (by kernel_rfl) (fun _ _ _ _ _ h => h) rfl rfl ?_; intro Sd_ a w G1 hG HT H fin; refine s_field fd40_0prp H (wg H rfl rfl (decide_eq_true c0)) rfl rfl ?_; clear H; intro a H; exact fin H (fun _ _ h => h) (rfl)
          · refine opI [(9, 51, _), (2, 44, _)] rfl ⟨fun _ _ h => h, fun _ _ h => h, trivial⟩ (by kernel_rfl) (fun _ _ _ _ _ h => h) rfl rfl ?_; intro Sd_ a w G1 hG HT H fin; refine s_load ty3run H (wg H rfl rfl (decide_eq_true c0)) rfl (H.hp.gcell (gcell_mono hG (gcell_mono hGm8 (gcell_mono hm25 (hpk (by omega)).1)))) rfl ?_; clear H; intro a H; exact fin H (fun _ _ h => h) (rfl)
          · refine opI [(4, 46, _), (10, 52, _), (2, 44, _)] rfl ⟨fun _ _ h => h, fun _ _ h => h, fun _ _ h => h, trivial⟩ (by kernel_rfl) (fun _ _ _ _ _ h => h) rfl rfl ?_; intro Sd_ a w G1 hG HT H fin; refine s_cmp H (wg H rfl rfl (decide_eq_true c0)) rfl rfl rfl rfl ?_; clear H; intro a H; exact fin H (fun _ _ h => h) (rfl)
          · refine opI [(2, 44, _), (11, 53, _)] rfl ⟨fun _ _ h => h, fun _ _ h => h, trivial⟩ (by kernel_rfl) (fun _ _ _ _ _ h => h) rfl rfl ?_; intro Sd_ a w G1 hG HT H fin; refine s_pick_t H wn rfl (decide_eq_true c0) rfl rfl ?_; clear H; intro a H; exact fin H (fun _ _ h => h) (rfl)
          intro _ _ _ _ hB; exact absurd hB (by decide)
        clear H; intro a w G hGm10 H hv; obtain ⟨u54, hu54, hp54⟩ := hv 12 54 (by decide) rfl; obtain rfl : u54 = .bool (decide (l[k].key < pk)) := hp54; have H := H.addS hu54; clear hv; refine s_assign H wn rfl rfl ?_; clear H; intro a H; refine wl_nil ⟨rfl, ?_⟩; refine hK16 _ _ ?_; clear hK16; refine c_cond_f H rfl (decide_eq_false c3) ?_; refine c_skip ?_; refine ⟨_, by exact (H).sub ⟨rfl, rfl, rfl, rfl, rfl, rfl, trivial⟩, ?_⟩
        have q2 : ¬ (0 < (k : Int) ∧ l[k].key < pk) := by first | exact fun h => c3 h.2 | exact fun h => c0 h.1
        rw [if_neg (fun h => q2 (by
          by_cases h0 : 0 < k
          · rw [(hpk h0).2] at h; exact ⟨by omega, of_decide_eq_true h⟩
          rw [prevP_0 (by omega)] at h
          cases h))] at heq
        exact ⟨heq, fun b o h => hGm10 b o (hGm8 b o (hm25 b o h))⟩
      skip; refine c_drawI (hmx) [[], [0], [0, 1], [0, 1, 2], [0, 1, 2, 3], [0, 1, 2], [0, 1, 2], [0, 1, 2, 6], [0, 1, 2, 5, 6, 7], [0, 1, 2, 5, 6, 7, 8], [0, 1, 2, 5, 6, 7, 8, 9], [0, 1, 2, 3, 4, 5, 6, 7, 8, 9, 10], [0, 1, 2, 3, 4, 5, 6, 7, 8, 9, 10, 11], [0, 1, 2, 3, 4, 5, 6, 7, 8, 9, 10, 11, 12]] [13] (by kernel_rfl) (by kernel_rfl) (fun (ix_ : Nat) (v : Value) (G : GH) => match ix_ with | 0 => v = vi k | 1 => v = .bool (decide (0 < (k : Int))) | 2 => v = .bool (decide (0 < (k : Int))) | 3 => v = undef | 4 => v = undef | 5 => v = undef | 6 => v = undef | 7 => v = undef | 8 => v = undef | 9 => v = undef | 10 => v = undef | 11 => v = undef | 12 => v = .bool false | _ => True) (fun _ _ _ _ _ h => h) H ?_ ?_
      · clear H; refine (allI_cons ?_ (allI_cons ?_ (allI_cons ?_ (allI_cons ?_ (allI_cons ?_ (allI_cons ?_ (allI_cons ?_ (allI_cons ?_ (allI_cons ?_ (allI_cons ?_ (allI_cons ?_ (allI_cons ?_ (allI_cons ?_ (allI_cons ?_ allI_nil))))))))))))))
        · refine opI [] rfl trivial (by kernel_rfl) (fun _ _ _ _ _ h => h) rfl rfl ?_; intro Sd_ a w G1 hG HT H fin; refine s_move H wn rfl rfl ?_; clear H; intro a H; exact fin H (fun _ _ h => h) (rfl)
        · refine opI [(0, 28, _)] rfl ⟨fun _ _ h => h, trivial⟩ (by kernel_rfl) (fun _ _ _ _ _ h => h) rfl rfl ?_; intro Sd_ a w G1 hG HT H fin; refine s_cmp H wn rfl rfl rfl rfl ?_; clear H; intro a H; exact fin H (fun _ _ h => h) (rfl)
        · refine opI [(1, 29, _)] rfl ⟨fun _ _ h => h, trivial⟩ (by kernel_rfl) (fun _ _ _ _ _ h => h) rfl rfl ?_; intro Sd_ a w G1 hG HT H fin; refine s_move H wn rfl rfl ?_; clear H; intro a H; exact fin H (fun _ _ h => h) (rfl)
        · exact skipI (j := 2) (by kernel_rfl) (fun _ _ _ _ _ h => h) rfl rfl rfl rfl rfl (fun _ _ h => Eq.trans h (congrArg Value.bool (decide_eq_false c0))) rfl (fun _ => rfl)
        · exact skipI (j := 2) (by kernel_rfl) (fun _ _ _ _ _ h => h) rfl rfl rfl rfl rfl (fun _ _ h => Eq.trans h (congrArg Value.bool (decide_eq_false c0))) rfl (fun _ => rfl)
        · exact skipI (j := 2) (by kernel_rfl) (fun _ _ _ _ _ h => h) rfl rfl rfl rfl rfl (fun _ _ h => Eq.trans h (congrArg Value.bool (decide_eq_false c0))) rfl (fun _ => rfl)
        · exact skipI (j := 2) (by kernel_rfl) (fun _ _ _ _ _ h => h) rfl rfl rfl rfl rfl (fun _ _ h => Eq.trans h (congrArg Value.bool (decide_eq_false c0))) rfl (fun _ => rfl)
        · exact skipI (j := 2) (by kernel_rfl) (fun _ _ _ _ _ h => h) rfl rfl rfl rfl rfl (fun _ _ h => Eq.trans h (congrArg Value.bool (decide_eq_false c0))) rfl (fun _ => rfl)
        · exact skipI (j := 2) (by kernel_rfl) (fun _ _ _ _ _ h => h) rfl rfl rfl rfl rfl (fun _ _ h => Eq.trans h (congrArg Value.bool (decide_eq_false c0))) rfl (fun _ => rfl)
        · exact skipI (j := 2) (by kernel_rfl) (fun _ _ _ _ _ h => h) rfl rfl rfl rfl rfl (fun _ _ h => Eq.trans h (congrArg Value.bool (decide_eq_false c0))) rfl (fun _ => rfl)
        · exact skipI (j := 2) (by kernel_rfl) (fun _ _ _ _ _ h => h) rfl rfl rfl rfl rfl (fun _ _ h => Eq.trans h (congrArg Value.bool (decide_eq_false c0))) rfl (fun _ => rfl)
        · exact skipI (j := 2) (by kernel_rfl) (fun _ _ _ _ _ h => h) rfl rfl rfl rfl rfl (fun _ _ h => Eq.trans h (congrArg Value.bool (decide_eq_false c0))) rfl (fun _ => rfl)
        · refine opI [(2, 30, _), (11, 39, _)] rfl ⟨fun _ _ h => h, fun _ _ h => h, trivial⟩ (by kernel_rfl) (fun _ _ _ _ _ h => h) rfl rfl ?_; intro Sd_ a w G1 hG HT H fin; refine s_pick_f H wn rfl (decide_eq_false c0) rfl rfl ?_; clear H; intro a H; exact fin H (fun _ _ h => h) (rfl)
        intro _ _ _ _ hB; exact absurd hB (by decide)
      clear H; intro a w G hGm8 H hv; obtain ⟨u40, hu40, hp40⟩ := hv 12 40 (by decide) rfl; obtain rfl : u40 = .bool false := hp40; have H := H.addS hu40; clear hv; refine s_assign H wn rfl rfl ?_; clear H; intro a H; refine wl_nil ⟨rfl, ?_⟩; refine hK14 _ _ ?_; clear hK14; refine c_cond_f H rfl rfl ?_; refine c_seq (fun _ hK18 => ?_)
      have q1 : ¬ (0 < (k : Int) ∧ l[k].key = pk) := by first | exact fun h => c1 h.2 | exact fun h => c0 h.1
      rw [if_neg (fun h => q1 (by
        by_cases h0 : 0 < k
        · rw [(hpk h0).2] at h
          injection h with h
          exact ⟨by omega, h.symm⟩
        rw [prevP_0 (by omega)] at h
        cases h))] at heq
      refine c_drawI (hmx) [[], [0], [0, 1], [0, 1, 2], [0, 1, 2, 3], [0, 1, 2], [0, 1, 2], [0, 1, 2, 6], [0, 1, 2, 5, 6, 7], [0, 1, 2, 5, 6, 7, 8], [0, 1, 2, 5, 6, 7, 8, 9], [0, 1, 2, 3, 4, 5, 6, 7, 8, 9, 10], [0, 1, 2, 3, 4, 5, 6, 7, 8, 9, 10, 11], [0, 1, 2, 3, 4, 5, 6, 7, 8, 9, 10, 11, 12]] [13] (by kernel_rfl) (by kernel_rfl) (fun (ix_ : Nat) (v : Value) (G : GH) => match ix_ with | 0 => v = vi k | 1 => v = .bool (decide (0 < (k : Int))) | 2 => v = .bool (decide (0 < (k : Int))) | 3 => v = undef | 4 => v = undef | 5 => v = undef | 6 => v = undef | 7 => v = undef | 8 => v = undef | 9 => v = undef | 10 => v = undef | 11 => v = undef | 12 => v = .bool false | _ => True) (fun _ _ _ _ _ h => h) H ?_ ?_
      · clear H; refine (allI_cons ?_ (allI_cons ?_ (allI_cons ?_ (allI_cons ?_ (allI_cons ?_ (allI_cons ?_ (allI_cons ?_ (allI_cons ?_ (allI_cons ?_ (allI_cons ?_ (allI_cons ?_ (allI_cons ?_ (allI_cons ?_ (allI_cons ?_ allI_nil))))))))))))))
        · refine opI [] rfl trivial (by kernel_rfl) (fun _ _ _ _ _ h => h) rfl rfl ?_; intro Sd_ a w G1 hG HT H fin; refine s_move H wn rfl rfl ?_; clear H; intro a H; exact fin H (fun _ _ h => h) (rfl)
        · refine opI [(0, 42, _)] rfl ⟨fun _ _ h => h, trivial⟩ (by kernel_rfl) (fun _ _ _ _ _ h => h) rfl rfl ?_; intro Sd_ a w G1 hG HT H fin; refine s_cmp H wn rfl rfl rfl rfl ?_; clear H; intro a H; exact fin H (fun _ _ h => h) (rfl)
        · refine opI [(1, 43, _)] rfl ⟨fun _ _ h => h, trivial⟩ (by kernel_rfl) (fun _ _ _ _ _ h => h) rfl rfl ?_; intro Sd_ a w G1 hG HT H fin; refine s_move H wn rfl rfl ?_; clear H; intro a H; exact fin H (fun _ _ h => h) (rfl)
        · exact skipI (j := 2) (by kernel_rfl) (fun _ _ _ _ _ h => h) rfl rfl rfl rfl rfl (fun _ _ h => Eq.trans h (congrArg Value.bool (decide_eq_false c0))) rfl (fun _ => rfl)
        · exact skipI (j := 2) (by kernel_rfl) (fun _ _ _ _ _ h => h) rfl rfl rfl rfl rfl (fun _ _ h => Eq.trans h (congrArg Value.bool (decide_eq_false c0))) rfl (fun _ => rfl)
        · exact skipI (j := 2) (by kernel_rfl) (fun _ _ _ _ _ h => h) rfl rfl rfl rfl rfl (fun _ _ h => Eq.trans h (congrArg Value.bool (decide_eq_false c0))) rfl (fun _ => rfl)
        · exact skipI (j := 2) (by kernel_rfl) (fun _ _ _ _ _ h => h) rfl rfl rfl rfl rfl (fun _ _ h => Eq.trans h (congrArg Value.bool (decide_eq_false c0))) rfl (fun _ => rfl)
        · exact skipI (j := 2) (by kernel_rfl) (fun _ _ _ _ _ h => h) rfl rfl rfl rfl rfl (fun _ _ h => Eq.trans h (congrArg Value.bool (decide_eq_false c0))) rfl (fun _ => rfl)
        · exact skipI (j := 2) (by kernel_rfl) (fun _ _ _ _ _ h => h) rfl rfl rfl rfl rfl (fun _ _ h => Eq.trans h (congrArg Value.bool (decide_eq_false c0))) rfl (fun _ => rfl)
        · exact skipI (j := 2) (by kernel_rfl) (fun _ _ _ _ _ h => h) rfl rfl rfl rfl rfl (fun _ _ h => Eq.trans h (congrArg Value.bool (decide_eq_false c0))) rfl (fun _ => rfl)
        · exact skipI (j := 2) (by kernel_rfl) (fun _ _ _ _ _ h => h) rfl rfl rfl rfl rfl (fun _ _ h => Eq.trans h (congrArg Value.bool (decide_eq_false c0))) rfl (fun _ => rfl)
        · exact skipI (j := 2) (by kernel_rfl) (fun _ _ _ _ _ h => h) rfl rfl rfl rfl rfl (fun _ _ h => Eq.trans h (congrArg Value.bool (decide_eq_false c0))) rfl (fun _ => rfl)
        · refine opI [(2, 44, _), (11, 53, _)] rfl ⟨fun _ _ h => h, fun _ _ h => h, trivial⟩ (by kernel_rfl) (fun _ _ _ _ _ h => h) rfl rfl ?_; intro Sd_ a w G1 hG HT H fin; refine s_pick_f H wn rfl (decide_eq_false c0) rfl rfl ?_; clear H; intro a H; exact fin H (fun _ _ h => h) (rfl)
        intro _ _ _ _ hB; exact absurd hB (by decide)
      clear H; intro a w G hGm10 H hv; obtain ⟨u54, hu54, hp54⟩ := hv 12 54 (by decide) rfl; obtain rfl : u54 = .bool false := hp54; have H := H.addS hu54; clear hv; refine s_assign H wn rfl rfl ?_; clear H; intro a H; refine wl_nil ⟨rfl, ?_⟩; refine hK18 _ _ ?_; clear hK18; refine c_cond_f H rfl rfl ?_; refine c_skip ?_; refine ⟨_, by exact (H).sub ⟨rfl, rfl, rfl, rfl, rfl, rfl, trivial⟩, ?_⟩
      have q2 : ¬ (0 < (k : Int) ∧ l[k].key < pk) := by first | exact fun h => c3 h.2 | exact fun h => c0 h.1
      rw [if_neg (fun h => q2 (by
        by_cases h0 : 0 < k
        · rw [(hpk h0).2] at h; exact ⟨by omega, of_decide_eq_true h⟩
        rw [prevP_0 (by omega)] at h
        cases h))] at heq
      exact ⟨heq, fun b o h => hGm10 b o (hGm8 b o (hm25 b o h))⟩
    clear H; intro gh a w hI H; obtain ⟨g2, hgh⟩ : ∃ x, x = gh := ⟨_, rfl⟩; subst hgh; obtain ⟨heq, hgm2⟩ := hI; replace hrow := fun j u hj => gcell_mono hgm2 (hrow j u hj); dsimp only [List.cons_append, List.nil_append, List.append_nil] at H; refine c_seqR (fun _ hK19 => ?_); refine s_field fd40_0prp H wn rfl rfl ?_; clear H; intro a H; refine s_load ty3run H wn rfl (H.hp.ocell 0 rfl rfl) rfl ?_; clear H; intro a H; refine s_field fd40_1prc H wn rfl rfl ?_; clear H; intro a H; refine s_load ty3run H wn rfl (H.hp.ocell 0 rfl rfl) rfl ?_; clear H; intro a H; refine s_call en107prc H wn rfl (checkValue_spec _ _ H.hp.ro l[k].key l[k].value) rfl ?_; clear H; rintro v59 G59 a w rfl hm59 H; refine s_assign H wn rfl rfl ?_; clear H; intro a H; refine hK19 _ _ ?_; clear hK19; refine c_seqR (fun _ hK20 => ?_); refine s_move H wn rfl rfl ?_; clear H; intro a H; refine s_cmp H wn rfl rfl rfl rfl ?_; clear H; intro a H; refine hK20 _ _ ?_; clear hK20; refine c_cond H rfl ?_ ?_
    · intro h61
      try have p61 := of_decide_eq_true h61
      refine c_seqR (fun _ hK21 => ?_); refine s_move H wn rfl rfl ?_; clear H; intro a H; refine s_assign H wn rfl rfl ?_; clear H; intro a H; refine hK21 _ _ ?_; clear hK21; refine c_ret ?_; refine (leave1 H Tryz.results44 (.cons (rv_tmp H rfl) .nil) ?_).1
      first
        | exact H.hp.ret (congrArg vi (by rw [if_neg (by simpa using p61)] at heq; rw [chkPS, if_neg (by omega)]; exact heq))
        | exact H.hp.ret (congrArg vi (by rw [if_pos (by simpa using h21)] at heq; rw [chkPS, if_neg (by omega)]; exact heq))
        | exact H.hp.ret (congrArg vi (by rw [chkPS, if_neg (by omega)]; exact heq))
        | exact H.hp.ret (congrArg vi (by rw [chkPS, if_neg (by omega), ← heq, show l.drop k = [] from List.drop_of_length_le (by omega)]; rfl))
        | exact H.hp.ret (congrArg vi (by rw [chkPS, if_pos (by omega)]))
    intro h61
    try have p61 := of_decide_eq_false h61
    refine c_skip ?_; refine hK10 _ _ ?_; clear hK10; refine c_region ?_; refine s_add _ H wn rfl rfl rfl (by omega) (by omega) rfl ?_; clear H; intro a H; refine s_move H wn rfl rfl ?_; clear H; intro a H; refine wl_nil ?_; refine loop_end ((k + 1, G59)) (by exact (H.pickT (Pl := [_]) (Pl' := []) [] (by decide) rfl).sub ⟨rfl, rfl, rfl, rfl, rfl, trivial⟩) ?_ ?_
    · (try dsimp only); exact ⟨by omega, by rw [if_pos (by simpa using p61)] at heq; exact heq, fun b o h => hm59 b o (hgm2 b o (hgm b o h))⟩
    first | omega | (dsimp only; omega)
  intro h17
  try have p17 := of_decide_eq_false h17
  refine c_exit ?_; refine hK6 _ _ ?_; clear hK6; refine c_seqR (fun _ hK22 => ?_); refine s_assign H wn rfl rfl ?_; clear H; intro a H; refine hK22 _ _ ?_; clear hK22; refine c_ret ?_; refine (leave1 H Tryz.results44 (.cons (rv_tmp H rfl) .nil) ?_).1
  first
    | exact H.hp.ret (congrArg vi (by rw [if_neg (by simpa using p61)] at heq; rw [chkPS, if_neg (by omega)]; exact heq))
    | exact H.hp.ret (congrArg vi (by rw [if_pos (by simpa using h21)] at heq; rw [chkPS, if_neg (by omega)]; exact heq))
    | exact H.hp.ret (congrArg vi (by rw [chkPS, if_neg (by omega)]; exact heq))
    | exact H.hp.ret (congrArg vi (by rw [chkPS, if_neg (by omega), ← heq, show l.drop k = [] from List.drop_of_length_le (by omega)]; rfl))
    | exact H.hp.ret (congrArg vi (by rw [chkPS, if_pos (by omega)]))
/-- The value of a key that is set, and whether it is. -/
def getK (l : List PropD) (k : Int) : Int × Bool := if hasK (l.map PropD.key) k = true then ((l.getD (bsK (l.map PropD.key) k) ⟨0, 0⟩).value, true) else (0, false)
theorem search_spec (G : GH) (w0 : World) (hG : Hold G w0) (l : List PropD) (t : Int) (v : Value) (hv : RepV G (.sl 2 (l.map PropD.dat)) v) (hl : l.length ≤ 4294967296) :
    Calls Tryz.prog 185 #[v, vi t] w0 (Ret w0 G fun u G' => u = .tuple #[vi (bsK (l.map PropD.key) t), .bool (hasK (l.map PropD.key) t)]) := by
  obtain ⟨A, c, rfl, hc1, hc2, -⟩ := hv.slice; rw [List.length_map] at *; refine enter (N := 11) (T := [(0, _), (1, _)]) (F := fun k => k < w0.heap.size) (L := []) Tryz.func185 rfl Tryz.ntmps185 rfl rfl hG (fun _ h => h) (fun _ h => by cases h) (fun _ h => by cases h) (fun _ h => by cases h) List.Pairwise.nil ?_; intro a H; refine c_seqR (fun _ hK1 => ?_); (iterate 2 refine s_assign H wn rfl rfl ?_; clear H; intro a H); refine hK1 _ _ ?_; clear hK1; refine c_seqR (fun _ hK2 => ?_); (iterate 2 refine s_move H wn rfl rfl ?_; clear H; intro a H); refine s_call en220prc H wn rfl (bsprop_spec _ _ H.hp.ro l t _ hv hl) rfl ?_; clear H; rintro v8 G8 a w rfl hm8 H; (iterate 2 refine s_extract H wn rfl rfl rfl ?_; clear H; intro a H); (iterate 2 refine s_assign H wn rfl rfl ?_; clear H; intro a H); refine hK2 _ _ ?_; clear hK2; refine c_ret ?_; refine (leaveT H Tryz.results185 (.cons (rv_tmp H rfl) (.cons (rv_tmp H rfl) .nil)) ?_).1; exact H.hp.ret rfl
theorem get_spec (G : GH) (w0 : World) (hG : Hold G w0) (l : List PropD) (t : Int) (v : Value) (hv : RepV G (.sl 2 (l.map PropD.dat)) v) (hl : l.length ≤ 4294967296) :
    Calls Tryz.prog 108 #[v, vi t] w0 (Ret w0 G fun u G' => u = .tuple #[vi (getK l t).1, .bool (getK l t).2]) := by
  obtain ⟨A, c, rfl, hc1, hc2, -⟩ := hv.slice; rw [List.length_map] at *; refine enter (N := 21) (T := [(0, _), (1, _)]) (F := fun k => k < w0.heap.size) (L := []) Tryz.func108 rfl Tryz.ntmps108 rfl rfl hG (fun _ h => h) (fun _ h => by cases h) (fun _ h => by cases h) (fun _ h => by cases h) List.Pairwise.nil ?_; intro a H; refine c_seqR (fun _ hK1 => ?_); (iterate 2 refine s_assign H wn rfl rfl ?_; clear H; intro a H); refine hK1 _ _ ?_; clear hK1; refine c_seqR (fun _ hK2 => ?_); (iterate 2 refine s_move H wn rfl rfl ?_; clear H; intro a H); refine s_call en185prc H wn rfl (search_spec _ _ H.hp.ro l t _ hv hl) rfl ?_; clear H; rintro v11 G11 a w rfl hm11 H; obtain ⟨n, hn⟩ : ∃ n, n = bsK (l.map PropD.key) t := ⟨_, rfl⟩; obtain ⟨q, hq⟩ : ∃ q, q = hasK (l.map PropD.key) t := ⟨_, rfl⟩; rw [← hn, ← hq] at H; refine s_move H wn rfl rfl ?_; clear H; intro a H; (iterate 2 refine s_extract H wn rfl rfl rfl ?_; clear H; intro a H); (iterate 2 refine s_assign H wn rfl rfl ?_; clear H; intro a H); refine hK2 _ _ ?_; clear hK2; refine c_seq (fun _ hK3 => ?_); refine c_seqR (fun _ hK4 => ?_); refine s_move H wn rfl rfl ?_; clear H; intro a H; refine s_not H wn rfl rfl ?_; clear H; intro a H; refine hK4 _ _ ?_; clear hK4; refine c_cond H rfl ?_ ?_
  · intro h15
    try have p15 := of_decide_eq_true h15
    refine c_seqR (fun _ hK5 => ?_); (iterate 2 refine s_assign H wn rfl rfl ?_; clear H; intro a H); refine hK5 _ _ ?_; clear hK5; refine c_ret ?_; refine (leaveT H Tryz.results108 (.cons (rv_tmp H rfl) (.cons (rv_tmp H rfl) .nil)) ?_).1; exact H.hp.ret (by rw [getK, if_neg (by rw [← hq]; simpa using h15)])
  intro h15
  try have p15 := of_decide_eq_false h15
  have hlt : n < l.length := by have := hasK_lt (ks := l.map PropD.key) (t := t) (by rw [← hq]; simpa using h15); rw [← hn] at this; simpa using this
  obtain ⟨b, o, rfl, hrow⟩ := prop_at (hv.mono hm11) hlt; have r1 : gcell G11 b (o + n * 2 + 1) = some (vi l[n].value) := hrow 1 _ rfl; refine c_skip ?_; refine hK3 _ _ ?_; clear hK3; refine c_seqR (fun _ hK6 => ?_); (iterate 2 refine s_move H wn rfl rfl ?_; clear H; intro a H); refine s_index un25run ty40run _ H wn rfl rfl rfl (by first | assumption | omega) rfl ?_; clear H; intro a H; refine s_field fd40_1prc H wn rfl rfl ?_; clear H; intro a H; refine s_load ty3run H wn rfl (H.hp.gcell (by assumption)) rfl ?_; clear H; intro a H; (iterate 2 refine s_assign H wn rfl rfl ?_; clear H; intro a H); refine hK6 _ _ ?_; clear hK6; refine c_ret ?_; refine (leaveT H Tryz.results108 (.cons (rv_tmp H rfl) (.cons (rv_tmp H rfl) .nil)) ?_).1; exact H.hp.ret (by rw [getK, if_pos (by rw [← hq]; simpa using h15), ← hn, List.getD_eq_getElem?_getD, List.getElem?_eq_getElem hlt]; rfl)
end
section
open Go.RowKit
section
variable {N : Nat} {D : List Deferred} {w0 : World} {F : Nat → Prop} {G0 G : GH} {L : OL} {T : List (Nat × Value)}
variable {r : Option Nat} {P : Program} {ops : Array Oper} {Q : Exit → Act → World → Prop} {rest : List Oper} {a : Act} {w : World}
variable {d : Nat} {ty : TypeId} {pos : String} {aft : Array Edge} {g : Option (Nat × Bool)}
theorem s_neqnilp {t u te : TypeId} (hs : P.underlying t = some (.pointer te)) {x : Operand} {p : Option Addr} (H : St N D w0 F G0 G L T a w) (hw : Region.wanted ⟨some d, .binOp .neq t x (.const (.pointer none)) u, ty, pos, aft, g⟩ (yielded ops a.tmps) = true) (hx : ev T x = some (.pointer p)) (hd : Nat.blt d N = true)
    (k : ∀ a', St N D w0 F G0 G L ((d, .bool (!p.isNone)) :: T) a' w → WL r P ops Q rest a' w) : WL r P ops Q (⟨some d, .binOp .neq t x (.const (.pointer none)) u, ty, pos, aft, g⟩ :: rest) a w := by
  refine wl_value (v := .bool (!p.isNone)) (w' := w) hw rfl ?_ (k _ (H.put hd _ H.hp))
  have h1 : (Op.equal t (.pointer p) (.pointer none)).run P w = .ok p.isNone w := by
    show (Op.equalIn (9999 + 1) t (.pointer p) (.pointer none)).run P w = _
    rw [Op.equalIn.eq_2, Sem.run_bind, run_und hs]
    cases p <;> simp
  have h2 : (do eqGuard .neq t x (.const (.pointer none)) (.pointer p) (.pointer none); binOp .neq t (.pointer p) (.pointer none) : Sem Value).run P w = .ok (.bool (!p.isNone)) w := by
    have e : (do eqGuard .neq t x (.const (.pointer none)) (.pointer p) (.pointer none); binOp .neq t (.pointer p) (.pointer none) : Sem Value) = (do pure (.bool (!(← Op.equal t (.pointer p) (.pointer none)))) : Sem Value) := rfl
    rw [e, Sem.run_bind, h1]; rfl
  have e0 : execOp a.eval ⟨some d, .binOp .neq t x (.const (.pointer none)) u, ty, pos, aft, g⟩ = (do pure (.value (← (do eqGuard .neq t x (.const (.pointer none)) (.pointer p) (.pointer none); binOp .neq t (.pointer p) (.pointer none) : Sem Value))) : Sem Next) := by
    simp only [execOp, H.ev hx]; rfl
  rw [e0, Sem.run_bind, h2]
  rfl
end
end
end Go.Proofs.YtlnhhlighgaapaaGreat
