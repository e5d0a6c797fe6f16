/-
  Packages run and paragraph: check, Slice, parts.
-/
import Derived.Test.YtbfdhlakbdadhaaNrm
import Derived.Test.YtbfdhlakbdadhaaL14e
namespace Go.Proofs.Ytbfdhlakbdadhaa
open Go.RowKit
theorem en11sl : ∀ args w, (callFunc 11 args).run Try.prog w = .ok (.enter 11 args) w := enters Try.func11 rfl (by kernel_rfl)
theorem en76sl : ∀ args w, (callFunc 76 args).run Try.prog w = .ok (.enter 76 args) w := enters Try.func76 rfl (by kernel_rfl)
theorem en77sl : ∀ args w, (callFunc 77 args).run Try.prog w = .ok (.enter 77 args) w := enters Try.func77 rfl (by kernel_rfl)
theorem en78sl : ∀ args w, (callFunc 78 args).run Try.prog w = .ok (.enter 78 args) w := enters Try.func78 rfl (by kernel_rfl)
theorem ty37sl : Ty Try.prog 37 4 32 [.int .i64 0, .int .i64 0, .int .i64 0, .bool false] true := ⟨by kernel_rfl, by kernel_rfl⟩
theorem un33sl : Try.prog.underlying 33 = some (.slice 37) := by kernel_rfl
theorem eqs37sl : EqS Try.prog 37 [(0, false), (1, false), (2, false), (3, true)] := ⟨by kernel_rfl, by kernel_rfl, by kernel_rfl, by kernel_rfl, by kernel_rfl⟩
theorem en75sl : ∀ args w, (callFunc 75 args).run Try.prog w = .ok (.enter 75 args) w := enters Try.func75 rfl (by kernel_rfl)
theorem en12sl : ∀ args w, (callFunc 12 args).run Try.prog w = .ok (.enter 12 args) w := enters Try.func12 rfl (by kernel_rfl)
theorem en58sl : ∀ args w, (callFunc 58 args).run Try.prog w = .ok (.enter 58 args) w := enters Try.func58 rfl (by kernel_rfl)
theorem fd37_2sl : Fld Try.prog 37 2 2 := ⟨by kernel_rfl⟩
theorem ty3sl : Ty Try.prog 3 1 8 [.int .i64 0] false := ⟨by kernel_rfl, by kernel_rfl⟩
theorem fd37_3sl : Fld Try.prog 37 3 3 := ⟨by kernel_rfl⟩
theorem ty4sl : Ty Try.prog 4 1 1 [.bool false] false := ⟨by kernel_rfl, by kernel_rfl⟩
theorem fd37_1sl : Fld Try.prog 37 1 1 := ⟨by kernel_rfl⟩
theorem en59sl : ∀ args w, (callFunc 59 args).run Try.prog w = .ok (.enter 59 args) w := enters Try.func59 rfl (by kernel_rfl)
/-- The error of a range of units. -/
def rngS (l : List ItemD) (fr to : Int) : Int := if lenE l = 0 then (if fr < 0 ∨ to < fr ∨ lenS l < to then 2 else 0) else lenE l
theorem check_run (G : GH) (w0 : World) (hG : Hold G w0) (l : List ItemD) (fr to : Int) (v : Value) (hv : RepV G (.sl 11 (l.map ItemD.dat)) v) (hz : zItems l ≤ 4294967296) :
    Calls Try.prog 76 #[v, vi fr, vi to] w0 (Ret w0 G fun u G' => u = vi (rngS l fr to)) := by
  refine enter (N := 31) (T := [(0, _), (1, _), (2, _)]) (F := fun k => k < w0.heap.size) (L := []) Try.func76 rfl Try.ntmps76 rfl rfl hG (fun _ h => h) (fun _ h => by cases h) (fun _ h => by cases h) (fun _ h => by cases h) List.Pairwise.nil ?_
  intro a H
  refine c_seq (fun _ hK1 => ?_)
  refine c_region ?_
  refine s_assign H wn rfl rfl ?_; clear H; intro a H
  refine wl_nil ?_
  refine hK1 _ _ ?_; clear hK1
  refine c_seq (fun _ hK2 => ?_)
  refine c_region ?_
  refine s_move H wn rfl rfl ?_; clear H; intro a H
  refine s_call en11sl H wn rfl (len_spec _ _ H.hp.ro l v hv hz) rfl ?_; clear H
  rintro v11 _ a w ⟨rfl, rfl⟩ - H
  refine s_move H wn rfl rfl ?_; clear H; intro a H
  refine s_extract H wn rfl rfl rfl ?_; clear H; intro a H
  refine s_extract H wn rfl rfl rfl ?_; clear H; intro a H
  refine s_assign H wn rfl rfl ?_; clear H; intro a H
  refine s_assign H wn rfl rfl ?_; clear H; intro a H
  refine wl_nil ?_
  refine hK2 _ _ ?_; clear hK2
  refine c_seq (fun _ hK3 => ?_)
  refine c_block ?_
  refine c_seq (fun _ hK4 => ?_)
  refine c_region ?_
  refine s_move H wn rfl rfl ?_; clear H; intro a H
  refine s_cmp H wn rfl rfl rfl rfl ?_; clear H; intro a H
  refine s_assign H wn rfl rfl ?_; clear H; intro a H
  refine wl_nil ?_
  refine hK4 _ _ ?_; clear hK4
  refine c_cond H rfl ?_ ?_
  · intro h14
    try have p14 := of_decide_eq_true h14
    refine c_seq (fun _ hK5 => ?_)
    refine c_region ?_
    refine s_move H wn rfl rfl ?_; clear H; intro a H
    refine s_assign H wn rfl rfl ?_; clear H; intro a H
    refine wl_nil ?_
    refine hK5 _ _ ?_; clear hK5
    refine c_ret ?_
    refine (leave1 H Try.results76 (.cons (rv_tmp H rfl) .nil) ?_).1
    exact H.hp.ret (by rw [rngS, if_neg p14])
  · intro h14
    try have p14 := of_decide_eq_false h14
    refine c_seq (fun _ hK6 => ?_)
    refine c_region ?_
    refine s_move H wn rfl rfl ?_; clear H; intro a H
    refine s_cmp H wn rfl rfl rfl rfl ?_; clear H; intro a H
    refine s_move H wn rfl rfl ?_; clear H; intro a H
    refine s_split H 21 rfl ?_ ?_
    · intro h21
      try have p21 := of_decide_eq_true h21
      refine s_skip H rfl rfl h21 rfl ?_; clear H; intro a H
      refine s_skip H rfl rfl h21 rfl ?_; clear H; intro a H
      refine s_skip H rfl rfl h21 rfl ?_; clear H; intro a H
      refine s_pick_t H wn rfl h21 rfl rfl ?_; clear H; intro a H
      refine s_move H wn rfl rfl ?_; clear H; intro a H
      refine s_skip H rfl rfl rfl rfl ?_; clear H; intro a H
      refine s_skip H rfl rfl rfl rfl ?_; clear H; intro a H
      refine s_skip H rfl rfl rfl rfl ?_; clear H; intro a H
      refine s_pick_t H wn rfl rfl rfl rfl ?_; clear H; intro a H
      refine s_assign H wn rfl rfl ?_; clear H; intro a H
      refine wl_nil ?_
      refine hK6 _ _ ?_; clear hK6
      refine c_cond_t H rfl rfl ?_
      refine c_seq (fun _ hK7 => ?_)
      refine c_region ?_
      refine s_assign H wn rfl rfl ?_; clear H; intro a H
      refine wl_nil ?_
      refine hK7 _ _ ?_; clear hK7
      refine c_ret ?_
      refine (leave1 H Try.results76 (.cons (rv_tmp H rfl) .nil) ?_).1
      have h0 : lenE l = 0 := by omega
      refine H.hp.ret ?_
      rw [rngS, if_pos h0]
      first
        | (rw [if_pos (by omega)]; done)
        | (rw [if_neg (by omega)]; done)
    · intro h21
      try have p21 := of_decide_eq_false h21
      refine s_move H (wg H rfl rfl h21) rfl rfl ?_; clear H; intro a H
      refine s_move H (wg H rfl rfl h21) rfl rfl ?_; clear H; intro a H
      refine s_cmp H (wg H rfl rfl h21) rfl rfl rfl rfl ?_; clear H; intro a H
      refine s_pick_f H wn rfl h21 rfl rfl ?_; clear H; intro a H
      refine s_move H wn rfl rfl ?_; clear H; intro a H
      refine s_split H 26 rfl ?_ ?_
      · intro h26
        try have p26 := of_decide_eq_true h26
        refine s_skip H rfl rfl h26 rfl ?_; clear H; intro a H
        refine s_skip H rfl rfl h26 rfl ?_; clear H; intro a H
        refine s_skip H rfl rfl h26 rfl ?_; clear H; intro a H
        refine s_pick_t H wn rfl h26 rfl rfl ?_; clear H; intro a H
        refine s_assign H wn rfl rfl ?_; clear H; intro a H
        refine wl_nil ?_
        refine hK6 _ _ ?_; clear hK6
        refine c_cond_t H rfl rfl ?_
        refine c_seq (fun _ hK8 => ?_)
        refine c_region ?_
        refine s_assign H wn rfl rfl ?_; clear H; intro a H
        refine wl_nil ?_
        refine hK8 _ _ ?_; clear hK8
        refine c_ret ?_
        refine (leave1 H Try.results76 (.cons (rv_tmp H rfl) .nil) ?_).1
        have h0 : lenE l = 0 := by omega
        refine H.hp.ret ?_
        rw [rngS, if_pos h0]
        first
          | (rw [if_pos (by omega)]; done)
          | (rw [if_neg (by omega)]; done)
      · intro h26
        try have p26 := of_decide_eq_false h26
        refine s_move H (wg H rfl rfl h26) rfl rfl ?_; clear H; intro a H
        refine s_move H (wg H rfl rfl h26) rfl rfl ?_; clear H; intro a H
        refine s_cmp H (wg H rfl rfl h26) rfl rfl rfl rfl ?_; clear H; intro a H
        refine s_pick_f H wn rfl h26 rfl rfl ?_; clear H; intro a H
        refine s_assign H wn rfl rfl ?_; clear H; intro a H
        refine wl_nil ?_
        refine hK6 _ _ ?_; clear hK6
        refine c_cond H rfl ?_ ?_
        · intro h18
          try have p18 := of_decide_eq_true h18
          refine c_seq (fun _ hK9 => ?_)
          refine c_region ?_
          refine s_assign H wn rfl rfl ?_; clear H; intro a H
          refine wl_nil ?_
          refine hK9 _ _ ?_; clear hK9
          refine c_ret ?_
          refine (leave1 H Try.results76 (.cons (rv_tmp H rfl) .nil) ?_).1
          have h0 : lenE l = 0 := by omega
          refine H.hp.ret ?_
          rw [rngS, if_pos h0]
          first
            | (rw [if_pos (by omega)]; done)
            | (rw [if_neg (by omega)]; done)
        · intro h18
          try have p18 := of_decide_eq_false h18
          refine c_skip ?_
          refine hK3 _ _ ?_; clear hK3
          refine c_seq (fun _ hK10 => ?_)
          refine c_region ?_
          refine s_assign H wn rfl rfl ?_; clear H; intro a H
          refine wl_nil ?_
          refine hK10 _ _ ?_; clear hK10
          refine c_ret ?_
          refine (leave1 H Try.results76 (.cons (rv_tmp H rfl) .nil) ?_).1
          have h0 : lenE l = 0 := by omega
          refine H.hp.ret ?_
          rw [rngS, if_pos h0]
          first
            | (rw [if_pos (by omega)]; done)
            | (rw [if_neg (by omega)]; done)
def PlainL (m : List ItemD) : Prop := m.length ≤ 1 ∧ ∀ x ∈ m, PlainI x
theorem zItems_sub : ∀ {m l : List ItemD}, m.Sublist l → zItems m ≤ zItems l
  | _, _, .slnil => Nat.le_refl _
  | _, _, .cons a h => by have := zItems_sub h; simp only [zItems, List.map_cons, szRs] at *; omega
  | _, _, .cons_cons a h => by have := zItems_sub h; simp only [zItems, List.map_cons, szRs] at *; omega
theorem offs_snd : ∀ (l : List ItemD) (o : Nat), (offs o l).map (·.2) = l
  | [], _ => rfl
  | x :: l, o => by simp [offs, offs_snd l]
theorem leftS_sub (t : Int) (l : List ItemD) : (leftS t l).Sublist l := by
  have h : (lA t (offs 0 l)).Sublist ((offs 0 l).map (·.2)) := List.Sublist.map _ List.filter_sublist
  rwa [offs_snd] at h
theorem rightS_sub (t : Int) (l : List ItemD) : (rightS t l).Sublist l := by
  have h : (rA t (offs 0 l)).Sublist ((offs 0 l).map (·.2)) := List.Sublist.map _ List.filter_sublist
  rwa [offs_snd] at h
def CutOk (t : Int) (l : List ItemD) : Prop := ∀ a ∈ offs 0 l, fitA t a = true ∨ t ≤ a.1
/-- Slice, where no item is cut and at most one item is left, which has no parts. -/
theorem slice_run (G : GH) (w0 : World) (hG : Hold G w0) (l : List ItemD) (fr to : Int) (v : Value) (hv : RepV G (.sl 11 (l.map ItemD.dat)) v) (hz : zItems l ≤ 1073741824) (hr : rngS l fr to = 0)
    (h1 : CutOk to l) (h2 : CutOk fr (leftS to l)) (hp : PlainL (rightS fr (leftS to l))) :
    Calls Try.prog 59 #[v, vi fr, vi to] w0 (Ret w0 G fun u G' => ∃ x, u = .tuple #[x, vi 0] ∧ RepV G' (.sl 11 ((rightS fr (leftS to l)).map ItemD.dat)) x) := by
  have z1 := zItems_sub (leftS_sub to l)
  have z2 := zItems_sub (rightS_sub fr (leftS to l))
  refine enter (N := 34) (T := [(0, _), (1, _), (2, _)]) (F := fun k => k < w0.heap.size) (L := []) Try.func59 rfl Try.ntmps59 rfl rfl hG (fun _ h => h) (fun _ h => by cases h) (fun _ h => by cases h) (fun _ h => by cases h) List.Pairwise.nil ?_
  intro a H
  refine c_seq (fun _ hK1 => ?_)
  refine c_region ?_
  refine s_assign H wn rfl rfl ?_; clear H; intro a H
  refine s_assign H wn rfl rfl ?_; clear H; intro a H
  refine wl_nil ?_
  refine hK1 _ _ ?_; clear hK1
  refine c_seq (fun _ hK2 => ?_)
  refine c_seq (fun _ hK3 => ?_)
  refine c_region ?_
  refine s_move H wn rfl rfl ?_; clear H; intro a H
  refine s_move H wn rfl rfl ?_; clear H; intro a H
  refine s_move H wn rfl rfl ?_; clear H; intro a H
  refine s_call en76sl H wn rfl (check_run _ _ H.hp.ro l fr to v hv (by omega)) rfl ?_; clear H
  rintro v16 G16 a w rfl hm16 H
  rw [hr] at H
  refine s_assign H wn rfl rfl ?_; clear H; intro a H
  refine wl_nil ?_
  refine hK3 _ _ ?_; clear hK3
  refine c_seq (fun _ hK4 => ?_)
  refine c_region ?_
  refine s_move H wn rfl rfl ?_; clear H; intro a H
  refine s_cmp H wn rfl rfl rfl rfl ?_; clear H; intro a H
  refine wl_nil ?_
  refine hK4 _ _ ?_; clear hK4
  refine c_cond H rfl ?_ ?_
  · intro h18
    try have p18 := of_decide_eq_true h18
    exact absurd h18 (by decide)
  · intro h18
    try have p18 := of_decide_eq_false h18
    refine c_skip ?_
    refine hK2 _ _ ?_; clear hK2
    refine c_seq (fun _ hK5 => ?_)
    refine c_region ?_
    refine s_move H wn rfl rfl ?_; clear H; intro a H
    refine s_move H wn rfl rfl ?_; clear H; intro a H
    refine s_call en77sl H wn rfl (divide_spec _ _ H.hp.ro l to v (hv.mono hm16) hz h1) rfl ?_; clear H
    rintro v23 G23 a w ⟨x, y, rfl, hx, hy⟩ hm23 H
    refine s_move H wn rfl rfl ?_; clear H; intro a H
    refine s_extract H wn rfl rfl rfl ?_; clear H; intro a H
    refine s_extract H wn rfl rfl rfl ?_; clear H; intro a H
    refine s_assign H wn rfl rfl ?_; clear H; intro a H
    refine s_assign H wn rfl rfl ?_; clear H; intro a H
    refine wl_nil ?_
    refine hK5 _ _ ?_; clear hK5
    refine c_seq (fun _ hK6 => ?_)
    refine c_region ?_
    refine s_move H wn rfl rfl ?_; clear H; intro a H
    refine s_move H wn rfl rfl ?_; clear H; intro a H
    refine s_call en77sl H wn rfl (divide_spec _ _ H.hp.ro (leftS to l) fr x hx (by omega) h2) rfl ?_; clear H
    rintro v29 G29 a w ⟨x2, y2, rfl, hx2, hy2⟩ hm29 H
    refine s_move H wn rfl rfl ?_; clear H; intro a H
    refine s_extract H wn rfl rfl rfl ?_; clear H; intro a H
    refine s_extract H wn rfl rfl rfl ?_; clear H; intro a H
    refine s_assign H wn rfl rfl ?_; clear H; intro a H
    refine s_assign H wn rfl rfl ?_; clear H; intro a H
    refine wl_nil ?_
    refine hK6 _ _ ?_; clear hK6
    refine c_seq (fun _ hK7 => ?_)
    refine c_region ?_
    refine s_move H wn rfl rfl ?_; clear H; intro a H
    refine s_call en78sl H wn rfl (normalOne_spec _ _ H.hp.ro _ y2 hy2 hp.1 hp.2 (by omega)) rfl ?_; clear H
    rintro v33 G33 a w hp33 hm33 H
    obtain ⟨A33, n33, c33, rfl⟩ := hp33.form
    refine s_assign H wn rfl rfl ?_; clear H; intro a H
    refine s_assign H wn rfl rfl ?_; clear H; intro a H
    refine wl_nil ?_
    refine hK7 _ _ ?_; clear hK7
    refine c_ret ?_
    refine (leaveT H Try.results59 (.cons (rv_tmp H rfl) (.cons (rv_tmp H rfl) .nil)) ?_).1
    exact H.hp.ret ⟨_, rfl, hp33⟩
theorem blk_eql (a b : BlkD) : Value.bool (if BinOp.eql = BinOp.eql then [(0, false), (1, false), (2, false), (3, true)].all fun o => getV #[vi a.kind, vi a.from_, vi a.to, .bool a.mark] o == getV #[vi b.kind, vi b.from_, vi b.to, .bool b.mark] o else !([(0, false), (1, false), (2, false), (3, true)].all fun o => getV #[vi a.kind, vi a.from_, vi a.to, .bool a.mark] o == getV #[vi b.kind, vi b.from_, vi b.to, .bool b.mark] o)) = .bool (decide (a = b)) := by
  congr 1
  have h := BlkD.eq_iff a b
  rw [Bool.eq_iff_iff]
  simp only [decide_eq_true_eq]
  rw [← h]
  simp [getV]
theorem indexBlk (G : GH) (w0 : World) (hG : Hold G w0) (A : List BlkD) (b : BlkD) (v : Value) (hv : RepV G (.sl 4 (A.map bkDat)) v) :
    Calls Try.prog 75 #[v, bkV b] w0 (Ret w0 G fun u G' => u = vi (ixI (A.findIdx? fun x => decide (b = x)))) := by
  obtain ⟨vA, c, rfl, hc1, hc2, hg⟩ := hv.slice
  have hml : maxLen = 9223372036854775807 := rfl
  rw [List.length_map] at *
  refine enter (N := 19) (T := [(0, _), (1, _)]) (F := fun k => k < w0.heap.size) (L := []) Try.func75 rfl Try.ntmps75 rfl rfl hG (fun _ h => h) (fun _ h => by cases h) (fun _ h => by cases h) (fun _ h => by cases h) List.Pairwise.nil ?_
  intro a H
  refine c_seq (fun _ hK1 => ?_)
  refine c_region ?_
  refine s_box (cs := [_, _, _, _]) H wn rfl rfl rfl ?_; clear H; intro b3 a w hb3 H
  refine s_assign H wn rfl rfl ?_; clear H; intro a H
  refine wl_nil ?_
  refine hK1 _ _ ?_; clear hK1
  refine c_seq (fun _ hK2 => ?_)
  refine c_seq (fun _ hK3 => ?_)
  refine c_region ?_
  refine s_move H wn rfl rfl ?_; clear H; intro a H
  refine s_len un33sl H wn rfl rfl ?_; clear H; intro a H
  refine s_move H wn rfl rfl ?_; clear H; intro a H
  refine wl_nil ?_
  refine hK3 _ _ ?_; clear hK3
  refine c_block ?_
  skip
  refine c_loopS (ι := Nat × GH) (Tc := [(0, _), (3, _), (7, _)]) (Lc := [(_, _)]) (fun (gh : Nat × GH) => [(8, vi gh.1)]) (fun (gh : Nat × GH) => []) (fun (gh : Nat × GH) => gh.2) (fun (gh : Nat × GH) => gh.1 ≤ A.length ∧ (A.take gh.1).findIdx? (fun x => decide (b = x)) = none ∧ (∀ b o, G b = some o → gh.2 b = some o)) (fun (gh : Nat × GH) => A.length - gh.1) ((0, G)) (by exact (H).sub ⟨rfl, rfl, rfl, rfl, trivial⟩) ?_ ?_
  · exact ⟨by omega, rfl, fun _ _ h => h⟩
  · clear H; intro gh a w hI H
    obtain ⟨k, g⟩ := gh; dsimp only at hI H
    obtain ⟨hk, hno, hgm⟩ := hI
    dsimp only [List.cons_append, List.nil_append, List.append_nil] at H
    refine c_seq (fun _ hK4 => ?_)
    refine c_region ?_
    refine s_cmp H wn rfl rfl rfl rfl ?_; clear H; intro a H
    refine wl_nil ?_
    refine hK4 _ _ ?_; clear hK4
    refine c_seq (fun _ hK5 => ?_)
    refine c_cond H rfl ?_ ?_
    · intro h9
      try have p9 := of_decide_eq_true h9
      have hk2 : k < A.length := by omega
      obtain ⟨b1, o1, cs1, rfl, hcl1, hrow1, hr1⟩ := hg k (bkDat A[k]) (by simp [hk2])
      obtain rfl := bk_of hr1
      refine c_skip ?_
      refine hK5 _ _ ?_; clear hK5
      refine c_seq (fun _ hK6 => ?_)
      refine c_block ?_
      refine c_seq (fun _ hK7 => ?_)
      refine c_region ?_
      refine s_move H wn rfl rfl ?_; clear H; intro a H
      refine s_assign H wn rfl rfl ?_; clear H; intro a H
      refine wl_nil ?_
      refine hK7 _ _ ?_; clear hK7
      refine c_seq (fun _ hK8 => ?_)
      have hprm4 : ∀ (i : Nat) (v : Value) (G G' : GH), (∀ k o, G k = some o → G' k = some o) → (fun (i : Nat) (v : Value) (G : GH) => match i with | 0 => v = bkV b | 1 => v = .slice (some ⟨b1, o1, none⟩) A.length c | 2 => v = vi k | 3 => v = .pointer (some ⟨b1, o1 + k * 4, none⟩) | 4 => v = bkV A[k] | 5 => v = .bool (decide (b = A[k])) | _ => True) i v G → (fun (i : Nat) (v : Value) (G : GH) => match i with | 0 => v = bkV b | 1 => v = .slice (some ⟨b1, o1, none⟩) A.length c | 2 => v = vi k | 3 => v = .pointer (some ⟨b1, o1 + k * 4, none⟩) | 4 => v = bkV A[k] | 5 => v = .bool (decide (b = A[k])) | _ => True) i v G' := by
        intro i v G G' hm h
        match i, h with
        | 0, h => exact h
        | 1, h => exact h
        | 2, h => exact h
        | 3, h => exact h
        | 4, h => exact h
        | 5, h => exact h
        | _ + 6, h => exact trivial
      refine c_drawI (hmx) [[], [], [], [1, 2], [1, 2, 3], [0, 1, 2, 3, 4]] [] (by kernel_rfl) (by kernel_rfl) (fun (i : Nat) (v : Value) (G : GH) => match i with | 0 => v = bkV b | 1 => v = .slice (some ⟨b1, o1, none⟩) A.length c | 2 => v = vi k | 3 => v = .pointer (some ⟨b1, o1 + k * 4, none⟩) | 4 => v = bkV A[k] | 5 => v = .bool (decide (b = A[k])) | _ => True) hprm4 H ?_ ?_
      · clear H; refine (allI_cons ?_ (allI_cons ?_ (allI_cons ?_ (allI_cons ?_ (allI_cons ?_ (allI_cons ?_ allI_nil))))))
        · intro S a w G1 _ hSi hc hG HT hv; have H := HT; clear hSi
          have Hb := H.full; have H := Hb; clear hc
          refine s_loada ty37sl (cs := [_, _, _, _]) H wn rfl rfl (H.hp.ocells 0 rfl rfl) rfl ?_; clear H; intro a H
          refine wl_nil ⟨rfl, ?_⟩
          exact draw_val (by kernel_rfl) hprm4 rfl rfl HT Hb hG hv (fun _ _ h => h) (rfl) H
        · intro S a w G1 _ hSi hc hG HT hv; have H := HT; clear hSi
          have Hb := H.full; have H := Hb; clear hc
          refine s_move H wn rfl rfl ?_; clear H; intro a H
          refine wl_nil ⟨rfl, ?_⟩
          exact draw_val (by kernel_rfl) hprm4 rfl rfl HT Hb hG hv (fun _ _ h => h) (rfl) H
        · intro S a w G1 _ hSi hc hG HT hv; have H := HT; clear hSi
          have Hb := H.full; have H := Hb; clear hc
          refine s_move H wn rfl rfl ?_; clear H; intro a H
          refine wl_nil ⟨rfl, ?_⟩
          exact draw_val (by kernel_rfl) hprm4 rfl rfl HT Hb hG hv (fun _ _ h => h) (rfl) H
        · intro S a w G1 _ hSi hc hG HT hv; have H := HT; clear hSi
          obtain ⟨u12, hu12, hp12⟩ := hv 1 12 (hc 1 (by decide)) rfl
          obtain rfl : u12 = .slice (some ⟨b1, o1, none⟩) A.length c := hp12
          have H := H.addS hu12
          obtain ⟨u13, hu13, hp13⟩ := hv 2 13 (hc 2 (by decide)) rfl
          obtain rfl : u13 = vi k := hp13
          have H := H.addS hu13
          have Hb := H.full; have H := Hb; clear hc
          refine s_index un33sl ty37sl _ H wn rfl rfl rfl (by first | assumption | omega) rfl ?_; clear H; intro a H
          refine wl_nil ⟨rfl, ?_⟩
          exact draw_val (by kernel_rfl) hprm4 rfl rfl HT Hb hG hv (fun _ _ h => h) (rfl) H
        · intro S a w G1 _ hSi hc hG HT hv; have H := HT; clear hSi
          obtain ⟨u14, hu14, hp14⟩ := hv 3 14 (hc 3 (by decide)) rfl
          obtain rfl : u14 = .pointer (some ⟨b1, o1 + k * 4, none⟩) := hp14
          have H := H.addS hu14
          have Hb := H.full; have H := Hb; clear hc
          refine s_loada ty37sl (cs := [_, _, _, _]) H wn rfl rfl (fun j v hj => H.hp.gcell (gcell_mono hG (gcell_mono hgm (hrow1 j v hj)))) rfl ?_; clear H; intro a H
          refine wl_nil ⟨rfl, ?_⟩
          exact draw_val (by kernel_rfl) hprm4 rfl rfl HT Hb hG hv (fun _ _ h => h) (rfl) H
        · intro S a w G1 _ hSi hc hG HT hv; have H := HT; clear hSi
          obtain ⟨u11, hu11, hp11⟩ := hv 0 11 (hc 0 (by decide)) rfl
          obtain rfl : u11 = bkV b := hp11
          have H := H.addS hu11
          obtain ⟨u15, hu15, hp15⟩ := hv 4 15 (hc 4 (by decide)) rfl
          obtain rfl : u15 = bkV A[k] := hp15
          have H := H.addS hu15
          have Hb := H.full; have H := Hb; clear hc
          refine s_eqs (.inl rfl) eqs37sl H wn rfl rfl rfl rfl ?_; clear H; intro a H
          refine wl_nil ⟨rfl, ?_⟩
          exact draw_val (by kernel_rfl) hprm4 rfl rfl HT Hb hG hv (fun _ _ h => h) (blk_eql _ _) H
      · clear H; intro a w G hGm4 H hv
        obtain ⟨u16, hu16, hp16⟩ := hv 5 16 (by decide) rfl
        obtain rfl : u16 = .bool (decide (b = A[k])) := hp16
        have H := H.addS hu16
        clear hv
        refine wl_nil ⟨rfl, ?_⟩
        refine hK8 _ _ ?_; clear hK8
        refine c_cond H rfl ?_ ?_
        · intro h16
          try have p16 := of_decide_eq_true h16
          refine c_seq (fun _ hK9 => ?_)
          refine c_region ?_
          refine s_move H wn rfl rfl ?_; clear H; intro a H
          refine s_assign H wn rfl rfl ?_; clear H; intro a H
          refine wl_nil ?_
          refine hK9 _ _ ?_; clear hK9
          refine c_ret ?_
          refine (leave1 H Try.results75 (.cons (rv_tmp H rfl) .nil) ?_).1
          exact H.hp.ret (by rw [idx_stop hk2 hno h16]; rfl)
        · intro h16
          try have p16 := of_decide_eq_false h16
          refine c_skip ?_
          refine hK6 _ _ ?_; clear hK6
          refine c_region ?_
          refine s_add _ H wn rfl rfl rfl (by omega) (by omega) rfl ?_; clear H; intro a H
          refine s_move H wn rfl rfl ?_; clear H; intro a H
          refine wl_nil ?_
          refine loop_end ((k + 1, G)) (by exact (H).sub ⟨rfl, rfl, rfl, rfl, trivial⟩) ?_ ?_
          · try dsimp only
            exact ⟨by omega, idx_next hk2 hno h16, fun b o h => hGm4 b o (hgm b o h)⟩
          · first | omega | (dsimp only; omega)
    · intro h9
      try have p9 := of_decide_eq_false h9
      refine c_exit ?_
      refine hK2 _ _ ?_; clear hK2
      refine c_seq (fun _ hK10 => ?_)
      refine c_region ?_
      refine s_assign H wn rfl rfl ?_; clear H; intro a H
      refine wl_nil ?_
      refine hK10 _ _ ?_; clear hK10
      refine c_ret ?_
      refine (leave1 H Try.results75 (.cons (rv_tmp H rfl) .nil) ?_).1
      exact H.hp.ret (by rw [show A.take k = A from List.take_of_length_le (by omega)] at hno; rw [hno]; rfl)
theorem containsBlk (G : GH) (w0 : World) (hG : Hold G w0) (A : List BlkD) (b : BlkD) (v : Value) (hv : RepV G (.sl 4 (A.map bkDat)) v) :
    Calls Try.prog 58 #[v, bkV b] w0 (Ret w0 G fun u G' => u = .bool (A.findIdx? fun x => decide (b = x)).isSome) := by
  refine enter (N := 9) (T := [(0, _), (1, _)]) (F := fun k => k < w0.heap.size) (L := []) Try.func58 rfl Try.ntmps58 rfl rfl hG (fun _ h => h) (fun _ h => by cases h) (fun _ h => by cases h) (fun _ h => by cases h) List.Pairwise.nil ?_
  intro a H
  refine c_seq (fun _ hK1 => ?_)
  refine c_region ?_
  refine s_box (cs := [_, _, _, _]) H wn rfl rfl rfl ?_; clear H; intro b3 a w hb3 H
  refine s_assign H wn rfl rfl ?_; clear H; intro a H
  refine wl_nil ?_
  refine hK1 _ _ ?_; clear hK1
  refine c_seq (fun _ hK2 => ?_)
  refine c_region ?_
  refine s_move H wn rfl rfl ?_; clear H; intro a H
  refine s_loada ty37sl (cs := [_, _, _, _]) H wn rfl rfl (H.hp.ocells 0 rfl rfl) rfl ?_; clear H; intro a H
  refine s_call en75sl H wn rfl (indexBlk _ _ H.hp.ro A b _ hv) rfl ?_; clear H
  rintro v7 G7 a w rfl hm7 H
  refine s_cmp H wn rfl rfl rfl rfl ?_; clear H; intro a H
  refine s_assign H wn rfl rfl ?_; clear H; intro a H
  refine wl_nil ?_
  refine hK2 _ _ ?_; clear hK2
  refine c_ret ?_
  refine (leave1 H Try.results58 (.cons (rv_tmp H rfl) .nil) ?_).1
  exact H.hp.ret (by cases h : A.findIdx? (fun x => decide (b = x)) <;> simp [ixI])
def endB (b : BlkD) : Int := if b.mark then b.to - 1 else b.to
theorem parts_none (G : GH) (w0 : World) (hG : Hold G w0) (l : List ItemD) (b : BlkD) (v : Value) (hv : RepV G (.sl 11 (l.map ItemD.dat)) v) (hz : zItems l ≤ 1073741824) (he : lenE l = 0) (hb : (blocksS l).findIdx? (fun x => decide (b = x)) = none) :
    Calls Try.prog 38 #[v, bkV b] w0 (Ret w0 G fun u G' => u = .tuple #[.slice none 0 0, .slice none 0 0, vi 8]) := by
  refine enter (N := 45) (T := [(0, _), (1, _)]) (F := fun k => k < w0.heap.size) (L := []) Try.func38 rfl Try.ntmps38 rfl rfl hG (fun _ h => h) (fun _ h => by cases h) (fun _ h => by cases h) (fun _ h => by cases h) List.Pairwise.nil ?_
  intro a H
  refine c_seq (fun _ hK1 => ?_)
  refine c_region ?_
  refine s_box (cs := [_, _, _, _]) H wn rfl rfl rfl ?_; clear H; intro b3 a w hb3 H
  refine s_assign H wn rfl rfl ?_; clear H; intro a H
  refine s_assign H wn rfl rfl ?_; clear H; intro a H
  refine s_assign H wn rfl rfl ?_; clear H; intro a H
  refine wl_nil ?_
  refine hK1 _ _ ?_; clear hK1
  refine c_seq (fun _ hK2 => ?_)
  refine c_region ?_
  refine s_move H wn rfl rfl ?_; clear H; intro a H
  refine s_call en12sl H wn rfl (Blocks_spec _ _ H.hp.ro l v hv hz) rfl ?_; clear H
  rintro v11 G11 a w ⟨x, rfl, hrep⟩ hm11 H
  obtain ⟨A11, n11, c11, rfl⟩ := hrep.form
  refine s_move H wn rfl rfl ?_; clear H; intro a H
  refine s_extract H wn rfl rfl rfl ?_; clear H; intro a H
  refine s_extract H wn rfl rfl rfl ?_; clear H; intro a H
  refine s_assign H wn rfl rfl ?_; clear H; intro a H
  refine s_assign H wn rfl rfl ?_; clear H; intro a H
  refine wl_nil ?_
  refine hK2 _ _ ?_; clear hK2
  refine c_seq (fun _ hK3 => ?_)
  refine c_seq (fun _ hK4 => ?_)
  refine c_region ?_
  refine s_move H wn rfl rfl ?_; clear H; intro a H
  refine s_cmp H wn rfl rfl rfl rfl ?_; clear H; intro a H
  refine wl_nil ?_
  refine hK4 _ _ ?_; clear hK4
  refine c_cond H rfl ?_ ?_
  · intro h15
    try have p15 := of_decide_eq_true h15
    exact absurd he p15
  · intro h15
    try have p15 := of_decide_eq_false h15
    refine c_skip ?_
    refine hK3 _ _ ?_; clear hK3
    refine c_seq (fun _ hK5 => ?_)
    refine c_seq (fun _ hK6 => ?_)
    refine c_region ?_
    refine s_move H wn rfl rfl ?_; clear H; intro a H
    refine s_loada ty37sl (cs := [_, _, _, _]) H wn rfl rfl (H.hp.ocells 0 rfl rfl) rfl ?_; clear H; intro a H
    refine s_call en58sl H wn rfl (containsBlk _ _ H.hp.ro (blocksS l) b _ hrep) rfl ?_; clear H
    rintro v19 G19 a w rfl hm19 H
    rw [hb] at H
    refine s_not H wn rfl rfl ?_; clear H; intro a H
    refine wl_nil ?_
    refine hK6 _ _ ?_; clear hK6
    refine c_cond H rfl ?_ ?_
    · intro h20
      try have p20 := of_decide_eq_true h20
      refine c_seq (fun _ hK7 => ?_)
      refine c_region ?_
      refine s_assign H wn rfl rfl ?_; clear H; intro a H
      refine s_assign H wn rfl rfl ?_; clear H; intro a H
      refine s_assign H wn rfl rfl ?_; clear H; intro a H
      refine wl_nil ?_
      refine hK7 _ _ ?_; clear hK7
      refine c_ret ?_
      refine (leaveT H Try.results38 (.cons (rv_tmp H rfl) (.cons (rv_tmp H rfl) (.cons (rv_tmp H rfl) .nil))) ?_).1
      exact H.hp.ret rfl
    · intro h20
      try have p20 := of_decide_eq_false h20
      exact absurd h20 (by decide)
theorem parts_some (G : GH) (w0 : World) (hG : Hold G w0) (l : List ItemD) (b : BlkD) (v : Value) (hv : RepV G (.sl 11 (l.map ItemD.dat)) v) (hz : zItems l ≤ 1073741824) (he : lenE l = 0) (i : Nat) (hb : (blocksS l).findIdx? (fun x => decide (b = x)) = some i) (hto : -1000 < b.to ∧ b.to < 1000)
    (hr1 : rngS l b.from_ (endB b) = 0) (h1 : CutOk (endB b) l) (h2 : CutOk b.from_ (leftS (endB b) l)) (hp : PlainL (rightS b.from_ (leftS (endB b) l)))
    (hr2 : rngS l (endB b) b.to = 0) (h3 : CutOk b.to l) (h4 : CutOk (endB b) (leftS b.to l)) (hp2 : PlainL (rightS (endB b) (leftS b.to l))) :
    Calls Try.prog 38 #[v, bkV b] w0 (Ret w0 G fun u G' => ∃ x y, u = .tuple #[x, y, vi 0] ∧ RepV G' (.sl 11 ((rightS b.from_ (leftS (endB b) l)).map ItemD.dat)) x) := by
  refine enter (N := 45) (T := [(0, _), (1, _)]) (F := fun k => k < w0.heap.size) (L := []) Try.func38 rfl Try.ntmps38 rfl rfl hG (fun _ h => h) (fun _ h => by cases h) (fun _ h => by cases h) (fun _ h => by cases h) List.Pairwise.nil ?_
  intro a H
  refine c_seq (fun _ hK1 => ?_)
  refine c_region ?_
  refine s_box (cs := [_, _, _, _]) H wn rfl rfl rfl ?_; clear H; intro b3 a w hb3 H
  refine s_assign H wn rfl rfl ?_; clear H; intro a H
  refine s_assign H wn rfl rfl ?_; clear H; intro a H
  refine s_assign H wn rfl rfl ?_; clear H; intro a H
  refine wl_nil ?_
  refine hK1 _ _ ?_; clear hK1
  refine c_seq (fun _ hK2 => ?_)
  refine c_region ?_
  refine s_move H wn rfl rfl ?_; clear H; intro a H
  refine s_call en12sl H wn rfl (Blocks_spec _ _ H.hp.ro l v hv hz) rfl ?_; clear H
  rintro v11 G11 a w ⟨x, rfl, hrep⟩ hm11 H
  obtain ⟨A11, n11, c11, rfl⟩ := hrep.form
  refine s_move H wn rfl rfl ?_; clear H; intro a H
  refine s_extract H wn rfl rfl rfl ?_; clear H; intro a H
  refine s_extract H wn rfl rfl rfl ?_; clear H; intro a H
  refine s_assign H wn rfl rfl ?_; clear H; intro a H
  refine s_assign H wn rfl rfl ?_; clear H; intro a H
  refine wl_nil ?_
  refine hK2 _ _ ?_; clear hK2
  refine c_seq (fun _ hK3 => ?_)
  refine c_seq (fun _ hK4 => ?_)
  refine c_region ?_
  refine s_move H wn rfl rfl ?_; clear H; intro a H
  refine s_cmp H wn rfl rfl rfl rfl ?_; clear H; intro a H
  refine wl_nil ?_
  refine hK4 _ _ ?_; clear hK4
  refine c_cond H rfl ?_ ?_
  · intro h15
    try have p15 := of_decide_eq_true h15
    exact absurd he p15
  · intro h15
    try have p15 := of_decide_eq_false h15
    refine c_skip ?_
    refine hK3 _ _ ?_; clear hK3
    refine c_seq (fun _ hK5 => ?_)
    refine c_seq (fun _ hK6 => ?_)
    refine c_region ?_
    refine s_move H wn rfl rfl ?_; clear H; intro a H
    refine s_loada ty37sl (cs := [_, _, _, _]) H wn rfl rfl (H.hp.ocells 0 rfl rfl) rfl ?_; clear H; intro a H
    refine s_call en58sl H wn rfl (containsBlk _ _ H.hp.ro (blocksS l) b _ hrep) rfl ?_; clear H
    rintro v19 G19 a w rfl hm19 H
    rw [hb] at H
    refine s_not H wn rfl rfl ?_; clear H; intro a H
    refine wl_nil ?_
    refine hK6 _ _ ?_; clear hK6
    refine c_cond H rfl ?_ ?_
    · intro h20
      try have p20 := of_decide_eq_true h20
      exact absurd h20 (by simp)
    · intro h20
      try have p20 := of_decide_eq_false h20
      refine c_skip ?_
      refine hK5 _ _ ?_; clear hK5
      refine c_seq (fun _ hK7 => ?_)
      refine c_region ?_
      refine s_field fd37_2sl H wn rfl rfl ?_; clear H; intro a H
      refine s_load ty3sl H wn rfl (H.hp.ocell 0 rfl rfl) rfl ?_; clear H; intro a H
      refine s_assign H wn rfl rfl ?_; clear H; intro a H
      refine wl_nil ?_
      refine hK7 _ _ ?_; clear hK7
      refine c_seq (fun _ hK8 => ?_)
      refine c_seq (fun _ hK9 => ?_)
      refine c_region ?_
      refine s_field fd37_3sl H wn rfl rfl ?_; clear H; intro a H
      refine s_load ty4sl H wn rfl (H.hp.ocell 0 rfl rfl) rfl ?_; clear H; intro a H
      refine wl_nil ?_
      refine hK9 _ _ ?_; clear hK9
      refine c_cond H rfl ?_ ?_
      · intro h24
        try have p24 := of_decide_eq_true h24
        have hend : b.to - 1 = endB b := by rw [endB, if_pos h24]
        refine c_region ?_
        refine s_move H wn rfl rfl ?_; clear H; intro a H
        refine s_sub _ H wn rfl rfl rfl (by omega) (by omega) rfl ?_; clear H; intro a H
        rw [hend] at H
        refine s_assign H wn rfl rfl ?_; clear H; intro a H
        refine wl_nil ?_
        refine hK8 _ _ ?_; clear hK8
        refine c_seq (fun _ hK10 => ?_)
        refine c_region ?_
        refine s_move H wn rfl rfl ?_; clear H; intro a H
        refine s_field fd37_1sl H wn rfl rfl ?_; clear H; intro a H
        refine s_load ty3sl H wn rfl (H.hp.ocell 0 rfl rfl) rfl ?_; clear H; intro a H
        refine s_move H wn rfl rfl ?_; clear H; intro a H
        refine s_call en59sl H wn rfl (slice_run _ _ H.hp.ro l b.from_ _ v (hv.mono fun b o h => hm19 b o (hm11 b o h)) hz (by first | exact hr1 | (rw [← hend] at hr1; exact hr1)) (by first | exact h1 | (rw [← hend] at h1; exact h1)) (by first | exact h2 | (rw [← hend] at h2; exact h2)) (by first | exact hp | (rw [← hend] at hp; exact hp))) rfl ?_; clear H
        rintro v32 G32 a w ⟨x32, rfl, hx32⟩ hm32 H
        obtain ⟨A32, n32, c32, rfl⟩ := hx32.form
        refine s_move H wn rfl rfl ?_; clear H; intro a H
        refine s_extract H wn rfl rfl rfl ?_; clear H; intro a H
        refine s_extract H wn rfl rfl rfl ?_; clear H; intro a H
        refine s_assign H wn rfl rfl ?_; clear H; intro a H
        refine wl_nil ?_
        refine hK10 _ _ ?_; clear hK10
        refine c_seq (fun _ hK11 => ?_)
        refine c_region ?_
        refine s_move H wn rfl rfl ?_; clear H; intro a H
        refine s_move H wn rfl rfl ?_; clear H; intro a H
        refine s_field fd37_2sl H wn rfl rfl ?_; clear H; intro a H
        refine s_load ty3sl H wn rfl (H.hp.ocell 0 rfl rfl) rfl ?_; clear H; intro a H
        refine s_call en59sl H wn rfl (slice_run _ _ H.hp.ro l _ b.to v (hv.mono fun b o h => hm32 b o (hm19 b o (hm11 b o h))) hz (by first | exact hr2 | (rw [← hend] at hr2; exact hr2)) h3 (by first | exact h4 | (rw [← hend] at h4; exact h4)) (by first | exact hp2 | (rw [← hend] at hp2; exact hp2))) rfl ?_; clear H
        rintro v40 G40 a w ⟨x40, rfl, hx40⟩ hm40 H
        obtain ⟨A40, n40, c40, rfl⟩ := hx40.form
        refine s_move H wn rfl rfl ?_; clear H; intro a H
        refine s_extract H wn rfl rfl rfl ?_; clear H; intro a H
        refine s_extract H wn rfl rfl rfl ?_; clear H; intro a H
        refine s_assign H wn rfl rfl ?_; clear H; intro a H
        refine wl_nil ?_
        refine hK11 _ _ ?_; clear hK11
        refine c_seq (fun _ hK12 => ?_)
        refine c_region ?_
        refine s_move H wn rfl rfl ?_; clear H; intro a H
        refine s_move H wn rfl rfl ?_; clear H; intro a H
        refine s_assign H wn rfl rfl ?_; clear H; intro a H
        refine s_assign H wn rfl rfl ?_; clear H; intro a H
        refine s_assign H wn rfl rfl ?_; clear H; intro a H
        refine wl_nil ?_
        refine hK12 _ _ ?_; clear hK12
        refine c_ret ?_
        refine (leaveT H Try.results38 (.cons (rv_tmp H rfl) (.cons (rv_tmp H rfl) (.cons (rv_tmp H rfl) .nil))) ?_).1
        exact H.hp.ret ⟨_, _, rfl, by first | exact hx32.mono hm40 | (rw [← hend]; exact hx32.mono hm40)⟩
      · intro h24
        try have p24 := of_decide_eq_false h24
        have hend : b.to = endB b := by rw [endB, if_neg (by rw [h24]; decide)]
        refine c_skip ?_
        refine hK8 _ _ ?_; clear hK8
        refine c_seq (fun _ hK13 => ?_)
        refine c_region ?_
        refine s_move H wn rfl rfl ?_; clear H; intro a H
        refine s_field fd37_1sl H wn rfl rfl ?_; clear H; intro a H
        refine s_load ty3sl H wn rfl (H.hp.ocell 0 rfl rfl) rfl ?_; clear H; intro a H
        refine s_move H wn rfl rfl ?_; clear H; intro a H
        refine s_call en59sl H wn rfl (slice_run _ _ H.hp.ro l b.from_ _ v (hv.mono fun b o h => hm19 b o (hm11 b o h)) hz (by first | exact hr1 | (rw [← hend] at hr1; exact hr1)) (by first | exact h1 | (rw [← hend] at h1; exact h1)) (by first | exact h2 | (rw [← hend] at h2; exact h2)) (by first | exact hp | (rw [← hend] at hp; exact hp))) rfl ?_; clear H
        rintro v32 G32 a w ⟨x32, rfl, hx32⟩ hm32 H
        obtain ⟨A32, n32, c32, rfl⟩ := hx32.form
        refine s_move H wn rfl rfl ?_; clear H; intro a H
        refine s_extract H wn rfl rfl rfl ?_; clear H; intro a H
        refine s_extract H wn rfl rfl rfl ?_; clear H; intro a H
        refine s_assign H wn rfl rfl ?_; clear H; intro a H
        refine wl_nil ?_
        refine hK13 _ _ ?_; clear hK13
        refine c_seq (fun _ hK14 => ?_)
        refine c_region ?_
        refine s_move H wn rfl rfl ?_; clear H; intro a H
        refine s_move H wn rfl rfl ?_; clear H; intro a H
        refine s_field fd37_2sl H wn rfl rfl ?_; clear H; intro a H
        refine s_load ty3sl H wn rfl (H.hp.ocell 0 rfl rfl) rfl ?_; clear H; intro a H
        refine s_call en59sl H wn rfl (slice_run _ _ H.hp.ro l _ b.to v (hv.mono fun b o h => hm32 b o (hm19 b o (hm11 b o h))) hz (by first | exact hr2 | (rw [← hend] at hr2; exact hr2)) h3 (by first | exact h4 | (rw [← hend] at h4; exact h4)) (by first | exact hp2 | (rw [← hend] at hp2; exact hp2))) rfl ?_; clear H
        rintro v40 G40 a w ⟨x40, rfl, hx40⟩ hm40 H
        obtain ⟨A40, n40, c40, rfl⟩ := hx40.form
        refine s_move H wn rfl rfl ?_; clear H; intro a H
        refine s_extract H wn rfl rfl rfl ?_; clear H; intro a H
        refine s_extract H wn rfl rfl rfl ?_; clear H; intro a H
        refine s_assign H wn rfl rfl ?_; clear H; intro a H
        refine wl_nil ?_
        refine hK14 _ _ ?_; clear hK14
        refine c_seq (fun _ hK15 => ?_)
        refine c_region ?_
        refine s_move H wn rfl rfl ?_; clear H; intro a H
        refine s_move H wn rfl rfl ?_; clear H; intro a H
        refine s_assign H wn rfl rfl ?_; clear H; intro a H
        refine s_assign H wn rfl rfl ?_; clear H; intro a H
        refine s_assign H wn rfl rfl ?_; clear H; intro a H
        refine wl_nil ?_
        refine hK15 _ _ ?_; clear hK15
        refine c_ret ?_
        refine (leaveT H Try.results38 (.cons (rv_tmp H rfl) (.cons (rv_tmp H rfl) (.cons (rv_tmp H rfl) .nil))) ?_).1
        exact H.hp.ret ⟨_, _, rfl, by first | exact hx32.mono hm40 | (rw [← hend]; exact hx32.mono hm40)⟩
end Go.Proofs.Ytbfdhlakbdadhaa
