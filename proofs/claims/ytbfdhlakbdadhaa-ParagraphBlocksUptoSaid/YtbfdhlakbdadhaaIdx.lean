/-
  Package position: Index and Of.
-/
import Derived.Test.YtbfdhlakbdadhaaDq
import Derived.Test.YtbfdhlakbdadhaaEq
namespace Go.Proofs.Ytbfdhlakbdadhaa
open Go.RowKit
theorem ty3idx : Ty Try.prog 3 1 8 [.int .i64 0] false := ⟨by kernel_rfl, by kernel_rfl⟩
theorem ty30idx : Ty Try.prog 30 1 8 [.int .i64 0] false := ⟨by kernel_rfl, by kernel_rfl⟩
theorem ty62idx : Ty Try.prog 62 11 232 [.slice none 0 0, .slice none 0 0, .int .i64 0, .int .i64 0, .slice none 0 0, .slice none 0 0, .slice none 0 0, .slice none 0 0, .slice none 0 0, .slice none 0 0, .slice none 0 0] true := ⟨by kernel_rfl, by kernel_rfl⟩
theorem ty66idx : Ty Try.prog 66 2 16 [.int .i64 0, .int .i64 0] true := ⟨by kernel_rfl, by kernel_rfl⟩
theorem en33idx : ∀ args w, (callFunc 33 args).run Try.prog w = .ok (.enter 33 args) w := enters Try.func33 rfl (by kernel_rfl)
theorem en34idx : ∀ args w, (callFunc 34 args).run Try.prog w = .ok (.enter 34 args) w := enters Try.func34 rfl (by kernel_rfl)
theorem en48idx : ∀ args w, (callFunc 48 args).run Try.prog w = .ok (.enter 48 args) w := enters Try.func48 rfl (by kernel_rfl)
theorem eqi66idx : EqI Try.prog 66 [0, 1] := ⟨by kernel_rfl, by kernel_rfl, by kernel_rfl, by kernel_rfl, by kernel_rfl⟩
theorem sr66idx : Srt Try.prog 66 [(0, 1), (1, 1)] [.int .i64 0, .int .i64 0] := ⟨by kernel_rfl, by kernel_rfl⟩
theorem idx_next {α : Type} {p : α → Bool} {A : List α} {k : Nat} (hk : k < A.length) (h : (A.take k).findIdx? p = none) (hp : p A[k] = false) : (A.take (k + 1)).findIdx? p = none := by
  rw [List.findIdx?_eq_none_iff] at h ⊢
  rw [List.take_succ_eq_append_getElem hk]
  intro x hx
  rcases List.mem_append.1 hx with hx | hx
  · exact h x hx
  · rw [List.mem_singleton.1 hx]; exact hp
theorem idx_stop {α : Type} {p : α → Bool} {A : List α} {k : Nat} (hk : k < A.length) (h : (A.take k).findIdx? p = none) (hp : p A[k] = true) : A.findIdx? p = some k := by
  have e : A.findIdx? p = (A.take k ++ A.drop k).findIdx? p := by rw [List.take_append_drop]
  rw [e, List.findIdx?_append, h, List.drop_eq_getElem_cons hk, List.findIdx?_cons, hp]
  simp; omega
theorem idx_done {α : Type} {p : α → Bool} {A : List α} (h : (A.take A.length).findIdx? p = none) : A.findIdx? p = none := by rwa [List.take_length] at h
/-- What Index gives. -/
def ixS (l : List ItemD) (f t : Int) : Int × Int :=
  if chkR l f t t = 0 then match (vItems 0 0 l).findIdx? (fun q => q.1 == f && q.2 == t) with | some i => (i, 0) | none => (0, 8) else (0, chkR l f t t)
theorem index_spec (G : GH) (w0 : World) (hG : Hold G w0) (D : DocV) (l : List ItemD) (f t : Int) (hv : RepV G (.sl 11 (l.map ItemD.dat)) (sl3 D.f)) (hz : zItems l ≤ 4294967296) :
    Calls Try.prog 18 #[D.val, .agg #[vi f, vi t]] w0 (Ret w0 G fun u G' => u = .tuple #[vi (ixS l f t).1, vi (ixS l f t).2]) := by
  refine enter (N := 23) (T := [(0, _), (1, _)]) (F := fun k => k < w0.heap.size) (L := []) Try.func18 rfl Try.ntmps18 rfl rfl hG (fun _ h => h) (fun _ h => by cases h) (fun _ h => by cases h) (fun _ h => by cases h) List.Pairwise.nil ?_
  intro a H
  refine c_seq (fun _ hK1 => ?_)
  refine c_region ?_
  refine s_box (cs := [_, _, _, _, _, _, _, _, _, _, _]) H wn rfl rfl rfl ?_; clear H; intro b2 a w hb2 H
  refine s_box (cs := [_, _]) H wn rfl rfl rfl ?_; clear H; intro b3 a w hb3 H
  refine s_alloc ty3idx H wn rfl ?_; clear H; intro b4 a w hb4 H
  refine s_alloc ty30idx H wn rfl ?_; clear H; intro b5 a w hb5 H
  refine wl_nil ?_
  refine hK1 _ _ ?_; clear hK1
  refine c_seq (fun _ hK2 => ?_)
  refine c_seq (fun _ hK3 => ?_)
  refine c_region ?_
  refine s_loada ty62idx (cs := [_, _, _, _, _, _, _, _, _, _, _]) H wn rfl rfl (H.hp.ocells 3 rfl rfl) rfl ?_; clear H; intro a H
  refine s_loada ty66idx (cs := [_, _]) H wn rfl rfl (H.hp.ocells 2 rfl rfl) rfl ?_; clear H; intro a H
  refine s_call en33idx H wn rfl (check_spec _ _ H.hp.ro D l f t hv hz) rfl ?_; clear H
  rintro v11 G11 a w rfl hm11 H
  refine s_assign H wn rfl rfl ?_; clear H; intro a H
  refine wl_nil ?_
  refine hK3 _ _ ?_; clear hK3
  refine c_seq (fun _ hK4 => ?_)
  refine c_region ?_
  refine s_move H wn rfl rfl ?_; clear H; intro a H
  refine s_cmp H wn rfl rfl rfl rfl ?_; clear H; intro a H
  refine wl_nil ?_
  refine hK4 _ _ ?_; clear hK4
  refine c_cond H rfl ?_ ?_
  · intro h13
    try have p13 := of_decide_eq_true h13
    refine c_seq (fun _ hK5 => ?_)
    refine c_region ?_
    refine s_move H wn rfl rfl ?_; clear H; intro a H
    refine s_store ty3idx 1 (vs := [_]) _ H wn rfl rfl rfl rfl rfl rfl rfl rfl ?_; clear H; intro w H; dsimp only [List.set, setRow] at H
    refine s_store ty30idx 0 (vs := [_]) _ H wn rfl rfl rfl rfl rfl rfl rfl rfl ?_; clear H; intro w H; dsimp only [List.set, setRow] at H
    refine wl_nil ?_
    refine hK5 _ _ ?_; clear hK5
    refine c_ret ?_
    refine (leaveT H Try.results18 (.cons (rv_cell ty3idx H rfl (H.hp.ocell 1 rfl rfl)) (.cons (rv_cell ty30idx H rfl (H.hp.ocell 0 rfl rfl)) .nil)) ?_).1
    exact H.hp.ret (by rw [ixS, if_neg p13]; rfl)
  · intro h13
    try have p13 := of_decide_eq_false h13
    refine c_skip ?_
    refine hK2 _ _ ?_; clear hK2
    refine c_seq (fun _ hK6 => ?_)
    refine c_seq (fun _ hK7 => ?_)
    refine c_region ?_
    refine s_loada ty62idx (cs := [_, _, _, _, _, _, _, _, _, _, _]) H wn rfl rfl (H.hp.ocells 3 rfl rfl) rfl ?_; clear H; intro a H
    refine s_call en34idx H wn rfl (positions_spec _ _ H.hp.ro D l (hv.mono hm11) hz) rfl ?_; clear H
    rintro v16 G16 a w ⟨bd, rfl, hit⟩ hm16 H
    refine wl_nil ?_
    refine hK7 _ _ ?_; clear hK7
    refine c_block ?_
    skip
    refine c_rangeJ (ι := Unit) (κ := Nat) (Lc := [(_, _), (_, _)]) (fun (k : Nat) (gh : Unit) => [(b4, .cells #[vi 0] 3 (0, 0)), (b5, .cells #[vi 0] 30 (0, 0))]) (fun (k : Nat) (gh : Unit) => []) (fun (k : Nat) (gh : Unit) (g : GH) => ((vItems 0 0 l).take k).findIdx? (fun q => q.1 == f && q.2 == t) = none) (fun (gx : Nat) => Code.ret) (fun (gx : Nat) => [(b4, .cells #[vi gx] 3 (0, 0)), (b5, .cells #[vi 0] 30 (0, 0))]) (fun (gx : Nat) => []) (fun (gx : Nat) (g : GH) => (vItems 0 0 l).findIdx? (fun q => q.1 == f && q.2 == t) = some gx) (()) (by exact H.pickT (Pl := [_, _, _, _]) (Pl' := [_, _, _, _]) [2, 3, 1, 0] (by decide) rfl) rfl en48idx (hit) (fun _ _ h => h) rfl (fun k args g h => by obtain ⟨_, rfl⟩ := ix_at h; rfl) (fun _ _ _ _ _ h => h) (fun _ _ _ _ h => h) (rfl) ?_ ?_ ?_
    · clear H; intro l5 rdy bsy bk k args gh G5 w5 F5 B5 a hk5 hm5 hI hbeg5 hnext5 hstop5 H
      obtain ⟨hk, rfl⟩ := ix_at hk5
      dsimp only [asg, List.cons_append, List.nil_append] at H
      refine c_seq (fun _ hK8 => ?_)
      refine c_region ?_
      refine s_assign H wn rfl rfl ?_; clear H; intro a H
      refine wl_nil ?_
      refine hK8 _ _ ?_; clear hK8
      refine c_region ?_
      refine s_alloc ty66idx H wn rfl ?_; clear H; intro b8 a w hb8 H
      refine s_store ty66idx 0 (vs := [_, _]) _ H wn rfl rfl rfl rfl rfl rfl rfl rfl ?_; clear H; intro w H; dsimp only [List.set, setRow] at H
      refine wl_nil ?_
      refine hbeg5 _ _ _ _ _ _ (by exact H.pickT (Pl := [_, _, _, _, _, _]) (Pl' := [_, _, _, _, _, _]) [1, 0, 2, 3, 4, 5] (by decide) rfl) ?_; clear H; intro w H
      refine c_block ?_
      refine c_seq (fun _ hK9 => ?_)
      refine c_region ?_
      refine s_loada ty66idx (cs := [_, _]) H wn rfl rfl (H.hp.ocells 1 rfl rfl) rfl ?_; clear H; intro a H
      refine s_loada ty66idx (cs := [_, _]) H wn rfl rfl (H.hp.ocells 2 rfl rfl) rfl ?_; clear H; intro a H
      refine s_eqagg eqi66idx H wn rfl rfl rfl rfl ?_; clear H; intro a H
      refine wl_nil ?_
      refine hK9 _ _ ?_; clear hK9
      refine c_cond H rfl ?_ ?_
      · intro h21
        try have p21 := of_decide_eq_true h21
        refine c_seq (fun _ hK10 => ?_)
        refine c_region ?_
        refine s_move H wn rfl rfl ?_; clear H; intro a H
        refine s_store ty3idx 4 (vs := [_]) _ H wn rfl rfl rfl rfl rfl rfl rfl rfl ?_; clear H; intro w H; dsimp only [List.set, setRow] at H
        refine s_store ty30idx 5 (vs := [_]) _ H wn rfl rfl rfl rfl rfl rfl rfl rfl ?_; clear H; intro w H; dsimp only [List.set, setRow] at H
        refine wl_nil ?_
        refine hK10 _ _ ?_; clear hK10
        refine c_ret ?_
        refine (hstop5 (k) _ _ _ _ _ (by exact H.pickT (Pl := [_, _, _, _, _, _]) (Pl' := [_, _, _, _, _]) [0, 2, 3, 4, 5] (by decide) rfl) ?_).1 rfl
        exact idx_stop hk hI (by simpa [getI] using h21)
      · intro h21
        try have p21 := of_decide_eq_false h21
        refine c_skip ?_
        refine hnext5 (()) _ _ _ _ _ (by exact H.pickT (Pl := [_, _, _, _, _, _]) (Pl' := [_, _, _, _, _]) [0, 2, 3, 4, 5] (by decide) rfl) ?_
        exact idx_next hk hI (by simpa [getI] using h21)
    · clear H; intro Dk5 gh Gd5 a w hm5 hI H
      dsimp only [List.cons_append, List.nil_append, List.append_nil] at H
      refine hK6 _ _ ?_; clear hK6
      refine c_seq (fun _ hK11 => ?_)
      refine c_region ?_
      refine s_store ty3idx 3 (vs := [_]) _ H wn rfl rfl rfl rfl rfl rfl rfl rfl ?_; clear H; intro w H; dsimp only [List.set, setRow] at H
      refine s_store ty30idx 4 (vs := [_]) _ H wn rfl rfl rfl rfl rfl rfl rfl rfl ?_; clear H; intro w H; dsimp only [List.set, setRow] at H
      refine wl_nil ?_
      refine hK11 _ _ ?_; clear hK11
      refine c_ret ?_
      refine (leaveM H 0 rfl ?_).1; clear H; intro a w H; dsimp only [List.eraseIdx_cons_succ, List.eraseIdx_cons_zero] at H
      refine (leaveT H Try.results18 (.cons (rv_cell ty3idx H rfl (H.hp.ocell 2 rfl rfl)) (.cons (rv_cell ty30idx H rfl (H.hp.ocell 3 rfl rfl)) .nil)) ?_).1
      exact H.hp.ret (by rw [ixS, if_pos (by omega), idx_done (by simpa using hI)]; rfl)
    · clear H; intro Dk5 gx Gd5 a w hm5 hI H
      obtain ⟨x, hgh⟩ : ∃ x, x = gx := ⟨_, rfl⟩; subst hgh
      dsimp only [List.cons_append, List.nil_append, List.append_nil] at H
      refine c_ret ?_
      refine (leaveM H 0 rfl ?_).1; clear H; intro a w H; dsimp only [List.eraseIdx_cons_succ, List.eraseIdx_cons_zero] at H
      refine (leaveT H Try.results18 (.cons (rv_cell ty3idx H rfl (H.hp.ocell 2 rfl rfl)) (.cons (rv_cell ty30idx H rfl (H.hp.ocell 3 rfl rfl)) .nil)) ?_).1
      exact H.hp.ret (by rw [ixS, if_pos (by omega), hI]; rfl)
/-- What Of gives. -/
def ofS (l : List ItemD) (i : Int) : (Int × Int) × Int :=
  if 0 ≤ i then match (vItems 0 0 l)[i.toNat]? with | some p => (p, 0) | none => ((0, 0), 2) else ((0, 0), 2)
theorem of_pos (G : GH) (w0 : World) (hG : Hold G w0) (D : DocV) (l : List ItemD) (i : Int) (hv : RepV G (.sl 11 (l.map ItemD.dat)) (sl3 D.f)) (hz : zItems l ≤ 4294967296) :
    Calls Try.prog 19 #[D.val, vi i] w0 (Ret w0 G fun u G' => u = .tuple #[.agg #[vi (ofS l i).1.1, vi (ofS l i).1.2], vi (ofS l i).2]) := by
  refine enter (N := 17) (T := [(0, _), (1, _)]) (F := fun k => k < w0.heap.size) (L := []) Try.func19 rfl Try.ntmps19 rfl rfl hG (fun _ h => h) (fun _ h => by cases h) (fun _ h => by cases h) (fun _ h => by cases h) List.Pairwise.nil ?_
  intro a H
  refine c_seq (fun _ hK1 => ?_)
  refine c_region ?_
  refine s_box (cs := [_, _, _, _, _, _, _, _, _, _, _]) H wn rfl rfl rfl ?_; clear H; intro b2 a w hb2 H
  refine s_box (cs := [_]) H wn rfl rfl rfl ?_; clear H; intro b3 a w hb3 H
  refine s_alloc ty66idx H wn rfl ?_; clear H; intro b4 a w hb4 H
  refine s_alloc ty30idx H wn rfl ?_; clear H; intro b5 a w hb5 H
  refine wl_nil ?_
  refine hK1 _ _ ?_; clear hK1
  refine c_seq (fun _ hK2 => ?_)
  refine c_seq (fun _ hK3 => ?_)
  refine c_region ?_
  refine s_loada ty62idx (cs := [_, _, _, _, _, _, _, _, _, _, _]) H wn rfl rfl (H.hp.ocells 3 rfl rfl) rfl ?_; clear H; intro a H
  refine s_call en34idx H wn rfl (positions_spec _ _ H.hp.ro D l hv hz) rfl ?_; clear H
  rintro v9 G9 a w ⟨bd, rfl, hit⟩ hm9 H
  refine wl_nil ?_
  refine hK3 _ _ ?_; clear hK3
  refine c_block ?_
  skip
  refine c_rangeJ (ι := Unit) (κ := Int × Int) (Lc := [(_, _), (_, _)]) (fun (k : Nat) (gh : Unit) => [(b4, .cells #[vi 0, vi 0] 66 (0, 0)), (b5, .cells #[vi 0] 30 (0, 0))]) (fun (k : Nat) (gh : Unit) => []) (fun (k : Nat) (gh : Unit) (g : GH) => ∀ j < k, (j : Int) ≠ i) (fun (gx : Int × Int) => Code.ret) (fun (gx : Int × Int) => [(b4, .cells #[vi gx.1, vi gx.2] 66 (0, 0)), (b5, .cells #[vi 0] 30 (0, 0))]) (fun (gx : Int × Int) => []) (fun (gx : Int × Int) (g : GH) => 0 ≤ i ∧ (vItems 0 0 l)[i.toNat]? = some gx) (()) (by exact H.pickT (Pl := [_, _, _, _]) (Pl' := [_, _, _, _]) [2, 3, 1, 0] (by decide) rfl) rfl en48idx (hit) (fun _ _ h => h) rfl (fun k args g h => by obtain ⟨_, rfl⟩ := ix_at h; rfl) (fun _ _ _ _ _ h => h) (fun _ _ _ _ h => h) (fun j hj => absurd hj (by omega)) ?_ ?_ ?_
  · clear H; intro l2 rdy bsy bk k args gh G2 w2 F2 B2 a hk2 hm2 hI hbeg2 hnext2 hstop2 H
    obtain ⟨hk, rfl⟩ := ix_at hk2
    dsimp only [asg, List.cons_append, List.nil_append] at H
    refine c_seq (fun _ hK4 => ?_)
    refine c_region ?_
    refine s_assign H wn rfl rfl ?_; clear H; intro a H
    refine wl_nil ?_
    refine hK4 _ _ ?_; clear hK4
    refine c_region ?_
    refine s_alloc ty66idx H wn rfl ?_; clear H; intro b7 a w hb7 H
    refine s_store ty66idx 0 (vs := [_, _]) _ H wn rfl rfl rfl rfl rfl rfl rfl rfl ?_; clear H; intro w H; dsimp only [List.set, setRow] at H
    refine wl_nil ?_
    refine hbeg2 _ _ _ _ _ _ (by exact H.pickT (Pl := [_, _, _, _, _, _]) (Pl' := [_, _, _, _, _, _]) [1, 0, 2, 3, 4, 5] (by decide) rfl) ?_; clear H; intro w H
    refine c_block ?_
    refine c_seq (fun _ hK5 => ?_)
    refine c_region ?_
    refine s_move H wn rfl rfl ?_; clear H; intro a H
    refine s_load ty3idx H wn rfl (H.hp.ocell 2 rfl rfl) rfl ?_; clear H; intro a H
    refine s_cmp H wn rfl rfl rfl rfl ?_; clear H; intro a H
    refine wl_nil ?_
    refine hK5 _ _ ?_; clear hK5
    refine c_cond H rfl ?_ ?_
    · intro h14
      try have p14 := of_decide_eq_true h14
      refine c_seq (fun _ hK6 => ?_)
      refine c_region ?_
      refine s_loada ty66idx (cs := [_, _]) H wn rfl rfl (H.hp.ocells 1 rfl rfl) rfl ?_; clear H; intro a H
      refine s_store ty66idx 4 (vs := [_, _]) _ H wn rfl rfl rfl rfl rfl rfl rfl rfl ?_; clear H; intro w H; dsimp only [List.set, setRow] at H
      refine s_store ty30idx 5 (vs := [_]) _ H wn rfl rfl rfl rfl rfl rfl rfl rfl ?_; clear H; intro w H; dsimp only [List.set, setRow] at H
      refine wl_nil ?_
      refine hK6 _ _ ?_; clear hK6
      refine c_ret ?_
      refine (hstop2 ((vItems 0 0 l)[k]) _ _ _ _ _ (by exact H.pickT (Pl := [_, _, _, _, _, _]) (Pl' := [_, _, _, _, _]) [0, 2, 3, 4, 5] (by decide) rfl) ?_).1 rfl
      exact ⟨by omega, by rw [show i.toNat = k by omega]; exact List.getElem?_eq_getElem hk⟩
    · intro h14
      try have p14 := of_decide_eq_false h14
      refine c_skip ?_
      refine hnext2 (()) _ _ _ _ _ (by exact H.pickT (Pl := [_, _, _, _, _, _]) (Pl' := [_, _, _, _, _]) [0, 2, 3, 4, 5] (by decide) rfl) ?_
      intro j hj
      by_cases e : j = k
      · rw [e]; exact p14
      · exact hI j (by omega)
  · clear H; intro Dk2 gh Gd2 a w hm2 hI H
    dsimp only [List.cons_append, List.nil_append, List.append_nil] at H
    refine hK2 _ _ ?_; clear hK2
    refine c_seq (fun _ hK7 => ?_)
    refine c_region ?_
    refine s_build sr66idx [_, _] H wn rfl rfl rfl rfl ?_; clear H; intro a H
    refine s_store ty66idx 3 (vs := [_, _]) _ H wn rfl rfl rfl rfl rfl rfl rfl rfl ?_; clear H; intro w H; dsimp only [List.set, setRow] at H
    refine s_store ty30idx 4 (vs := [_]) _ H wn rfl rfl rfl rfl rfl rfl rfl rfl ?_; clear H; intro w H; dsimp only [List.set, setRow] at H
    refine wl_nil ?_
    refine hK7 _ _ ?_; clear hK7
    refine c_ret ?_
    refine (leaveM H 0 rfl ?_).1; clear H; intro a w H; dsimp only [List.eraseIdx_cons_succ, List.eraseIdx_cons_zero] at H
    refine (leaveT H Try.results19 (.cons (rv_cella ty66idx (cs := [_, _]) H rfl rfl (H.hp.ocells 2 rfl rfl)) (.cons (rv_cell ty30idx H rfl (H.hp.ocell 3 rfl rfl)) .nil)) ?_).1
    have h2 : ofS l i = ((0, 0), 2) := by
      unfold ofS; split
      · rename_i h0
        have h1 : (vItems 0 0 l)[i.toNat]? = none := by
          rw [List.getElem?_eq_none_iff]
          exact Nat.le_of_not_lt fun hn => hI i.toNat (by simpa using hn) (by omega)
        rw [h1]
      · rfl
    exact H.hp.ret (by rw [h2]; rfl)
  · clear H; intro Dk2 gx Gd2 a w hm2 hI H
    obtain ⟨x, hgh⟩ : ∃ x, x = gx := ⟨_, rfl⟩; subst hgh
    dsimp only [List.cons_append, List.nil_append, List.append_nil] at H
    refine c_ret ?_
    refine (leaveM H 0 rfl ?_).1; clear H; intro a w H; dsimp only [List.eraseIdx_cons_succ, List.eraseIdx_cons_zero] at H
    refine (leaveT H Try.results19 (.cons (rv_cella ty66idx (cs := [_, _]) H rfl rfl (H.hp.ocells 2 rfl rfl)) (.cons (rv_cell ty30idx H rfl (H.hp.ocell 3 rfl rfl)) .nil)) ?_).1
    exact H.hp.ret (by rw [ofS, if_pos hI.1, hI.2]; rfl)
end Go.Proofs.Ytbfdhlakbdadhaa
