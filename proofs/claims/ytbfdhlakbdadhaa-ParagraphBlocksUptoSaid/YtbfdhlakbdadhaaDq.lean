/-
  Package document: Flow; package position: length, CheckRange, Check.
-/
import Derived.Test.YtbfdhlakbdadhaaDoc
namespace Go.Proofs.Ytbfdhlakbdadhaa
open Go.RowKit
theorem ty28dq : Ty Try.prog 28 1 24 [.slice none 0 0] false := ⟨by kernel_rfl, by kernel_rfl⟩
theorem ty4dq : Ty Try.prog 4 1 1 [.bool false] false := ⟨by kernel_rfl, by kernel_rfl⟩
theorem ty62dq : Ty Try.prog 62 11 232 [.slice none 0 0, .slice none 0 0, .int .i64 0, .int .i64 0, .slice none 0 0, .slice none 0 0, .slice none 0 0, .slice none 0 0, .slice none 0 0, .slice none 0 0, .slice none 0 0] true := ⟨by kernel_rfl, by kernel_rfl⟩
theorem en51dq : ∀ args w, (callFunc 51 args).run Try.prog w = .ok (.enter 51 args) w := enters Try.func51 rfl (by kernel_rfl)
theorem en81dq : ∀ args w, (callFunc 81 args).run Try.prog w = .ok (.enter 81 args) w := enters Try.func81 rfl (by kernel_rfl)
theorem ty129dq : Ty Try.prog 129 4 40 [.slice none 0 0, .bool false, .bool false, .int .i64 0] true := ⟨by kernel_rfl, by kernel_rfl⟩
theorem ty3dq : Ty Try.prog 3 1 8 [.int .i64 0] false := ⟨by kernel_rfl, by kernel_rfl⟩
theorem fd129_0dq : Fld Try.prog 129 0 0 := ⟨by kernel_rfl⟩
theorem en52dq : ∀ args w, (callFunc 52 args).run Try.prog w = .ok (.enter 52 args) w := enters Try.func52 rfl (by kernel_rfl)
theorem en35dq : ∀ args w, (callFunc 35 args).run Try.prog w = .ok (.enter 35 args) w := enters Try.func35 rfl (by kernel_rfl)
theorem en11dq : ∀ args w, (callFunc 11 args).run Try.prog w = .ok (.enter 11 args) w := enters Try.func11 rfl (by kernel_rfl)
theorem fd23_0dq : Fld Try.prog 23 0 0 := ⟨by kernel_rfl⟩
theorem en64dq : ∀ args w, (callFunc 64 args).run Try.prog w = .ok (.enter 64 args) w := enters Try.func64 rfl (by kernel_rfl)
theorem fd23_1dq : Fld Try.prog 23 1 1 := ⟨by kernel_rfl⟩
theorem fd23_2dq : Fld Try.prog 23 2 2 := ⟨by kernel_rfl⟩
theorem fd66_0dq : Fld Try.prog 66 0 0 := ⟨by kernel_rfl⟩
theorem fd66_1dq : Fld Try.prog 66 1 1 := ⟨by kernel_rfl⟩
theorem sr23dq : Srt Try.prog 23 [(0, 1), (1, 1), (2, 1)] [.int .i64 0, .int .i64 0, .int .i64 0] := ⟨by kernel_rfl, by kernel_rfl⟩
theorem en47dq : ∀ args w, (callFunc 47 args).run Try.prog w = .ok (.enter 47 args) w := enters Try.func47 rfl (by kernel_rfl)
mutual
theorem wItem_sz {note : Bool} {t : Int} {f : FlowD} : ∀ {x : ItemD}, f ∈ wItem note t x → zItems f.items < szR x.dat
  | .mk k c i tx h fl r, hf => by
    have h4 := zItem_eq (.mk k c i tx h fl r)
    simp only [ItemD.text, ItemD.head, ItemD.flow, ItemD.rows] at h4
    rw [wItem] at hf
    split at hf
    · rcases List.mem_cons.1 hf with rfl | hf
      · show zItems fl < _; omega
      · have := wItems_sz hf; omega
    · split at hf
      · have := wRows_sz hf; omega
      · cases hf
theorem wItems_sz {note : Bool} {t : Int} {f : FlowD} : ∀ {l : List ItemD}, f ∈ wItems note t l → zItems f.items ≤ zItems l
  | [], hf => by simp [wItems] at hf
  | x :: l, hf => by
    rw [wItems] at hf
    simp only [zItems, List.map_cons, szRs]
    rcases List.mem_append.1 hf with hf | hf
    · have := wItem_sz hf; simp only [zItems] at this; omega
    · have := wItems_sz hf; simp only [zItems] at this; omega
theorem wRows_sz {note : Bool} {t : Int} {f : FlowD} : ∀ {l : List RowD}, f ∈ wRows note t l → zItems f.items ≤ zRows l
  | [], hf => by simp [wRows] at hf
  | x :: l, hf => by
    rw [wRows] at hf
    simp only [zRows, List.map_cons, szRs]
    rcases List.mem_append.1 hf with hf | hf
    · have := wRow_sz hf; simp only [zItems] at *; omega
    · have := wRows_sz hf; simp only [zItems, zRows] at *; omega
theorem wRow_sz {note : Bool} {t : Int} {f : FlowD} : ∀ {x : RowD}, f ∈ wRow note t x → zItems f.items ≤ szR x.dat
  | .mk h cs, hf => by
    have h4 := zRow_eq (.mk h cs)
    simp only [RowD.head, RowD.cells] at h4
    rw [wRow] at hf
    have := wCells_sz hf; omega
theorem wCells_sz {note : Bool} {t : Int} {f : FlowD} : ∀ {l : List CellD}, f ∈ wCells note t l → zItems f.items ≤ zCells l
  | [], hf => by simp [wCells] at hf
  | x :: l, hf => by
    rw [wCells] at hf
    simp only [zCells, List.map_cons, szRs]
    rcases List.mem_append.1 hf with hf | hf
    · have := wCell_sz hf; simp only [zItems] at *; omega
    · have := wCells_sz hf; simp only [zItems, zCells] at *; omega
theorem wCell_sz {note : Bool} {t : Int} {f : FlowD} : ∀ {x : CellD}, f ∈ wCell note t x → zItems f.items ≤ szR x.dat
  | .mk i h fl, hf => by
    have h4 := zCell_eq (.mk i h fl)
    simp only [CellD.head, CellD.flow] at h4
    rw [wCell] at hf
    rcases List.mem_cons.1 hf with rfl | hf
    · show zItems fl ≤ _; omega
    · have := wItems_sz hf; omega
end
theorem flowsD_sz {f : FlowD} {l : List ItemD} (h : f ∈ flowsD l) : zItems f.items ≤ zItems l := by
  rcases List.mem_cons.1 h with rfl | h
  · exact Nat.le_refl _
  · exact wItems_sz h
/-- The flow with an id. -/
def flowOf (l : List ItemD) (id : Int) : Option (List ItemD) := ((flowsD l).find? fun f => decide (f.id = id)).map FlowD.items
theorem flowOf_sz {f : List ItemD} {l : List ItemD} {id : Int} (h : flowOf l id = some f) : zItems f ≤ zItems l := by
  obtain ⟨a, ha, rfl⟩ := Option.map_eq_some_iff.1 h
  exact flowsD_sz (List.mem_of_find?_eq_some ha)
theorem find_next {α : Type} {p : α → Bool} {A : List α} {k : Nat} (hk : k < A.length) (h : (A.take k).find? p = none) (hp : p A[k] = false) : (A.take (k + 1)).find? p = none := by
  rw [List.take_succ_eq_append_getElem hk, List.find?_append, h]
  simp [hp]
theorem find_stop {α : Type} {p : α → Bool} {A : List α} {k : Nat} (hk : k < A.length) (h : (A.take k).find? p = none) (hp : p A[k] = true) : A.find? p = some A[k] := by
  have e : A.find? p = (A.take k ++ A.drop k).find? p := by rw [List.take_append_drop]
  rw [e, List.find?_append, h, List.drop_eq_getElem_cons hk, List.find?_cons, hp]
  rfl
theorem find_done {α : Type} {p : α → Bool} {A : List α} (h : (A.take A.length).find? p = none) : A.find? p = none := by rwa [List.take_length] at h
theorem fl_at {A : List FlowD} {k : Nat} {args : List Value} {g : GH} (h : AtAP (A.map flP) k args g) : ∃ (hk : k < A.length) (a : Option Addr) (n c : Nat), args = [vi A[k].id, .agg #[.slice a n c, .bool A[k].body, .bool A[k].note, vi A[k].tables]] ∧ RepV g (.sl 11 (A[k].items.map ItemD.dat)) (.slice a n c) := by
  obtain ⟨p, hp, hargs⟩ := h
  rw [List.getElem?_map] at hp
  obtain ⟨q, hq, rfl⟩ := Option.map_eq_some_iff.1 hp
  obtain ⟨hk, rfl⟩ := List.getElem?_eq_some_iff.1 hq
  obtain ⟨v, h1, h2⟩ := hargs
  obtain ⟨a, n, c, rfl⟩ := h2.form
  exact ⟨hk, a, n, c, h1, h2⟩
theorem flow_spec (G : GH) (w0 : World) (hG : Hold G w0) (D : DocV) (l : List ItemD) (id : Int) (hv : RepV G (.sl 11 (l.map ItemD.dat)) (sl3 D.f)) (hz : zItems l ≤ 4294967296) :
    Calls Try.prog 35 #[D.val, vi id] w0 (Ret w0 G fun u G' => ∃ v, u = .tuple #[v, .bool (flowOf l id).isSome] ∧ RepV G' (.sl 11 (((flowOf l id).getD []).map ItemD.dat)) v) := by
  refine enter (N := 18) (T := [(0, _), (1, _)]) (F := fun k => k < w0.heap.size) (L := []) Try.func35 rfl Try.ntmps35 rfl rfl hG (fun _ h => h) (fun _ h => by cases h) (fun _ h => by cases h) (fun _ h => by cases h) List.Pairwise.nil ?_
  intro a H
  refine c_seq (fun _ hK1 => ?_)
  refine c_region ?_
  refine s_box (cs := [_, _, _, _, _, _, _, _, _, _, _]) H wn rfl rfl rfl ?_; clear H; intro b2 a w hb2 H
  refine s_box (cs := [_]) H wn rfl rfl rfl ?_; clear H; intro b3 a w hb3 H
  refine s_alloc ty28dq H wn rfl ?_; clear H; intro b4 a w hb4 H
  refine s_alloc ty4dq H wn rfl ?_; clear H; intro b5 a w hb5 H
  refine wl_nil ?_
  refine hK1 _ _ ?_; clear hK1
  refine c_seq (fun _ hK2 => ?_)
  refine c_seq (fun _ hK3 => ?_)
  refine c_region ?_
  refine s_loada ty62dq (cs := [_, _, _, _, _, _, _, _, _, _, _]) H wn rfl rfl (H.hp.ocells 3 rfl rfl) rfl ?_; clear H; intro a H
  refine s_call en51dq H wn rfl (of_spec _ _ H.hp.ro D l hv hz) rfl ?_; clear H
  rintro v9 G9 a w ⟨ba, bl, bp, rfl, hit⟩ hm9 H
  refine wl_nil ?_
  refine hK3 _ _ ?_; clear hK3
  refine c_block ?_
  skip
  refine c_rangeJ (ι := Unit) (κ := Value) (Lc := [(_, _), (_, _)]) (fun (k : Nat) (gh : Unit) => [(b4, .cells #[.slice none 0 0] 28 (0, 0)), (b5, .cells #[.bool false] 4 (0, 0))]) (fun (k : Nat) (gh : Unit) => []) (fun (k : Nat) (gh : Unit) (g : GH) => ((flowsD l).take k).find? (fun f => decide (f.id = id)) = none) (fun (gx : Value) => Code.ret) (fun (gx : Value) => [(b4, .cells #[gx] 28 (0, 0)), (b5, .cells #[.bool true] 4 (0, 0))]) (fun (gx : Value) => []) (fun (gx : Value) (g : GH) => ∃ f, flowOf l id = some f ∧ RepV g (.sl 11 (f.map ItemD.dat)) gx) (()) (by exact H.pickT (Pl := [_, _, _, _]) (Pl' := [_, _, _, _]) [2, 3, 1, 0] (by decide) rfl) rfl en81dq (hit) (fun _ _ h => h) rfl (fun k args g h => by obtain ⟨_, _, _, _, rfl, _⟩ := fl_at h; rfl) (fun _ _ _ _ _ h => h) (fun x G G' hm h => let ⟨f, h1, h2⟩ := h; ⟨f, h1, h2.mono hm⟩) (rfl) ?_ ?_ ?_
  · clear H; intro l2 rdy bsy bk k args gh G2 w2 F2 B2 a hk2 hm2 hI hbeg2 hnext2 hstop2 H
    obtain ⟨hk, vA, vn, vc, rfl, hrep⟩ := fl_at hk2
    dsimp only [asg, List.cons_append, List.nil_append] at H
    refine c_seq (fun _ hK4 => ?_)
    refine c_region ?_
    refine s_assign H wn rfl rfl ?_; clear H; intro a H
    refine wl_nil ?_
    refine hK4 _ _ ?_; clear hK4
    refine c_region ?_
    refine s_alloc ty129dq H wn rfl ?_; clear H; intro b7 a w hb7 H
    refine s_store ty129dq 0 (vs := [_, _, _, _]) _ H wn rfl rfl rfl rfl rfl rfl rfl rfl ?_; clear H; intro w H; dsimp only [List.set, setRow] at H
    refine wl_nil ?_
    refine hbeg2 _ _ _ _ _ _ (by exact H.pickT (Pl := [_, _, _, _, _, _]) (Pl' := [_, _, _, _, _, _]) [1, 0, 2, 3, 4, 5] (by decide) rfl) ?_; clear H; intro w H
    refine c_block ?_
    refine c_seq (fun _ hK5 => ?_)
    refine c_region ?_
    refine s_move H wn rfl rfl ?_; clear H; intro a H
    refine s_load ty3dq H wn rfl (H.hp.ocell 2 rfl rfl) rfl ?_; clear H; intro a H
    refine s_cmp H wn rfl rfl rfl rfl ?_; clear H; intro a H
    refine wl_nil ?_
    refine hK5 _ _ ?_; clear hK5
    refine c_cond H rfl ?_ ?_
    · intro h14
      try have p14 := of_decide_eq_true h14
      refine c_seq (fun _ hK6 => ?_)
      refine c_region ?_
      refine s_field fd129_0dq H wn rfl rfl ?_; clear H; intro a H
      refine s_load ty28dq H wn rfl (H.hp.ocell 1 rfl rfl) rfl ?_; clear H; intro a H
      refine s_call en52dq H wn rfl (clone_spec _ _ H.hp.ro _ _ hrep (by have := flowsD_sz (List.getElem_mem hk); omega)) rfl ?_; clear H
      rintro v17 G17 a w hp17 hm17 H
      obtain ⟨A17, n17, c17, rfl⟩ := hp17.form
      refine s_store ty28dq 4 (vs := [_]) _ H wn rfl rfl rfl rfl rfl rfl rfl rfl ?_; clear H; intro w H; dsimp only [List.set, setRow] at H
      refine s_store ty4dq 5 (vs := [_]) _ H wn rfl rfl rfl rfl rfl rfl rfl rfl ?_; clear H; intro w H; dsimp only [List.set, setRow] at H
      refine wl_nil ?_
      refine hK6 _ _ ?_; clear hK6
      refine c_ret ?_
      refine (hstop2 (.slice A17 n17 c17) _ _ _ _ _ (by exact H.pickT (Pl := [_, _, _, _, _, _]) (Pl' := [_, _, _, _, _]) [0, 2, 3, 4, 5] (by decide) rfl) ?_).1 rfl
      exact ⟨_, by unfold flowOf; rw [find_stop hk hI h14]; rfl, hp17⟩
    · intro h14
      try have p14 := of_decide_eq_false h14
      refine c_skip ?_
      refine hnext2 (()) _ _ _ _ _ (by exact H.pickT (Pl := [_, _, _, _, _, _]) (Pl' := [_, _, _, _, _]) [0, 2, 3, 4, 5] (by decide) rfl) ?_
      exact find_next hk hI h14
  · clear H; intro Dk2 gh Gd2 a w hm2 hI H
    dsimp only [List.cons_append, List.nil_append, List.append_nil] at H
    refine hK2 _ _ ?_; clear hK2
    refine c_seq (fun _ hK7 => ?_)
    refine c_region ?_
    refine s_store ty28dq 3 (vs := [_]) _ H wn rfl rfl rfl rfl rfl rfl rfl rfl ?_; clear H; intro w H; dsimp only [List.set, setRow] at H
    refine s_store ty4dq 4 (vs := [_]) _ H wn rfl rfl rfl rfl rfl rfl rfl rfl ?_; clear H; intro w H; dsimp only [List.set, setRow] at H
    refine wl_nil ?_
    refine hK7 _ _ ?_; clear hK7
    refine c_ret ?_
    refine (leaveM H 0 rfl ?_).1; clear H; intro a w H; dsimp only [List.eraseIdx_cons_succ, List.eraseIdx_cons_zero] at H
    refine (leaveT H Try.results35 (.cons (rv_cell ty28dq H rfl (H.hp.ocell 2 rfl rfl)) (.cons (rv_cell ty4dq H rfl (H.hp.ocell 3 rfl rfl)) .nil)) ?_).1
    exact H.hp.ret ⟨_, by unfold flowOf; rw [find_done (by simpa using hI)]; rfl, by unfold flowOf; rw [find_done (by simpa using hI)]; exact RepV.nil_ rfl (by decide)⟩
  · clear H; intro Dk2 gx Gd2 a w hm2 hI H
    obtain ⟨x, hgh⟩ : ∃ x, x = gx := ⟨_, rfl⟩; subst hgh
    dsimp only [List.cons_append, List.nil_append, List.append_nil] at H
    obtain ⟨f, hf, hrep⟩ := hI
    obtain ⟨xA, xn, xc, rfl⟩ := hrep.form
    refine c_ret ?_
    refine (leaveM H 0 rfl ?_).1; clear H; intro a w H; dsimp only [List.eraseIdx_cons_succ, List.eraseIdx_cons_zero] at H
    refine (leaveT H Try.results35 (.cons (rv_cell ty28dq H rfl (H.hp.ocell 2 rfl rfl)) (.cons (rv_cell ty4dq H rfl (H.hp.ocell 3 rfl rfl)) .nil)) ?_).1
    exact H.hp.ret ⟨_, by rw [hf]; rfl, by rw [hf]; exact hrep⟩
theorem length_spec (G : GH) (w0 : World) (hG : Hold G w0) (D : DocV) (l : List ItemD) (id : Int) (hv : RepV G (.sl 11 (l.map ItemD.dat)) (sl3 D.f)) (hz : zItems l ≤ 4294967296) :
    Calls Try.prog 64 #[D.val, vi id] w0 (Ret w0 G fun u G' => u = .tuple #[vi (lenS ((flowOf l id).getD [])), .bool (flowOf l id).isSome]) := by
  have hsz : zItems ((flowOf l id).getD []) ≤ zItems l := by
    cases h : flowOf l id with
    | none => exact Nat.zero_le _
    | some f => exact flowOf_sz h
  refine enter (N := 23) (T := [(0, _), (1, _)]) (F := fun k => k < w0.heap.size) (L := []) Try.func64 rfl Try.ntmps64 rfl rfl hG (fun _ h => h) (fun _ h => by cases h) (fun _ h => by cases h) (fun _ h => by cases h) List.Pairwise.nil ?_
  intro a H
  refine c_seq (fun _ hK1 => ?_)
  refine c_region ?_
  refine s_box (cs := [_, _, _, _, _, _, _, _, _, _, _]) H wn rfl rfl rfl ?_; clear H; intro b2 a w hb2 H
  refine s_assign H wn rfl rfl ?_; clear H; intro a H
  refine s_assign H wn rfl rfl ?_; clear H; intro a H
  refine wl_nil ?_
  refine hK1 _ _ ?_; clear hK1
  refine c_seq (fun _ hK2 => ?_)
  refine c_region ?_
  refine s_loada ty62dq (cs := [_, _, _, _, _, _, _, _, _, _, _]) H wn rfl rfl (H.hp.ocells 0 rfl rfl) rfl ?_; clear H; intro a H
  refine s_move H wn rfl rfl ?_; clear H; intro a H
  refine s_call en35dq H wn rfl (flow_spec _ _ H.hp.ro D l id hv hz) rfl ?_; clear H
  rintro v13 G13 a w ⟨v, rfl, hr⟩ hm13 H
  refine s_move H wn rfl rfl ?_; clear H; intro a H
  refine s_extract H wn rfl rfl rfl ?_; clear H; intro a H
  refine s_extract H wn rfl rfl rfl ?_; clear H; intro a H
  refine s_assign H wn rfl rfl ?_; clear H; intro a H
  refine s_assign H wn rfl rfl ?_; clear H; intro a H
  refine wl_nil ?_
  refine hK2 _ _ ?_; clear hK2
  refine c_seq (fun _ hK3 => ?_)
  refine c_region ?_
  refine s_move H wn rfl rfl ?_; clear H; intro a H
  refine s_call en11dq H wn rfl (len_spec _ _ H.hp.ro _ _ hr (by omega)) rfl ?_; clear H
  rintro v18 G18 a w ⟨rfl, rfl⟩ hm18 H
  refine s_move H wn rfl rfl ?_; clear H; intro a H
  refine s_extract H wn rfl rfl rfl ?_; clear H; intro a H
  refine s_extract H wn rfl rfl rfl ?_; clear H; intro a H
  refine s_assign H wn rfl rfl ?_; clear H; intro a H
  refine s_assign H wn rfl rfl ?_; clear H; intro a H
  refine wl_nil ?_
  refine hK3 _ _ ?_; clear hK3
  refine c_seq (fun _ hK4 => ?_)
  refine c_region ?_
  refine s_move H wn rfl rfl ?_; clear H; intro a H
  refine s_move H wn rfl rfl ?_; clear H; intro a H
  refine s_assign H wn rfl rfl ?_; clear H; intro a H
  refine s_assign H wn rfl rfl ?_; clear H; intro a H
  refine wl_nil ?_
  refine hK4 _ _ ?_; clear hK4
  refine c_ret ?_
  refine (leaveT H Try.results64 (.cons (rv_tmp H rfl) (.cons (rv_tmp H rfl) .nil)) ?_).1
  exact H.hp.ret rfl
/-- The error of a range. -/
def chkR (l : List ItemD) (flow from_ to : Int) : Int :=
  if (flowOf l flow).isSome = true then if from_ < 0 ∨ to < from_ ∨ lenS ((flowOf l flow).getD []) < to then 2 else 0 else 8
theorem checkRange_spec (G : GH) (w0 : World) (hG : Hold G w0) (D : DocV) (l : List ItemD) (flow from_ to : Int) (hv : RepV G (.sl 11 (l.map ItemD.dat)) (sl3 D.f)) (hz : zItems l ≤ 4294967296) :
    Calls Try.prog 47 #[D.val, .agg #[vi flow, vi from_, vi to]] w0 (Ret w0 G fun u G' => u = vi (chkR l flow from_ to)) := by
  refine enter (N := 34) (T := [(0, _), (1, _)]) (F := fun k => k < w0.heap.size) (L := []) Try.func47 rfl Try.ntmps47 rfl rfl hG (fun _ h => h) (fun _ h => by cases h) (fun _ h => by cases h) (fun _ h => by cases h) List.Pairwise.nil ?_
  intro a H
  refine c_seq (fun _ hK1 => ?_)
  refine c_region ?_
  refine s_box (cs := [_, _, _, _, _, _, _, _, _, _, _]) H wn rfl rfl rfl ?_; clear H; intro b2 a w hb2 H
  refine s_box (cs := [_, _, _]) H wn rfl rfl rfl ?_; clear H; intro b3 a w hb3 H
  refine s_assign H wn rfl rfl ?_; clear H; intro a H
  refine wl_nil ?_
  refine hK1 _ _ ?_; clear hK1
  refine c_seq (fun _ hK2 => ?_)
  refine c_region ?_
  refine s_loada ty62dq (cs := [_, _, _, _, _, _, _, _, _, _, _]) H wn rfl rfl (H.hp.ocells 1 rfl rfl) rfl ?_; clear H; intro a H
  refine s_field fd23_0dq H wn rfl rfl ?_; clear H; intro a H
  refine s_load ty3dq H wn rfl (H.hp.ocell 0 rfl rfl) rfl ?_; clear H; intro a H
  refine s_call en64dq H wn rfl (length_spec _ _ H.hp.ro D l flow hv hz) rfl ?_; clear H
  rintro v11 G11 a w rfl hm11 H
  refine s_move H wn rfl rfl ?_; clear H; intro a H
  refine s_extract H wn rfl rfl rfl ?_; clear H; intro a H
  refine s_extract H wn rfl rfl rfl ?_; clear H; intro a H
  refine s_assign H wn rfl rfl ?_; clear H; intro a H
  refine s_assign H wn rfl rfl ?_; clear H; intro a H
  refine wl_nil ?_
  refine hK2 _ _ ?_; clear hK2
  refine c_seq (fun _ hK3 => ?_)
  refine c_block ?_
  refine c_seq (fun _ hK4 => ?_)
  refine c_region ?_
  refine s_move H wn rfl rfl ?_; clear H; intro a H
  refine s_not H wn rfl rfl ?_; clear H; intro a H
  refine s_assign H wn rfl rfl ?_; clear H; intro a H
  refine wl_nil ?_
  refine hK4 _ _ ?_; clear hK4
  refine c_cond H rfl ?_ ?_
  · intro h14
    try have p14 := of_decide_eq_true h14
    refine c_seq (fun _ hK5 => ?_)
    refine c_region ?_
    refine s_assign H wn rfl rfl ?_; clear H; intro a H
    refine wl_nil ?_
    refine hK5 _ _ ?_; clear hK5
    refine c_ret ?_
    refine (leave1 H Try.results47 (.cons (rv_tmp H rfl) .nil) ?_).1
    exact H.hp.ret (by unfold chkR; congr 1; simp_all)
  · intro h14
    try have p14 := of_decide_eq_false h14
    refine c_seq (fun _ hK6 => ?_)
    refine c_region ?_
    refine s_field fd23_1dq H wn rfl rfl ?_; clear H; intro a H
    refine s_load ty3dq H wn rfl (H.hp.ocell 0 rfl rfl) rfl ?_; clear H; intro a H
    refine s_cmp H wn rfl rfl rfl rfl ?_; clear H; intro a H
    refine s_move H wn rfl rfl ?_; clear H; intro a H
    refine s_split H 21 rfl ?_ ?_
    · intro h21
      try have p21 := of_decide_eq_true h21
      refine s_skip H rfl rfl h21 rfl ?_; clear H; intro a H
      refine s_skip H rfl rfl h21 rfl ?_; clear H; intro a H
      refine s_skip H rfl rfl h21 rfl ?_; clear H; intro a H
      refine s_skip H rfl rfl h21 rfl ?_; clear H; intro a H
      refine s_skip H rfl rfl h21 rfl ?_; clear H; intro a H
      refine s_pick_t H wn rfl h21 rfl rfl ?_; clear H; intro a H
      refine s_move H wn rfl rfl ?_; clear H; intro a H
      refine s_skip H rfl rfl rfl rfl ?_; clear H; intro a H
      refine s_skip H rfl rfl rfl rfl ?_; clear H; intro a H
      refine s_skip H rfl rfl rfl rfl ?_; clear H; intro a H
      refine s_skip H rfl rfl rfl rfl ?_; clear H; intro a H
      refine s_pick_t H wn rfl rfl rfl rfl ?_; clear H; intro a H
      refine s_assign H wn rfl rfl ?_; clear H; intro a H
      refine wl_nil ?_
      refine hK6 _ _ ?_; clear hK6
      refine c_cond_t H rfl rfl ?_
      refine c_seq (fun _ hK7 => ?_)
      refine c_region ?_
      refine s_assign H wn rfl rfl ?_; clear H; intro a H
      refine wl_nil ?_
      refine hK7 _ _ ?_; clear hK7
      refine c_ret ?_
      refine (leave1 H Try.results47 (.cons (rv_tmp H rfl) .nil) ?_).1
      exact H.hp.ret (by unfold chkR; congr 1; simp_all)
    · intro h21
      try have p21 := of_decide_eq_false h21
      refine s_field fd23_2dq H (wg H rfl rfl h21) rfl rfl ?_; clear H; intro a H
      refine s_load ty3dq H (wg H rfl rfl h21) rfl (H.hp.ocell 0 rfl rfl) rfl ?_; clear H; intro a H
      refine s_field fd23_1dq H (wg H rfl rfl h21) rfl rfl ?_; clear H; intro a H
      refine s_load ty3dq H (wg H rfl rfl h21) rfl (H.hp.ocell 0 rfl rfl) rfl ?_; clear H; intro a H
      refine s_cmp H (wg H rfl rfl h21) rfl rfl rfl rfl ?_; clear H; intro a H
      refine s_pick_f H wn rfl h21 rfl rfl ?_; clear H; intro a H
      refine s_move H wn rfl rfl ?_; clear H; intro a H
      refine s_split H 28 rfl ?_ ?_
      · intro h28
        try have p28 := of_decide_eq_true h28
        refine s_skip H rfl rfl h28 rfl ?_; clear H; intro a H
        refine s_skip H rfl rfl h28 rfl ?_; clear H; intro a H
        refine s_skip H rfl rfl h28 rfl ?_; clear H; intro a H
        refine s_skip H rfl rfl h28 rfl ?_; clear H; intro a H
        refine s_pick_t H wn rfl h28 rfl rfl ?_; clear H; intro a H
        refine s_assign H wn rfl rfl ?_; clear H; intro a H
        refine wl_nil ?_
        refine hK6 _ _ ?_; clear hK6
        refine c_cond_t H rfl rfl ?_
        refine c_seq (fun _ hK8 => ?_)
        refine c_region ?_
        refine s_assign H wn rfl rfl ?_; clear H; intro a H
        refine wl_nil ?_
        refine hK8 _ _ ?_; clear hK8
        refine c_ret ?_
        refine (leave1 H Try.results47 (.cons (rv_tmp H rfl) .nil) ?_).1
        exact H.hp.ret (by unfold chkR; congr 1; simp_all)
      · intro h28
        try have p28 := of_decide_eq_false h28
        refine s_field fd23_2dq H (wg H rfl rfl h28) rfl rfl ?_; clear H; intro a H
        refine s_load ty3dq H (wg H rfl rfl h28) rfl (H.hp.ocell 0 rfl rfl) rfl ?_; clear H; intro a H
        refine s_move H (wg H rfl rfl h28) rfl rfl ?_; clear H; intro a H
        refine s_cmp H (wg H rfl rfl h28) rfl rfl rfl rfl ?_; clear H; intro a H
        refine s_pick_f H wn rfl h28 rfl rfl ?_; clear H; intro a H
        refine s_assign H wn rfl rfl ?_; clear H; intro a H
        refine wl_nil ?_
        refine hK6 _ _ ?_; clear hK6
        refine c_cond H rfl ?_ ?_
        · intro h17
          try have p17 := of_decide_eq_true h17
          refine c_seq (fun _ hK9 => ?_)
          refine c_region ?_
          refine s_assign H wn rfl rfl ?_; clear H; intro a H
          refine wl_nil ?_
          refine hK9 _ _ ?_; clear hK9
          refine c_ret ?_
          refine (leave1 H Try.results47 (.cons (rv_tmp H rfl) .nil) ?_).1
          exact H.hp.ret (by unfold chkR; congr 1; simp_all)
        · intro h17
          try have p17 := of_decide_eq_false h17
          refine c_skip ?_
          refine hK3 _ _ ?_; clear hK3
          refine c_seq (fun _ hK10 => ?_)
          refine c_region ?_
          refine s_assign H wn rfl rfl ?_; clear H; intro a H
          refine wl_nil ?_
          refine hK10 _ _ ?_; clear hK10
          refine c_ret ?_
          refine (leave1 H Try.results47 (.cons (rv_tmp H rfl) .nil) ?_).1
          exact H.hp.ret (by unfold chkR; congr 1; simp_all)
theorem check_spec (G : GH) (w0 : World) (hG : Hold G w0) (D : DocV) (l : List ItemD) (flow at_ : Int) (hv : RepV G (.sl 11 (l.map ItemD.dat)) (sl3 D.f)) (hz : zItems l ≤ 4294967296) :
    Calls Try.prog 33 #[D.val, .agg #[vi flow, vi at_]] w0 (Ret w0 G fun u G' => u = vi (chkR l flow at_ at_)) := by
  refine enter (N := 14) (T := [(0, _), (1, _)]) (F := fun k => k < w0.heap.size) (L := []) Try.func33 rfl Try.ntmps33 rfl rfl hG (fun _ h => h) (fun _ h => by cases h) (fun _ h => by cases h) (fun _ h => by cases h) List.Pairwise.nil ?_
  intro a H
  refine c_seq (fun _ hK1 => ?_)
  refine c_region ?_
  refine s_box (cs := [_, _, _, _, _, _, _, _, _, _, _]) H wn rfl rfl rfl ?_; clear H; intro b2 a w hb2 H
  refine s_box (cs := [_, _]) H wn rfl rfl rfl ?_; clear H; intro b3 a w hb3 H
  refine s_assign H wn rfl rfl ?_; clear H; intro a H
  refine wl_nil ?_
  refine hK1 _ _ ?_; clear hK1
  refine c_seq (fun _ hK2 => ?_)
  refine c_region ?_
  refine s_loada ty62dq (cs := [_, _, _, _, _, _, _, _, _, _, _]) H wn rfl rfl (H.hp.ocells 1 rfl rfl) rfl ?_; clear H; intro a H
  refine s_field fd66_0dq H wn rfl rfl ?_; clear H; intro a H
  refine s_load ty3dq H wn rfl (H.hp.ocell 0 rfl rfl) rfl ?_; clear H; intro a H
  refine s_field fd66_1dq H wn rfl rfl ?_; clear H; intro a H
  refine s_load ty3dq H wn rfl (H.hp.ocell 0 rfl rfl) rfl ?_; clear H; intro a H
  refine s_field fd66_1dq H wn rfl rfl ?_; clear H; intro a H
  refine s_load ty3dq H wn rfl (H.hp.ocell 0 rfl rfl) rfl ?_; clear H; intro a H
  refine s_build sr23dq [_, _, _] H wn rfl rfl rfl rfl ?_; clear H; intro a H
  refine s_call en47dq H wn rfl (checkRange_spec _ _ H.hp.ro D l flow at_ at_ hv hz) rfl ?_; clear H
  rintro v13 G13 a w rfl hm13 H
  refine s_assign H wn rfl rfl ?_; clear H; intro a H
  refine wl_nil ?_
  refine hK2 _ _ ?_; clear hK2
  refine c_ret ?_
  refine (leave1 H Try.results33 (.cons (rv_tmp H rfl) .nil) ?_).1
  exact H.hp.ret rfl
end Go.Proofs.Ytbfdhlakbdadhaa
