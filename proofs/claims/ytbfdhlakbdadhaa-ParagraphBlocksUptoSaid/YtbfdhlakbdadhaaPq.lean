/-
  Package position: positions, Count.
-/
import Derived.Test.YtbfdhlakbdadhaaPos
namespace Go.Proofs.Ytbfdhlakbdadhaa
open Go.RowKit
theorem ty3pq : Ty Try.prog 3 1 8 [.int .i64 0] false := ⟨by kernel_rfl, by kernel_rfl⟩
theorem ty120pq : Ty Try.prog 120 1 8 [.nilFunc] false := ⟨by kernel_rfl, by kernel_rfl⟩
theorem ty66pq : Ty Try.prog 66 2 16 [.int .i64 0, .int .i64 0] true := ⟨by kernel_rfl, by kernel_rfl⟩
theorem en49pq : ∀ args w, (callFunc 49 args).run Try.prog w = .ok (.enter 49 args) w := enters Try.func49 rfl (by kernel_rfl)
theorem fd62_0pq : Fld Try.prog 62 0 0 := ⟨by kernel_rfl⟩
theorem ty28pq : Ty Try.prog 28 1 24 [.slice none 0 0] false := ⟨by kernel_rfl, by kernel_rfl⟩
theorem ty62pq : Ty Try.prog 62 11 232 [.slice none 0 0, .slice none 0 0, .int .i64 0, .int .i64 0, .slice none 0 0, .slice none 0 0, .slice none 0 0, .slice none 0 0, .slice none 0 0, .slice none 0 0, .slice none 0 0] true := ⟨by kernel_rfl, by kernel_rfl⟩
theorem en34pq : ∀ args w, (callFunc 34 args).run Try.prog w = .ok (.enter 34 args) w := enters Try.func34 rfl (by kernel_rfl)
theorem en48pq : ∀ args w, (callFunc 48 args).run Try.prog w = .ok (.enter 48 args) w := enters Try.func48 rfl (by kernel_rfl)
theorem en50pq : ∀ args w, (callFunc 50 args).run Try.prog w = .ok (.enter 50 args) w := enters Try.func50 rfl (by kernel_rfl)
theorem visit_ok : ∀ n : Nat, n ≤ 4294967297 → VisitOk n
  | 0, _ => fun _ _ _ _ _ _ _ _ _ _ _ _ _ _ _ _ _ _ _ h => absurd h (by omega)
  | n + 1, hn => visit_step (visit_ok n (by omega)) (by omega)
mutual
theorem vItem_len (flow : Int) (at_ : Nat) : ∀ x : ItemD, (vItem flow at_ x).length < szR x.dat
  | .mk k c i t h f r => by
    have h1 := vItems_len i 0 f
    have h2 := vRows_len r
    have h3 := n1_le (.mk k c i t h f r)
    have h4 := zItem_eq (.mk k c i t h f r)
    have h5 := cntS_le t
    simp only [vItem, List.length_append, List.length_map, List.length_range]
    simp only [ItemD.text, ItemD.head, ItemD.flow, ItemD.rows] at h4
    have h6 : n1 (.mk k c i t h f r) ≤ t.size + 1 := by unfold n1 unitsS; simp only [ItemD.text]; split <;> (try split) <;> omega
    split <;> (try simp only [List.length_nil]) <;> omega
theorem vItems_len (flow : Int) : ∀ (at_ : Nat) (l : List ItemD), (vItems flow at_ l).length ≤ zItems l + 1
  | _, [] => by simp [vItems]
  | at_, x :: l => by
    have h1 := vItem_len flow at_ x
    have h2 := vItems_len flow (at_ + n1 x) l
    simp only [vItems, List.length_append, zItems, List.map_cons, szRs] at *; omega
theorem vRows_len : ∀ l : List RowD, (vRows l).length ≤ zRows l
  | [] => by simp [vRows]
  | x :: l => by
    have h1 := vRow_len x
    have h2 := vRows_len l
    simp only [vRows, List.length_append, zRows, List.map_cons, szRs] at *; omega
theorem vRow_len : ∀ x : RowD, (vRow x).length ≤ szR x.dat
  | .mk h cs => by
    have h1 := vCells_len cs
    have h4 := zRow_eq (.mk h cs)
    simp only [RowD.head, RowD.cells] at h4
    simp only [vRow]; omega
theorem vCells_len : ∀ l : List CellD, (vCells l).length ≤ zCells l
  | [] => by simp [vCells]
  | x :: l => by
    have h1 := vCell_len x
    have h2 := vCells_len l
    simp only [vCells, List.length_append, zCells, List.map_cons, szRs] at *; omega
theorem vCell_len : ∀ x : CellD, (vCell x).length ≤ szR x.dat
  | .mk i h f => by
    have h1 := vItems_len i 0 f
    have h4 := zCell_eq (.mk i h f)
    simp only [CellD.head, CellD.flow] at h4
    simp only [vCell]; omega
end
/-- What is called at a position with its index. -/
def ixP (k : Nat) (a : Int × Int) : AP := fun args _ => args = [vi k, .agg #[vi a.1, vi a.2]]
def J50 (bi : Nat) (J : Nat → GH → OL → Prop) : Nat → GH → OL → Prop := fun k g L => ∃ Lu, L = (bi, .cells #[vi ((k : Int) - 1)] 3 (0, 0)) :: Lu ∧ J k g Lu
def X50 (bi : Nat) (Jx : GH → OL → Prop) : GH → OL → Prop := fun g L => ∃ i Lu, L = (bi, .cells #[vi i] 3 (0, 0)) :: Lu ∧ Jx g Lu
theorem clo50 {fv : Value} {Gi : GH} {A : List (Int × Int)} {J : Nat → GH → OL → Prop} {Jx : GH → OL → Prop} {bi bf : Nat} (hA : A.length ≤ 4294967297) (hf : gcell Gi bf 0 = some fv) (hcb : Cback Try.prog fv Gi (A.mapIdx ixP) J Jx) :
    Cback Try.prog (.func (.func 50) #[] #[.pointer (some ⟨bi, 0, none⟩), .pointer (some ⟨bf, 0, none⟩)]) Gi (A.map posP) (J50 bi J) (X50 bi Jx) := by
  rintro k args G L w0 ⟨p0, hp0, hargs⟩ hGi ⟨Lu, rfl, hJ⟩ hO
  rw [List.getElem?_map] at hp0
  obtain ⟨p, hp, hpp⟩ := Option.map_eq_some_iff.1 hp0
  subst hpp
  obtain rfl : args = [.agg #[vi p.1, vi p.2]] := hargs
  have hk : k < A.length := (List.getElem?_eq_some_iff.1 hp).1
  have hfv := gcell_mono hGi hf
  refine callV_func (caps := [.pointer (some ⟨bi, 0, none⟩), .pointer (some ⟨bf, 0, none⟩)]) en50pq ?_
  refine enterL (N := 11) (T := [(0, _), (1, _), (2, _)]) Try.func50 rfl Try.ntmps50 rfl rfl hO ?_
  intro a H
  refine c_seq (fun _ hK1 => ?_)
  refine c_region ?_
  refine s_box (cs := [_, _]) H wn rfl rfl rfl ?_; clear H; intro b3 a w hb3 H
  refine s_assign H wn rfl rfl ?_; clear H; intro a H
  refine wl_nil ?_
  refine hK1 _ _ ?_; clear hK1
  refine c_seq (fun _ hK2 => ?_)
  refine c_region ?_
  refine s_load ty3pq H wn rfl (H.hp.ocell 1 rfl rfl) rfl ?_; clear H; intro a H
  refine s_add _ H wn rfl rfl rfl (by omega) (by omega) rfl ?_; clear H; intro a H
  rw [Int.sub_add_cancel] at H
  refine s_store ty3pq 1 (vs := [_]) _ H wn rfl rfl rfl rfl rfl rfl rfl rfl ?_; clear H; intro w H; dsimp only [List.set, setRow] at H
  refine wl_nil ?_
  refine hK2 _ _ ?_; clear hK2
  refine c_seq (fun _ hK3 => ?_)
  refine c_region ?_
  refine s_load ty120pq H wn rfl (H.hp.gcell (by assumption)) rfl ?_; clear H; intro a H
  refine s_load ty3pq H wn rfl (H.hp.ocell 1 rfl rfl) rfl ?_; clear H; intro a H
  refine s_loada ty66pq (cs := [_, _]) H wn rfl rfl (H.hp.ocells 0 rfl rfl) rfl ?_; clear H; intro a H
  refine s_callv (Li := [_, _]) (L := Lu) H wn rfl rfl (hcb k _ _ _ _ ⟨ixP k p, by rw [List.getElem?_mapIdx, hp]; rfl, rfl⟩ hGi hJ (Hp.owns (Li := [_, _]) H.hp)) rfl ?_; clear H
  rintro v10 G10 Lu10 a w ⟨b10, rfl, hb1, hb2⟩ hm10 H
  refine s_assign H wn rfl rfl ?_; clear H; intro a H
  refine wl_nil ?_
  refine hK3 _ _ ?_; clear hK3
  refine c_ret ?_
  refine (leave1 H Try.results50 (.cons (rv_tmp H rfl) .nil) ?_).1
  exact H.hp.retD (L' := (bi, .cells #[vi k] 3 (0, 0)) :: Lu10) (List.Sublist.cons _ (List.Sublist.refl _)) ⟨_, rfl, fun e => ⟨Lu10, by simp, hb1 e⟩, fun e => ⟨_, Lu10, rfl, hb2 e⟩⟩
/-- A document's value. -/
structure DocV where
  (f p d y r s1 s2 s3 s4 : Option Addr × Nat × Nat)
  (ins move : Int)
abbrev sl3 (x : Option Addr × Nat × Nat) : Value := .slice x.1 x.2.1 x.2.2
abbrev DocV.cells (D : DocV) : List Value := [sl3 D.f, sl3 D.p, vi D.ins, vi D.move, sl3 D.d, sl3 D.y, sl3 D.r, sl3 D.s1, sl3 D.s2, sl3 D.s3, sl3 D.s4]
abbrev DocV.val (D : DocV) : Value := .agg D.cells.toArray
theorem positions1_iter {G : GH} {bd : Nat} {D : DocV} {l : List ItemD} (hb : G bd = some (.cells D.cells.toArray 62 (0, 0))) (hv : RepV G (.sl 11 (l.map ItemD.dat)) (sl3 D.f)) (hz : zItems l ≤ 4294967296) :
    Iter Try.prog G (.func (.func 48) #[] #[.pointer (some ⟨bd, 0, none⟩)]) ((vItems 0 0 l).mapIdx ixP) := by
  intro J Jx fv G1 L w0 hfv hGi hJm hJx hJ hO hcb
  refine callV_func (caps := [.pointer (some ⟨bd, 0, none⟩)]) en48pq ?_
  have hfl : gcell G1 bd 0 = some (sl3 D.f) := gcell_mono hGi (by unfold gcell; rw [hb]; rfl)
  have hvl := vItems_len 0 0 l
  refine enterL (N := 8) (T := [(0, _), (1, _)]) Try.func48 rfl Try.ntmps48 rfl rfl hO ?_
  intro a H
  refine c_seq (fun _ hK1 => ?_)
  refine c_region ?_
  refine s_box (cs := [fv]) H wn rfl hfv rfl ?_; clear H; intro b2 a w hb2 H
  refine wl_nil ?_
  refine hK1 _ _ ?_; clear hK1
  refine c_seq (fun _ hK2 => ?_)
  refine c_region ?_
  refine s_alloc ty3pq H wn rfl ?_; clear H; intro b3 a w hb3 H
  refine s_store ty3pq 0 (vs := [_]) _ H wn rfl rfl rfl rfl rfl rfl rfl rfl ?_; clear H; intro w H; dsimp only [List.set, setRow] at H
  refine wl_nil ?_
  refine hK2 _ _ ?_; clear hK2
  have H := H.pickT (Pl := [_, _]) (Pl' := [_, _]) [1, 0] (by decide) rfl
  obtain ⟨G2, hm2, hb2, H⟩ := H.giveBox
  replace hfl := gcell_mono hm2 hfl
  refine c_region ?_
  refine s_field fd62_0pq H wn rfl rfl ?_; clear H; intro a H
  refine s_load ty28pq H wn rfl (H.hp.gcell (by assumption)) rfl ?_; clear H; intro a H
  refine s_makeFunc H wn rfl rfl ?_; clear H; intro a H
  refine s_callL en49pq (Li := []) (L := (b3, _) :: L) H wn rfl (visit_ok 4294967297 (by omega) _ G2 ((vItems 0 0 l).map posP) (J50 b3 J) (X50 b3 Jx) G2 _ _ 0 l 0 _ (fun _ _ h => h) (clo50 (bf := b2) (by omega) (by unfold gcell; rw [hb2]; rfl) (fun k args G L w h1 h2 => hcb k args G L w h1 (fun b o h => h2 b o (hm2 b o h)))) (fun k G G' L hm ⟨Lu, e, h⟩ => ⟨Lu, e, hJm k G G' Lu hm h⟩) (fun G G' L hm ⟨i, Lu, e, h⟩ => ⟨i, Lu, e, hJx G G' Lu hm h⟩) ⟨L, rfl, hJm _ _ _ _ hm2 hJ⟩ (Hp.owns (Li := []) H.hp) (hv.mono fun b o h => hm2 b o (hGi b o h)) (by omega) (fun i a h => by rw [Nat.zero_add, List.getElem?_map, h]; rfl)) rfl ?_; clear H
  rintro v7 G7 L7 a w ⟨b7, rfl, h1, h2⟩ hm7 H
  refine wl_nil ?_
  refine (leave0 H Try.results48 ?_).2
  cases b7
  · obtain ⟨i, Lu, rfl, h⟩ := h2 rfl
    exact H.hp.retD (L' := Lu) (List.Sublist.cons _ (List.Sublist.refl _)) (.inr h)
  · obtain ⟨Lu, rfl, h⟩ := h1 rfl
    exact H.hp.retD (L' := Lu) (List.Sublist.cons _ (List.Sublist.refl _)) (.inl (by simpa using h))
theorem positions_spec (G : GH) (w0 : World) (hG : Hold G w0) (D : DocV) (l : List ItemD) (hv : RepV G (.sl 11 (l.map ItemD.dat)) (sl3 D.f)) (hz : zItems l ≤ 4294967296) :
    Calls Try.prog 34 #[D.val] w0 (Ret w0 G fun v G' => ∃ bd, v = .func (.func 48) #[] #[.pointer (some ⟨bd, 0, none⟩)] ∧ Iter Try.prog G' v ((vItems 0 0 l).mapIdx ixP)) := by
  refine enter (N := 4) (T := [(0, _)]) (F := fun k => k < w0.heap.size) (L := []) Try.func34 rfl Try.ntmps34 rfl rfl hG (fun _ h => h) (fun _ h => by cases h) (fun _ h => by cases h) (fun _ h => by cases h) List.Pairwise.nil ?_
  intro a H
  refine c_seq (fun _ hK1 => ?_)
  refine c_region ?_
  refine s_box (cs := [_, _, _, _, _, _, _, _, _, _, _]) H wn rfl rfl rfl ?_; clear H; intro b1 a w hb1 H
  refine s_assign H wn rfl rfl ?_; clear H; intro a H
  refine wl_nil ?_
  refine hK1 _ _ ?_; clear hK1
  refine c_seq (fun _ hK2 => ?_)
  refine c_region ?_
  refine s_makeFunc H wn rfl rfl ?_; clear H; intro a H
  refine s_assign H wn rfl rfl ?_; clear H; intro a H
  refine wl_nil ?_
  refine hK2 _ _ ?_; clear hK2
  refine c_ret ?_
  obtain ⟨G2, hm2, hb2, H⟩ := H.giveBox
  refine (leave1 H Try.results34 (.cons (rv_tmp H rfl) .nil) ?_).1
  exact H.hp.ret ⟨b1, rfl, positions1_iter hb2 (hv.mono hm2) hz⟩
/-- How many positions a document has. -/
def posN (l : List ItemD) : Nat := (vItems 0 0 l).length
theorem ix_at {A : List (Int × Int)} {k : Nat} {args : List Value} {g : GH} (h : AtAP (A.mapIdx ixP) k args g) : ∃ hk : k < A.length, args = [vi k, .agg #[vi A[k].1, vi A[k].2]] := by
  obtain ⟨p, hp, hargs⟩ := h
  rw [List.getElem?_mapIdx] at hp
  obtain ⟨q, hq, rfl⟩ := Option.map_eq_some_iff.1 hp
  obtain ⟨hk, rfl⟩ := List.getElem?_eq_some_iff.1 hq
  exact ⟨hk, hargs⟩
theorem count_pos (G : GH) (w0 : World) (hG : Hold G w0) (D : DocV) (l : List ItemD) (hv : RepV G (.sl 11 (l.map ItemD.dat)) (sl3 D.f)) (hz : zItems l ≤ 4294967296) :
    Calls Try.prog 22 #[D.val] w0 (Ret w0 G fun v G' => v = vi (posN l)) := by
  have hvl := vItems_len 0 0 l
  refine enter (N := 11) (T := [(0, _)]) (F := fun k => k < w0.heap.size) (L := []) Try.func22 rfl Try.ntmps22 rfl rfl hG (fun _ h => h) (fun _ h => by cases h) (fun _ h => by cases h) (fun _ h => by cases h) List.Pairwise.nil ?_
  intro a H
  refine c_seq (fun _ hK1 => ?_)
  refine c_region ?_
  refine s_box (cs := [_, _, _, _, _, _, _, _, _, _, _]) H wn rfl rfl rfl ?_; clear H; intro b1 a w hb1 H
  refine s_assign H wn rfl rfl ?_; clear H; intro a H
  refine wl_nil ?_
  refine hK1 _ _ ?_; clear hK1
  refine c_seq (fun _ hK2 => ?_)
  refine c_region ?_
  refine s_alloc ty3pq H wn rfl ?_; clear H; intro b3 a w hb3 H
  refine s_store ty3pq 0 (vs := [_]) _ H wn rfl rfl rfl rfl rfl rfl rfl rfl ?_; clear H; intro w H; dsimp only [List.set, setRow] at H
  refine wl_nil ?_
  refine hK2 _ _ ?_; clear hK2
  refine c_seq (fun _ hK3 => ?_)
  refine c_seq (fun _ hK4 => ?_)
  refine c_region ?_
  refine s_loada ty62pq (cs := [_, _, _, _, _, _, _, _, _, _, _]) H wn rfl rfl (H.hp.ocells 1 rfl rfl) rfl ?_; clear H; intro a H
  refine s_call en34pq H wn rfl (positions_spec _ _ H.hp.ro D l hv hz) rfl ?_; clear H
  rintro v5 G5 a w ⟨bd, rfl, hit⟩ hm5 H
  refine wl_nil ?_
  refine hK4 _ _ ?_; clear hK4
  refine c_block ?_
  skip
  refine c_rangeJ (ι := Unit) (κ := Empty) (Lc := [(_, _)]) (fun (k : Nat) (gh : Unit) => [(b3, .cells #[vi k] 3 (0, 0))]) (fun (k : Nat) (gh : Unit) => []) (fun (k : Nat) (gh : Unit) (g : GH) => True) (fun x => x.elim) (fun x => x.elim) (fun x => x.elim) (fun x => x.elim) (()) (by exact H.pickT (Pl := [_, _]) (Pl' := [_, _]) [1, 0] (by decide) rfl) rfl en48pq (hit) (fun _ _ h => h) rfl (fun k args g h => by obtain ⟨_, rfl⟩ := ix_at h; rfl) (fun _ _ _ _ _ h => h) (fun x => x.elim) (trivial) ?_ ?_ ?_
  · clear H; intro l3 rdy bsy bk k args gh G3 w3 F3 B3 a hk3 hm3 hI hbeg3 hnext3 hstop3 H
    obtain ⟨hk, rfl⟩ := ix_at hk3
    dsimp only [asg, List.cons_append, List.nil_append] at H
    refine c_skip ?_
    refine hbeg3 _ _ _ _ _ _ (by exact H) ?_; clear H; intro w H
    refine c_block ?_
    refine c_region ?_
    refine s_load ty3pq H wn rfl (H.hp.ocell 2 rfl rfl) rfl ?_; clear H; intro a H
    refine s_add _ H wn rfl rfl rfl (by omega) (by omega) rfl ?_; clear H; intro a H
    refine s_store ty3pq 2 (vs := [_]) _ H wn rfl rfl rfl rfl rfl rfl rfl rfl ?_; clear H; intro w H; dsimp only [List.set, setRow] at H
    refine wl_nil ?_
    refine hnext3 (()) _ _ _ _ _ (by exact H) ?_
    trivial
  · clear H; intro Dk3 gh Gd3 a w hm3 hI H
    dsimp only [List.cons_append, List.nil_append, List.append_nil] at H
    refine hK3 _ _ ?_; clear hK3
    refine c_seq (fun _ hK5 => ?_)
    refine c_region ?_
    refine s_load ty3pq H wn rfl (H.hp.ocell 2 rfl rfl) rfl ?_; clear H; intro a H
    refine s_assign H wn rfl rfl ?_; clear H; intro a H
    refine wl_nil ?_
    refine hK5 _ _ ?_; clear hK5
    refine c_ret ?_
    refine (leaveM H 0 rfl ?_).1; clear H; intro a w H; dsimp only [List.eraseIdx_cons_succ, List.eraseIdx_cons_zero] at H
    refine (leave1 H Try.results22 (.cons (rv_tmp H rfl) .nil) ?_).1
    exact H.hp.ret (by simp [posN])
  · intro Dk x; exact x.elim
end Go.Proofs.Ytbfdhlakbdadhaa
