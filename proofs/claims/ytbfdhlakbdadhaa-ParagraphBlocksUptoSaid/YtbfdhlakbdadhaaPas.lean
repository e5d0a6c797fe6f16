/-
  Package paragraph: Blocks, At.
-/
import Derived.Test.YtbfdhlakbdadhaaPar
namespace Go.Proofs.Ytbfdhlakbdadhaa
open Go.RowKit
theorem un33pas : Try.prog.underlying 33 = some (.slice 37) := by kernel_rfl
theorem ty37pas : Ty Try.prog 37 4 32 [.int .i64 0, .int .i64 0, .int .i64 0, .bool false] true := ⟨by kernel_rfl, by kernel_rfl⟩
theorem en45pas : ∀ args w, (callFunc 45 args).run Try.prog w = .ok (.enter 45 args) w := enters Try.func45 rfl (by kernel_rfl)
theorem ty33pas : Ty Try.prog 33 1 24 [.slice none 0 0] false := ⟨by kernel_rfl, by kernel_rfl⟩
theorem en44pas : ∀ args w, (callFunc 44 args).run Try.prog w = .ok (.enter 44 args) w := enters Try.func44 rfl (by kernel_rfl)
theorem en11pas : ∀ args w, (callFunc 11 args).run Try.prog w = .ok (.enter 11 args) w := enters Try.func11 rfl (by kernel_rfl)
theorem en31pas : ∀ args w, (callFunc 31 args).run Try.prog w = .ok (.enter 31 args) w := enters Try.func31 rfl (by kernel_rfl)
theorem en30pas : ∀ args w, (callFunc 30 args).run Try.prog w = .ok (.enter 30 args) w := enters Try.func30 rfl (by kernel_rfl)
theorem en12pas : ∀ args w, (callFunc 12 args).run Try.prog w = .ok (.enter 12 args) w := enters Try.func12 rfl (by kernel_rfl)
theorem sr37pas : Srt Try.prog 37 [(0, 1), (1, 1), (2, 1), (3, 1)] [.int .i64 0, .int .i64 0, .int .i64 0, .bool false] := ⟨by kernel_rfl, by kernel_rfl⟩
theorem fd37_1pas : Fld Try.prog 37 1 1 := ⟨by kernel_rfl⟩
theorem ty3pas : Ty Try.prog 3 1 8 [.int .i64 0] false := ⟨by kernel_rfl, by kernel_rfl⟩
theorem fd37_2pas : Fld Try.prog 37 2 2 := ⟨by kernel_rfl⟩
def bkDat (a : BlkD) : List Dat := [li a.kind, li a.from_, li a.to, .lf (.bool a.mark)]
abbrev bkCells (a : BlkD) : List Value := [vi a.kind, vi a.from_, vi a.to, .bool a.mark]
theorem bk_row (G : GH) (a : BlkD) : RepRow G (bkDat a) (bkCells a) := by
  simp only [bkDat, RepRow]
  exact ⟨_, _, rfl, by simp [RepV, Value.oneCell'], _, _, rfl, by simp [RepV, Value.oneCell'], _, _, rfl, by simp [RepV, Value.oneCell'], _, _, rfl, by simp [RepV, Value.oneCell'], rfl⟩
theorem bk_of {G : GH} {a : BlkD} {cs : List Value} (h : RepRow G (bkDat a) cs) : cs = bkCells a := by
  simp only [bkDat, RepRow, RepV] at h
  obtain ⟨v1, _, rfl, ⟨rfl, -⟩, v2, _, rfl, ⟨rfl, -⟩, v3, _, rfl, ⟨rfl, -⟩, v4, _, rfl, ⟨rfl, -⟩, rfl⟩ := h
  rfl
theorem bk_at {A : List BlkD} {k : Nat} {args : List Value} {g : GH} (h : AtAP (A.map bkP) k args g) : ∃ hk : k < A.length, args = [.agg #[vi A[k].kind, vi A[k].from_, vi A[k].to, .bool A[k].mark]] := by
  obtain ⟨p, hp, hargs⟩ := h
  rw [List.getElem?_map] at hp
  obtain ⟨q, hq, rfl⟩ := Option.map_eq_some_iff.1 hp
  obtain ⟨hk, rfl⟩ := List.getElem?_eq_some_iff.1 hq
  exact ⟨hk, hargs⟩
theorem appendSeq_spec (G : GH) (w0 : World) (hG : Hold G w0) (A : List BlkD) (caps : List Value) (hit : Iter Try.prog G (.func (.func 45) #[] caps.toArray) (A.map bkP)) (hA : A.length ≤ 4294967296) :
    Calls Try.prog 44 #[.slice none 0 0, .func (.func 45) #[] caps.toArray] w0 (Ret w0 G fun u G' => RepV G' (.sl 4 (A.map bkDat)) u) := by
  have hml : 4294967297 ≤ maxLen := by decide
  refine enter (N := 13) (T := [(0, _), (1, _)]) (F := fun k => k < w0.heap.size) (L := []) Try.func44 rfl Try.ntmps44 rfl rfl hG (fun _ h => h) (fun _ h => by cases h) (fun _ h => by cases h) (fun _ h => by cases h) List.Pairwise.nil ?_
  intro a H
  refine c_seq (fun _ hK1 => ?_)
  refine c_region ?_
  refine s_box (cs := [_]) H wn rfl rfl rfl ?_; clear H; intro b2 a w hb2 H
  refine s_assign H wn rfl rfl ?_; clear H; intro a H
  refine wl_nil ?_
  refine hK1 _ _ ?_; clear hK1
  refine c_seq (fun _ hK2 => ?_)
  refine c_seq (fun _ hK3 => ?_)
  refine c_region ?_
  refine s_move H wn rfl rfl ?_; clear H; intro a H
  refine wl_nil ?_
  refine hK3 _ _ ?_; clear hK3
  refine c_block ?_
  skip
  refine c_rangeJ (ι := Value × List Value × OL) (κ := Empty) (Lc := []) (fun (k : Nat) (gh : Value × List Value × OL) => [(b2, .cells #[gh.1] 33 (0, 0))]) (fun (k : Nat) (gh : Value × List Value × OL) => gh.2.2) (fun (k : Nat) (gh : Value × List Value × OL) (g : GH) => IsRow 37 4 gh.1 k gh.2.1 gh.2.2 ∧ RepCat g 4 ((A.take k).map bkDat) gh.2.1) (fun x => x.elim) (fun x => x.elim) (fun x => x.elim) (fun x => x.elim) ((.slice none 0 0, [], [])) (by exact H.nilT (A := [_])) rfl en45pas (hit) (fun _ _ h => h) rfl (fun k args g h => by obtain ⟨_, rfl⟩ := bk_at h; rfl) (fun k i G G' hm h => ⟨h.1, h.2.mono hm⟩) (fun x => x.elim) (⟨IsRow.nil, RepCat.nil⟩) ?_ ?_ ?_
  · clear H; intro l2 rdy bsy bk k args gh G2 w2 F2 B2 a hk2 hm2 hI hbeg2 hnext2 hstop2 H
    obtain ⟨v, xs, Lo⟩ := gh; dsimp only at hI H
    obtain ⟨hk, rfl⟩ := bk_at hk2
    dsimp only [asg, List.cons_append, List.nil_append] at H
    obtain ⟨hrw, hcat⟩ := hI
    refine c_region ?_
    refine s_alloc ty37pas H wn rfl ?_; clear H; intro b5 a w hb5 H
    refine s_store ty37pas 0 (vs := [_, _, _, _]) _ H wn rfl rfl rfl rfl rfl rfl rfl rfl ?_; clear H; intro w H; dsimp only [List.set, setRow] at H
    refine wl_nil ?_
    refine hbeg2 _ _ _ _ _ _ (by exact H.pickT (Pl := [_, _, _]) (Pl' := [_, _, _]) [1, 0, 2] (by decide) rfl) ?_; clear H; intro w H
    refine c_block ?_
    refine c_region ?_
    refine s_load ty33pas H wn rfl (H.hp.ocell 2 rfl rfl) rfl ?_; clear H; intro a H
    refine s_loada ty37pas (cs := [_, _, _, _]) H wn rfl rfl (H.hp.ocells 1 rfl rfl) rfl ?_; clear H; intro a H
    refine s_buildSlice un33pas ty37pas [_, _, _, _] [_, _, _, _] H wn rfl rfl rfl rfl rfl (by intro i q h; match i, h with | 0, h => exact h | n + 1, h => simp at h) rfl rfl ?_; clear H; intro b10 a w hb10 H
    refine s_append (Li := [_, _, _, _] ++ bk) (Lo := Lo) (news := bkCells A[k]) un33pas ty37pas rfl rfl (St.un (A := [_, _, _, _]) H) wn rfl rfl hrw rfl (H.hp.ocells 0 rfl rfl) rfl (by omega) (by omega) rfl ?_; clear H; intro v11 Lo11 a w hrw11 H
    obtain ⟨A11, c11, rfl, -, -⟩ := hrw11.shape
    simp only [List.append_assoc, List.cons_append, List.nil_append] at H
    refine s_store ty33pas 3 (vs := [_]) _ H wn rfl rfl rfl rfl rfl rfl rfl rfl ?_; clear H; intro w H; dsimp only [List.set, setRow] at H
    refine wl_nil ?_
    refine hnext2 ((.slice A11 (k + 1) c11, xs ++ bkCells A[k], Lo11)) _ _ _ _ _ (by exact H.pickT (Pl := [_, _, _, _]) (Pl' := [_, _]) [1, 3] (by decide) rfl) ?_
    exact ⟨hrw11, by rw [List.take_succ_eq_append_getElem hk, List.map_append]; exact hcat.snoc (bk_row _ _) rfl⟩
  · clear H; intro Dk2 gh Gd2 a w hm2 hI H
    obtain ⟨v, xs, Lo⟩ := gh; dsimp only at hI H
    dsimp only [List.cons_append, List.nil_append, List.append_nil] at H
    obtain ⟨hrw, hcat⟩ := hI
    rw [List.length_map] at hrw hcat
    rw [List.take_length] at hcat
    refine hK2 _ _ ?_; clear hK2
    refine c_seq (fun _ hK4 => ?_)
    refine c_region ?_
    refine s_load ty33pas H wn rfl (H.hp.ocell 1 rfl rfl) rfl ?_; clear H; intro a H
    refine s_assign H wn rfl rfl ?_; clear H; intro a H
    refine wl_nil ?_
    refine hK4 _ _ ?_; clear hK4
    refine c_ret ?_
    refine (leaveM H 0 rfl ?_).1; clear H; intro a w H; dsimp only [List.eraseIdx_cons_succ, List.eraseIdx_cons_zero] at H
    refine (leave1 H Try.results44 (.cons (rv_tmp H rfl) .nil) ?_).1
    obtain ⟨Gr, hmr, hrep, H⟩ := St.giveRow (Li := [_]) H hrw (rows := A.map bkDat) (by simp) hcat
    exact H.hp.ret hrep
  · intro Dk x; exact x.elim
theorem blocks_spec (G : GH) (w0 : World) (hG : Hold G w0) (l : List ItemD) (v : Value) (hv : RepV G (.sl 11 (l.map ItemD.dat)) v) (hz : zItems l ≤ 4294967290) :
    Calls Try.prog 31 #[v] w0 (Ret w0 G fun u G' => ∃ bd, u = .func (.func 45) #[] #[.pointer (some ⟨bd, 0, none⟩)] ∧ Iter Try.prog G' u ((blkS 0 0 true l).map bkP)) := by
  obtain ⟨A, c, rfl, hc1, hc2, hg⟩ := hv.slice
  refine enter (N := 4) (T := [(0, _)]) (F := fun k => k < w0.heap.size) (L := []) Try.func31 rfl Try.ntmps31 rfl rfl hG (fun _ h => h) (fun _ h => by cases h) (fun _ h => by cases h) (fun _ h => by cases h) List.Pairwise.nil ?_
  intro a H
  refine c_seq (fun _ hK1 => ?_)
  refine c_region ?_
  refine s_box (cs := [_]) H wn rfl rfl rfl ?_; clear H; intro b1 a w hb1 H
  refine s_assign H wn rfl rfl ?_; clear H; intro a H
  refine wl_nil ?_
  refine hK1 _ _ ?_; clear hK1
  refine c_seq (fun _ hK2 => ?_)
  refine c_region ?_
  refine s_makeFunc H wn rfl rfl ?_; clear H; intro a H
  refine s_assign H wn rfl rfl ?_; clear H; intro a H
  refine wl_nil ?_
  refine hK2 _ _ ?_; clear hK2
  refine c_ret ?_
  obtain ⟨G2, hm2, hb1, H⟩ := H.giveBox
  refine (leave1 H Try.results31 (.cons (rv_tmp H rfl) .nil) ?_).1
  exact H.hp.ret ⟨b1, rfl, blocks1_iter (by unfold gcell; rw [hb1]; rfl) (hv.mono hm2) hz⟩
theorem collect_spec (G : GH) (w0 : World) (hG : Hold G w0) (A : List BlkD) (caps : List Value) (hit : Iter Try.prog G (.func (.func 45) #[] caps.toArray) (A.map bkP)) (hA : A.length ≤ 4294967296) :
    Calls Try.prog 30 #[.func (.func 45) #[] caps.toArray] w0 (Ret w0 G fun u G' => RepV G' (.sl 4 (A.map bkDat)) u) := by
  refine enter (N := 5) (T := [(0, _)]) (F := fun k => k < w0.heap.size) (L := []) Try.func30 rfl Try.ntmps30 rfl rfl hG (fun _ h => h) (fun _ h => by cases h) (fun _ h => by cases h) (fun _ h => by cases h) List.Pairwise.nil ?_
  intro a H
  refine c_seq (fun _ hK1 => ?_)
  refine c_region ?_
  refine s_assign H wn rfl rfl ?_; clear H; intro a H
  refine wl_nil ?_
  refine hK1 _ _ ?_; clear hK1
  refine c_seq (fun _ hK2 => ?_)
  refine c_region ?_
  refine s_move H wn rfl rfl ?_; clear H; intro a H
  refine s_call en44pas H wn rfl (appendSeq_spec _ _ H.hp.ro A caps hit hA) rfl ?_; clear H
  rintro v4 G4 a w hp4 hm4 H
  refine s_assign H wn rfl rfl ?_; clear H; intro a H
  refine wl_nil ?_
  refine hK2 _ _ ?_; clear hK2
  refine c_ret ?_
  refine (leave1 H Try.results30 (.cons (rv_tmp H rfl) .nil) ?_).1
  exact H.hp.ret hp4
/-- What Blocks gives. -/
def blocksS (l : List ItemD) : List BlkD := if lenE l = 0 then blkS 0 0 true l else []
theorem Blocks_spec (G : GH) (w0 : World) (hG : Hold G w0) (l : List ItemD) (v : Value) (hv : RepV G (.sl 11 (l.map ItemD.dat)) v) (hz : zItems l ≤ 1073741824) :
    Calls Try.prog 12 #[v] w0 (Ret w0 G fun u G' => ∃ x, u = .tuple #[x, vi (lenE l)] ∧ RepV G' (.sl 4 ((blocksS l).map bkDat)) x) := by
  have hbl := blkS_len l 0 0 true
  have hll := zItems_length l
  refine enter (N := 17) (T := [(0, _)]) (F := fun k => k < w0.heap.size) (L := []) Try.func12 rfl Try.ntmps12 rfl rfl hG (fun _ h => h) (fun _ h => by cases h) (fun _ h => by cases h) (fun _ h => by cases h) List.Pairwise.nil ?_
  intro a H
  refine c_seq (fun _ hK1 => ?_)
  refine c_region ?_
  refine s_assign H wn rfl rfl ?_; clear H; intro a H
  refine s_assign H wn rfl rfl ?_; clear H; intro a H
  refine wl_nil ?_
  refine hK1 _ _ ?_; clear hK1
  refine c_seq (fun _ hK2 => ?_)
  refine c_seq (fun _ hK3 => ?_)
  refine c_region ?_
  refine s_move H wn rfl rfl ?_; clear H; intro a H
  refine s_call en11pas H wn rfl (len_spec _ _ H.hp.ro l v hv (by omega)) rfl ?_; clear H
  rintro v7 G7 a w ⟨rfl, rfl⟩ hm7 H
  refine s_move H wn rfl rfl ?_; clear H; intro a H
  refine s_extract H wn rfl rfl rfl ?_; clear H; intro a H
  refine s_extract H wn rfl rfl rfl ?_; clear H; intro a H
  refine s_assign H wn rfl rfl ?_; clear H; intro a H
  refine s_assign H wn rfl rfl ?_; clear H; intro a H
  refine wl_nil ?_
  refine hK3 _ _ ?_; clear hK3
  refine c_seq (fun _ hK4 => ?_)
  refine c_region ?_
  refine s_move H wn rfl rfl ?_; clear H; intro a H
  refine s_cmp H wn rfl rfl rfl rfl ?_; clear H; intro a H
  refine wl_nil ?_
  refine hK4 _ _ ?_; clear hK4
  refine c_cond H rfl ?_ ?_
  · intro h12
    try have p12 := of_decide_eq_true h12
    refine c_seq (fun _ hK5 => ?_)
    refine c_region ?_
    refine s_move H wn rfl rfl ?_; clear H; intro a H
    refine s_assign H wn rfl rfl ?_; clear H; intro a H
    refine s_assign H wn rfl rfl ?_; clear H; intro a H
    refine wl_nil ?_
    refine hK5 _ _ ?_; clear hK5
    refine c_ret ?_
    refine (leaveT H Try.results12 (.cons (rv_tmp H rfl) (.cons (rv_tmp H rfl) .nil)) ?_).1
    exact H.hp.ret ⟨_, rfl, by rw [blocksS, if_neg p12]; exact RepV.nil_ rfl (by decide)⟩
  · intro h12
    try have p12 := of_decide_eq_false h12
    refine c_skip ?_
    refine hK2 _ _ ?_; clear hK2
    refine c_seq (fun _ hK6 => ?_)
    refine c_region ?_
    refine s_move H wn rfl rfl ?_; clear H; intro a H
    refine s_call en31pas H wn rfl (blocks_spec _ _ H.hp.ro l v hv (by omega)) rfl ?_; clear H
    rintro v13 G13 a w ⟨bd, rfl, hit⟩ hm13 H
    refine s_call en30pas H wn rfl (collect_spec _ _ H.hp.ro (blkS 0 0 true l) [.pointer (some ⟨bd, 0, none⟩)] hit (by omega)) rfl ?_; clear H
    rintro v16 G16 a w hp16 hm16 H
    obtain ⟨A16, n16, c16, rfl⟩ := hp16.form
    refine s_assign H wn rfl rfl ?_; clear H; intro a H
    refine s_assign H wn rfl rfl ?_; clear H; intro a H
    refine wl_nil ?_
    refine hK6 _ _ ?_; clear hK6
    refine c_ret ?_
    refine (leaveT H Try.results12 (.cons (rv_tmp H rfl) (.cons (rv_tmp H rfl) .nil)) ?_).1
    have h0 : lenE l = 0 := by omega
    exact H.hp.ret ⟨_, by rw [h0], by rw [blocksS, if_pos h0]; exact hp16⟩
def blk0 : BlkD := ⟨0, 0, 0, false⟩
def inBlk (unit : Int) (b : BlkD) : Bool := decide (b.from_ ≤ unit) && decide (unit < b.to)
/-- What At gives. -/
def atS (l : List ItemD) (unit : Int) : BlkD × Int :=
  if lenE l = 0 then match (blocksS l).find? (inBlk unit) with | some b => (b, 0) | none => (blk0, 2) else (blk0, lenE l)
abbrev bkV (b : BlkD) : Value := .agg #[vi b.kind, vi b.from_, vi b.to, .bool b.mark]
theorem at_spec (G : GH) (w0 : World) (hG : Hold G w0) (l : List ItemD) (unit : Int) (v : Value) (hv : RepV G (.sl 11 (l.map ItemD.dat)) v) (hz : zItems l ≤ 1073741824) :
    Calls Try.prog 13 #[v, vi unit] w0 (Ret w0 G fun u G' => u = .tuple #[bkV (atS l unit).1, vi (atS l unit).2]) := by
  have hbl := blkS_len l 0 0 true
  have hll := zItems_length l
  refine enter (N := 38) (T := [(0, _), (1, _)]) (F := fun k => k < w0.heap.size) (L := []) Try.func13 rfl Try.ntmps13 rfl rfl hG (fun _ h => h) (fun _ h => by cases h) (fun _ h => by cases h) (fun _ h => by cases h) List.Pairwise.nil ?_
  intro a H
  refine c_seq (fun _ hK1 => ?_)
  refine c_region ?_
  refine s_alloc ty37pas H wn rfl ?_; clear H; intro b4 a w hb4 H
  refine s_assign H wn rfl rfl ?_; clear H; intro a H
  refine wl_nil ?_
  refine hK1 _ _ ?_; clear hK1
  refine c_seq (fun _ hK2 => ?_)
  refine c_region ?_
  refine s_move H wn rfl rfl ?_; clear H; intro a H
  refine s_call en12pas H wn rfl (Blocks_spec _ _ H.hp.ro l v hv hz) rfl ?_; clear H
  rintro v12 G12 a w ⟨x, rfl, hrep⟩ hm12 H
  obtain ⟨A12, n12, c12, rfl⟩ := hrep.form
  have hn12 := hrep.len; rw [List.length_map] at hn12
  refine s_move H wn rfl rfl ?_; clear H; intro a H
  refine s_extract H wn rfl rfl rfl ?_; clear H; intro a H
  refine s_extract H wn rfl rfl rfl ?_; clear H; intro a H
  refine s_assign H wn rfl rfl ?_; clear H; intro a H
  refine s_assign H wn rfl rfl ?_; clear H; intro a H
  refine wl_nil ?_
  refine hK2 _ _ ?_; clear hK2
  refine c_seq (fun _ hK3 => ?_)
  refine c_seq (fun _ hK4 => ?_)
  refine c_region ?_
  refine s_move H wn rfl rfl ?_; clear H; intro a H
  refine s_cmp H wn rfl rfl rfl rfl ?_; clear H; intro a H
  refine wl_nil ?_
  refine hK4 _ _ ?_; clear hK4
  refine c_cond H rfl ?_ ?_
  · intro h16
    try have p16 := of_decide_eq_true h16
    refine c_seq (fun _ hK5 => ?_)
    refine c_region ?_
    refine s_build sr37pas [_, _, _, _] H wn rfl rfl rfl rfl ?_; clear H; intro a H
    refine s_move H wn rfl rfl ?_; clear H; intro a H
    refine s_store ty37pas 0 (vs := [_, _, _, _]) _ H wn rfl rfl rfl rfl rfl rfl rfl rfl ?_; clear H; intro w H; dsimp only [List.set, setRow] at H
    refine s_assign H wn rfl rfl ?_; clear H; intro a H
    refine wl_nil ?_
    refine hK5 _ _ ?_; clear hK5
    refine c_ret ?_
    refine (leaveT H Try.results13 (.cons (rv_cella ty37pas (cs := [_, _, _, _]) H rfl rfl (H.hp.ocells 0 rfl rfl)) (.cons (rv_tmp H rfl) .nil)) ?_).1
    exact H.hp.ret (by rw [atS, if_neg p16]; try rfl)
  · intro h16
    try have p16 := of_decide_eq_false h16
    have h0 : lenE l = 0 := by omega
    have hb0 : blocksS l = blkS 0 0 true l := by rw [blocksS, if_pos h0]
    have hn13 : n12 ≤ 4294967296 := by rw [hn12, hb0]; omega
    refine c_skip ?_
    refine hK3 _ _ ?_; clear hK3
    refine c_seq (fun _ hK6 => ?_)
    refine c_seq (fun _ hK7 => ?_)
    refine c_region ?_
    refine s_move H wn rfl rfl ?_; clear H; intro a H
    refine s_len un33pas H wn rfl rfl ?_; clear H; intro a H
    refine s_move H wn rfl rfl ?_; clear H; intro a H
    refine wl_nil ?_
    refine hK7 _ _ ?_; clear hK7
    refine c_block ?_
    skip
    refine c_loopS (ι := Nat) (Tc := [(1, _), (4, _), (19, _), (20, _)]) (Lc := [(_, _)]) (fun (gh : Nat) => [(21, vi gh)]) (fun (gh : Nat) => []) (fun (gh : Nat) => G12) (fun (gh : Nat) => gh ≤ (blocksS l).length ∧ ((blocksS l).take gh).find? (inBlk unit) = none) (fun (gh : Nat) => (blocksS l).length - gh) (0) (by exact (H).sub ⟨rfl, rfl, rfl, rfl, rfl, trivial⟩) ?_ ?_
    · exact ⟨by omega, rfl⟩
    · clear H; intro gh a w hI H
      obtain ⟨k, hgh⟩ : ∃ x, x = gh := ⟨_, rfl⟩; subst hgh
      obtain ⟨hk, hno⟩ := hI
      dsimp only [List.cons_append, List.nil_append, List.append_nil] at H
      refine c_seq (fun _ hK8 => ?_)
      refine c_region ?_
      refine s_cmp H wn rfl rfl rfl rfl ?_; clear H; intro a H
      refine wl_nil ?_
      refine hK8 _ _ ?_; clear hK8
      refine c_seq (fun _ hK9 => ?_)
      refine c_cond H rfl ?_ ?_
      · intro h22
        try have p22 := of_decide_eq_true h22
        have hk2 : k < (blocksS l).length := by omega
        obtain ⟨b, o, cs, rfl, hcl, hrow, hr⟩ := hrep.at_ k (bkDat (blocksS l)[k]) (by simp [hk2])
        obtain rfl := bk_of hr
        refine c_skip ?_
        refine hK9 _ _ ?_; clear hK9
        refine c_seq (fun _ hK10 => ?_)
        refine c_block ?_
        refine c_seq (fun _ hK11 => ?_)
        refine c_region ?_
        refine s_index un33pas ty37pas _ H wn rfl rfl rfl (by first | assumption | omega) rfl ?_; clear H; intro a H
        refine s_loada ty37pas (cs := [_, _, _, _]) H wn rfl rfl (fun j v hj => H.hp.gcell (hrow j v hj)) rfl ?_; clear H; intro a H
        refine s_alloc ty37pas H wn rfl ?_; clear H; intro b9 a w hb9 H
        refine s_store ty37pas 0 (vs := [_, _, _, _]) _ H wn rfl rfl rfl rfl rfl rfl rfl rfl ?_; clear H; intro w H; dsimp only [List.set, setRow] at H
        refine wl_nil ?_
        refine hK11 _ _ ?_; clear hK11
        refine c_seq (fun _ hK12 => ?_)
        refine c_region ?_
        refine s_field fd37_1pas H wn rfl rfl ?_; clear H; intro a H
        refine s_load ty3pas H wn rfl (H.hp.ocell 0 rfl rfl) rfl ?_; clear H; intro a H
        refine s_move H wn rfl rfl ?_; clear H; intro a H
        refine s_cmp H wn rfl rfl rfl rfl ?_; clear H; intro a H
        refine s_move H wn rfl rfl ?_; clear H; intro a H
        refine s_split H 29 rfl ?_ ?_
        · intro h29
          try have p29 := of_decide_eq_true h29
          refine s_move H (wg H rfl rfl h29) rfl rfl ?_; clear H; intro a H
          refine s_field fd37_2pas H (wg H rfl rfl h29) rfl rfl ?_; clear H; intro a H
          refine s_load ty3pas H (wg H rfl rfl h29) rfl (H.hp.ocell 0 rfl rfl) rfl ?_; clear H; intro a H
          refine s_cmp H (wg H rfl rfl h29) rfl rfl rfl rfl ?_; clear H; intro a H
          refine s_pick_t H wn rfl h29 rfl rfl ?_; clear H; intro a H
          refine wl_nil ?_
          refine hK12 _ _ ?_; clear hK12
          refine c_cond H rfl ?_ ?_
          · intro h34
            try have p34 := of_decide_eq_true h34
            refine c_seq (fun _ hK13 => ?_)
            refine c_region ?_
            refine s_loada ty37pas (cs := [_, _, _, _]) H wn rfl rfl (H.hp.ocells 0 rfl rfl) rfl ?_; clear H; intro a H
            refine s_store ty37pas 1 (vs := [_, _, _, _]) _ H wn rfl rfl rfl rfl rfl rfl rfl rfl ?_; clear H; intro w H; dsimp only [List.set, setRow] at H
            refine s_assign H wn rfl rfl ?_; clear H; intro a H
            refine wl_nil ?_
            refine hK13 _ _ ?_; clear hK13
            refine c_ret ?_
            refine (leaveT H Try.results13 (.cons (rv_cella ty37pas (cs := [_, _, _, _]) H rfl rfl (H.hp.ocells 1 rfl rfl)) (.cons (rv_tmp H rfl) .nil)) ?_).1
            exact H.hp.ret (by rw [atS, if_pos h0, find_stop hk2 hno (by simp only [inBlk, h29, h34, Bool.true_and])]; try rfl)
          · intro h34
            try have p34 := of_decide_eq_false h34
            refine c_skip ?_
            refine hK10 _ _ ?_; clear hK10
            refine c_region ?_
            refine s_add _ H wn rfl rfl rfl (by omega) (by omega) rfl ?_; clear H; intro a H
            refine s_move H wn rfl rfl ?_; clear H; intro a H
            refine wl_nil ?_
            refine loop_end ((k + 1)) (by exact (H.pickT (Pl := [_, _]) (Pl' := [_]) [1] (by decide) rfl).sub ⟨rfl, rfl, rfl, rfl, rfl, trivial⟩) ?_ ?_
            · exact ⟨by omega, find_next hk2 hno (by simp only [inBlk, h29, h34, Bool.true_and])⟩
            · first | omega | (dsimp only; omega)
        · intro h29
          try have p29 := of_decide_eq_false h29
          refine s_skip H rfl rfl h29 rfl ?_; clear H; intro a H
          refine s_skip H rfl rfl h29 rfl ?_; clear H; intro a H
          refine s_skip H rfl rfl h29 rfl ?_; clear H; intro a H
          refine s_skip H rfl rfl h29 rfl ?_; clear H; intro a H
          refine s_pick_f H wn rfl h29 rfl rfl ?_; clear H; intro a H
          refine wl_nil ?_
          refine hK12 _ _ ?_; clear hK12
          refine c_cond_f H rfl rfl ?_
          refine c_skip ?_
          refine hK10 _ _ ?_; clear hK10
          refine c_region ?_
          refine s_add _ H wn rfl rfl rfl (by omega) (by omega) rfl ?_; clear H; intro a H
          refine s_move H wn rfl rfl ?_; clear H; intro a H
          refine wl_nil ?_
          refine loop_end ((k + 1)) (by exact (H.pickT (Pl := [_, _]) (Pl' := [_]) [1] (by decide) rfl).sub ⟨rfl, rfl, rfl, rfl, rfl, trivial⟩) ?_ ?_
          · exact ⟨by omega, find_next hk2 hno (by simp only [inBlk, h29, Bool.false_and])⟩
          · first | omega | (dsimp only; omega)
      · intro h22
        try have p22 := of_decide_eq_false h22
        refine c_exit ?_
        refine hK6 _ _ ?_; clear hK6
        refine c_seq (fun _ hK14 => ?_)
        refine c_region ?_
        refine s_build sr37pas [_, _, _, _] H wn rfl rfl rfl rfl ?_; clear H; intro a H
        refine s_store ty37pas 0 (vs := [_, _, _, _]) _ H wn rfl rfl rfl rfl rfl rfl rfl rfl ?_; clear H; intro w H; dsimp only [List.set, setRow] at H
        refine s_assign H wn rfl rfl ?_; clear H; intro a H
        refine wl_nil ?_
        refine hK14 _ _ ?_; clear hK14
        refine c_ret ?_
        refine (leaveT H Try.results13 (.cons (rv_cella ty37pas (cs := [_, _, _, _]) H rfl rfl (H.hp.ocells 0 rfl rfl)) (.cons (rv_tmp H rfl) .nil)) ?_).1
        exact H.hp.ret (by rw [show (blocksS l).take k = blocksS l from List.take_of_length_le (by omega)] at hno; rw [atS, if_pos h0, hno]; try rfl)
end Go.Proofs.Ytbfdhlakbdadhaa
