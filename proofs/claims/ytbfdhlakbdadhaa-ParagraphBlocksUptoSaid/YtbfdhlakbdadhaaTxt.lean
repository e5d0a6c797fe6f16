/-
  Package run: Text of texts; package paragraph: Text, Own of a block that is not there.
-/
import Derived.Test.YtbfdhlakbdadhaaBld
namespace Go.Proofs.Ytbfdhlakbdadhaa
open Go.RowKit
theorem en60txt : ∀ args w, (callFunc 60 args).run Try.prog w = .ok (.enter 60 args) w := enters Try.func60 rfl (by kernel_rfl)
theorem en62txt : ∀ args w, (callFunc 62 args).run Try.prog w = .ok (.enter 62 args) w := enters Try.func62 rfl (by kernel_rfl)
theorem ty144txt : Ty Try.prog 144 2 32 [.pointer none, .slice none 0 0] true := ⟨by kernel_rfl, by kernel_rfl⟩
theorem un28txt : Try.prog.underlying 28 = some (.slice 47) := by kernel_rfl
theorem ty47txt : Ty Try.prog 47 11 176 [.int .i64 0, .int .i64 0, .int .i64 0, .string ⟨#[]⟩, .slice none 0 0, .int .i64 0, .int .i64 0, .slice none 0 0, .slice none 0 0, .slice none 0 0, .slice none 0 0] true := ⟨by kernel_rfl, by kernel_rfl⟩
theorem fd47_0txt : Fld Try.prog 47 0 0 := ⟨by kernel_rfl⟩
theorem ty3txt : Ty Try.prog 3 1 8 [.int .i64 0] false := ⟨by kernel_rfl, by kernel_rfl⟩
theorem fd47_3txt : Fld Try.prog 47 3 3 := ⟨by kernel_rfl⟩
theorem ty9txt : Ty Try.prog 9 1 16 [.string ⟨#[]⟩] false := ⟨by kernel_rfl, by kernel_rfl⟩
theorem ty37txt : Ty Try.prog 37 4 32 [.int .i64 0, .int .i64 0, .int .i64 0, .bool false] true := ⟨by kernel_rfl, by kernel_rfl⟩
theorem en38txt : ∀ args w, (callFunc 38 args).run Try.prog w = .ok (.enter 38 args) w := enters Try.func38 rfl (by kernel_rfl)
theorem en39txt : ∀ args w, (callFunc 39 args).run Try.prog w = .ok (.enter 39 args) w := enters Try.func39 rfl (by kernel_rfl)
def bsT (l : List ItemD) : List UInt8 := l.flatMap fun x => x.text.data.toList
theorem bsT_succ {l : List ItemD} {k : Nat} (hk : k < l.length) : bsT (l.take (k + 1)) = bsT (l.take k) ++ l[k].text.data.toList := by
  rw [List.take_succ_eq_append_getElem hk]; simp only [bsT, List.flatMap_append, List.flatMap_cons, List.flatMap_nil, List.append_nil]
theorem bsT_len : ∀ l : List ItemD, (bsT l).length ≤ zItems l
  | [] => Nat.le_refl _
  | x :: l => by
    have := bsT_len l
    have h2 := zItem_eq x
    have h3 : x.text.data.toList.length = x.text.size := Array.length_toList
    simp only [bsT, List.flatMap_cons, List.length_append, zItems, List.map_cons, szRs] at *; omega
theorem strC_bytes (s : ByteArray) : Lib.strCells s = Lib.byteCells s.data.toList := rfl
theorem byteC_append (a b : List UInt8) : Lib.byteCells (a ++ b) = Lib.byteCells a ++ Lib.byteCells b := by simp [Lib.byteCells]
theorem textT_spec (G : GH) (w0 : World) (hG : Hold G w0) (l : List ItemD) (v : Value) (hv : RepV G (.sl 11 (l.map ItemD.dat)) v) (hz : zItems l ≤ 1073741824) (hk1 : ∀ x ∈ l, x.kind = 1) (h0 : bsT l ≠ []) :
    Calls Try.prog 39 #[v] w0 (Ret w0 G fun u G' => u = .string ⟨(bsT l).toArray⟩) := by
  obtain ⟨A, c, rfl, hc1, hc2, hg⟩ := hv.slice
  rw [List.length_map] at *
  have hll := zItems_length l
  refine enter (N := 23) (T := [(0, _)]) (F := fun k => k < w0.heap.size) (L := []) Try.func39 rfl Try.ntmps39 rfl rfl hG (fun _ h => h) (fun _ h => by cases h) (fun _ h => by cases h) (fun _ h => by cases h) List.Pairwise.nil ?_
  intro a H
  refine c_seq (fun _ hK1 => ?_)
  refine c_region ?_
  refine s_assign H wn rfl rfl ?_; clear H; intro a H
  refine wl_nil ?_
  refine hK1 _ _ ?_; clear hK1
  refine c_seq (fun _ hK2 => ?_)
  refine c_region ?_
  refine s_alloc ty144txt H wn rfl ?_; clear H; intro b3 a w hb3 H
  refine wl_nil ?_
  refine hK2 _ _ ?_; clear hK2
  refine c_seq (fun _ hK3 => ?_)
  refine c_seq (fun _ hK4 => ?_)
  refine c_region ?_
  refine s_move H wn rfl rfl ?_; clear H; intro a H
  refine s_len un28txt H wn rfl rfl ?_; clear H; intro a H
  refine s_move H wn rfl rfl ?_; clear H; intro a H
  refine wl_nil ?_
  refine hK4 _ _ ?_; clear hK4
  refine c_block ?_
  skip
  refine c_loopS (ι := Nat × Value × Value × OL) (Tc := [(3, _), (6, _), (7, _)]) (Lc := []) (fun (gh : Nat × Value × Value × OL) => [(8, vi gh.1)]) (fun (gh : Nat × Value × Value × OL) => [bB b3 gh.2.1 gh.2.2.1] ++ gh.2.2.2) (fun (gh : Nat × Value × Value × OL) => G) (fun (gh : Nat × Value × Value × OL) => gh.1 ≤ l.length ∧ (gh.2.1 = .pointer none ∨ gh.2.1 = .pointer (some ⟨b3, 0, none⟩)) ∧ IsRow 5 1 gh.2.2.1 (bsT (l.take gh.1)).length (Lib.byteCells (bsT (l.take gh.1))) gh.2.2.2) (fun (gh : Nat × Value × Value × OL) => l.length - gh.1) ((0, .pointer none, .slice none 0 0, [])) (by exact (H).sub ⟨rfl, rfl, rfl, rfl, trivial⟩) ?_ ?_
  · exact ⟨by omega, .inl rfl, IsRow.nil⟩
  · clear H; intro gh a w hI H
    obtain ⟨k, p, v, Lo⟩ := gh; dsimp only at hI H
    obtain ⟨hk, hp, hrw⟩ := hI
    dsimp only [List.cons_append, List.nil_append, List.append_nil] at H
    refine c_seq (fun _ hK5 => ?_)
    refine c_region ?_
    refine s_cmp H wn rfl rfl rfl rfl ?_; clear H; intro a H
    refine wl_nil ?_
    refine hK5 _ _ ?_; clear hK5
    refine c_seq (fun _ hK6 => ?_)
    refine c_cond H rfl ?_ ?_
    · intro h9
      try have p9 := of_decide_eq_true h9
      have hk2 : k < l.length := by omega
      obtain ⟨b, o, pA, pn, pc, dA, dn, dc, yA, yn, yc, fA, fn, fc, rA, rn, rc, rfl, hrow, hhd, hfl, hrs⟩ := flow_get hk2 hg
      have hkind := hk1 _ (List.getElem_mem hk2)
      have hbl := bsT_len (l.take (k + 1))
      have hzt := zItems_append (l.take (k + 1)) (l.drop (k + 1))
      rw [List.take_append_drop] at hzt
      have hbs := congrArg List.length (bsT_succ hk2)
      rw [List.length_append] at hbs
      have hts : l[k].text.data.toList.length = l[k].text.size := Array.length_toList
      refine c_skip ?_
      refine hK6 _ _ ?_; clear hK6
      refine c_seq (fun _ hK7 => ?_)
      refine c_block ?_
      refine c_seq (fun _ hK8 => ?_)
      refine c_region ?_
      refine s_index un28txt ty47txt _ H wn rfl rfl rfl (by first | assumption | omega) rfl ?_; clear H; intro a H
      refine s_loada ty47txt (cs := [_, _, _, _, _, _, _, _, _, _, _]) H wn rfl rfl (fun j v hj => H.hp.gcell (hrow j v hj)) rfl ?_; clear H; intro a H
      refine s_alloc ty47txt H wn rfl ?_; clear H; intro b5 a w hb5 H
      refine s_store ty47txt 0 (vs := [_, _, _, _, _, _, _, _, _, _, _]) _ H wn rfl rfl rfl rfl rfl rfl rfl rfl ?_; clear H; intro w H; dsimp only [List.set, setRow] at H
      refine wl_nil ?_
      refine hK8 _ _ ?_; clear hK8
      refine c_seq (fun _ hK9 => ?_)
      refine c_region ?_
      refine s_field fd47_0txt H wn rfl rfl ?_; clear H; intro a H
      refine s_load ty3txt H wn rfl (H.hp.ocell 0 rfl rfl) rfl ?_; clear H; intro a H
      refine s_cmp H wn rfl rfl rfl rfl ?_; clear H; intro a H
      refine wl_nil ?_
      refine hK9 _ _ ?_; clear hK9
      refine c_cond H rfl ?_ ?_
      · intro h14
        try have p14 := of_decide_eq_true h14
        refine c_region ?_
        refine s_field fd47_3txt H wn rfl rfl ?_; clear H; intro a H
        refine s_load ty9txt H wn rfl (H.hp.ocell 0 rfl rfl) rfl ?_; clear H; intro a H
        refine s_callL en60txt (Li := [_]) (L := bB b3 p v :: Lo) H wn rfl (wstr_spec _ _ _ b3 p v _ _ _ hp (Hp.owns (Li := [_]) H.hp) hrw (by omega)) rfl ?_; clear H
        rintro v_ _ L17 a w ⟨v17, Lo17, rfl, hrw17, rfl⟩ hm17 H
        refine wl_nil ?_
        refine hK7 _ _ ?_; clear hK7
        refine c_region ?_
        refine s_add _ H wn rfl rfl rfl (by omega) (by omega) rfl ?_; clear H; intro a H
        refine s_move H wn rfl rfl ?_; clear H; intro a H
        refine wl_nil ?_
        refine loop_end ((k + 1, .pointer (some ⟨b3, 0, none⟩), v17, Lo17)) (by exact (H.pickT (Pl := [_, _]) (Pl' := [_]) [1] (by decide) rfl).sub ⟨rfl, rfl, rfl, rfl, trivial⟩) ?_ ?_
        · try dsimp only
          exact ⟨by omega, .inr rfl, by rw [bsT_succ hk2, byteC_append, List.length_append, hts]; exact hrw17⟩
        · first | omega | (dsimp only; omega)
      · intro h14
        try have p14 := of_decide_eq_false h14
        exact absurd hkind p14
    · intro h9
      try have p9 := of_decide_eq_false h9
      refine c_exit ?_
      refine hK3 _ _ ?_; clear hK3
      refine c_seq (fun _ hK10 => ?_)
      rw [show l.take k = l from List.take_of_length_le (by omega)] at hrw
      refine c_region ?_
      refine s_callL en62txt (Li := []) (L := bB b3 p v :: Lo) H wn rfl (str_spec _ _ _ b3 p v (bsT l) (Hp.owns (Li := []) H.hp) hrw h0) rfl ?_; clear H
      rintro v22 G22 L22 a w rfl hm22 H
      refine s_assign H wn rfl rfl ?_; clear H; intro a H
      refine wl_nil ?_
      refine hK10 _ _ ?_; clear hK10
      refine c_ret ?_
      refine (leave1 H Try.results39 (.cons (rv_tmp H rfl) .nil) ?_).1
      exact H.hp.ret rfl
theorem ptext_spec (G : GH) (w0 : World) (hG : Hold G w0) (l : List ItemD) (b : BlkD) (v : Value) (hv : RepV G (.sl 11 (l.map ItemD.dat)) v) (hz : zItems l ≤ 1073741824) (he : lenE l = 0) (i : Nat) (hb : (blocksS l).findIdx? (fun x => decide (b = x)) = some i) (hto : -1000 < b.to ∧ b.to < 1000)
    (hr1 : rngS l b.from_ (endB b) = 0) (h1 : CutOk (endB b) l) (h2 : CutOk b.from_ (leftS (endB b) l)) (hp : PlainL (rightS b.from_ (leftS (endB b) l)))
    (hr2 : rngS l (endB b) b.to = 0) (h3 : CutOk b.to l) (h4 : CutOk (endB b) (leftS b.to l)) (hp2 : PlainL (rightS (endB b) (leftS b.to l)))
    (hk1 : ∀ x ∈ rightS b.from_ (leftS (endB b) l), x.kind = 1) (h0 : bsT (rightS b.from_ (leftS (endB b) l)) ≠ []) :
    Calls Try.prog 24 #[v, bkV b] w0 (Ret w0 G fun u G' => u = .tuple #[.string ⟨(bsT (rightS b.from_ (leftS (endB b) l))).toArray⟩, vi 0]) := by
  have z1 := zItems_sub (leftS_sub (endB b) l)
  have z2 := zItems_sub (rightS_sub b.from_ (leftS (endB b) l))
  refine enter (N := 19) (T := [(0, _), (1, _)]) (F := fun k => k < w0.heap.size) (L := []) Try.func24 rfl Try.ntmps24 rfl rfl hG (fun _ h => h) (fun _ h => by cases h) (fun _ h => by cases h) (fun _ h => by cases h) List.Pairwise.nil ?_
  intro a H
  refine c_seq (fun _ hK1 => ?_)
  refine c_region ?_
  refine s_box (cs := [_, _, _, _]) H wn rfl rfl rfl ?_; clear H; intro b3 a w hb3 H
  refine s_assign H wn rfl rfl ?_; clear H; intro a H
  refine s_assign H wn rfl rfl ?_; clear H; intro a H
  refine wl_nil ?_
  refine hK1 _ _ ?_; clear hK1
  refine c_seq (fun _ hK2 => ?_)
  refine c_region ?_
  refine s_move H wn rfl rfl ?_; clear H; intro a H
  refine s_loada ty37txt (cs := [_, _, _, _]) H wn rfl rfl (H.hp.ocells 0 rfl rfl) rfl ?_; clear H; intro a H
  refine s_call en38txt H wn rfl (parts_some _ _ H.hp.ro l b v hv hz he i hb hto hr1 h1 h2 hp hr2 h3 h4 hp2) rfl ?_; clear H
  rintro v12 G12 a w ⟨x, y, rfl, hx⟩ hm12 H
  refine s_move H wn rfl rfl ?_; clear H; intro a H
  refine s_extract H wn rfl rfl rfl ?_; clear H; intro a H
  refine s_extract H wn rfl rfl rfl ?_; clear H; intro a H
  refine s_extract H wn rfl rfl rfl ?_; clear H; intro a H
  refine s_assign H wn rfl rfl ?_; clear H; intro a H
  refine s_assign H wn rfl rfl ?_; clear H; intro a H
  refine s_assign H wn rfl rfl ?_; clear H; intro a H
  refine wl_nil ?_
  refine hK2 _ _ ?_; clear hK2
  refine c_seq (fun _ hK3 => ?_)
  refine c_region ?_
  refine s_move H wn rfl rfl ?_; clear H; intro a H
  refine s_call en39txt H wn rfl (textT_spec _ _ H.hp.ro _ x hx (by omega) hk1 h0) rfl ?_; clear H
  rintro v17 G17 a w rfl hm17 H
  refine s_move H wn rfl rfl ?_; clear H; intro a H
  refine s_assign H wn rfl rfl ?_; clear H; intro a H
  refine s_assign H wn rfl rfl ?_; clear H; intro a H
  refine wl_nil ?_
  refine hK3 _ _ ?_; clear hK3
  refine c_ret ?_
  refine (leaveT H Try.results24 (.cons (rv_tmp H rfl) (.cons (rv_tmp H rfl) .nil)) ?_).1
  exact H.hp.ret rfl
theorem ownNone_spec (G : GH) (w0 : World) (hG : Hold G w0) (l : List ItemD) (b : BlkD) (v : Value) (hv : RepV G (.sl 11 (l.map ItemD.dat)) v) (hz : zItems l ≤ 1073741824) (he : lenE l = 0) (hb : (blocksS l).findIdx? (fun x => decide (b = x)) = none) :
    Calls Try.prog 25 #[v, bkV b] w0 (Ret w0 G fun u G' => ∃ x, u = .tuple #[x, vi 8]) := by
  refine enter (N := 30) (T := [(0, _), (1, _)]) (F := fun k => k < w0.heap.size) (L := []) Try.func25 rfl Try.ntmps25 rfl rfl hG (fun _ h => h) (fun _ h => by cases h) (fun _ h => by cases h) (fun _ h => by cases h) List.Pairwise.nil ?_
  intro a H
  refine c_seq (fun _ hK1 => ?_)
  refine c_region ?_
  refine s_box (cs := [_, _, _, _]) H wn rfl rfl rfl ?_; clear H; intro b3 a w hb3 H
  refine s_assign H wn rfl rfl ?_; clear H; intro a H
  refine s_assign H wn rfl rfl ?_; clear H; intro a H
  refine wl_nil ?_
  refine hK1 _ _ ?_; clear hK1
  refine c_seq (fun _ hK2 => ?_)
  refine c_region ?_
  refine s_move H wn rfl rfl ?_; clear H; intro a H
  refine s_loada ty37txt (cs := [_, _, _, _]) H wn rfl rfl (H.hp.ocells 0 rfl rfl) rfl ?_; clear H; intro a H
  refine s_call en38txt H wn rfl (parts_none _ _ H.hp.ro l b v hv hz he hb) rfl ?_; clear H
  rintro v12 G12 a w rfl hm12 H
  refine s_move H wn rfl rfl ?_; clear H; intro a H
  refine s_extract H wn rfl rfl rfl ?_; clear H; intro a H
  refine s_extract H wn rfl rfl rfl ?_; clear H; intro a H
  refine s_extract H wn rfl rfl rfl ?_; clear H; intro a H
  refine s_assign H wn rfl rfl ?_; clear H; intro a H
  refine s_assign H wn rfl rfl ?_; clear H; intro a H
  refine s_assign H wn rfl rfl ?_; clear H; intro a H
  refine wl_nil ?_
  refine hK2 _ _ ?_; clear hK2
  refine c_seq (fun _ hK3 => ?_)
  refine c_seq (fun _ hK4 => ?_)
  refine c_region ?_
  refine s_move H wn rfl rfl ?_; clear H; intro a H
  refine s_cmp H wn rfl rfl rfl rfl ?_; clear H; intro a H
  refine s_move H wn rfl rfl ?_; clear H; intro a H
  refine s_split H 18 rfl ?_ ?_
  · intro h18
    try have p18 := of_decide_eq_true h18
    refine s_skip H rfl rfl h18 rfl ?_; clear H; intro a H
    refine s_skip H rfl rfl h18 rfl ?_; clear H; intro a H
    refine s_skip H rfl rfl h18 rfl ?_; clear H; intro a H
    refine s_pick_t H wn rfl h18 rfl rfl ?_; clear H; intro a H
    refine wl_nil ?_
    refine hK4 _ _ ?_; clear hK4
    refine c_cond_t H rfl rfl ?_
    refine c_seq (fun _ hK5 => ?_)
    refine c_region ?_
    refine s_move H wn rfl rfl ?_; clear H; intro a H
    refine s_assign H wn rfl rfl ?_; clear H; intro a H
    refine s_assign H wn rfl rfl ?_; clear H; intro a H
    refine wl_nil ?_
    refine hK5 _ _ ?_; clear hK5
    refine c_ret ?_
    refine (leaveT H Try.results25 (.cons (rv_tmp H rfl) (.cons (rv_tmp H rfl) .nil)) ?_).1
    exact H.hp.ret ⟨_, rfl⟩
  · intro h18
    try have p18 := of_decide_eq_false h18
    exact absurd h18 (by decide)
end Go.Proofs.Ytbfdhlakbdadhaa
