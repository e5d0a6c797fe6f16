/-
  Package paragraph: Sections.
-/
import Derived.Test.YtbfdhlakbdadhaaTxt
namespace Go.Proofs.Ytbfdhlakbdadhaa
open Go.RowKit
theorem un80sec : Try.prog.underlying 80 = some (.slice 84) := by kernel_rfl
theorem ty84sec : Ty Try.prog 84 4 48 [.int .i64 0, .int .i64 0, .bool false, .slice none 0 0] true := ⟨by kernel_rfl, by kernel_rfl⟩
theorem fd62_0sec : Fld Try.prog 62 0 0 := ⟨by kernel_rfl⟩
theorem ty28sec : Ty Try.prog 28 1 24 [.slice none 0 0] false := ⟨by kernel_rfl, by kernel_rfl⟩
theorem un28sec : Try.prog.underlying 28 = some (.slice 47) := by kernel_rfl
theorem ty47sec : Ty Try.prog 47 11 176 [.int .i64 0, .int .i64 0, .int .i64 0, .string ⟨#[]⟩, .slice none 0 0, .int .i64 0, .int .i64 0, .slice none 0 0, .slice none 0 0, .slice none 0 0, .slice none 0 0] true := ⟨by kernel_rfl, by kernel_rfl⟩
theorem en41sec : ∀ args w, (callFunc 41 args).run Try.prog w = .ok (.enter 41 args) w := enters Try.func41 rfl (by kernel_rfl)
theorem fd47_0sec : Fld Try.prog 47 0 0 := ⟨by kernel_rfl⟩
theorem ty3sec : Ty Try.prog 3 1 8 [.int .i64 0] false := ⟨by kernel_rfl, by kernel_rfl⟩
theorem fd47_4sec : Fld Try.prog 47 4 4 := ⟨by kernel_rfl⟩
theorem fd44_0sec : Fld Try.prog 44 0 0 := ⟨by kernel_rfl⟩
theorem ty38sec : Ty Try.prog 38 1 24 [.slice none 0 0] false := ⟨by kernel_rfl, by kernel_rfl⟩
theorem en40sec : ∀ args w, (callFunc 40 args).run Try.prog w = .ok (.enter 40 args) w := enters Try.func40 rfl (by kernel_rfl)
theorem sr84sec : Srt Try.prog 84 [(0, 1), (1, 1), (2, 1), (3, 1)] [.int .i64 0, .int .i64 0, .bool false, .slice none 0 0] := ⟨by kernel_rfl, by kernel_rfl⟩
theorem fd62_1sec : Fld Try.prog 62 1 1 := ⟨by kernel_rfl⟩
structure PartD where
  from_ : Int
  to : Int
  mark : Bool
  props : List PropD
def PartD.dat (a : PartD) : List Dat := [li a.from_, li a.to, .lf (.bool a.mark), .sl 2 (a.props.map PropD.dat)]
theorem part_row {G : GH} (a : PartD) {v : Value} (h : RepV G (.sl 2 (a.props.map PropD.dat)) v) : RepRow G a.dat [vi a.from_, vi a.to, .bool a.mark, v] := by
  simp only [PartD.dat, RepRow]
  exact ⟨_, _, rfl, by simp [RepV, Value.oneCell'], _, _, rfl, by simp [RepV, Value.oneCell'], _, _, rfl, by simp [RepV, Value.oneCell'], _, _, rfl, h, rfl⟩
theorem part_of {G : GH} {a : PartD} {cs : List Value} (h : RepRow G a.dat cs) : ∃ A n c, cs = [vi a.from_, vi a.to, .bool a.mark, .slice A n c] := by
  simp only [PartD.dat, RepRow] at h
  obtain ⟨v1, _, rfl, h1, v2, _, rfl, h2, v3, _, rfl, h3, v4, _, rfl, h4, rfl⟩ := h
  simp only [RepV] at h1 h2 h3
  obtain ⟨rfl, -⟩ := h1; obtain ⟨rfl, -⟩ := h2; obtain ⟨rfl, -⟩ := h3
  obtain ⟨A, n, c, rfl⟩ := h4.form
  exact ⟨A, n, c, rfl⟩
/-- The sections of a flow from an item on. -/
def secS (e : List PropD) : Int → Int → List ItemD → List PartD
  | fr, at_, [] => [⟨fr, at_, false, e⟩]
  | fr, at_, x :: l => if x.kind = 3 then ⟨fr, at_ + n1 x, true, x.head.props⟩ :: secS e (at_ + n1 x) (at_ + n1 x) l else secS e fr (at_ + n1 x) l
theorem secS_len (e : List PropD) : ∀ (l : List ItemD) (fr at_ : Int), (secS e fr at_ l).length ≤ l.length + 1
  | [], _, _ => by simp [secS]
  | x :: l, fr, at_ => by
    rw [secS]
    split
    · have := secS_len e l (at_ + n1 x) (at_ + n1 x); simp only [List.length_cons]; omega
    · have := secS_len e l fr (at_ + n1 x); simp only [List.length_cons]; omega
theorem sections_spec (G : GH) (w0 : World) (hG : Hold G w0) (D : DocV) (l : List ItemD) (ep : List PropD) (hv : RepV G (.sl 11 (l.map ItemD.dat)) (sl3 D.f)) (hep : RepV G (.sl 2 (ep.map PropD.dat)) (sl3 D.p)) (hz : zItems l ≤ 1073741824) (hel : ep.length ≤ 1073741824) :
    Calls Try.prog 26 #[D.val] w0 (Ret w0 G fun u G' => RepV G' (.sl 4 ((secS ep 0 0 l).map PartD.dat)) u) := by
  obtain ⟨⟨fA, fn, fc⟩, ⟨pA, pn, pc⟩, ⟨dA, dn, dc⟩, ⟨yA, yn, yc⟩, r, s1, s2, s3, s4, ins, move⟩ := D
  have hn : fn = l.length := by have := hv.len; rw [List.length_map] at this; exact this
  subst hn
  obtain ⟨A, c, he, hc1, hc2, hg⟩ := hv.slice
  injection he with e1 e2 e3
  subst e1 e3
  rw [List.length_map] at *
  have hll := zItems_length l
  have hsl := secS_len ep l 0 0
  have hml : 4294967297 ≤ maxLen := by decide
  refine enter (N := 44) (T := [(0, _)]) (F := fun k => k < w0.heap.size) (L := []) Try.func26 rfl Try.ntmps26 rfl rfl hG (fun _ h => h) (fun _ h => by cases h) (fun _ h => by cases h) (fun _ h => by cases h) List.Pairwise.nil ?_
  intro a H
  refine c_seq (fun _ hK1 => ?_)
  refine c_region ?_
  refine s_box (cs := [_, _, _, _, _, _, _, _, _, _, _]) H wn rfl rfl rfl ?_; clear H; intro b1 a w hb1 H
  refine s_assign H wn rfl rfl ?_; clear H; intro a H
  refine wl_nil ?_
  refine hK1 _ _ ?_; clear hK1
  refine c_seq (fun _ hK2 => ?_)
  refine c_region ?_
  refine s_assign H wn rfl rfl ?_; clear H; intro a H
  refine wl_nil ?_
  refine hK2 _ _ ?_; clear hK2
  refine c_seq (fun _ hK3 => ?_)
  refine c_region ?_
  refine s_assign H wn rfl rfl ?_; clear H; intro a H
  refine s_assign H wn rfl rfl ?_; clear H; intro a H
  refine wl_nil ?_
  refine hK3 _ _ ?_; clear hK3
  refine c_seq (fun _ hK4 => ?_)
  refine c_seq (fun _ hK5 => ?_)
  refine c_region ?_
  refine s_field fd62_0sec H wn rfl rfl ?_; clear H; intro a H
  refine s_load ty28sec H wn rfl (H.hp.ocell 0 rfl rfl) rfl ?_; clear H; intro a H
  refine s_len un28sec H wn rfl rfl ?_; clear H; intro a H
  refine s_move H wn rfl rfl ?_; clear H; intro a H
  refine wl_nil ?_
  refine hK5 _ _ ?_; clear hK5
  refine c_block ?_
  skip
  refine c_loopS (ι := Nat × Int × Int × List PartD × Value × List Value × OL × GH) (Tc := [(1, _), (9, _), (10, _)]) (Lc := [(_, _)]) (fun (gh : Nat × Int × Int × List PartD × Value × List Value × OL × GH) => [(3, gh.2.2.2.2.1), (4, vi gh.2.1), (5, vi gh.2.2.1), (11, vi gh.1)]) (fun (gh : Nat × Int × Int × List PartD × Value × List Value × OL × GH) => [] ++ gh.2.2.2.2.2.2.1) (fun (gh : Nat × Int × Int × List PartD × Value × List Value × OL × GH) => gh.2.2.2.2.2.2.2) (fun (gh : Nat × Int × Int × List PartD × Value × List Value × OL × GH) => gh.1 ≤ l.length ∧ IsRow 84 4 gh.2.2.2.2.1 gh.2.2.2.1.length gh.2.2.2.2.2.1 gh.2.2.2.2.2.2.1 ∧ RepCat gh.2.2.2.2.2.2.2 4 (gh.2.2.2.1.map PartD.dat) gh.2.2.2.2.2.1 ∧ (∀ b o, G b = some o → gh.2.2.2.2.2.2.2 b = some o) ∧ gh.2.2.2.1 ++ secS ep gh.2.1 gh.2.2.1 (l.drop gh.1) = secS ep 0 0 l ∧ 0 ≤ gh.2.2.1 ∧ gh.2.2.1 + zItems (l.drop gh.1) ≤ 1073741824) (fun (gh : Nat × Int × Int × List PartD × Value × List Value × OL × GH) => l.length - gh.1) ((0, 0, 0, [], .slice none 0 0, [], [], G)) (by exact (H).sub ⟨rfl, rfl, rfl, rfl, rfl, rfl, rfl, trivial⟩) ?_ ?_
  · exact ⟨by omega, IsRow.nil, RepCat.nil, fun _ _ h => h, by simp, Int.le_refl _, by simp; omega⟩
  · clear H; intro gh a w hI H
    obtain ⟨k, fr, at_, B, v, xs, Lo, g⟩ := gh; dsimp only at hI H
    obtain ⟨hk, hrw, hcat, hgm, heq, hat0, hat⟩ := hI
    have hbl : B.length ≤ 1073741825 := by have := congrArg List.length heq; rw [List.length_append] at this; omega
    dsimp only [List.cons_append, List.nil_append, List.append_nil] at H
    refine c_seq (fun _ hK6 => ?_)
    refine c_region ?_
    refine s_cmp H wn rfl rfl rfl rfl ?_; clear H; intro a H
    refine wl_nil ?_
    refine hK6 _ _ ?_; clear hK6
    refine c_seq (fun _ hK7 => ?_)
    refine c_cond H rfl ?_ ?_
    · intro h12
      try have p12 := of_decide_eq_true h12
      have hk2 : k < l.length := by omega
      obtain ⟨b, o, qA, qn, qc, eA, en, ec, zA, zn, zc, gA, gn, gc, hA, hAn, hAc, rfl, hrow, hhd, hfl, hrs⟩ := flow_get hk2 hg
      replace hrow := fun j u hj => gcell_mono hgm (hrow j u hj)
      have hzi := zItems_get hk2
      have hzh := zHead_eq l[k].head
      have hzp := szRs_length (l[k].head.props.map PropD.dat)
      rw [List.length_map] at hzp
      have hsz2 := zItems_mem (List.getElem_mem hk2)
      have hn1 := n1_le l[k]
      rw [List.drop_eq_getElem_cons hk2] at heq hat
      rw [zItems, List.map_cons, szRs] at hat
      rw [secS] at heq
      refine c_skip ?_
      refine hK7 _ _ ?_; clear hK7
      refine c_seq (fun _ hK8 => ?_)
      refine c_block ?_
      refine c_seq (fun _ hK9 => ?_)
      refine c_region ?_
      refine s_index un28sec ty47sec _ H wn rfl rfl rfl (by first | assumption | omega) rfl ?_; clear H; intro a H
      refine s_loada ty47sec (cs := [_, _, _, _, _, _, _, _, _, _, _]) H wn rfl rfl (fun j v hj => H.hp.gcell (hrow j v hj)) rfl ?_; clear H; intro a H
      refine s_alloc ty47sec H wn rfl ?_; clear H; intro b7 a w hb7 H
      refine s_store ty47sec 0 (vs := [_, _, _, _, _, _, _, _, _, _, _]) _ H wn rfl rfl rfl rfl rfl rfl rfl rfl ?_; clear H; intro w H; dsimp only [List.set, setRow] at H
      refine wl_nil ?_
      refine hK9 _ _ ?_; clear hK9
      refine c_seq (fun _ hK10 => ?_)
      refine c_region ?_
      refine s_move H wn rfl rfl ?_; clear H; intro a H
      refine s_loada ty47sec (cs := [_, _, _, _, _, _, _, _, _, _, _]) H wn rfl rfl (H.hp.ocells 0 rfl rfl) rfl ?_; clear H; intro a H
      refine s_call en41sec H wn rfl (size_spec _ _ H.hp.ro l[k] _ (RepRow.mkItem (hhd.mono hgm) (hfl.mono hgm) (hrs.mono hgm)) (by omega)) rfl ?_; clear H
      rintro v17 G17 a w rfl hm17 H
      have hgm1 : ∀ b o, G b = some o → G17 b = some o := fun b o h => hm17 b o (hgm b o h)
      refine s_add _ H wn rfl rfl rfl (by omega) (by omega) rfl ?_; clear H; intro a H
      refine s_assign H wn rfl rfl ?_; clear H; intro a H
      refine wl_nil ?_
      refine hK10 _ _ ?_; clear hK10
      refine c_seq (fun _ hK11 => ?_)
      refine c_region ?_
      refine s_field fd47_0sec H wn rfl rfl ?_; clear H; intro a H
      refine s_load ty3sec H wn rfl (H.hp.ocell 0 rfl rfl) rfl ?_; clear H; intro a H
      refine s_cmp H wn rfl rfl rfl rfl ?_; clear H; intro a H
      refine wl_nil ?_
      refine hK11 _ _ ?_; clear hK11
      refine c_cond H rfl ?_ ?_
      · intro h21
        try have p21 := of_decide_eq_true h21
        rw [if_pos p21] at heq
        refine c_seq (fun _ hK12 => ?_)
        refine c_region ?_
        refine s_move H wn rfl rfl ?_; clear H; intro a H
        refine s_move H wn rfl rfl ?_; clear H; intro a H
        refine s_move H wn rfl rfl ?_; clear H; intro a H
        refine s_field fd47_4sec H wn rfl rfl ?_; clear H; intro a H
        refine s_field fd44_0sec H wn rfl rfl ?_; clear H; intro a H
        refine s_load ty38sec H wn rfl (H.hp.ocell 0 rfl rfl) rfl ?_; clear H; intro a H
        refine s_call en40sec H wn rfl (cloneProp_spec _ _ H.hp.ro _ _ _ _ (hhd.props.mono hgm1) (by rw [List.length_map]; omega)) rfl ?_; clear H
        rintro v28 G28 a w hp28 hm28 H
        obtain ⟨A28, n28, c28, rfl⟩ := hp28.form
        refine s_build sr84sec [_, _, _, _] H wn rfl rfl rfl rfl ?_; clear H; intro a H
        refine s_buildSlice un80sec ty84sec [_, _, _, _] [_, _, _, _] H wn rfl rfl rfl rfl rfl (by intro i q h; match i, h with | 0, h => exact h | n + 1, h => simp at h) rfl rfl ?_; clear H; intro b30 a w hb30 H
        refine s_append (Li := [_, _, _]) (Lo := Lo) (news := [vi fr, vi (at_ + n1 l[k]), .bool true, .slice A28 n28 c28]) un80sec ty84sec rfl rfl H wn rfl rfl hrw rfl (H.hp.ocells 0 rfl rfl) rfl (by omega) (by omega) rfl ?_; clear H; intro v31 Lo31 a w hrw31 H
        refine s_assign H wn rfl rfl ?_; clear H; intro a H
        refine wl_nil ?_
        refine hK12 _ _ ?_; clear hK12
        refine c_region ?_
        refine s_move H wn rfl rfl ?_; clear H; intro a H
        refine s_assign H wn rfl rfl ?_; clear H; intro a H
        refine wl_nil ?_
        refine hK8 _ _ ?_; clear hK8
        refine c_region ?_
        refine s_add _ H wn rfl rfl rfl (by omega) (by omega) rfl ?_; clear H; intro a H
        refine s_move H wn rfl rfl ?_; clear H; intro a H
        refine wl_nil ?_
        refine loop_end ((k + 1, at_ + n1 l[k], at_ + n1 l[k], B ++ [⟨fr, at_ + n1 l[k], true, l[k].head.props⟩], v31, xs ++ [vi fr, vi (at_ + n1 l[k]), .bool true, .slice A28 n28 c28], Lo31, G28)) (by exact (H.pickT (Pl := [_, _, _]) (Pl' := [_]) [2] (by decide) rfl).sub ⟨rfl, rfl, rfl, rfl, rfl, rfl, rfl, trivial⟩) ?_ ?_
        · try dsimp only
          exact ⟨by omega, by rw [List.length_append]; exact hrw31, by rw [List.map_append]; exact ((hcat.mono hm17).mono hm28).snoc (part_row ⟨fr, at_ + n1 l[k], true, l[k].head.props⟩ hp28) rfl, fun b o h => hm28 b o (hgm1 b o h), by simpa using heq, by omega, by show at_ + (n1 l[k] : Int) + (szRs ((l.drop (k + 1)).map ItemD.dat) : Nat) ≤ 1073741824; omega⟩
        · first | omega | (dsimp only; omega)
      · intro h21
        try have p21 := of_decide_eq_false h21
        rw [if_neg p21] at heq
        refine c_skip ?_
        refine hK8 _ _ ?_; clear hK8
        refine c_region ?_
        refine s_add _ H wn rfl rfl rfl (by omega) (by omega) rfl ?_; clear H; intro a H
        refine s_move H wn rfl rfl ?_; clear H; intro a H
        refine wl_nil ?_
        refine loop_end ((k + 1, fr, at_ + n1 l[k], B, v, xs, Lo, G17)) (by exact (H.pickT (Pl := [_, _]) (Pl' := [_]) [1] (by decide) rfl).sub ⟨rfl, rfl, rfl, rfl, rfl, rfl, rfl, trivial⟩) ?_ ?_
        · try dsimp only
          exact ⟨by omega, hrw, hcat.mono hm17, hgm1, heq, by omega, by show at_ + (n1 l[k] : Int) + (szRs ((l.drop (k + 1)).map ItemD.dat) : Nat) ≤ 1073741824; omega⟩
        · first | omega | (dsimp only; omega)
    · intro h12
      try have p12 := of_decide_eq_false h12
      refine c_exit ?_
      refine hK4 _ _ ?_; clear hK4
      refine c_seq (fun _ hK13 => ?_)
      rw [List.drop_of_length_le (by omega), secS] at heq
      refine c_region ?_
      refine s_move H wn rfl rfl ?_; clear H; intro a H
      refine s_move H wn rfl rfl ?_; clear H; intro a H
      refine s_move H wn rfl rfl ?_; clear H; intro a H
      refine s_field fd62_1sec H wn rfl rfl ?_; clear H; intro a H
      refine s_field fd44_0sec H wn rfl rfl ?_; clear H; intro a H
      refine s_load ty38sec H wn rfl (H.hp.ocell 0 rfl rfl) rfl ?_; clear H; intro a H
      refine s_call en40sec H wn rfl (cloneProp_spec _ _ H.hp.ro _ _ _ _ (hep.mono hgm) (by rw [List.length_map]; omega)) rfl ?_; clear H
      rintro v40 G40 a w hp40 hm40 H
      obtain ⟨A40, n40, c40, rfl⟩ := hp40.form
      refine s_build sr84sec [_, _, _, _] H wn rfl rfl rfl rfl ?_; clear H; intro a H
      refine s_buildSlice un80sec ty84sec [_, _, _, _] [_, _, _, _] H wn rfl rfl rfl rfl rfl (by intro i q h; match i, h with | 0, h => exact h | n + 1, h => simp at h) rfl rfl ?_; clear H; intro b42 a w hb42 H
      refine s_append (Li := [_, _]) (Lo := Lo) (news := [vi fr, vi at_, .bool false, .slice A40 n40 c40]) un80sec ty84sec rfl rfl H wn rfl rfl hrw rfl (H.hp.ocells 0 rfl rfl) rfl (by omega) (by omega) rfl ?_; clear H; intro v43 Lo43 a w hrw43 H
      refine s_assign H wn rfl rfl ?_; clear H; intro a H
      refine wl_nil ?_
      refine hK13 _ _ ?_; clear hK13
      refine c_ret ?_
      obtain ⟨G50, hm50, hrep, H⟩ := St.giveRow (Li := [_, _]) H hrw43 (rows := (secS ep 0 0 l).map PartD.dat) (by rw [← heq]; simp) (by rw [← heq, List.map_append]; exact (hcat.mono hm40).snoc (part_row ⟨fr, at_, false, ep⟩ hp40) rfl)
      refine (leave1 H Try.results26 (.cons (rv_tmp H rfl) .nil) ?_).1
      exact H.hp.ret hrep
end Go.Proofs.Ytbfdhlakbdadhaa
