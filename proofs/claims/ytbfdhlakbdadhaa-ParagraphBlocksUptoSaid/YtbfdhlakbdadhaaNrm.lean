/-
  Package run: Normal of at most one item that has neither rows nor a flow.
-/
import Derived.Test.YtbfdhlakbdadhaaDiv
import Derived.Test.YtbfdhlakbdadhaaPlr
namespace Go.Proofs.Ytbfdhlakbdadhaa
open Go.RowKit
theorem en73nrm : ∀ args w, (callFunc 73 args).run Try.prog w = .ok (.enter 73 args) w := enters Try.func73 rfl (by kernel_rfl)
theorem un28nrm : Try.prog.underlying 28 = some (.slice 47) := by kernel_rfl
theorem ty47nrm : Ty Try.prog 47 11 176 [.int .i64 0, .int .i64 0, .int .i64 0, .string ⟨#[]⟩, .slice none 0 0, .int .i64 0, .int .i64 0, .slice none 0 0, .slice none 0 0, .slice none 0 0, .slice none 0 0] true := ⟨by kernel_rfl, by kernel_rfl⟩
theorem fd47_4nrm : Fld Try.prog 47 4 4 := ⟨by kernel_rfl⟩
theorem ty44nrm : Ty Try.prog 44 5 88 [.slice none 0 0, .int .i64 0, .int .i64 0, .slice none 0 0, .slice none 0 0] true := ⟨by kernel_rfl, by kernel_rfl⟩
theorem en68nrm : ∀ args w, (callFunc 68 args).run Try.prog w = .ok (.enter 68 args) w := enters Try.func68 rfl (by kernel_rfl)
theorem fd47_5nrm : Fld Try.prog 47 5 9 := ⟨by kernel_rfl⟩
theorem ty28nrm : Ty Try.prog 28 1 24 [.slice none 0 0] false := ⟨by kernel_rfl, by kernel_rfl⟩
theorem en78nrm : ∀ args w, (callFunc 78 args).run Try.prog w = .ok (.enter 78 args) w := enters Try.func78 rfl (by kernel_rfl)
theorem fd47_6nrm : Fld Try.prog 47 6 10 := ⟨by kernel_rfl⟩
theorem ty45nrm : Ty Try.prog 45 1 24 [.slice none 0 0] false := ⟨by kernel_rfl, by kernel_rfl⟩
theorem en69nrm : ∀ args w, (callFunc 69 args).run Try.prog w = .ok (.enter 69 args) w := enters Try.func69 rfl (by kernel_rfl)
theorem en90nrm : ∀ args w, (callFunc 90 args).run Try.prog w = .ok (.enter 90 args) w := enters Try.func90 rfl (by kernel_rfl)
theorem fd47_0nrm : Fld Try.prog 47 0 0 := ⟨by kernel_rfl⟩
theorem ty3nrm : Ty Try.prog 3 1 8 [.int .i64 0] false := ⟨by kernel_rfl, by kernel_rfl⟩
theorem fd47_3nrm : Fld Try.prog 47 3 3 := ⟨by kernel_rfl⟩
theorem ty9nrm : Ty Try.prog 9 1 16 [.string ⟨#[]⟩] false := ⟨by kernel_rfl, by kernel_rfl⟩
theorem deleteNil_spec (G : GH) (w0 : World) (hG : Hold G w0) (A : Option Addr) (n c : Nat) (fv : Value) (hv : RepV G (.sl 6 []) (.slice A n c)) :
    Calls Try.prog 90 #[.slice A n c, fv] w0 (Ret w0 G fun u G' => RepV G' (.sl 6 []) u) := by
  refine enter (N := 42) (T := [(0, _), (1, _)]) (F := fun k => k < w0.heap.size) (L := []) Try.func90 rfl Try.ntmps90 rfl rfl hG (fun _ h => h) (fun _ h => by cases h) (fun _ h => by cases h) (fun _ h => by cases h) List.Pairwise.nil ?_
  intro a H
  refine c_seq (fun _ hK1 => ?_)
  refine c_region ?_
  refine s_assign H wn rfl rfl ?_; clear H; intro a H
  refine wl_nil ?_
  refine hK1 _ _ ?_; clear hK1
  refine c_seq (fun _ hK2 => ?_)
  refine c_region ?_
  refine s_move H wn rfl rfl ?_; clear H; intro a H
  refine s_move H wn rfl rfl ?_; clear H; intro a H
  refine s_call en73nrm H wn rfl (indexFuncRow _ _ H.hp.ro [] (fun _ => true) _ _ hv (fun x h => by cases h)) rfl ?_; clear H
  rintro v10 G10 a w rfl hm10 H
  refine s_assign H wn rfl rfl ?_; clear H; intro a H
  refine wl_nil ?_
  refine hK2 _ _ ?_; clear hK2
  refine c_seq (fun _ hK3 => ?_)
  refine c_seq (fun _ hK4 => ?_)
  refine c_region ?_
  refine s_move H wn rfl rfl ?_; clear H; intro a H
  refine s_cmp H wn rfl rfl rfl rfl ?_; clear H; intro a H
  refine wl_nil ?_
  refine hK4 _ _ ?_; clear hK4
  refine c_cond H rfl ?_ ?_
  · intro h12
    try have p12 := of_decide_eq_true h12
    refine c_seq (fun _ hK5 => ?_)
    refine c_region ?_
    refine s_move H wn rfl rfl ?_; clear H; intro a H
    refine s_assign H wn rfl rfl ?_; clear H; intro a H
    refine wl_nil ?_
    refine hK5 _ _ ?_; clear hK5
    refine c_ret ?_
    refine (leave1 H Try.results90 (.cons (rv_tmp H rfl) .nil) ?_).1
    exact H.hp.ret (hv.mono hm10)
  · intro h12
    try have p12 := of_decide_eq_false h12
    exact absurd h12 (by decide)
theorem normalNil_spec (G : GH) (w0 : World) (hG : Hold G w0) (A : Option Addr) (n c : Nat) (hv : RepV G (.sl 11 []) (.slice A n c)) :
    Calls Try.prog 78 #[.slice A n c] w0 (Ret w0 G fun u G' => RepV G' (.sl 11 []) u) := by
  have hn : n = 0 := hv.len
  refine enter (N := 93) (T := [(0, _)]) (F := fun k => k < w0.heap.size) (L := []) Try.func78 rfl Try.ntmps78 rfl rfl hG (fun _ h => h) (fun _ h => by cases h) (fun _ h => by cases h) (fun _ h => by cases h) List.Pairwise.nil ?_
  intro a H
  refine c_seq (fun _ hK1 => ?_)
  refine c_region ?_
  refine s_assign H wn rfl rfl ?_; clear H; intro a H
  refine wl_nil ?_
  refine hK1 _ _ ?_; clear hK1
  refine c_seq (fun _ hK2 => ?_)
  refine c_region ?_
  refine s_assign H wn rfl rfl ?_; clear H; intro a H
  refine wl_nil ?_
  refine hK2 _ _ ?_; clear hK2
  refine c_seq (fun _ hK3 => ?_)
  refine c_seq (fun _ hK4 => ?_)
  refine c_region ?_
  refine s_move H wn rfl rfl ?_; clear H; intro a H
  refine s_len un28nrm H wn rfl rfl ?_; clear H; intro a H
  refine s_move H wn rfl rfl ?_; clear H; intro a H
  refine wl_nil ?_
  refine hK4 _ _ ?_; clear hK4
  refine c_block ?_
  skip
  refine c_loopS (ι := Unit) (Tc := [(7, _), (8, _)]) (Lc := []) (fun (gh : Unit) => [(3, .slice none 0 0), (9, vi 0)]) (fun (gh : Unit) => []) (fun (gh : Unit) => G) (fun (gh : Unit) => True) (fun (gh : Unit) => 0) (()) (by exact (H).sub ⟨rfl, rfl, rfl, rfl, trivial⟩) ?_ ?_
  · trivial
  · clear H; intro gh a w hI H
    obtain ⟨u, hgh⟩ : ∃ x, x = gh := ⟨_, rfl⟩; subst hgh
    skip
    dsimp only [List.cons_append, List.nil_append, List.append_nil] at H
    refine c_seq (fun _ hK5 => ?_)
    refine c_region ?_
    refine s_cmp H wn rfl rfl rfl rfl ?_; clear H; intro a H
    refine wl_nil ?_
    refine hK5 _ _ ?_; clear hK5
    refine c_seq (fun _ hK6 => ?_)
    refine c_cond H rfl ?_ ?_
    · intro h10
      try have p10 := of_decide_eq_true h10
      exact absurd p10 (by rw [hn]; decide)
    · intro h10
      try have p10 := of_decide_eq_false h10
      refine c_exit ?_
      refine hK3 _ _ ?_; clear hK3
      refine c_seq (fun _ hK7 => ?_)
      refine c_region ?_
      refine s_move H wn rfl rfl ?_; clear H; intro a H
      refine s_assign H wn rfl rfl ?_; clear H; intro a H
      refine wl_nil ?_
      refine hK7 _ _ ?_; clear hK7
      refine c_ret ?_
      refine (leave1 H Try.results78 (.cons (rv_tmp H rfl) .nil) ?_).1
      exact H.hp.ret (RepV.nil_ rfl (by decide))
/-- Items of which Normal keeps all as they are, if there is but one. -/
def PlainI (x : ItemD) : Prop := x.flow = [] ∧ x.rows = [] ∧ ¬ x.kind = 7 ∧ (x.kind = 1 → ¬ x.text.toList = [])
set_option maxHeartbeats 1000000 in
theorem normalOne_spec (G : GH) (w0 : World) (hG : Hold G w0) (l : List ItemD) (v : Value) (hv : RepV G (.sl 11 (l.map ItemD.dat)) v) (hl : l.length ≤ 1) (hp : ∀ x ∈ l, PlainI x) (hz : zItems l ≤ 1073741824) :
    Calls Try.prog 78 #[v] w0 (Ret w0 G fun u G' => RepV G' (.sl 11 (l.map ItemD.dat)) u) := by
  obtain ⟨A, c, rfl, hc1, hc2, hg⟩ := hv.slice
  have hml : 4294967297 ≤ maxLen := by decide
  rw [List.length_map] at *
  refine enter (N := 93) (T := [(0, _)]) (F := fun k => k < w0.heap.size) (L := []) Try.func78 rfl Try.ntmps78 rfl rfl hG (fun _ h => h) (fun _ h => by cases h) (fun _ h => by cases h) (fun _ h => by cases h) List.Pairwise.nil ?_
  intro a H
  refine c_seq (fun _ hK1 => ?_)
  refine c_region ?_
  refine s_assign H wn rfl rfl ?_; clear H; intro a H
  refine wl_nil ?_
  refine hK1 _ _ ?_; clear hK1
  refine c_seq (fun _ hK2 => ?_)
  refine c_region ?_
  refine s_assign H wn rfl rfl ?_; clear H; intro a H
  refine wl_nil ?_
  refine hK2 _ _ ?_; clear hK2
  refine c_seq (fun _ hK3 => ?_)
  refine c_seq (fun _ hK4 => ?_)
  refine c_region ?_
  refine s_move H wn rfl rfl ?_; clear H; intro a H
  refine s_len un28nrm H wn rfl rfl ?_; clear H; intro a H
  refine s_move H wn rfl rfl ?_; clear H; intro a H
  refine wl_nil ?_
  refine hK4 _ _ ?_; clear hK4
  refine c_block ?_
  skip
  refine c_loopS (ι := Nat × Value × List Value × OL × GH) (Tc := [(7, _), (8, _)]) (Lc := []) (fun (gh : Nat × Value × List Value × OL × GH) => [(3, gh.2.1), (9, vi gh.1)]) (fun (gh : Nat × Value × List Value × OL × GH) => [] ++ gh.2.2.2.1) (fun (gh : Nat × Value × List Value × OL × GH) => gh.2.2.2.2) (fun (gh : Nat × Value × List Value × OL × GH) => gh.1 ≤ l.length ∧ IsRow 47 11 gh.2.1 gh.1 gh.2.2.1 gh.2.2.2.1 ∧ RepCat gh.2.2.2.2 11 ((l.map ItemD.dat).take gh.1) gh.2.2.1 ∧ (∀ b o, G b = some o → gh.2.2.2.2 b = some o)) (fun (gh : Nat × Value × List Value × OL × GH) => l.length - gh.1) ((0, .slice none 0 0, [], [], G)) (by exact (H).sub ⟨rfl, rfl, rfl, rfl, trivial⟩) ?_ ?_
  · exact ⟨by omega, IsRow.nil, by simpa using RepCat.nil, fun _ _ h => h⟩
  · clear H; intro gh a w hI H
    obtain ⟨k, v, xs, Lo, g⟩ := gh; dsimp only at hI H
    obtain ⟨hk, hrw, hcat, hgm⟩ := hI
    dsimp only [List.cons_append, List.nil_append, List.append_nil] at H
    refine c_seq (fun _ hK5 => ?_)
    refine c_region ?_
    refine s_cmp H wn rfl rfl rfl rfl ?_; clear H; intro a H
    refine wl_nil ?_
    refine hK5 _ _ ?_; clear hK5
    refine c_seq (fun _ hK6 => ?_)
    refine c_cond H rfl ?_ ?_
    · intro h10
      try have p10 := of_decide_eq_true h10
      have hk2 : k < l.length := by omega
      obtain rfl : k = 0 := by omega
      obtain ⟨vA, vc, rfl, -, -⟩ := hrw.shape
      obtain ⟨b, o, pA, pn, pc, dA, dn, dc, yA, yn, yc, fA, fn, fc, rA, rn, rc, rfl, hrow, hhd, hfl, hrs⟩ := flow_get hk2 hg
      replace hrow := fun j u hj => gcell_mono hgm (hrow j u hj)
      obtain ⟨e1, e2, e3, e4⟩ := hp _ (List.getElem_mem hk2)
      have hzi := zItems_get hk2
      rw [e1] at hfl
      rw [e2] at hrs
      refine c_skip ?_
      refine hK6 _ _ ?_; clear hK6
      refine c_seq (fun _ hK7 => ?_)
      refine c_block ?_
      refine c_seq (fun _ hK8 => ?_)
      refine c_region ?_
      refine s_index un28nrm ty47nrm _ H wn rfl rfl rfl (by first | assumption | omega) rfl ?_; clear H; intro a H
      refine s_loada ty47nrm (cs := [_, _, _, _, _, _, _, _, _, _, _]) H wn rfl rfl (fun j v hj => H.hp.gcell (hrow j v hj)) rfl ?_; clear H; intro a H
      refine s_alloc ty47nrm H wn rfl ?_; clear H; intro b5 a w hb5 H
      refine s_store ty47nrm 0 (vs := [_, _, _, _, _, _, _, _, _, _, _]) _ H wn rfl rfl rfl rfl rfl rfl rfl rfl ?_; clear H; intro w H; dsimp only [List.set, setRow] at H
      refine wl_nil ?_
      refine hK8 _ _ ?_; clear hK8
      refine c_seq (fun _ hK9 => ?_)
      refine c_region ?_
      refine s_field fd47_4nrm H wn rfl rfl ?_; clear H; intro a H
      refine s_loada ty44nrm (cs := [_, _, _, _, _]) H wn rfl rfl (H.hp.ocells 0 rfl rfl) rfl ?_; clear H; intro a H
      refine s_call en68nrm H wn rfl (cloneHead_spec _ _ H.hp.ro _ _ _ _ _ _ _ _ _ _ (hhd.mono hgm) (by omega)) rfl ?_; clear H
      rintro v15 G15 a w ⟨p15, d15, l15, rfl, hh15⟩ hm15 H
      obtain ⟨a1, a2, a3, rfl⟩ := hh15.props.form
      obtain ⟨a4, a5, a6, rfl⟩ := hh15.dels.form
      obtain ⟨a7, a8, a9, rfl⟩ := hh15.layers.form
      refine s_field fd47_4nrm H wn rfl rfl ?_; clear H; intro a H
      refine s_store ty44nrm 0 (vs := [_, _, _, _, _]) _ H wn rfl rfl rfl rfl rfl rfl rfl rfl ?_; clear H; intro w H; dsimp only [List.set, setRow] at H
      refine wl_nil ?_
      refine hK9 _ _ ?_; clear hK9
      refine c_seq (fun _ hK10 => ?_)
      refine c_region ?_
      refine s_field fd47_5nrm H wn rfl rfl ?_; clear H; intro a H
      refine s_load ty28nrm H wn rfl (H.hp.ocell 0 rfl rfl) rfl ?_; clear H; intro a H
      refine s_call en78nrm H wn rfl (normalNil_spec _ _ H.hp.ro _ _ _ (hfl.mono fun b o h => hm15 b o (hgm b o h))) rfl ?_; clear H
      rintro v19 G19 a w hp19 hm19 H
      obtain ⟨A19, n19, c19, rfl⟩ := hp19.form
      refine s_field fd47_5nrm H wn rfl rfl ?_; clear H; intro a H
      refine s_store ty28nrm 0 (vs := [_]) _ H wn rfl rfl rfl rfl rfl rfl rfl rfl ?_; clear H; intro w H; dsimp only [List.set, setRow] at H
      refine wl_nil ?_
      refine hK10 _ _ ?_; clear hK10
      refine c_seq (fun _ hK11 => ?_)
      refine c_region ?_
      refine s_field fd47_6nrm H wn rfl rfl ?_; clear H; intro a H
      refine s_load ty45nrm H wn rfl (H.hp.ocell 0 rfl rfl) rfl ?_; clear H; intro a H
      refine s_call en69nrm H wn rfl (eachRow_spec _ _ H.hp.ro [] _ _ (hrs.mono fun b o h => hm19 b o (hm15 b o (hgm b o h))) (by decide) (fun x h => by cases h)) rfl ?_; clear H
      rintro v23 G23 a w hp23 hm23 H
      obtain ⟨A23, n23, c23, rfl⟩ := hp23.form
      refine s_call en90nrm H wn rfl (deleteNil_spec _ _ H.hp.ro _ _ _ _ hp23) rfl ?_; clear H
      rintro v24 G24 a w hp24 hm24 H
      obtain ⟨A24, n24, c24, rfl⟩ := hp24.form
      refine s_field fd47_6nrm H wn rfl rfl ?_; clear H; intro a H
      refine s_store ty45nrm 0 (vs := [_]) _ H wn rfl rfl rfl rfl rfl rfl rfl rfl ?_; clear H; intro w H; dsimp only [List.set, setRow] at H
      refine wl_nil ?_
      refine hK11 _ _ ?_; clear hK11
      refine c_seq (fun _ hK12 => ?_)
      refine c_region ?_
      refine s_move H wn rfl rfl ?_; clear H; intro a H
      refine s_len un28nrm H wn rfl rfl ?_; clear H; intro a H
      refine s_assign H wn rfl rfl ?_; clear H; intro a H
      refine wl_nil ?_
      refine hK12 _ _ ?_; clear hK12
      refine c_block ?_
      refine c_seq (fun _ hK13 => ?_)
      refine c_region ?_
      refine s_field fd47_0nrm H wn rfl rfl ?_; clear H; intro a H
      refine s_load ty3nrm H wn rfl (H.hp.ocell 0 rfl rfl) rfl ?_; clear H; intro a H
      refine s_cmp H wn rfl rfl rfl rfl ?_; clear H; intro a H
      refine s_move H wn rfl rfl ?_; clear H; intro a H
      refine s_split H 36 rfl ?_ ?_
      · intro h36
        try have p36 := of_decide_eq_true h36
        exact absurd p36 e3
      · intro h36
        try have p36 := of_decide_eq_false h36
        refine s_skip H rfl rfl h36 rfl ?_; clear H; intro a H
        refine s_skip H rfl rfl h36 rfl ?_; clear H; intro a H
        refine s_skip H rfl rfl h36 rfl ?_; clear H; intro a H
        refine s_skip H rfl rfl h36 rfl ?_; clear H; intro a H
        refine s_pick_f H wn rfl h36 rfl rfl ?_; clear H; intro a H
        refine s_move H wn rfl rfl ?_; clear H; intro a H
        refine s_field fd47_0nrm H (wg H rfl rfl rfl) rfl rfl ?_; clear H; intro a H
        refine s_load ty3nrm H (wg H rfl rfl rfl) rfl (H.hp.ocell 0 rfl rfl) rfl ?_; clear H; intro a H
        refine s_cmp H (wg H rfl rfl rfl) rfl rfl rfl rfl ?_; clear H; intro a H
        refine s_move H (wg H rfl rfl rfl) rfl rfl ?_; clear H; intro a H
        refine s_split H 46 rfl ?_ ?_
        · intro h46
          try have p46 := of_decide_eq_true h46
          refine s_field fd47_3nrm H (wg H rfl rfl h46) rfl rfl ?_; clear H; intro a H
          refine s_load ty9nrm H (wg H rfl rfl h46) rfl (H.hp.ocell 0 rfl rfl) rfl ?_; clear H; intro a H
          refine s_eqstr H (wg H rfl rfl h46) rfl rfl rfl ?_; clear H; intro a H
          refine s_pick_t H (wg H rfl rfl rfl) rfl h46 rfl rfl ?_; clear H; intro a H
          refine s_pick_f H wn rfl rfl rfl rfl ?_; clear H; intro a H
          refine s_assign H wn rfl rfl ?_; clear H; intro a H
          refine wl_nil ?_
          refine hK13 _ _ ?_; clear hK13
          refine c_cond H rfl ?_ ?_
          · intro h32
            try have p32 := of_decide_eq_true h32
            exact absurd h32 (by simpa using e4 p46)
          · intro h32
            try have p32 := of_decide_eq_false h32
            refine c_seq (fun _ hK14 => ?_)
            obtain ⟨cs31, hcs31⟩ : ∃ x, x = [vi l[0].kind, vi l[0].code, vi l[0].id, .string l[0].text, .slice a1 a2 a3, vi l[0].head.marks.ins, vi l[0].head.marks.move, .slice a4 a5 a6, .slice a7 a8 a9, .slice A19 n19 c19, .slice A24 n24 c24] := ⟨_, rfl⟩
            have hr31 : RepRow G24 l[0].dat cs31 := by
              rw [hcs31]
              exact RepRow.mkItem (hh15.mono fun b o h => hm24 b o (hm23 b o (hm19 b o h))) (by rw [e1]; exact hp19.mono fun b o h => hm24 b o (hm23 b o h)) (by rw [e2]; exact hp24)
            have hA1 : (l.map ItemD.dat).take (0 + 1) = (l.map ItemD.dat).take 0 ++ [l[0].dat] := by rw [List.take_succ_eq_append_getElem (by simpa using hk2)]; simp
            by_cases c1 : l[0].kind = 1
            · skip
              obtain ⟨cs31, hcs31⟩ : ∃ x, x = [vi l[0].kind, vi l[0].code, vi l[0].id, .string l[0].text, .slice a1 a2 a3, vi l[0].head.marks.ins, vi l[0].head.marks.move, .slice a4 a5 a6, .slice a7 a8 a9, .slice A19 n19 c19, .slice A24 n24 c24] := ⟨_, rfl⟩
              have hr31 : RepRow G24 l[0].dat cs31 := by
                rw [hcs31]
                exact RepRow.mkItem (hh15.mono fun b o h => hm24 b o (hm23 b o (hm19 b o h))) (by rw [e1]; exact hp19.mono fun b o h => hm24 b o (hm23 b o h)) (by rw [e2]; exact hp24)
              have hA1 : (l.map ItemD.dat).take (0 + 1) = (l.map ItemD.dat).take 0 ++ [l[0].dat] := by rw [List.take_succ_eq_append_getElem (by simpa using hk2)]; simp
              have hprm11 : ∀ (i : Nat) (v : Value) (G G' : GH), (∀ k o, G k = some o → G' k = some o) → (fun (i : Nat) (v : Value) (G : GH) => match i with | 0 => v = .pointer (some ⟨b5, 0, none⟩) | 1 => v = vi l[0].kind | 2 => v = .bool (decide (l[0].kind = 1)) | 3 => v = .bool (decide (l[0].kind = 1)) | 4 => v = vi 0 | 5 => v = .bool false | 6 => v = .bool false | 7 => v = .bool false | 8 => v = undef | 9 => v = undef | 10 => v = undef | 11 => v = undef | 12 => v = undef | 13 => v = undef | 14 => v = undef | 15 => v = .bool false | 16 => v = .bool false | 17 => v = undef | 18 => v = undef | 19 => v = undef | 20 => v = undef | 21 => v = undef | 22 => v = undef | 23 => v = undef | 24 => v = undef | 25 => v = undef | 26 => v = .bool false | 27 => v = .bool false | _ => True) i v G → (fun (i : Nat) (v : Value) (G : GH) => match i with | 0 => v = .pointer (some ⟨b5, 0, none⟩) | 1 => v = vi l[0].kind | 2 => v = .bool (decide (l[0].kind = 1)) | 3 => v = .bool (decide (l[0].kind = 1)) | 4 => v = vi 0 | 5 => v = .bool false | 6 => v = .bool false | 7 => v = .bool false | 8 => v = undef | 9 => v = undef | 10 => v = undef | 11 => v = undef | 12 => v = undef | 13 => v = undef | 14 => v = undef | 15 => v = .bool false | 16 => v = .bool false | 17 => v = undef | 18 => v = undef | 19 => v = undef | 20 => v = undef | 21 => v = undef | 22 => v = undef | 23 => v = undef | 24 => v = undef | 25 => v = undef | 26 => v = .bool false | 27 => v = .bool false | _ => True) i v G' := by
                intro i v G G' hm h
                match i, h with
                | 0, h => exact h
                | 1, h => exact h
                | 2, h => exact h
                | 3, h => exact h
                | 4, h => exact h
                | 5, h => exact h
                | 6, h => exact h
                | 7, h => exact h
                | 8, h => exact h
                | 9, h => exact h
                | 10, h => exact h
                | 11, h => exact h
                | 12, h => exact h
                | 13, h => exact h
                | 14, h => exact h
                | 15, h => exact h
                | 16, h => exact h
                | 17, h => exact h
                | 18, h => exact h
                | 19, h => exact h
                | 20, h => exact h
                | 21, h => exact h
                | 22, h => exact h
                | 23, h => exact h
                | 24, h => exact h
                | 25, h => exact h
                | 26, h => exact h
                | 27, h => exact h
                | _ + 28, h => exact trivial
              refine c_drawI (hmx) [[], [0], [0, 1], [0, 1, 2], [0, 1, 2, 3], [0, 1, 2, 3, 4], [0, 1, 2, 3, 4, 5], [0, 1, 2, 3, 4, 5, 6], [0, 1, 2, 3, 4, 5, 6, 7], [0, 1, 2, 3, 4, 5, 6, 7], [0, 1, 2, 3, 4, 5, 6, 7, 9], [0, 1, 2, 3, 4, 5, 6, 7, 8, 9, 10], [0, 1, 2, 3, 4, 5, 6, 7, 8, 9, 10, 11], [0, 1, 2, 3, 4, 5, 6, 7, 8, 9, 10, 11, 12], [0, 1, 2, 3, 4, 5, 6, 7, 8, 9, 10, 11, 12, 13], [0, 1, 2, 3, 4, 5, 6, 7, 8, 9, 10, 11, 12, 13, 14], [0, 1, 2, 3, 4, 5, 6, 7, 8, 9, 10, 11, 12, 13, 14, 15], [0, 1, 2, 3, 4, 5, 6, 7, 8, 9, 10, 11, 12, 13, 14, 15, 16], [0, 1, 2, 3, 4, 5, 6, 7, 8, 9, 10, 11, 12, 13, 14, 15, 16], [0, 1, 2, 3, 4, 5, 6, 7, 8, 9, 10, 11, 12, 13, 14, 15, 16, 18], [0, 1, 2, 3, 4, 5, 6, 7, 8, 9, 10, 11, 12, 13, 14, 15, 16, 17, 18, 19], [0, 1, 2, 3, 4, 5, 6, 7, 8, 9, 10, 11, 12, 13, 14, 15, 16, 17, 18, 19, 20], [0, 1, 2, 3, 4, 5, 6, 7, 8, 9, 10, 11, 12, 13, 14, 15, 16, 17, 18, 19, 20, 21], [0, 1, 2, 3, 4, 5, 6, 7, 8, 9, 10, 11, 12, 13, 14, 15, 16], [0, 1, 2, 3, 4, 5, 6, 7, 8, 9, 10, 11, 12, 13, 14, 15, 16, 23], [0, 1, 2, 3, 4, 5, 6, 7, 8, 9, 10, 11, 12, 13, 14, 15, 16, 17, 18, 19, 20, 21, 22, 23, 24], [0, 1, 2, 3, 4, 5, 6, 7, 8, 9, 10, 11, 12, 13, 14, 15, 16, 17, 18, 19, 20, 21, 22, 23, 24, 25], [0, 1, 2, 3, 4, 5, 6, 7, 8, 9, 10, 11, 12, 13, 14, 15, 16, 17, 18, 19, 20, 21, 22, 23, 24, 25, 26]] [] (by kernel_rfl) (by kernel_rfl) (fun (i : Nat) (v : Value) (G : GH) => match i with | 0 => v = .pointer (some ⟨b5, 0, none⟩) | 1 => v = vi l[0].kind | 2 => v = .bool (decide (l[0].kind = 1)) | 3 => v = .bool (decide (l[0].kind = 1)) | 4 => v = vi 0 | 5 => v = .bool false | 6 => v = .bool false | 7 => v = .bool false | 8 => v = undef | 9 => v = undef | 10 => v = undef | 11 => v = undef | 12 => v = undef | 13 => v = undef | 14 => v = undef | 15 => v = .bool false | 16 => v = .bool false | 17 => v = undef | 18 => v = undef | 19 => v = undef | 20 => v = undef | 21 => v = undef | 22 => v = undef | 23 => v = undef | 24 => v = undef | 25 => v = undef | 26 => v = .bool false | 27 => v = .bool false | _ => True) hprm11 H ?_ ?_
              · clear H; refine (allI_cons ?_ (allI_cons ?_ (allI_cons ?_ (allI_cons ?_ (allI_cons ?_ (allI_cons ?_ (allI_cons ?_ (allI_cons ?_ (allI_cons ?_ (allI_cons ?_ (allI_cons ?_ (allI_cons ?_ (allI_cons ?_ (allI_cons ?_ (allI_cons ?_ (allI_cons ?_ (allI_cons ?_ (allI_cons ?_ (allI_cons ?_ (allI_cons ?_ (allI_cons ?_ (allI_cons ?_ (allI_cons ?_ (allI_cons ?_ (allI_cons ?_ (allI_cons ?_ (allI_cons ?_ (allI_cons ?_ allI_nil))))))))))))))))))))))))))))
                · intro S a w G1 _ hSi hc hG HT hv; have H := HT; clear hSi
                  have Hb := H.full; have H := Hb; clear hc
                  refine s_field fd47_0nrm H wn rfl rfl ?_; clear H; intro a H
                  refine wl_nil ⟨rfl, ?_⟩
                  exact draw_val (by kernel_rfl) hprm11 rfl rfl HT Hb hG hv (fun _ _ h => h) (rfl) H
                · intro S a w G1 _ hSi hc hG HT hv; have H := HT; clear hSi
                  obtain ⟨u53, hu53, hp53⟩ := hv 0 53 (hc 0 (by decide)) rfl
                  obtain rfl : u53 = .pointer (some ⟨b5, 0, none⟩) := hp53
                  have H := H.addS hu53
                  have Hb := H.full; have H := Hb; clear hc
                  refine s_load ty3nrm H wn rfl (H.hp.ocell 0 rfl rfl) rfl ?_; clear H; intro a H
                  refine wl_nil ⟨rfl, ?_⟩
                  exact draw_val (by kernel_rfl) hprm11 rfl rfl HT Hb hG hv (fun _ _ h => h) (rfl) H
                · intro S a w G1 _ hSi hc hG HT hv; have H := HT; clear hSi
                  obtain ⟨u54, hu54, hp54⟩ := hv 1 54 (hc 1 (by decide)) rfl
                  obtain rfl : u54 = vi l[0].kind := hp54
                  have H := H.addS hu54
                  have Hb := H.full; have H := Hb; clear hc
                  refine s_cmp H wn rfl rfl rfl rfl ?_; clear H; intro a H
                  refine wl_nil ⟨rfl, ?_⟩
                  exact draw_val (by kernel_rfl) hprm11 rfl rfl HT Hb hG hv (fun _ _ h => h) (rfl) H
                · intro S a w G1 _ hSi hc hG HT hv; have H := HT; clear hSi
                  obtain ⟨u55, hu55, hp55⟩ := hv 2 55 (hc 2 (by decide)) rfl
                  obtain rfl : u55 = .bool (decide (l[0].kind = 1)) := hp55
                  have H := H.addS hu55
                  have Hb := H.full; have H := Hb; clear hc
                  refine s_move H wn rfl rfl ?_; clear H; intro a H
                  refine wl_nil ⟨rfl, ?_⟩
                  exact draw_val (by kernel_rfl) hprm11 rfl rfl HT Hb hG hv (fun _ _ h => h) (rfl) H
                · intro S a w G1 _ hSi hc hG HT hv; have H := HT; clear hSi
                  obtain ⟨u56, hu56, hp56⟩ := hv 3 56 (hc 3 (by decide)) rfl
                  obtain rfl : u56 = .bool (decide (l[0].kind = 1)) := hp56
                  have H := H.addS hu56
                  have Hb := H.full; have H := Hb; clear hc
                  refine s_move H (wg H rfl rfl (decide_eq_true c1)) rfl rfl ?_; clear H; intro a H
                  refine wl_nil ⟨rfl, ?_⟩
                  exact draw_val (by kernel_rfl) hprm11 rfl rfl HT Hb hG hv (fun _ _ h => h) (rfl) H
                · intro S a w G1 _ hSi hc hG HT hv; have H := HT; clear hSi
                  obtain ⟨u57, hu57, hp57⟩ := hv 4 57 (hc 4 (by decide)) rfl
                  obtain rfl : u57 = vi 0 := hp57
                  have H := H.addS hu57
                  obtain ⟨u56, hu56, hp56⟩ := hv 3 56 (hc 3 (by decide)) rfl
                  obtain rfl : u56 = .bool (decide (l[0].kind = 1)) := hp56
                  have H := H.addS hu56
                  have Hb := H.full; have H := Hb; clear hc
                  refine s_cmp H (wg H rfl rfl (decide_eq_true c1)) rfl rfl rfl rfl ?_; clear H; intro a H
                  refine wl_nil ⟨rfl, ?_⟩
                  exact draw_val (by kernel_rfl) hprm11 rfl rfl HT Hb hG hv (fun _ _ h => h) (rfl) H
                · intro S a w G1 _ hSi hc hG HT hv; have H := HT; clear hSi
                  obtain ⟨u56, hu56, hp56⟩ := hv 3 56 (hc 3 (by decide)) rfl
                  obtain rfl : u56 = .bool (decide (l[0].kind = 1)) := hp56
                  have H := H.addS hu56
                  obtain ⟨u58, hu58, hp58⟩ := hv 5 58 (hc 5 (by decide)) rfl
                  obtain rfl : u58 = .bool false := hp58
                  have H := H.addS hu58
                  have Hb := H.full; have H := Hb; clear hc
                  refine s_pick_t H wn rfl (decide_eq_true c1) rfl rfl ?_; clear H; intro a H
                  refine wl_nil ⟨rfl, ?_⟩
                  exact draw_val (by kernel_rfl) hprm11 rfl rfl HT Hb hG hv (fun _ _ h => h) (rfl) H
                · intro S a w G1 _ hSi hc hG HT hv; have H := HT; clear hSi
                  obtain ⟨u59, hu59, hp59⟩ := hv 6 59 (hc 6 (by decide)) rfl
                  obtain rfl : u59 = .bool false := hp59
                  have H := H.addS hu59
                  have Hb := H.full; have H := Hb; clear hc
                  refine s_move H wn rfl rfl ?_; clear H; intro a H
                  refine wl_nil ⟨rfl, ?_⟩
                  exact draw_val (by kernel_rfl) hprm11 rfl rfl HT Hb hG hv (fun _ _ h => h) (rfl) H
                · intro S a w G1 _ hSi hc hG HT hv; have H := HT; clear hSi
                  obtain ⟨u60, hu60, hp60⟩ := hv 7 60 (hc 7 (by decide)) rfl
                  obtain rfl : u60 = .bool false := hp60
                  have H := H.addS hu60
                  have Hb := H.full; have H := Hb; clear hc
                  refine s_skip H rfl rfl rfl rfl ?_; clear H; intro a H
                  refine wl_nil ⟨rfl, ?_⟩
                  exact draw_val (by kernel_rfl) hprm11 rfl rfl HT Hb hG hv (fun _ _ h => h) (rfl) H
                · intro S a w G1 _ hSi hc hG HT hv; have H := HT; clear hSi
                  obtain ⟨u60, hu60, hp60⟩ := hv 7 60 (hc 7 (by decide)) rfl
                  obtain rfl : u60 = .bool false := hp60
                  have H := H.addS hu60
                  have Hb := H.full; have H := Hb; clear hc
                  refine s_skip H rfl rfl rfl rfl ?_; clear H; intro a H
                  refine wl_nil ⟨rfl, ?_⟩
                  exact draw_val (by kernel_rfl) hprm11 rfl rfl HT Hb hG hv (fun _ _ h => h) (rfl) H
                · intro S a w G1 _ hSi hc hG HT hv; have H := HT; clear hSi
                  obtain ⟨u62, hu62, hp62⟩ := hv 9 62 (hc 9 (by decide)) rfl
                  obtain rfl : u62 = undef := hp62
                  have H := H.addS hu62
                  obtain ⟨u60, hu60, hp60⟩ := hv 7 60 (hc 7 (by decide)) rfl
                  obtain rfl : u60 = .bool false := hp60
                  have H := H.addS hu60
                  have Hb := H.full; have H := Hb; clear hc
                  refine s_skip H rfl rfl rfl rfl ?_; clear H; intro a H
                  refine wl_nil ⟨rfl, ?_⟩
                  exact draw_val (by kernel_rfl) hprm11 rfl rfl HT Hb hG hv (fun _ _ h => h) (rfl) H
                · intro S a w G1 _ hSi hc hG HT hv; have H := HT; clear hSi
                  obtain ⟨u61, hu61, hp61⟩ := hv 8 61 (hc 8 (by decide)) rfl
                  obtain rfl : u61 = undef := hp61
                  have H := H.addS hu61
                  obtain ⟨u63, hu63, hp63⟩ := hv 10 63 (hc 10 (by decide)) rfl
                  obtain rfl : u63 = undef := hp63
                  have H := H.addS hu63
                  obtain ⟨u60, hu60, hp60⟩ := hv 7 60 (hc 7 (by decide)) rfl
                  obtain rfl : u60 = .bool false := hp60
                  have H := H.addS hu60
                  have Hb := H.full; have H := Hb; clear hc
                  refine s_skip H rfl rfl rfl rfl ?_; clear H; intro a H
                  refine wl_nil ⟨rfl, ?_⟩
                  exact draw_val (by kernel_rfl) hprm11 rfl rfl HT Hb hG hv (fun _ _ h => h) (rfl) H
                · intro S a w G1 _ hSi hc hG HT hv; have H := HT; clear hSi
                  obtain ⟨u64, hu64, hp64⟩ := hv 11 64 (hc 11 (by decide)) rfl
                  obtain rfl : u64 = undef := hp64
                  have H := H.addS hu64
                  obtain ⟨u60, hu60, hp60⟩ := hv 7 60 (hc 7 (by decide)) rfl
                  obtain rfl : u60 = .bool false := hp60
                  have H := H.addS hu60
                  have Hb := H.full; have H := Hb; clear hc
                  refine s_skip H rfl rfl rfl rfl ?_; clear H; intro a H
                  refine wl_nil ⟨rfl, ?_⟩
                  exact draw_val (by kernel_rfl) hprm11 rfl rfl HT Hb hG hv (fun _ _ h => h) (rfl) H
                · intro S a w G1 _ hSi hc hG HT hv; have H := HT; clear hSi
                  obtain ⟨u65, hu65, hp65⟩ := hv 12 65 (hc 12 (by decide)) rfl
                  obtain rfl : u65 = undef := hp65
                  have H := H.addS hu65
                  obtain ⟨u60, hu60, hp60⟩ := hv 7 60 (hc 7 (by decide)) rfl
                  obtain rfl : u60 = .bool false := hp60
                  have H := H.addS hu60
                  have Hb := H.full; have H := Hb; clear hc
                  refine s_skip H rfl rfl rfl rfl ?_; clear H; intro a H
                  refine wl_nil ⟨rfl, ?_⟩
                  exact draw_val (by kernel_rfl) hprm11 rfl rfl HT Hb hG hv (fun _ _ h => h) (rfl) H
                · intro S a w G1 _ hSi hc hG HT hv; have H := HT; clear hSi
                  obtain ⟨u66, hu66, hp66⟩ := hv 13 66 (hc 13 (by decide)) rfl
                  obtain rfl : u66 = undef := hp66
                  have H := H.addS hu66
                  obtain ⟨u60, hu60, hp60⟩ := hv 7 60 (hc 7 (by decide)) rfl
                  obtain rfl : u60 = .bool false := hp60
                  have H := H.addS hu60
                  have Hb := H.full; have H := Hb; clear hc
                  refine s_skip H rfl rfl rfl rfl ?_; clear H; intro a H
                  refine wl_nil ⟨rfl, ?_⟩
                  exact draw_val (by kernel_rfl) hprm11 rfl rfl HT Hb hG hv (fun _ _ h => h) (rfl) H
                · intro S a w G1 _ hSi hc hG HT hv; have H := HT; clear hSi
                  obtain ⟨u60, hu60, hp60⟩ := hv 7 60 (hc 7 (by decide)) rfl
                  obtain rfl : u60 = .bool false := hp60
                  have H := H.addS hu60
                  obtain ⟨u67, hu67, hp67⟩ := hv 14 67 (hc 14 (by decide)) rfl
                  obtain rfl : u67 = undef := hp67
                  have H := H.addS hu67
                  have Hb := H.full; have H := Hb; clear hc
                  refine s_pick_f H wn rfl rfl rfl rfl ?_; clear H; intro a H
                  refine wl_nil ⟨rfl, ?_⟩
                  exact draw_val (by kernel_rfl) hprm11 rfl rfl HT Hb hG hv (fun _ _ h => h) (rfl) H
                · intro S a w G1 _ hSi hc hG HT hv; have H := HT; clear hSi
                  obtain ⟨u68, hu68, hp68⟩ := hv 15 68 (hc 15 (by decide)) rfl
                  obtain rfl : u68 = .bool false := hp68
                  have H := H.addS hu68
                  have Hb := H.full; have H := Hb; clear hc
                  refine s_move H wn rfl rfl ?_; clear H; intro a H
                  refine wl_nil ⟨rfl, ?_⟩
                  exact draw_val (by kernel_rfl) hprm11 rfl rfl HT Hb hG hv (fun _ _ h => h) (rfl) H
                · intro S a w G1 _ hSi hc hG HT hv; have H := HT; clear hSi
                  obtain ⟨u69, hu69, hp69⟩ := hv 16 69 (hc 16 (by decide)) rfl
                  obtain rfl : u69 = .bool false := hp69
                  have H := H.addS hu69
                  have Hb := H.full; have H := Hb; clear hc
                  refine s_skip H rfl rfl rfl rfl ?_; clear H; intro a H
                  refine wl_nil ⟨rfl, ?_⟩
                  exact draw_val (by kernel_rfl) hprm11 rfl rfl HT Hb hG hv (fun _ _ h => h) (rfl) H
                · intro S a w G1 _ hSi hc hG HT hv; have H := HT; clear hSi
                  obtain ⟨u69, hu69, hp69⟩ := hv 16 69 (hc 16 (by decide)) rfl
                  obtain rfl : u69 = .bool false := hp69
                  have H := H.addS hu69
                  have Hb := H.full; have H := Hb; clear hc
                  refine s_skip H rfl rfl rfl rfl ?_; clear H; intro a H
                  refine wl_nil ⟨rfl, ?_⟩
                  exact draw_val (by kernel_rfl) hprm11 rfl rfl HT Hb hG hv (fun _ _ h => h) (rfl) H
                · intro S a w G1 _ hSi hc hG HT hv; have H := HT; clear hSi
                  obtain ⟨u71, hu71, hp71⟩ := hv 18 71 (hc 18 (by decide)) rfl
                  obtain rfl : u71 = undef := hp71
                  have H := H.addS hu71
                  obtain ⟨u69, hu69, hp69⟩ := hv 16 69 (hc 16 (by decide)) rfl
                  obtain rfl : u69 = .bool false := hp69
                  have H := H.addS hu69
                  have Hb := H.full; have H := Hb; clear hc
                  refine s_skip H rfl rfl rfl rfl ?_; clear H; intro a H
                  refine wl_nil ⟨rfl, ?_⟩
                  exact draw_val (by kernel_rfl) hprm11 rfl rfl HT Hb hG hv (fun _ _ h => h) (rfl) H
                · intro S a w G1 _ hSi hc hG HT hv; have H := HT; clear hSi
                  obtain ⟨u70, hu70, hp70⟩ := hv 17 70 (hc 17 (by decide)) rfl
                  obtain rfl : u70 = undef := hp70
                  have H := H.addS hu70
                  obtain ⟨u72, hu72, hp72⟩ := hv 19 72 (hc 19 (by decide)) rfl
                  obtain rfl : u72 = undef := hp72
                  have H := H.addS hu72
                  obtain ⟨u69, hu69, hp69⟩ := hv 16 69 (hc 16 (by decide)) rfl
                  obtain rfl : u69 = .bool false := hp69
                  have H := H.addS hu69
                  have Hb := H.full; have H := Hb; clear hc
                  refine s_skip H rfl rfl rfl rfl ?_; clear H; intro a H
                  refine wl_nil ⟨rfl, ?_⟩
                  exact draw_val (by kernel_rfl) hprm11 rfl rfl HT Hb hG hv (fun _ _ h => h) (rfl) H
                · intro S a w G1 _ hSi hc hG HT hv; have H := HT; clear hSi
                  obtain ⟨u73, hu73, hp73⟩ := hv 20 73 (hc 20 (by decide)) rfl
                  obtain rfl : u73 = undef := hp73
                  have H := H.addS hu73
                  obtain ⟨u69, hu69, hp69⟩ := hv 16 69 (hc 16 (by decide)) rfl
                  obtain rfl : u69 = .bool false := hp69
                  have H := H.addS hu69
                  have Hb := H.full; have H := Hb; clear hc
                  refine s_skip H rfl rfl rfl rfl ?_; clear H; intro a H
                  refine wl_nil ⟨rfl, ?_⟩
                  exact draw_val (by kernel_rfl) hprm11 rfl rfl HT Hb hG hv (fun _ _ h => h) (rfl) H
                · intro S a w G1 _ hSi hc hG HT hv; have H := HT; clear hSi
                  obtain ⟨u74, hu74, hp74⟩ := hv 21 74 (hc 21 (by decide)) rfl
                  obtain rfl : u74 = undef := hp74
                  have H := H.addS hu74
                  obtain ⟨u69, hu69, hp69⟩ := hv 16 69 (hc 16 (by decide)) rfl
                  obtain rfl : u69 = .bool false := hp69
                  have H := H.addS hu69
                  have Hb := H.full; have H := Hb; clear hc
                  refine s_skip H rfl rfl rfl rfl ?_; clear H; intro a H
                  refine wl_nil ⟨rfl, ?_⟩
                  exact draw_val (by kernel_rfl) hprm11 rfl rfl HT Hb hG hv (fun _ _ h => h) (rfl) H
                · intro S a w G1 _ hSi hc hG HT hv; have H := HT; clear hSi
                  obtain ⟨u69, hu69, hp69⟩ := hv 16 69 (hc 16 (by decide)) rfl
                  obtain rfl : u69 = .bool false := hp69
                  have H := H.addS hu69
                  have Hb := H.full; have H := Hb; clear hc
                  refine s_skip H rfl rfl rfl rfl ?_; clear H; intro a H
                  refine wl_nil ⟨rfl, ?_⟩
                  exact draw_val (by kernel_rfl) hprm11 rfl rfl HT Hb hG hv (fun _ _ h => h) (rfl) H
                · intro S a w G1 _ hSi hc hG HT hv; have H := HT; clear hSi
                  obtain ⟨u76, hu76, hp76⟩ := hv 23 76 (hc 23 (by decide)) rfl
                  obtain rfl : u76 = undef := hp76
                  have H := H.addS hu76
                  obtain ⟨u69, hu69, hp69⟩ := hv 16 69 (hc 16 (by decide)) rfl
                  obtain rfl : u69 = .bool false := hp69
                  have H := H.addS hu69
                  have Hb := H.full; have H := Hb; clear hc
                  refine s_skip H rfl rfl rfl rfl ?_; clear H; intro a H
                  refine wl_nil ⟨rfl, ?_⟩
                  exact draw_val (by kernel_rfl) hprm11 rfl rfl HT Hb hG hv (fun _ _ h => h) (rfl) H
                · intro S a w G1 _ hSi hc hG HT hv; have H := HT; clear hSi
                  obtain ⟨u75, hu75, hp75⟩ := hv 22 75 (hc 22 (by decide)) rfl
                  obtain rfl : u75 = undef := hp75
                  have H := H.addS hu75
                  obtain ⟨u77, hu77, hp77⟩ := hv 24 77 (hc 24 (by decide)) rfl
                  obtain rfl : u77 = undef := hp77
                  have H := H.addS hu77
                  obtain ⟨u69, hu69, hp69⟩ := hv 16 69 (hc 16 (by decide)) rfl
                  obtain rfl : u69 = .bool false := hp69
                  have H := H.addS hu69
                  have Hb := H.full; have H := Hb; clear hc
                  refine s_skip H rfl rfl rfl rfl ?_; clear H; intro a H
                  refine wl_nil ⟨rfl, ?_⟩
                  exact draw_val (by kernel_rfl) hprm11 rfl rfl HT Hb hG hv (fun _ _ h => h) (rfl) H
                · intro S a w G1 _ hSi hc hG HT hv; have H := HT; clear hSi
                  obtain ⟨u69, hu69, hp69⟩ := hv 16 69 (hc 16 (by decide)) rfl
                  obtain rfl : u69 = .bool false := hp69
                  have H := H.addS hu69
                  obtain ⟨u78, hu78, hp78⟩ := hv 25 78 (hc 25 (by decide)) rfl
                  obtain rfl : u78 = undef := hp78
                  have H := H.addS hu78
                  have Hb := H.full; have H := Hb; clear hc
                  refine s_pick_f H wn rfl rfl rfl rfl ?_; clear H; intro a H
                  refine wl_nil ⟨rfl, ?_⟩
                  exact draw_val (by kernel_rfl) hprm11 rfl rfl HT Hb hG hv (fun _ _ h => h) (rfl) H
                · intro S a w G1 _ hSi hc hG HT hv; have H := HT; clear hSi
                  obtain ⟨u79, hu79, hp79⟩ := hv 26 79 (hc 26 (by decide)) rfl
                  obtain rfl : u79 = .bool false := hp79
                  have H := H.addS hu79
                  have Hb := H.full; have H := Hb; clear hc
                  refine s_assign H wn rfl rfl ?_; clear H; intro a H
                  refine wl_nil ⟨rfl, ?_⟩
                  exact draw_val (by kernel_rfl) hprm11 rfl rfl HT Hb hG hv (fun _ _ h => h) (rfl) H
              · clear H; intro a w G hGm11 H hv
                obtain ⟨u52, hu52, hp52⟩ := hv 27 52 (by decide) rfl
                obtain rfl : u52 = .bool false := hp52
                have H := H.addS hu52
                clear hv
                refine wl_nil ⟨rfl, ?_⟩
                refine hK14 _ _ ?_; clear hK14
                refine c_cond_f H rfl rfl ?_
                refine c_region ?_
                refine s_move H wn rfl rfl ?_; clear H; intro a H
                refine s_loada ty47nrm (cs := [_, _, _, _, _, _, _, _, _, _, _]) H wn rfl rfl (H.hp.ocells 0 rfl rfl) rfl ?_; clear H; intro a H
                refine s_buildSlice un28nrm ty47nrm [_, _, _, _, _, _, _, _, _, _, _] [_, _, _, _, _, _, _, _, _, _, _] H wn rfl rfl rfl rfl rfl (by intro i q h; match i, h with | 0, h => exact h | n + 1, h => simp at h) rfl rfl ?_; clear H; intro b30 a w hb30 H
                refine s_append (Li := [_, _]) (Lo := Lo) (news := cs31) un28nrm ty47nrm rfl rfl H wn rfl rfl hrw (by rw [hcs31]; rfl) (by rw [hcs31]; exact H.hp.ocells 0 rfl rfl) hr31.one (by omega) (by omega) rfl ?_; clear H; intro v31 Lo31 a w hrw31 H
                refine s_assign H wn rfl rfl ?_; clear H; intro a H
                refine wl_nil ?_
                refine hK7 _ _ ?_; clear hK7
                refine c_region ?_
                refine s_add _ H wn rfl rfl rfl (by omega) (by omega) rfl ?_; clear H; intro a H
                refine s_move H wn rfl rfl ?_; clear H; intro a H
                refine wl_nil ?_
                refine loop_end ((0 + 1, v31, xs ++ cs31, Lo31, G)) (by exact (H.pickT (Pl := [_, _]) (Pl' := []) [] (by decide) rfl).sub ⟨rfl, rfl, rfl, rfl, trivial⟩) ?_ ?_
                · try dsimp only
                  exact ⟨by omega, hrw31, by rw [hA1]; exact (hcat.mono (fun b o h => hGm11 b o (hm24 b o (hm23 b o (hm19 b o (hm15 b o h)))))).snoc (hr31.mono hGm11) (by rw [hcs31]; rfl), fun b o h => hGm11 b o (hm24 b o (hm23 b o (hm19 b o (hm15 b o (hgm b o h)))))⟩
                · first | omega | (dsimp only; omega)
            · skip
              obtain ⟨cs31, hcs31⟩ : ∃ x, x = [vi l[0].kind, vi l[0].code, vi l[0].id, .string l[0].text, .slice a1 a2 a3, vi l[0].head.marks.ins, vi l[0].head.marks.move, .slice a4 a5 a6, .slice a7 a8 a9, .slice A19 n19 c19, .slice A24 n24 c24] := ⟨_, rfl⟩
              have hr31 : RepRow G24 l[0].dat cs31 := by
                rw [hcs31]
                exact RepRow.mkItem (hh15.mono fun b o h => hm24 b o (hm23 b o (hm19 b o h))) (by rw [e1]; exact hp19.mono fun b o h => hm24 b o (hm23 b o h)) (by rw [e2]; exact hp24)
              have hA1 : (l.map ItemD.dat).take (0 + 1) = (l.map ItemD.dat).take 0 ++ [l[0].dat] := by rw [List.take_succ_eq_append_getElem (by simpa using hk2)]; simp
              have hprm11 : ∀ (i : Nat) (v : Value) (G G' : GH), (∀ k o, G k = some o → G' k = some o) → (fun (i : Nat) (v : Value) (G : GH) => match i with | 0 => v = .pointer (some ⟨b5, 0, none⟩) | 1 => v = vi l[0].kind | 2 => v = .bool (decide (l[0].kind = 1)) | 3 => v = .bool (decide (l[0].kind = 1)) | 4 => v = undef | 5 => v = undef | 6 => v = .bool false | 7 => v = .bool false | 8 => v = undef | 9 => v = undef | 10 => v = undef | 11 => v = undef | 12 => v = undef | 13 => v = undef | 14 => v = undef | 15 => v = .bool false | 16 => v = .bool false | 17 => v = undef | 18 => v = undef | 19 => v = undef | 20 => v = undef | 21 => v = undef | 22 => v = undef | 23 => v = undef | 24 => v = undef | 25 => v = undef | 26 => v = .bool false | 27 => v = .bool false | _ => True) i v G → (fun (i : Nat) (v : Value) (G : GH) => match i with | 0 => v = .pointer (some ⟨b5, 0, none⟩) | 1 => v = vi l[0].kind | 2 => v = .bool (decide (l[0].kind = 1)) | 3 => v = .bool (decide (l[0].kind = 1)) | 4 => v = undef | 5 => v = undef | 6 => v = .bool false | 7 => v = .bool false | 8 => v = undef | 9 => v = undef | 10 => v = undef | 11 => v = undef | 12 => v = undef | 13 => v = undef | 14 => v = undef | 15 => v = .bool false | 16 => v = .bool false | 17 => v = undef | 18 => v = undef | 19 => v = undef | 20 => v = undef | 21 => v = undef | 22 => v = undef | 23 => v = undef | 24 => v = undef | 25 => v = undef | 26 => v = .bool false | 27 => v = .bool false | _ => True) i v G' := by
                intro i v G G' hm h
                match i, h with
                | 0, h => exact h
                | 1, h => exact h
                | 2, h => exact h
                | 3, h => exact h
                | 4, h => exact h
                | 5, h => exact h
                | 6, h => exact h
                | 7, h => exact h
                | 8, h => exact h
                | 9, h => exact h
                | 10, h => exact h
                | 11, h => exact h
                | 12, h => exact h
                | 13, h => exact h
                | 14, h => exact h
                | 15, h => exact h
                | 16, h => exact h
                | 17, h => exact h
                | 18, h => exact h
                | 19, h => exact h
                | 20, h => exact h
                | 21, h => exact h
                | 22, h => exact h
                | 23, h => exact h
                | 24, h => exact h
                | 25, h => exact h
                | 26, h => exact h
                | 27, h => exact h
                | _ + 28, h => exact trivial
              refine c_drawI (hmx) [[], [0], [0, 1], [0, 1, 2], [0, 1, 2, 3], [0, 1, 2, 3, 4], [0, 1, 2, 3, 4, 5], [0, 1, 2, 3, 4, 5, 6], [0, 1, 2, 3, 4, 5, 6, 7], [0, 1, 2, 3, 4, 5, 6, 7], [0, 1, 2, 3, 4, 5, 6, 7, 9], [0, 1, 2, 3, 4, 5, 6, 7, 8, 9, 10], [0, 1, 2, 3, 4, 5, 6, 7, 8, 9, 10, 11], [0, 1, 2, 3, 4, 5, 6, 7, 8, 9, 10, 11, 12], [0, 1, 2, 3, 4, 5, 6, 7, 8, 9, 10, 11, 12, 13], [0, 1, 2, 3, 4, 5, 6, 7, 8, 9, 10, 11, 12, 13, 14], [0, 1, 2, 3, 4, 5, 6, 7, 8, 9, 10, 11, 12, 13, 14, 15], [0, 1, 2, 3, 4, 5, 6, 7, 8, 9, 10, 11, 12, 13, 14, 15, 16], [0, 1, 2, 3, 4, 5, 6, 7, 8, 9, 10, 11, 12, 13, 14, 15, 16], [0, 1, 2, 3, 4, 5, 6, 7, 8, 9, 10, 11, 12, 13, 14, 15, 16, 18], [0, 1, 2, 3, 4, 5, 6, 7, 8, 9, 10, 11, 12, 13, 14, 15, 16, 17, 18, 19], [0, 1, 2, 3, 4, 5, 6, 7, 8, 9, 10, 11, 12, 13, 14, 15, 16, 17, 18, 19, 20], [0, 1, 2, 3, 4, 5, 6, 7, 8, 9, 10, 11, 12, 13, 14, 15, 16, 17, 18, 19, 20, 21], [0, 1, 2, 3, 4, 5, 6, 7, 8, 9, 10, 11, 12, 13, 14, 15, 16], [0, 1, 2, 3, 4, 5, 6, 7, 8, 9, 10, 11, 12, 13, 14, 15, 16, 23], [0, 1, 2, 3, 4, 5, 6, 7, 8, 9, 10, 11, 12, 13, 14, 15, 16, 17, 18, 19, 20, 21, 22, 23, 24], [0, 1, 2, 3, 4, 5, 6, 7, 8, 9, 10, 11, 12, 13, 14, 15, 16, 17, 18, 19, 20, 21, 22, 23, 24, 25], [0, 1, 2, 3, 4, 5, 6, 7, 8, 9, 10, 11, 12, 13, 14, 15, 16, 17, 18, 19, 20, 21, 22, 23, 24, 25, 26]] [] (by kernel_rfl) (by kernel_rfl) (fun (i : Nat) (v : Value) (G : GH) => match i with | 0 => v = .pointer (some ⟨b5, 0, none⟩) | 1 => v = vi l[0].kind | 2 => v = .bool (decide (l[0].kind = 1)) | 3 => v = .bool (decide (l[0].kind = 1)) | 4 => v = undef | 5 => v = undef | 6 => v = .bool false | 7 => v = .bool false | 8 => v = undef | 9 => v = undef | 10 => v = undef | 11 => v = undef | 12 => v = undef | 13 => v = undef | 14 => v = undef | 15 => v = .bool false | 16 => v = .bool false | 17 => v = undef | 18 => v = undef | 19 => v = undef | 20 => v = undef | 21 => v = undef | 22 => v = undef | 23 => v = undef | 24 => v = undef | 25 => v = undef | 26 => v = .bool false | 27 => v = .bool false | _ => True) hprm11 H ?_ ?_
              · clear H; refine (allI_cons ?_ (allI_cons ?_ (allI_cons ?_ (allI_cons ?_ (allI_cons ?_ (allI_cons ?_ (allI_cons ?_ (allI_cons ?_ (allI_cons ?_ (allI_cons ?_ (allI_cons ?_ (allI_cons ?_ (allI_cons ?_ (allI_cons ?_ (allI_cons ?_ (allI_cons ?_ (allI_cons ?_ (allI_cons ?_ (allI_cons ?_ (allI_cons ?_ (allI_cons ?_ (allI_cons ?_ (allI_cons ?_ (allI_cons ?_ (allI_cons ?_ (allI_cons ?_ (allI_cons ?_ (allI_cons ?_ allI_nil))))))))))))))))))))))))))))
                · intro S a w G1 _ hSi hc hG HT hv; have H := HT; clear hSi
                  have Hb := H.full; have H := Hb; clear hc
                  refine s_field fd47_0nrm H wn rfl rfl ?_; clear H; intro a H
                  refine wl_nil ⟨rfl, ?_⟩
                  exact draw_val (by kernel_rfl) hprm11 rfl rfl HT Hb hG hv (fun _ _ h => h) (rfl) H
                · intro S a w G1 _ hSi hc hG HT hv; have H := HT; clear hSi
                  obtain ⟨u53, hu53, hp53⟩ := hv 0 53 (hc 0 (by decide)) rfl
                  obtain rfl : u53 = .pointer (some ⟨b5, 0, none⟩) := hp53
                  have H := H.addS hu53
                  have Hb := H.full; have H := Hb; clear hc
                  refine s_load ty3nrm H wn rfl (H.hp.ocell 0 rfl rfl) rfl ?_; clear H; intro a H
                  refine wl_nil ⟨rfl, ?_⟩
                  exact draw_val (by kernel_rfl) hprm11 rfl rfl HT Hb hG hv (fun _ _ h => h) (rfl) H
                · intro S a w G1 _ hSi hc hG HT hv; have H := HT; clear hSi
                  obtain ⟨u54, hu54, hp54⟩ := hv 1 54 (hc 1 (by decide)) rfl
                  obtain rfl : u54 = vi l[0].kind := hp54
                  have H := H.addS hu54
                  have Hb := H.full; have H := Hb; clear hc
                  refine s_cmp H wn rfl rfl rfl rfl ?_; clear H; intro a H
                  refine wl_nil ⟨rfl, ?_⟩
                  exact draw_val (by kernel_rfl) hprm11 rfl rfl HT Hb hG hv (fun _ _ h => h) (rfl) H
                · intro S a w G1 _ hSi hc hG HT hv; have H := HT; clear hSi
                  obtain ⟨u55, hu55, hp55⟩ := hv 2 55 (hc 2 (by decide)) rfl
                  obtain rfl : u55 = .bool (decide (l[0].kind = 1)) := hp55
                  have H := H.addS hu55
                  have Hb := H.full; have H := Hb; clear hc
                  refine s_move H wn rfl rfl ?_; clear H; intro a H
                  refine wl_nil ⟨rfl, ?_⟩
                  exact draw_val (by kernel_rfl) hprm11 rfl rfl HT Hb hG hv (fun _ _ h => h) (rfl) H
                · intro S a w G1 _ hSi hc hG HT hv; have H := HT; clear hSi
                  obtain ⟨u56, hu56, hp56⟩ := hv 3 56 (hc 3 (by decide)) rfl
                  obtain rfl : u56 = .bool (decide (l[0].kind = 1)) := hp56
                  have H := H.addS hu56
                  have Hb := H.full; have H := Hb; clear hc
                  refine s_skip H rfl rfl (decide_eq_false c1) rfl ?_; clear H; intro a H
                  refine wl_nil ⟨rfl, ?_⟩
                  exact draw_val (by kernel_rfl) hprm11 rfl rfl HT Hb hG hv (fun _ _ h => h) (rfl) H
                · intro S a w G1 _ hSi hc hG HT hv; have H := HT; clear hSi
                  obtain ⟨u57, hu57, hp57⟩ := hv 4 57 (hc 4 (by decide)) rfl
                  obtain rfl : u57 = undef := hp57
                  have H := H.addS hu57
                  obtain ⟨u56, hu56, hp56⟩ := hv 3 56 (hc 3 (by decide)) rfl
                  obtain rfl : u56 = .bool (decide (l[0].kind = 1)) := hp56
                  have H := H.addS hu56
                  have Hb := H.full; have H := Hb; clear hc
                  refine s_skip H rfl rfl (decide_eq_false c1) rfl ?_; clear H; intro a H
                  refine wl_nil ⟨rfl, ?_⟩
                  exact draw_val (by kernel_rfl) hprm11 rfl rfl HT Hb hG hv (fun _ _ h => h) (rfl) H
                · intro S a w G1 _ hSi hc hG HT hv; have H := HT; clear hSi
                  obtain ⟨u56, hu56, hp56⟩ := hv 3 56 (hc 3 (by decide)) rfl
                  obtain rfl : u56 = .bool (decide (l[0].kind = 1)) := hp56
                  have H := H.addS hu56
                  obtain ⟨u58, hu58, hp58⟩ := hv 5 58 (hc 5 (by decide)) rfl
                  obtain rfl : u58 = undef := hp58
                  have H := H.addS hu58
                  have Hb := H.full; have H := Hb; clear hc
                  refine s_pick_f H wn rfl (decide_eq_false c1) rfl rfl ?_; clear H; intro a H
                  refine wl_nil ⟨rfl, ?_⟩
                  exact draw_val (by kernel_rfl) hprm11 rfl rfl HT Hb hG hv (fun _ _ h => h) (rfl) H
                · intro S a w G1 _ hSi hc hG HT hv; have H := HT; clear hSi
                  obtain ⟨u59, hu59, hp59⟩ := hv 6 59 (hc 6 (by decide)) rfl
                  obtain rfl : u59 = .bool false := hp59
                  have H := H.addS hu59
                  have Hb := H.full; have H := Hb; clear hc
                  refine s_move H wn rfl rfl ?_; clear H; intro a H
                  refine wl_nil ⟨rfl, ?_⟩
                  exact draw_val (by kernel_rfl) hprm11 rfl rfl HT Hb hG hv (fun _ _ h => h) (rfl) H
                · intro S a w G1 _ hSi hc hG HT hv; have H := HT; clear hSi
                  obtain ⟨u60, hu60, hp60⟩ := hv 7 60 (hc 7 (by decide)) rfl
                  obtain rfl : u60 = .bool false := hp60
                  have H := H.addS hu60
                  have Hb := H.full; have H := Hb; clear hc
                  refine s_skip H rfl rfl rfl rfl ?_; clear H; intro a H
                  refine wl_nil ⟨rfl, ?_⟩
                  exact draw_val (by kernel_rfl) hprm11 rfl rfl HT Hb hG hv (fun _ _ h => h) (rfl) H
                · intro S a w G1 _ hSi hc hG HT hv; have H := HT; clear hSi
                  obtain ⟨u60, hu60, hp60⟩ := hv 7 60 (hc 7 (by decide)) rfl
                  obtain rfl : u60 = .bool false := hp60
                  have H := H.addS hu60
                  have Hb := H.full; have H := Hb; clear hc
                  refine s_skip H rfl rfl rfl rfl ?_; clear H; intro a H
                  refine wl_nil ⟨rfl, ?_⟩
                  exact draw_val (by kernel_rfl) hprm11 rfl rfl HT Hb hG hv (fun _ _ h => h) (rfl) H
                · intro S a w G1 _ hSi hc hG HT hv; have H := HT; clear hSi
                  obtain ⟨u62, hu62, hp62⟩ := hv 9 62 (hc 9 (by decide)) rfl
                  obtain rfl : u62 = undef := hp62
                  have H := H.addS hu62
                  obtain ⟨u60, hu60, hp60⟩ := hv 7 60 (hc 7 (by decide)) rfl
                  obtain rfl : u60 = .bool false := hp60
                  have H := H.addS hu60
                  have Hb := H.full; have H := Hb; clear hc
                  refine s_skip H rfl rfl rfl rfl ?_; clear H; intro a H
                  refine wl_nil ⟨rfl, ?_⟩
                  exact draw_val (by kernel_rfl) hprm11 rfl rfl HT Hb hG hv (fun _ _ h => h) (rfl) H
                · intro S a w G1 _ hSi hc hG HT hv; have H := HT; clear hSi
                  obtain ⟨u61, hu61, hp61⟩ := hv 8 61 (hc 8 (by decide)) rfl
                  obtain rfl : u61 = undef := hp61
                  have H := H.addS hu61
                  obtain ⟨u63, hu63, hp63⟩ := hv 10 63 (hc 10 (by decide)) rfl
                  obtain rfl : u63 = undef := hp63
                  have H := H.addS hu63
                  obtain ⟨u60, hu60, hp60⟩ := hv 7 60 (hc 7 (by decide)) rfl
                  obtain rfl : u60 = .bool false := hp60
                  have H := H.addS hu60
                  have Hb := H.full; have H := Hb; clear hc
                  refine s_skip H rfl rfl rfl rfl ?_; clear H; intro a H
                  refine wl_nil ⟨rfl, ?_⟩
                  exact draw_val (by kernel_rfl) hprm11 rfl rfl HT Hb hG hv (fun _ _ h => h) (rfl) H
                · intro S a w G1 _ hSi hc hG HT hv; have H := HT; clear hSi
                  obtain ⟨u64, hu64, hp64⟩ := hv 11 64 (hc 11 (by decide)) rfl
                  obtain rfl : u64 = undef := hp64
                  have H := H.addS hu64
                  obtain ⟨u60, hu60, hp60⟩ := hv 7 60 (hc 7 (by decide)) rfl
                  obtain rfl : u60 = .bool false := hp60
                  have H := H.addS hu60
                  have Hb := H.full; have H := Hb; clear hc
                  refine s_skip H rfl rfl rfl rfl ?_; clear H; intro a H
                  refine wl_nil ⟨rfl, ?_⟩
                  exact draw_val (by kernel_rfl) hprm11 rfl rfl HT Hb hG hv (fun _ _ h => h) (rfl) H
                · intro S a w G1 _ hSi hc hG HT hv; have H := HT; clear hSi
                  obtain ⟨u65, hu65, hp65⟩ := hv 12 65 (hc 12 (by decide)) rfl
                  obtain rfl : u65 = undef := hp65
                  have H := H.addS hu65
                  obtain ⟨u60, hu60, hp60⟩ := hv 7 60 (hc 7 (by decide)) rfl
                  obtain rfl : u60 = .bool false := hp60
                  have H := H.addS hu60
                  have Hb := H.full; have H := Hb; clear hc
                  refine s_skip H rfl rfl rfl rfl ?_; clear H; intro a H
                  refine wl_nil ⟨rfl, ?_⟩
                  exact draw_val (by kernel_rfl) hprm11 rfl rfl HT Hb hG hv (fun _ _ h => h) (rfl) H
                · intro S a w G1 _ hSi hc hG HT hv; have H := HT; clear hSi
                  obtain ⟨u66, hu66, hp66⟩ := hv 13 66 (hc 13 (by decide)) rfl
                  obtain rfl : u66 = undef := hp66
                  have H := H.addS hu66
                  obtain ⟨u60, hu60, hp60⟩ := hv 7 60 (hc 7 (by decide)) rfl
                  obtain rfl : u60 = .bool false := hp60
                  have H := H.addS hu60
                  have Hb := H.full; have H := Hb; clear hc
                  refine s_skip H rfl rfl rfl rfl ?_; clear H; intro a H
                  refine wl_nil ⟨rfl, ?_⟩
                  exact draw_val (by kernel_rfl) hprm11 rfl rfl HT Hb hG hv (fun _ _ h => h) (rfl) H
                · intro S a w G1 _ hSi hc hG HT hv; have H := HT; clear hSi
                  obtain ⟨u60, hu60, hp60⟩ := hv 7 60 (hc 7 (by decide)) rfl
                  obtain rfl : u60 = .bool false := hp60
                  have H := H.addS hu60
                  obtain ⟨u67, hu67, hp67⟩ := hv 14 67 (hc 14 (by decide)) rfl
                  obtain rfl : u67 = undef := hp67
                  have H := H.addS hu67
                  have Hb := H.full; have H := Hb; clear hc
                  refine s_pick_f H wn rfl rfl rfl rfl ?_; clear H; intro a H
                  refine wl_nil ⟨rfl, ?_⟩
                  exact draw_val (by kernel_rfl) hprm11 rfl rfl HT Hb hG hv (fun _ _ h => h) (rfl) H
                · intro S a w G1 _ hSi hc hG HT hv; have H := HT; clear hSi
                  obtain ⟨u68, hu68, hp68⟩ := hv 15 68 (hc 15 (by decide)) rfl
                  obtain rfl : u68 = .bool false := hp68
                  have H := H.addS hu68
                  have Hb := H.full; have H := Hb; clear hc
                  refine s_move H wn rfl rfl ?_; clear H; intro a H
                  refine wl_nil ⟨rfl, ?_⟩
                  exact draw_val (by kernel_rfl) hprm11 rfl rfl HT Hb hG hv (fun _ _ h => h) (rfl) H
                · intro S a w G1 _ hSi hc hG HT hv; have H := HT; clear hSi
                  obtain ⟨u69, hu69, hp69⟩ := hv 16 69 (hc 16 (by decide)) rfl
                  obtain rfl : u69 = .bool false := hp69
                  have H := H.addS hu69
                  have Hb := H.full; have H := Hb; clear hc
                  refine s_skip H rfl rfl rfl rfl ?_; clear H; intro a H
                  refine wl_nil ⟨rfl, ?_⟩
                  exact draw_val (by kernel_rfl) hprm11 rfl rfl HT Hb hG hv (fun _ _ h => h) (rfl) H
                · intro S a w G1 _ hSi hc hG HT hv; have H := HT; clear hSi
                  obtain ⟨u69, hu69, hp69⟩ := hv 16 69 (hc 16 (by decide)) rfl
                  obtain rfl : u69 = .bool false := hp69
                  have H := H.addS hu69
                  have Hb := H.full; have H := Hb; clear hc
                  refine s_skip H rfl rfl rfl rfl ?_; clear H; intro a H
                  refine wl_nil ⟨rfl, ?_⟩
                  exact draw_val (by kernel_rfl) hprm11 rfl rfl HT Hb hG hv (fun _ _ h => h) (rfl) H
                · intro S a w G1 _ hSi hc hG HT hv; have H := HT; clear hSi
                  obtain ⟨u71, hu71, hp71⟩ := hv 18 71 (hc 18 (by decide)) rfl
                  obtain rfl : u71 = undef := hp71
                  have H := H.addS hu71
                  obtain ⟨u69, hu69, hp69⟩ := hv 16 69 (hc 16 (by decide)) rfl
                  obtain rfl : u69 = .bool false := hp69
                  have H := H.addS hu69
                  have Hb := H.full; have H := Hb; clear hc
                  refine s_skip H rfl rfl rfl rfl ?_; clear H; intro a H
                  refine wl_nil ⟨rfl, ?_⟩
                  exact draw_val (by kernel_rfl) hprm11 rfl rfl HT Hb hG hv (fun _ _ h => h) (rfl) H
                · intro S a w G1 _ hSi hc hG HT hv; have H := HT; clear hSi
                  obtain ⟨u70, hu70, hp70⟩ := hv 17 70 (hc 17 (by decide)) rfl
                  obtain rfl : u70 = undef := hp70
                  have H := H.addS hu70
                  obtain ⟨u72, hu72, hp72⟩ := hv 19 72 (hc 19 (by decide)) rfl
                  obtain rfl : u72 = undef := hp72
                  have H := H.addS hu72
                  obtain ⟨u69, hu69, hp69⟩ := hv 16 69 (hc 16 (by decide)) rfl
                  obtain rfl : u69 = .bool false := hp69
                  have H := H.addS hu69
                  have Hb := H.full; have H := Hb; clear hc
                  refine s_skip H rfl rfl rfl rfl ?_; clear H; intro a H
                  refine wl_nil ⟨rfl, ?_⟩
                  exact draw_val (by kernel_rfl) hprm11 rfl rfl HT Hb hG hv (fun _ _ h => h) (rfl) H
                · intro S a w G1 _ hSi hc hG HT hv; have H := HT; clear hSi
                  obtain ⟨u73, hu73, hp73⟩ := hv 20 73 (hc 20 (by decide)) rfl
                  obtain rfl : u73 = undef := hp73
                  have H := H.addS hu73
                  obtain ⟨u69, hu69, hp69⟩ := hv 16 69 (hc 16 (by decide)) rfl
                  obtain rfl : u69 = .bool false := hp69
                  have H := H.addS hu69
                  have Hb := H.full; have H := Hb; clear hc
                  refine s_skip H rfl rfl rfl rfl ?_; clear H; intro a H
                  refine wl_nil ⟨rfl, ?_⟩
                  exact draw_val (by kernel_rfl) hprm11 rfl rfl HT Hb hG hv (fun _ _ h => h) (rfl) H
                · intro S a w G1 _ hSi hc hG HT hv; have H := HT; clear hSi
                  obtain ⟨u74, hu74, hp74⟩ := hv 21 74 (hc 21 (by decide)) rfl
                  obtain rfl : u74 = undef := hp74
                  have H := H.addS hu74
                  obtain ⟨u69, hu69, hp69⟩ := hv 16 69 (hc 16 (by decide)) rfl
                  obtain rfl : u69 = .bool false := hp69
                  have H := H.addS hu69
                  have Hb := H.full; have H := Hb; clear hc
                  refine s_skip H rfl rfl rfl rfl ?_; clear H; intro a H
                  refine wl_nil ⟨rfl, ?_⟩
                  exact draw_val (by kernel_rfl) hprm11 rfl rfl HT Hb hG hv (fun _ _ h => h) (rfl) H
                · intro S a w G1 _ hSi hc hG HT hv; have H := HT; clear hSi
                  obtain ⟨u69, hu69, hp69⟩ := hv 16 69 (hc 16 (by decide)) rfl
                  obtain rfl : u69 = .bool false := hp69
                  have H := H.addS hu69
                  have Hb := H.full; have H := Hb; clear hc
                  refine s_skip H rfl rfl rfl rfl ?_; clear H; intro a H
                  refine wl_nil ⟨rfl, ?_⟩
                  exact draw_val (by kernel_rfl) hprm11 rfl rfl HT Hb hG hv (fun _ _ h => h) (rfl) H
                · intro S a w G1 _ hSi hc hG HT hv; have H := HT; clear hSi
                  obtain ⟨u76, hu76, hp76⟩ := hv 23 76 (hc 23 (by decide)) rfl
                  obtain rfl : u76 = undef := hp76
                  have H := H.addS hu76
                  obtain ⟨u69, hu69, hp69⟩ := hv 16 69 (hc 16 (by decide)) rfl
                  obtain rfl : u69 = .bool false := hp69
                  have H := H.addS hu69
                  have Hb := H.full; have H := Hb; clear hc
                  refine s_skip H rfl rfl rfl rfl ?_; clear H; intro a H
                  refine wl_nil ⟨rfl, ?_⟩
                  exact draw_val (by kernel_rfl) hprm11 rfl rfl HT Hb hG hv (fun _ _ h => h) (rfl) H
                · intro S a w G1 _ hSi hc hG HT hv; have H := HT; clear hSi
                  obtain ⟨u75, hu75, hp75⟩ := hv 22 75 (hc 22 (by decide)) rfl
                  obtain rfl : u75 = undef := hp75
                  have H := H.addS hu75
                  obtain ⟨u77, hu77, hp77⟩ := hv 24 77 (hc 24 (by decide)) rfl
                  obtain rfl : u77 = undef := hp77
                  have H := H.addS hu77
                  obtain ⟨u69, hu69, hp69⟩ := hv 16 69 (hc 16 (by decide)) rfl
                  obtain rfl : u69 = .bool false := hp69
                  have H := H.addS hu69
                  have Hb := H.full; have H := Hb; clear hc
                  refine s_skip H rfl rfl rfl rfl ?_; clear H; intro a H
                  refine wl_nil ⟨rfl, ?_⟩
                  exact draw_val (by kernel_rfl) hprm11 rfl rfl HT Hb hG hv (fun _ _ h => h) (rfl) H
                · intro S a w G1 _ hSi hc hG HT hv; have H := HT; clear hSi
                  obtain ⟨u69, hu69, hp69⟩ := hv 16 69 (hc 16 (by decide)) rfl
                  obtain rfl : u69 = .bool false := hp69
                  have H := H.addS hu69
                  obtain ⟨u78, hu78, hp78⟩ := hv 25 78 (hc 25 (by decide)) rfl
                  obtain rfl : u78 = undef := hp78
                  have H := H.addS hu78
                  have Hb := H.full; have H := Hb; clear hc
                  refine s_pick_f H wn rfl rfl rfl rfl ?_; clear H; intro a H
                  refine wl_nil ⟨rfl, ?_⟩
                  exact draw_val (by kernel_rfl) hprm11 rfl rfl HT Hb hG hv (fun _ _ h => h) (rfl) H
                · intro S a w G1 _ hSi hc hG HT hv; have H := HT; clear hSi
                  obtain ⟨u79, hu79, hp79⟩ := hv 26 79 (hc 26 (by decide)) rfl
                  obtain rfl : u79 = .bool false := hp79
                  have H := H.addS hu79
                  have Hb := H.full; have H := Hb; clear hc
                  refine s_assign H wn rfl rfl ?_; clear H; intro a H
                  refine wl_nil ⟨rfl, ?_⟩
                  exact draw_val (by kernel_rfl) hprm11 rfl rfl HT Hb hG hv (fun _ _ h => h) (rfl) H
              · clear H; intro a w G hGm11 H hv
                obtain ⟨u52, hu52, hp52⟩ := hv 27 52 (by decide) rfl
                obtain rfl : u52 = .bool false := hp52
                have H := H.addS hu52
                clear hv
                refine wl_nil ⟨rfl, ?_⟩
                refine hK14 _ _ ?_; clear hK14
                refine c_cond_f H rfl rfl ?_
                refine c_region ?_
                refine s_move H wn rfl rfl ?_; clear H; intro a H
                refine s_loada ty47nrm (cs := [_, _, _, _, _, _, _, _, _, _, _]) H wn rfl rfl (H.hp.ocells 0 rfl rfl) rfl ?_; clear H; intro a H
                refine s_buildSlice un28nrm ty47nrm [_, _, _, _, _, _, _, _, _, _, _] [_, _, _, _, _, _, _, _, _, _, _] H wn rfl rfl rfl rfl rfl (by intro i q h; match i, h with | 0, h => exact h | n + 1, h => simp at h) rfl rfl ?_; clear H; intro b30 a w hb30 H
                refine s_append (Li := [_, _]) (Lo := Lo) (news := cs31) un28nrm ty47nrm rfl rfl H wn rfl rfl hrw (by rw [hcs31]; rfl) (by rw [hcs31]; exact H.hp.ocells 0 rfl rfl) hr31.one (by omega) (by omega) rfl ?_; clear H; intro v31 Lo31 a w hrw31 H
                refine s_assign H wn rfl rfl ?_; clear H; intro a H
                refine wl_nil ?_
                refine hK7 _ _ ?_; clear hK7
                refine c_region ?_
                refine s_add _ H wn rfl rfl rfl (by omega) (by omega) rfl ?_; clear H; intro a H
                refine s_move H wn rfl rfl ?_; clear H; intro a H
                refine wl_nil ?_
                refine loop_end ((0 + 1, v31, xs ++ cs31, Lo31, G)) (by exact (H.pickT (Pl := [_, _]) (Pl' := []) [] (by decide) rfl).sub ⟨rfl, rfl, rfl, rfl, trivial⟩) ?_ ?_
                · try dsimp only
                  exact ⟨by omega, hrw31, by rw [hA1]; exact (hcat.mono (fun b o h => hGm11 b o (hm24 b o (hm23 b o (hm19 b o (hm15 b o h)))))).snoc (hr31.mono hGm11) (by rw [hcs31]; rfl), fun b o h => hGm11 b o (hm24 b o (hm23 b o (hm19 b o (hm15 b o (hgm b o h)))))⟩
                · first | omega | (dsimp only; omega)
        · intro h46
          try have p46 := of_decide_eq_false h46
          refine s_skip H rfl rfl h46 rfl ?_; clear H; intro a H
          refine s_skip H rfl rfl h46 rfl ?_; clear H; intro a H
          refine s_skip H rfl rfl h46 rfl ?_; clear H; intro a H
          refine s_pick_f H (wg H rfl rfl rfl) rfl h46 rfl rfl ?_; clear H; intro a H
          refine s_pick_f H wn rfl rfl rfl rfl ?_; clear H; intro a H
          refine s_assign H wn rfl rfl ?_; clear H; intro a H
          refine wl_nil ?_
          refine hK13 _ _ ?_; clear hK13
          refine c_cond_f H rfl rfl ?_
          refine c_seq (fun _ hK15 => ?_)
          obtain ⟨cs31, hcs31⟩ : ∃ x, x = [vi l[0].kind, vi l[0].code, vi l[0].id, .string l[0].text, .slice a1 a2 a3, vi l[0].head.marks.ins, vi l[0].head.marks.move, .slice a4 a5 a6, .slice a7 a8 a9, .slice A19 n19 c19, .slice A24 n24 c24] := ⟨_, rfl⟩
          have hr31 : RepRow G24 l[0].dat cs31 := by
            rw [hcs31]
            exact RepRow.mkItem (hh15.mono fun b o h => hm24 b o (hm23 b o (hm19 b o h))) (by rw [e1]; exact hp19.mono fun b o h => hm24 b o (hm23 b o h)) (by rw [e2]; exact hp24)
          have hA1 : (l.map ItemD.dat).take (0 + 1) = (l.map ItemD.dat).take 0 ++ [l[0].dat] := by rw [List.take_succ_eq_append_getElem (by simpa using hk2)]; simp
          by_cases c1 : l[0].kind = 1
          · skip
            obtain ⟨cs31, hcs31⟩ : ∃ x, x = [vi l[0].kind, vi l[0].code, vi l[0].id, .string l[0].text, .slice a1 a2 a3, vi l[0].head.marks.ins, vi l[0].head.marks.move, .slice a4 a5 a6, .slice a7 a8 a9, .slice A19 n19 c19, .slice A24 n24 c24] := ⟨_, rfl⟩
            have hr31 : RepRow G24 l[0].dat cs31 := by
              rw [hcs31]
              exact RepRow.mkItem (hh15.mono fun b o h => hm24 b o (hm23 b o (hm19 b o h))) (by rw [e1]; exact hp19.mono fun b o h => hm24 b o (hm23 b o h)) (by rw [e2]; exact hp24)
            have hA1 : (l.map ItemD.dat).take (0 + 1) = (l.map ItemD.dat).take 0 ++ [l[0].dat] := by rw [List.take_succ_eq_append_getElem (by simpa using hk2)]; simp
            have hprm11 : ∀ (i : Nat) (v : Value) (G G' : GH), (∀ k o, G k = some o → G' k = some o) → (fun (i : Nat) (v : Value) (G : GH) => match i with | 0 => v = .pointer (some ⟨b5, 0, none⟩) | 1 => v = vi l[0].kind | 2 => v = .bool (decide (l[0].kind = 1)) | 3 => v = .bool (decide (l[0].kind = 1)) | 4 => v = vi 0 | 5 => v = .bool false | 6 => v = .bool false | 7 => v = .bool false | 8 => v = undef | 9 => v = undef | 10 => v = undef | 11 => v = undef | 12 => v = undef | 13 => v = undef | 14 => v = undef | 15 => v = .bool false | 16 => v = .bool false | 17 => v = undef | 18 => v = undef | 19 => v = undef | 20 => v = undef | 21 => v = undef | 22 => v = undef | 23 => v = undef | 24 => v = undef | 25 => v = undef | 26 => v = .bool false | 27 => v = .bool false | _ => True) i v G → (fun (i : Nat) (v : Value) (G : GH) => match i with | 0 => v = .pointer (some ⟨b5, 0, none⟩) | 1 => v = vi l[0].kind | 2 => v = .bool (decide (l[0].kind = 1)) | 3 => v = .bool (decide (l[0].kind = 1)) | 4 => v = vi 0 | 5 => v = .bool false | 6 => v = .bool false | 7 => v = .bool false | 8 => v = undef | 9 => v = undef | 10 => v = undef | 11 => v = undef | 12 => v = undef | 13 => v = undef | 14 => v = undef | 15 => v = .bool false | 16 => v = .bool false | 17 => v = undef | 18 => v = undef | 19 => v = undef | 20 => v = undef | 21 => v = undef | 22 => v = undef | 23 => v = undef | 24 => v = undef | 25 => v = undef | 26 => v = .bool false | 27 => v = .bool false | _ => True) i v G' := by
              intro i v G G' hm h
              match i, h with
              | 0, h => exact h
              | 1, h => exact h
              | 2, h => exact h
              | 3, h => exact h
              | 4, h => exact h
              | 5, h => exact h
              | 6, h => exact h
              | 7, h => exact h
              | 8, h => exact h
              | 9, h => exact h
              | 10, h => exact h
              | 11, h => exact h
              | 12, h => exact h
              | 13, h => exact h
              | 14, h => exact h
              | 15, h => exact h
              | 16, h => exact h
              | 17, h => exact h
              | 18, h => exact h
              | 19, h => exact h
              | 20, h => exact h
              | 21, h => exact h
              | 22, h => exact h
              | 23, h => exact h
              | 24, h => exact h
              | 25, h => exact h
              | 26, h => exact h
              | 27, h => exact h
              | _ + 28, h => exact trivial
            refine c_drawI (hmx) [[], [0], [0, 1], [0, 1, 2], [0, 1, 2, 3], [0, 1, 2, 3, 4], [0, 1, 2, 3, 4, 5], [0, 1, 2, 3, 4, 5, 6], [0, 1, 2, 3, 4, 5, 6, 7], [0, 1, 2, 3, 4, 5, 6, 7], [0, 1, 2, 3, 4, 5, 6, 7, 9], [0, 1, 2, 3, 4, 5, 6, 7, 8, 9, 10], [0, 1, 2, 3, 4, 5, 6, 7, 8, 9, 10, 11], [0, 1, 2, 3, 4, 5, 6, 7, 8, 9, 10, 11, 12], [0, 1, 2, 3, 4, 5, 6, 7, 8, 9, 10, 11, 12, 13], [0, 1, 2, 3, 4, 5, 6, 7, 8, 9, 10, 11, 12, 13, 14], [0, 1, 2, 3, 4, 5, 6, 7, 8, 9, 10, 11, 12, 13, 14, 15], [0, 1, 2, 3, 4, 5, 6, 7, 8, 9, 10, 11, 12, 13, 14, 15, 16], [0, 1, 2, 3, 4, 5, 6, 7, 8, 9, 10, 11, 12, 13, 14, 15, 16], [0, 1, 2, 3, 4, 5, 6, 7, 8, 9, 10, 11, 12, 13, 14, 15, 16, 18], [0, 1, 2, 3, 4, 5, 6, 7, 8, 9, 10, 11, 12, 13, 14, 15, 16, 17, 18, 19], [0, 1, 2, 3, 4, 5, 6, 7, 8, 9, 10, 11, 12, 13, 14, 15, 16, 17, 18, 19, 20], [0, 1, 2, 3, 4, 5, 6, 7, 8, 9, 10, 11, 12, 13, 14, 15, 16, 17, 18, 19, 20, 21], [0, 1, 2, 3, 4, 5, 6, 7, 8, 9, 10, 11, 12, 13, 14, 15, 16], [0, 1, 2, 3, 4, 5, 6, 7, 8, 9, 10, 11, 12, 13, 14, 15, 16, 23], [0, 1, 2, 3, 4, 5, 6, 7, 8, 9, 10, 11, 12, 13, 14, 15, 16, 17, 18, 19, 20, 21, 22, 23, 24], [0, 1, 2, 3, 4, 5, 6, 7, 8, 9, 10, 11, 12, 13, 14, 15, 16, 17, 18, 19, 20, 21, 22, 23, 24, 25], [0, 1, 2, 3, 4, 5, 6, 7, 8, 9, 10, 11, 12, 13, 14, 15, 16, 17, 18, 19, 20, 21, 22, 23, 24, 25, 26]] [] (by kernel_rfl) (by kernel_rfl) (fun (i : Nat) (v : Value) (G : GH) => match i with | 0 => v = .pointer (some ⟨b5, 0, none⟩) | 1 => v = vi l[0].kind | 2 => v = .bool (decide (l[0].kind = 1)) | 3 => v = .bool (decide (l[0].kind = 1)) | 4 => v = vi 0 | 5 => v = .bool false | 6 => v = .bool false | 7 => v = .bool false | 8 => v = undef | 9 => v = undef | 10 => v = undef | 11 => v = undef | 12 => v = undef | 13 => v = undef | 14 => v = undef | 15 => v = .bool false | 16 => v = .bool false | 17 => v = undef | 18 => v = undef | 19 => v = undef | 20 => v = undef | 21 => v = undef | 22 => v = undef | 23 => v = undef | 24 => v = undef | 25 => v = undef | 26 => v = .bool false | 27 => v = .bool false | _ => True) hprm11 H ?_ ?_
            · clear H; refine (allI_cons ?_ (allI_cons ?_ (allI_cons ?_ (allI_cons ?_ (allI_cons ?_ (allI_cons ?_ (allI_cons ?_ (allI_cons ?_ (allI_cons ?_ (allI_cons ?_ (allI_cons ?_ (allI_cons ?_ (allI_cons ?_ (allI_cons ?_ (allI_cons ?_ (allI_cons ?_ (allI_cons ?_ (allI_cons ?_ (allI_cons ?_ (allI_cons ?_ (allI_cons ?_ (allI_cons ?_ (allI_cons ?_ (allI_cons ?_ (allI_cons ?_ (allI_cons ?_ (allI_cons ?_ (allI_cons ?_ allI_nil))))))))))))))))))))))))))))
              · intro S a w G1 _ hSi hc hG HT hv; have H := HT; clear hSi
                have Hb := H.full; have H := Hb; clear hc
                refine s_field fd47_0nrm H wn rfl rfl ?_; clear H; intro a H
                refine wl_nil ⟨rfl, ?_⟩
                exact draw_val (by kernel_rfl) hprm11 rfl rfl HT Hb hG hv (fun _ _ h => h) (rfl) H
              · intro S a w G1 _ hSi hc hG HT hv; have H := HT; clear hSi
                obtain ⟨u53, hu53, hp53⟩ := hv 0 53 (hc 0 (by decide)) rfl
                obtain rfl : u53 = .pointer (some ⟨b5, 0, none⟩) := hp53
                have H := H.addS hu53
                have Hb := H.full; have H := Hb; clear hc
                refine s_load ty3nrm H wn rfl (H.hp.ocell 0 rfl rfl) rfl ?_; clear H; intro a H
                refine wl_nil ⟨rfl, ?_⟩
                exact draw_val (by kernel_rfl) hprm11 rfl rfl HT Hb hG hv (fun _ _ h => h) (rfl) H
              · intro S a w G1 _ hSi hc hG HT hv; have H := HT; clear hSi
                obtain ⟨u54, hu54, hp54⟩ := hv 1 54 (hc 1 (by decide)) rfl
                obtain rfl : u54 = vi l[0].kind := hp54
                have H := H.addS hu54
                have Hb := H.full; have H := Hb; clear hc
                refine s_cmp H wn rfl rfl rfl rfl ?_; clear H; intro a H
                refine wl_nil ⟨rfl, ?_⟩
                exact draw_val (by kernel_rfl) hprm11 rfl rfl HT Hb hG hv (fun _ _ h => h) (rfl) H
              · intro S a w G1 _ hSi hc hG HT hv; have H := HT; clear hSi
                obtain ⟨u55, hu55, hp55⟩ := hv 2 55 (hc 2 (by decide)) rfl
                obtain rfl : u55 = .bool (decide (l[0].kind = 1)) := hp55
                have H := H.addS hu55
                have Hb := H.full; have H := Hb; clear hc
                refine s_move H wn rfl rfl ?_; clear H; intro a H
                refine wl_nil ⟨rfl, ?_⟩
                exact draw_val (by kernel_rfl) hprm11 rfl rfl HT Hb hG hv (fun _ _ h => h) (rfl) H
              · intro S a w G1 _ hSi hc hG HT hv; have H := HT; clear hSi
                obtain ⟨u56, hu56, hp56⟩ := hv 3 56 (hc 3 (by decide)) rfl
                obtain rfl : u56 = .bool (decide (l[0].kind = 1)) := hp56
                have H := H.addS hu56
                have Hb := H.full; have H := Hb; clear hc
                refine s_move H (wg H rfl rfl (decide_eq_true c1)) rfl rfl ?_; clear H; intro a H
                refine wl_nil ⟨rfl, ?_⟩
                exact draw_val (by kernel_rfl) hprm11 rfl rfl HT Hb hG hv (fun _ _ h => h) (rfl) H
              · intro S a w G1 _ hSi hc hG HT hv; have H := HT; clear hSi
                obtain ⟨u57, hu57, hp57⟩ := hv 4 57 (hc 4 (by decide)) rfl
                obtain rfl : u57 = vi 0 := hp57
                have H := H.addS hu57
                obtain ⟨u56, hu56, hp56⟩ := hv 3 56 (hc 3 (by decide)) rfl
                obtain rfl : u56 = .bool (decide (l[0].kind = 1)) := hp56
                have H := H.addS hu56
                have Hb := H.full; have H := Hb; clear hc
                refine s_cmp H (wg H rfl rfl (decide_eq_true c1)) rfl rfl rfl rfl ?_; clear H; intro a H
                refine wl_nil ⟨rfl, ?_⟩
                exact draw_val (by kernel_rfl) hprm11 rfl rfl HT Hb hG hv (fun _ _ h => h) (rfl) H
              · intro S a w G1 _ hSi hc hG HT hv; have H := HT; clear hSi
                obtain ⟨u56, hu56, hp56⟩ := hv 3 56 (hc 3 (by decide)) rfl
                obtain rfl : u56 = .bool (decide (l[0].kind = 1)) := hp56
                have H := H.addS hu56
                obtain ⟨u58, hu58, hp58⟩ := hv 5 58 (hc 5 (by decide)) rfl
                obtain rfl : u58 = .bool false := hp58
                have H := H.addS hu58
                have Hb := H.full; have H := Hb; clear hc
                refine s_pick_t H wn rfl (decide_eq_true c1) rfl rfl ?_; clear H; intro a H
                refine wl_nil ⟨rfl, ?_⟩
                exact draw_val (by kernel_rfl) hprm11 rfl rfl HT Hb hG hv (fun _ _ h => h) (rfl) H
              · intro S a w G1 _ hSi hc hG HT hv; have H := HT; clear hSi
                obtain ⟨u59, hu59, hp59⟩ := hv 6 59 (hc 6 (by decide)) rfl
                obtain rfl : u59 = .bool false := hp59
                have H := H.addS hu59
                have Hb := H.full; have H := Hb; clear hc
                refine s_move H wn rfl rfl ?_; clear H; intro a H
                refine wl_nil ⟨rfl, ?_⟩
                exact draw_val (by kernel_rfl) hprm11 rfl rfl HT Hb hG hv (fun _ _ h => h) (rfl) H
              · intro S a w G1 _ hSi hc hG HT hv; have H := HT; clear hSi
                obtain ⟨u60, hu60, hp60⟩ := hv 7 60 (hc 7 (by decide)) rfl
                obtain rfl : u60 = .bool false := hp60
                have H := H.addS hu60
                have Hb := H.full; have H := Hb; clear hc
                refine s_skip H rfl rfl rfl rfl ?_; clear H; intro a H
                refine wl_nil ⟨rfl, ?_⟩
                exact draw_val (by kernel_rfl) hprm11 rfl rfl HT Hb hG hv (fun _ _ h => h) (rfl) H
              · intro S a w G1 _ hSi hc hG HT hv; have H := HT; clear hSi
                obtain ⟨u60, hu60, hp60⟩ := hv 7 60 (hc 7 (by decide)) rfl
                obtain rfl : u60 = .bool false := hp60
                have H := H.addS hu60
                have Hb := H.full; have H := Hb; clear hc
                refine s_skip H rfl rfl rfl rfl ?_; clear H; intro a H
                refine wl_nil ⟨rfl, ?_⟩
                exact draw_val (by kernel_rfl) hprm11 rfl rfl HT Hb hG hv (fun _ _ h => h) (rfl) H
              · intro S a w G1 _ hSi hc hG HT hv; have H := HT; clear hSi
                obtain ⟨u62, hu62, hp62⟩ := hv 9 62 (hc 9 (by decide)) rfl
                obtain rfl : u62 = undef := hp62
                have H := H.addS hu62
                obtain ⟨u60, hu60, hp60⟩ := hv 7 60 (hc 7 (by decide)) rfl
                obtain rfl : u60 = .bool false := hp60
                have H := H.addS hu60
                have Hb := H.full; have H := Hb; clear hc
                refine s_skip H rfl rfl rfl rfl ?_; clear H; intro a H
                refine wl_nil ⟨rfl, ?_⟩
                exact draw_val (by kernel_rfl) hprm11 rfl rfl HT Hb hG hv (fun _ _ h => h) (rfl) H
              · intro S a w G1 _ hSi hc hG HT hv; have H := HT; clear hSi
                obtain ⟨u61, hu61, hp61⟩ := hv 8 61 (hc 8 (by decide)) rfl
                obtain rfl : u61 = undef := hp61
                have H := H.addS hu61
                obtain ⟨u63, hu63, hp63⟩ := hv 10 63 (hc 10 (by decide)) rfl
                obtain rfl : u63 = undef := hp63
                have H := H.addS hu63
                obtain ⟨u60, hu60, hp60⟩ := hv 7 60 (hc 7 (by decide)) rfl
                obtain rfl : u60 = .bool false := hp60
                have H := H.addS hu60
                have Hb := H.full; have H := Hb; clear hc
                refine s_skip H rfl rfl rfl rfl ?_; clear H; intro a H
                refine wl_nil ⟨rfl, ?_⟩
                exact draw_val (by kernel_rfl) hprm11 rfl rfl HT Hb hG hv (fun _ _ h => h) (rfl) H
              · intro S a w G1 _ hSi hc hG HT hv; have H := HT; clear hSi
                obtain ⟨u64, hu64, hp64⟩ := hv 11 64 (hc 11 (by decide)) rfl
                obtain rfl : u64 = undef := hp64
                have H := H.addS hu64
                obtain ⟨u60, hu60, hp60⟩ := hv 7 60 (hc 7 (by decide)) rfl
                obtain rfl : u60 = .bool false := hp60
                have H := H.addS hu60
                have Hb := H.full; have H := Hb; clear hc
                refine s_skip H rfl rfl rfl rfl ?_; clear H; intro a H
                refine wl_nil ⟨rfl, ?_⟩
                exact draw_val (by kernel_rfl) hprm11 rfl rfl HT Hb hG hv (fun _ _ h => h) (rfl) H
              · intro S a w G1 _ hSi hc hG HT hv; have H := HT; clear hSi
                obtain ⟨u65, hu65, hp65⟩ := hv 12 65 (hc 12 (by decide)) rfl
                obtain rfl : u65 = undef := hp65
                have H := H.addS hu65
                obtain ⟨u60, hu60, hp60⟩ := hv 7 60 (hc 7 (by decide)) rfl
                obtain rfl : u60 = .bool false := hp60
                have H := H.addS hu60
                have Hb := H.full; have H := Hb; clear hc
                refine s_skip H rfl rfl rfl rfl ?_; clear H; intro a H
                refine wl_nil ⟨rfl, ?_⟩
                exact draw_val (by kernel_rfl) hprm11 rfl rfl HT Hb hG hv (fun _ _ h => h) (rfl) H
              · intro S a w G1 _ hSi hc hG HT hv; have H := HT; clear hSi
                obtain ⟨u66, hu66, hp66⟩ := hv 13 66 (hc 13 (by decide)) rfl
                obtain rfl : u66 = undef := hp66
                have H := H.addS hu66
                obtain ⟨u60, hu60, hp60⟩ := hv 7 60 (hc 7 (by decide)) rfl
                obtain rfl : u60 = .bool false := hp60
                have H := H.addS hu60
                have Hb := H.full; have H := Hb; clear hc
                refine s_skip H rfl rfl rfl rfl ?_; clear H; intro a H
                refine wl_nil ⟨rfl, ?_⟩
                exact draw_val (by kernel_rfl) hprm11 rfl rfl HT Hb hG hv (fun _ _ h => h) (rfl) H
              · intro S a w G1 _ hSi hc hG HT hv; have H := HT; clear hSi
                obtain ⟨u60, hu60, hp60⟩ := hv 7 60 (hc 7 (by decide)) rfl
                obtain rfl : u60 = .bool false := hp60
                have H := H.addS hu60
                obtain ⟨u67, hu67, hp67⟩ := hv 14 67 (hc 14 (by decide)) rfl
                obtain rfl : u67 = undef := hp67
                have H := H.addS hu67
                have Hb := H.full; have H := Hb; clear hc
                refine s_pick_f H wn rfl rfl rfl rfl ?_; clear H; intro a H
                refine wl_nil ⟨rfl, ?_⟩
                exact draw_val (by kernel_rfl) hprm11 rfl rfl HT Hb hG hv (fun _ _ h => h) (rfl) H
              · intro S a w G1 _ hSi hc hG HT hv; have H := HT; clear hSi
                obtain ⟨u68, hu68, hp68⟩ := hv 15 68 (hc 15 (by decide)) rfl
                obtain rfl : u68 = .bool false := hp68
                have H := H.addS hu68
                have Hb := H.full; have H := Hb; clear hc
                refine s_move H wn rfl rfl ?_; clear H; intro a H
                refine wl_nil ⟨rfl, ?_⟩
                exact draw_val (by kernel_rfl) hprm11 rfl rfl HT Hb hG hv (fun _ _ h => h) (rfl) H
              · intro S a w G1 _ hSi hc hG HT hv; have H := HT; clear hSi
                obtain ⟨u69, hu69, hp69⟩ := hv 16 69 (hc 16 (by decide)) rfl
                obtain rfl : u69 = .bool false := hp69
                have H := H.addS hu69
                have Hb := H.full; have H := Hb; clear hc
                refine s_skip H rfl rfl rfl rfl ?_; clear H; intro a H
                refine wl_nil ⟨rfl, ?_⟩
                exact draw_val (by kernel_rfl) hprm11 rfl rfl HT Hb hG hv (fun _ _ h => h) (rfl) H
              · intro S a w G1 _ hSi hc hG HT hv; have H := HT; clear hSi
                obtain ⟨u69, hu69, hp69⟩ := hv 16 69 (hc 16 (by decide)) rfl
                obtain rfl : u69 = .bool false := hp69
                have H := H.addS hu69
                have Hb := H.full; have H := Hb; clear hc
                refine s_skip H rfl rfl rfl rfl ?_; clear H; intro a H
                refine wl_nil ⟨rfl, ?_⟩
                exact draw_val (by kernel_rfl) hprm11 rfl rfl HT Hb hG hv (fun _ _ h => h) (rfl) H
              · intro S a w G1 _ hSi hc hG HT hv; have H := HT; clear hSi
                obtain ⟨u71, hu71, hp71⟩ := hv 18 71 (hc 18 (by decide)) rfl
                obtain rfl : u71 = undef := hp71
                have H := H.addS hu71
                obtain ⟨u69, hu69, hp69⟩ := hv 16 69 (hc 16 (by decide)) rfl
                obtain rfl : u69 = .bool false := hp69
                have H := H.addS hu69
                have Hb := H.full; have H := Hb; clear hc
                refine s_skip H rfl rfl rfl rfl ?_; clear H; intro a H
                refine wl_nil ⟨rfl, ?_⟩
                exact draw_val (by kernel_rfl) hprm11 rfl rfl HT Hb hG hv (fun _ _ h => h) (rfl) H
              · intro S a w G1 _ hSi hc hG HT hv; have H := HT; clear hSi
                obtain ⟨u70, hu70, hp70⟩ := hv 17 70 (hc 17 (by decide)) rfl
                obtain rfl : u70 = undef := hp70
                have H := H.addS hu70
                obtain ⟨u72, hu72, hp72⟩ := hv 19 72 (hc 19 (by decide)) rfl
                obtain rfl : u72 = undef := hp72
                have H := H.addS hu72
                obtain ⟨u69, hu69, hp69⟩ := hv 16 69 (hc 16 (by decide)) rfl
                obtain rfl : u69 = .bool false := hp69
                have H := H.addS hu69
                have Hb := H.full; have H := Hb; clear hc
                refine s_skip H rfl rfl rfl rfl ?_; clear H; intro a H
                refine wl_nil ⟨rfl, ?_⟩
                exact draw_val (by kernel_rfl) hprm11 rfl rfl HT Hb hG hv (fun _ _ h => h) (rfl) H
              · intro S a w G1 _ hSi hc hG HT hv; have H := HT; clear hSi
                obtain ⟨u73, hu73, hp73⟩ := hv 20 73 (hc 20 (by decide)) rfl
                obtain rfl : u73 = undef := hp73
                have H := H.addS hu73
                obtain ⟨u69, hu69, hp69⟩ := hv 16 69 (hc 16 (by decide)) rfl
                obtain rfl : u69 = .bool false := hp69
                have H := H.addS hu69
                have Hb := H.full; have H := Hb; clear hc
                refine s_skip H rfl rfl rfl rfl ?_; clear H; intro a H
                refine wl_nil ⟨rfl, ?_⟩
                exact draw_val (by kernel_rfl) hprm11 rfl rfl HT Hb hG hv (fun _ _ h => h) (rfl) H
              · intro S a w G1 _ hSi hc hG HT hv; have H := HT; clear hSi
                obtain ⟨u74, hu74, hp74⟩ := hv 21 74 (hc 21 (by decide)) rfl
                obtain rfl : u74 = undef := hp74
                have H := H.addS hu74
                obtain ⟨u69, hu69, hp69⟩ := hv 16 69 (hc 16 (by decide)) rfl
                obtain rfl : u69 = .bool false := hp69
                have H := H.addS hu69
                have Hb := H.full; have H := Hb; clear hc
                refine s_skip H rfl rfl rfl rfl ?_; clear H; intro a H
                refine wl_nil ⟨rfl, ?_⟩
                exact draw_val (by kernel_rfl) hprm11 rfl rfl HT Hb hG hv (fun _ _ h => h) (rfl) H
              · intro S a w G1 _ hSi hc hG HT hv; have H := HT; clear hSi
                obtain ⟨u69, hu69, hp69⟩ := hv 16 69 (hc 16 (by decide)) rfl
                obtain rfl : u69 = .bool false := hp69
                have H := H.addS hu69
                have Hb := H.full; have H := Hb; clear hc
                refine s_skip H rfl rfl rfl rfl ?_; clear H; intro a H
                refine wl_nil ⟨rfl, ?_⟩
                exact draw_val (by kernel_rfl) hprm11 rfl rfl HT Hb hG hv (fun _ _ h => h) (rfl) H
              · intro S a w G1 _ hSi hc hG HT hv; have H := HT; clear hSi
                obtain ⟨u76, hu76, hp76⟩ := hv 23 76 (hc 23 (by decide)) rfl
                obtain rfl : u76 = undef := hp76
                have H := H.addS hu76
                obtain ⟨u69, hu69, hp69⟩ := hv 16 69 (hc 16 (by decide)) rfl
                obtain rfl : u69 = .bool false := hp69
                have H := H.addS hu69
                have Hb := H.full; have H := Hb; clear hc
                refine s_skip H rfl rfl rfl rfl ?_; clear H; intro a H
                refine wl_nil ⟨rfl, ?_⟩
                exact draw_val (by kernel_rfl) hprm11 rfl rfl HT Hb hG hv (fun _ _ h => h) (rfl) H
              · intro S a w G1 _ hSi hc hG HT hv; have H := HT; clear hSi
                obtain ⟨u75, hu75, hp75⟩ := hv 22 75 (hc 22 (by decide)) rfl
                obtain rfl : u75 = undef := hp75
                have H := H.addS hu75
                obtain ⟨u77, hu77, hp77⟩ := hv 24 77 (hc 24 (by decide)) rfl
                obtain rfl : u77 = undef := hp77
                have H := H.addS hu77
                obtain ⟨u69, hu69, hp69⟩ := hv 16 69 (hc 16 (by decide)) rfl
                obtain rfl : u69 = .bool false := hp69
                have H := H.addS hu69
                have Hb := H.full; have H := Hb; clear hc
                refine s_skip H rfl rfl rfl rfl ?_; clear H; intro a H
                refine wl_nil ⟨rfl, ?_⟩
                exact draw_val (by kernel_rfl) hprm11 rfl rfl HT Hb hG hv (fun _ _ h => h) (rfl) H
              · intro S a w G1 _ hSi hc hG HT hv; have H := HT; clear hSi
                obtain ⟨u69, hu69, hp69⟩ := hv 16 69 (hc 16 (by decide)) rfl
                obtain rfl : u69 = .bool false := hp69
                have H := H.addS hu69
                obtain ⟨u78, hu78, hp78⟩ := hv 25 78 (hc 25 (by decide)) rfl
                obtain rfl : u78 = undef := hp78
                have H := H.addS hu78
                have Hb := H.full; have H := Hb; clear hc
                refine s_pick_f H wn rfl rfl rfl rfl ?_; clear H; intro a H
                refine wl_nil ⟨rfl, ?_⟩
                exact draw_val (by kernel_rfl) hprm11 rfl rfl HT Hb hG hv (fun _ _ h => h) (rfl) H
              · intro S a w G1 _ hSi hc hG HT hv; have H := HT; clear hSi
                obtain ⟨u79, hu79, hp79⟩ := hv 26 79 (hc 26 (by decide)) rfl
                obtain rfl : u79 = .bool false := hp79
                have H := H.addS hu79
                have Hb := H.full; have H := Hb; clear hc
                refine s_assign H wn rfl rfl ?_; clear H; intro a H
                refine wl_nil ⟨rfl, ?_⟩
                exact draw_val (by kernel_rfl) hprm11 rfl rfl HT Hb hG hv (fun _ _ h => h) (rfl) H
            · clear H; intro a w G hGm11 H hv
              obtain ⟨u52, hu52, hp52⟩ := hv 27 52 (by decide) rfl
              obtain rfl : u52 = .bool false := hp52
              have H := H.addS hu52
              clear hv
              refine wl_nil ⟨rfl, ?_⟩
              refine hK15 _ _ ?_; clear hK15
              refine c_cond_f H rfl rfl ?_
              refine c_region ?_
              refine s_move H wn rfl rfl ?_; clear H; intro a H
              refine s_loada ty47nrm (cs := [_, _, _, _, _, _, _, _, _, _, _]) H wn rfl rfl (H.hp.ocells 0 rfl rfl) rfl ?_; clear H; intro a H
              refine s_buildSlice un28nrm ty47nrm [_, _, _, _, _, _, _, _, _, _, _] [_, _, _, _, _, _, _, _, _, _, _] H wn rfl rfl rfl rfl rfl (by intro i q h; match i, h with | 0, h => exact h | n + 1, h => simp at h) rfl rfl ?_; clear H; intro b30 a w hb30 H
              refine s_append (Li := [_, _]) (Lo := Lo) (news := cs31) un28nrm ty47nrm rfl rfl H wn rfl rfl hrw (by rw [hcs31]; rfl) (by rw [hcs31]; exact H.hp.ocells 0 rfl rfl) hr31.one (by omega) (by omega) rfl ?_; clear H; intro v31 Lo31 a w hrw31 H
              refine s_assign H wn rfl rfl ?_; clear H; intro a H
              refine wl_nil ?_
              refine hK7 _ _ ?_; clear hK7
              refine c_region ?_
              refine s_add _ H wn rfl rfl rfl (by omega) (by omega) rfl ?_; clear H; intro a H
              refine s_move H wn rfl rfl ?_; clear H; intro a H
              refine wl_nil ?_
              refine loop_end ((0 + 1, v31, xs ++ cs31, Lo31, G)) (by exact (H.pickT (Pl := [_, _]) (Pl' := []) [] (by decide) rfl).sub ⟨rfl, rfl, rfl, rfl, trivial⟩) ?_ ?_
              · try dsimp only
                exact ⟨by omega, hrw31, by rw [hA1]; exact (hcat.mono (fun b o h => hGm11 b o (hm24 b o (hm23 b o (hm19 b o (hm15 b o h)))))).snoc (hr31.mono hGm11) (by rw [hcs31]; rfl), fun b o h => hGm11 b o (hm24 b o (hm23 b o (hm19 b o (hm15 b o (hgm b o h)))))⟩
              · first | omega | (dsimp only; omega)
          · skip
            obtain ⟨cs31, hcs31⟩ : ∃ x, x = [vi l[0].kind, vi l[0].code, vi l[0].id, .string l[0].text, .slice a1 a2 a3, vi l[0].head.marks.ins, vi l[0].head.marks.move, .slice a4 a5 a6, .slice a7 a8 a9, .slice A19 n19 c19, .slice A24 n24 c24] := ⟨_, rfl⟩
            have hr31 : RepRow G24 l[0].dat cs31 := by
              rw [hcs31]
              exact RepRow.mkItem (hh15.mono fun b o h => hm24 b o (hm23 b o (hm19 b o h))) (by rw [e1]; exact hp19.mono fun b o h => hm24 b o (hm23 b o h)) (by rw [e2]; exact hp24)
            have hA1 : (l.map ItemD.dat).take (0 + 1) = (l.map ItemD.dat).take 0 ++ [l[0].dat] := by rw [List.take_succ_eq_append_getElem (by simpa using hk2)]; simp
            have hprm11 : ∀ (i : Nat) (v : Value) (G G' : GH), (∀ k o, G k = some o → G' k = some o) → (fun (i : Nat) (v : Value) (G : GH) => match i with | 0 => v = .pointer (some ⟨b5, 0, none⟩) | 1 => v = vi l[0].kind | 2 => v = .bool (decide (l[0].kind = 1)) | 3 => v = .bool (decide (l[0].kind = 1)) | 4 => v = undef | 5 => v = undef | 6 => v = .bool false | 7 => v = .bool false | 8 => v = undef | 9 => v = undef | 10 => v = undef | 11 => v = undef | 12 => v = undef | 13 => v = undef | 14 => v = undef | 15 => v = .bool false | 16 => v = .bool false | 17 => v = undef | 18 => v = undef | 19 => v = undef | 20 => v = undef | 21 => v = undef | 22 => v = undef | 23 => v = undef | 24 => v = undef | 25 => v = undef | 26 => v = .bool false | 27 => v = .bool false | _ => True) i v G → (fun (i : Nat) (v : Value) (G : GH) => match i with | 0 => v = .pointer (some ⟨b5, 0, none⟩) | 1 => v = vi l[0].kind | 2 => v = .bool (decide (l[0].kind = 1)) | 3 => v = .bool (decide (l[0].kind = 1)) | 4 => v = undef | 5 => v = undef | 6 => v = .bool false | 7 => v = .bool false | 8 => v = undef | 9 => v = undef | 10 => v = undef | 11 => v = undef | 12 => v = undef | 13 => v = undef | 14 => v = undef | 15 => v = .bool false | 16 => v = .bool false | 17 => v = undef | 18 => v = undef | 19 => v = undef | 20 => v = undef | 21 => v = undef | 22 => v = undef | 23 => v = undef | 24 => v = undef | 25 => v = undef | 26 => v = .bool false | 27 => v = .bool false | _ => True) i v G' := by
              intro i v G G' hm h
              match i, h with
              | 0, h => exact h
              | 1, h => exact h
              | 2, h => exact h
              | 3, h => exact h
              | 4, h => exact h
              | 5, h => exact h
              | 6, h => exact h
              | 7, h => exact h
              | 8, h => exact h
              | 9, h => exact h
              | 10, h => exact h
              | 11, h => exact h
              | 12, h => exact h
              | 13, h => exact h
              | 14, h => exact h
              | 15, h => exact h
              | 16, h => exact h
              | 17, h => exact h
              | 18, h => exact h
              | 19, h => exact h
              | 20, h => exact h
              | 21, h => exact h
              | 22, h => exact h
              | 23, h => exact h
              | 24, h => exact h
              | 25, h => exact h
              | 26, h => exact h
              | 27, h => exact h
              | _ + 28, h => exact trivial
            refine c_drawI (hmx) [[], [0], [0, 1], [0, 1, 2], [0, 1, 2, 3], [0, 1, 2, 3, 4], [0, 1, 2, 3, 4, 5], [0, 1, 2, 3, 4, 5, 6], [0, 1, 2, 3, 4, 5, 6, 7], [0, 1, 2, 3, 4, 5, 6, 7], [0, 1, 2, 3, 4, 5, 6, 7, 9], [0, 1, 2, 3, 4, 5, 6, 7, 8, 9, 10], [0, 1, 2, 3, 4, 5, 6, 7, 8, 9, 10, 11], [0, 1, 2, 3, 4, 5, 6, 7, 8, 9, 10, 11, 12], [0, 1, 2, 3, 4, 5, 6, 7, 8, 9, 10, 11, 12, 13], [0, 1, 2, 3, 4, 5, 6, 7, 8, 9, 10, 11, 12, 13, 14], [0, 1, 2, 3, 4, 5, 6, 7, 8, 9, 10, 11, 12, 13, 14, 15], [0, 1, 2, 3, 4, 5, 6, 7, 8, 9, 10, 11, 12, 13, 14, 15, 16], [0, 1, 2, 3, 4, 5, 6, 7, 8, 9, 10, 11, 12, 13, 14, 15, 16], [0, 1, 2, 3, 4, 5, 6, 7, 8, 9, 10, 11, 12, 13, 14, 15, 16, 18], [0, 1, 2, 3, 4, 5, 6, 7, 8, 9, 10, 11, 12, 13, 14, 15, 16, 17, 18, 19], [0, 1, 2, 3, 4, 5, 6, 7, 8, 9, 10, 11, 12, 13, 14, 15, 16, 17, 18, 19, 20], [0, 1, 2, 3, 4, 5, 6, 7, 8, 9, 10, 11, 12, 13, 14, 15, 16, 17, 18, 19, 20, 21], [0, 1, 2, 3, 4, 5, 6, 7, 8, 9, 10, 11, 12, 13, 14, 15, 16], [0, 1, 2, 3, 4, 5, 6, 7, 8, 9, 10, 11, 12, 13, 14, 15, 16, 23], [0, 1, 2, 3, 4, 5, 6, 7, 8, 9, 10, 11, 12, 13, 14, 15, 16, 17, 18, 19, 20, 21, 22, 23, 24], [0, 1, 2, 3, 4, 5, 6, 7, 8, 9, 10, 11, 12, 13, 14, 15, 16, 17, 18, 19, 20, 21, 22, 23, 24, 25], [0, 1, 2, 3, 4, 5, 6, 7, 8, 9, 10, 11, 12, 13, 14, 15, 16, 17, 18, 19, 20, 21, 22, 23, 24, 25, 26]] [] (by kernel_rfl) (by kernel_rfl) (fun (i : Nat) (v : Value) (G : GH) => match i with | 0 => v = .pointer (some ⟨b5, 0, none⟩) | 1 => v = vi l[0].kind | 2 => v = .bool (decide (l[0].kind = 1)) | 3 => v = .bool (decide (l[0].kind = 1)) | 4 => v = undef | 5 => v = undef | 6 => v = .bool false | 7 => v = .bool false | 8 => v = undef | 9 => v = undef | 10 => v = undef | 11 => v = undef | 12 => v = undef | 13 => v = undef | 14 => v = undef | 15 => v = .bool false | 16 => v = .bool false | 17 => v = undef | 18 => v = undef | 19 => v = undef | 20 => v = undef | 21 => v = undef | 22 => v = undef | 23 => v = undef | 24 => v = undef | 25 => v = undef | 26 => v = .bool false | 27 => v = .bool false | _ => True) hprm11 H ?_ ?_
            · clear H; refine (allI_cons ?_ (allI_cons ?_ (allI_cons ?_ (allI_cons ?_ (allI_cons ?_ (allI_cons ?_ (allI_cons ?_ (allI_cons ?_ (allI_cons ?_ (allI_cons ?_ (allI_cons ?_ (allI_cons ?_ (allI_cons ?_ (allI_cons ?_ (allI_cons ?_ (allI_cons ?_ (allI_cons ?_ (allI_cons ?_ (allI_cons ?_ (allI_cons ?_ (allI_cons ?_ (allI_cons ?_ (allI_cons ?_ (allI_cons ?_ (allI_cons ?_ (allI_cons ?_ (allI_cons ?_ (allI_cons ?_ allI_nil))))))))))))))))))))))))))))
              · intro S a w G1 _ hSi hc hG HT hv; have H := HT; clear hSi
                have Hb := H.full; have H := Hb; clear hc
                refine s_field fd47_0nrm H wn rfl rfl ?_; clear H; intro a H
                refine wl_nil ⟨rfl, ?_⟩
                exact draw_val (by kernel_rfl) hprm11 rfl rfl HT Hb hG hv (fun _ _ h => h) (rfl) H
              · intro S a w G1 _ hSi hc hG HT hv; have H := HT; clear hSi
                obtain ⟨u53, hu53, hp53⟩ := hv 0 53 (hc 0 (by decide)) rfl
                obtain rfl : u53 = .pointer (some ⟨b5, 0, none⟩) := hp53
                have H := H.addS hu53
                have Hb := H.full; have H := Hb; clear hc
                refine s_load ty3nrm H wn rfl (H.hp.ocell 0 rfl rfl) rfl ?_; clear H; intro a H
                refine wl_nil ⟨rfl, ?_⟩
                exact draw_val (by kernel_rfl) hprm11 rfl rfl HT Hb hG hv (fun _ _ h => h) (rfl) H
              · intro S a w G1 _ hSi hc hG HT hv; have H := HT; clear hSi
                obtain ⟨u54, hu54, hp54⟩ := hv 1 54 (hc 1 (by decide)) rfl
                obtain rfl : u54 = vi l[0].kind := hp54
                have H := H.addS hu54
                have Hb := H.full; have H := Hb; clear hc
                refine s_cmp H wn rfl rfl rfl rfl ?_; clear H; intro a H
                refine wl_nil ⟨rfl, ?_⟩
                exact draw_val (by kernel_rfl) hprm11 rfl rfl HT Hb hG hv (fun _ _ h => h) (rfl) H
              · intro S a w G1 _ hSi hc hG HT hv; have H := HT; clear hSi
                obtain ⟨u55, hu55, hp55⟩ := hv 2 55 (hc 2 (by decide)) rfl
                obtain rfl : u55 = .bool (decide (l[0].kind = 1)) := hp55
                have H := H.addS hu55
                have Hb := H.full; have H := Hb; clear hc
                refine s_move H wn rfl rfl ?_; clear H; intro a H
                refine wl_nil ⟨rfl, ?_⟩
                exact draw_val (by kernel_rfl) hprm11 rfl rfl HT Hb hG hv (fun _ _ h => h) (rfl) H
              · intro S a w G1 _ hSi hc hG HT hv; have H := HT; clear hSi
                obtain ⟨u56, hu56, hp56⟩ := hv 3 56 (hc 3 (by decide)) rfl
                obtain rfl : u56 = .bool (decide (l[0].kind = 1)) := hp56
                have H := H.addS hu56
                have Hb := H.full; have H := Hb; clear hc
                refine s_skip H rfl rfl (decide_eq_false c1) rfl ?_; clear H; intro a H
                refine wl_nil ⟨rfl, ?_⟩
                exact draw_val (by kernel_rfl) hprm11 rfl rfl HT Hb hG hv (fun _ _ h => h) (rfl) H
              · intro S a w G1 _ hSi hc hG HT hv; have H := HT; clear hSi
                obtain ⟨u57, hu57, hp57⟩ := hv 4 57 (hc 4 (by decide)) rfl
                obtain rfl : u57 = undef := hp57
                have H := H.addS hu57
                obtain ⟨u56, hu56, hp56⟩ := hv 3 56 (hc 3 (by decide)) rfl
                obtain rfl : u56 = .bool (decide (l[0].kind = 1)) := hp56
                have H := H.addS hu56
                have Hb := H.full; have H := Hb; clear hc
                refine s_skip H rfl rfl (decide_eq_false c1) rfl ?_; clear H; intro a H
                refine wl_nil ⟨rfl, ?_⟩
                exact draw_val (by kernel_rfl) hprm11 rfl rfl HT Hb hG hv (fun _ _ h => h) (rfl) H
              · intro S a w G1 _ hSi hc hG HT hv; have H := HT; clear hSi
                obtain ⟨u56, hu56, hp56⟩ := hv 3 56 (hc 3 (by decide)) rfl
                obtain rfl : u56 = .bool (decide (l[0].kind = 1)) := hp56
                have H := H.addS hu56
                obtain ⟨u58, hu58, hp58⟩ := hv 5 58 (hc 5 (by decide)) rfl
                obtain rfl : u58 = undef := hp58
                have H := H.addS hu58
                have Hb := H.full; have H := Hb; clear hc
                refine s_pick_f H wn rfl (decide_eq_false c1) rfl rfl ?_; clear H; intro a H
                refine wl_nil ⟨rfl, ?_⟩
                exact draw_val (by kernel_rfl) hprm11 rfl rfl HT Hb hG hv (fun _ _ h => h) (rfl) H
              · intro S a w G1 _ hSi hc hG HT hv; have H := HT; clear hSi
                obtain ⟨u59, hu59, hp59⟩ := hv 6 59 (hc 6 (by decide)) rfl
                obtain rfl : u59 = .bool false := hp59
                have H := H.addS hu59
                have Hb := H.full; have H := Hb; clear hc
                refine s_move H wn rfl rfl ?_; clear H; intro a H
                refine wl_nil ⟨rfl, ?_⟩
                exact draw_val (by kernel_rfl) hprm11 rfl rfl HT Hb hG hv (fun _ _ h => h) (rfl) H
              · intro S a w G1 _ hSi hc hG HT hv; have H := HT; clear hSi
                obtain ⟨u60, hu60, hp60⟩ := hv 7 60 (hc 7 (by decide)) rfl
                obtain rfl : u60 = .bool false := hp60
                have H := H.addS hu60
                have Hb := H.full; have H := Hb; clear hc
                refine s_skip H rfl rfl rfl rfl ?_; clear H; intro a H
                refine wl_nil ⟨rfl, ?_⟩
                exact draw_val (by kernel_rfl) hprm11 rfl rfl HT Hb hG hv (fun _ _ h => h) (rfl) H
              · intro S a w G1 _ hSi hc hG HT hv; have H := HT; clear hSi
                obtain ⟨u60, hu60, hp60⟩ := hv 7 60 (hc 7 (by decide)) rfl
                obtain rfl : u60 = .bool false := hp60
                have H := H.addS hu60
                have Hb := H.full; have H := Hb; clear hc
                refine s_skip H rfl rfl rfl rfl ?_; clear H; intro a H
                refine wl_nil ⟨rfl, ?_⟩
                exact draw_val (by kernel_rfl) hprm11 rfl rfl HT Hb hG hv (fun _ _ h => h) (rfl) H
              · intro S a w G1 _ hSi hc hG HT hv; have H := HT; clear hSi
                obtain ⟨u62, hu62, hp62⟩ := hv 9 62 (hc 9 (by decide)) rfl
                obtain rfl : u62 = undef := hp62
                have H := H.addS hu62
                obtain ⟨u60, hu60, hp60⟩ := hv 7 60 (hc 7 (by decide)) rfl
                obtain rfl : u60 = .bool false := hp60
                have H := H.addS hu60
                have Hb := H.full; have H := Hb; clear hc
                refine s_skip H rfl rfl rfl rfl ?_; clear H; intro a H
                refine wl_nil ⟨rfl, ?_⟩
                exact draw_val (by kernel_rfl) hprm11 rfl rfl HT Hb hG hv (fun _ _ h => h) (rfl) H
              · intro S a w G1 _ hSi hc hG HT hv; have H := HT; clear hSi
                obtain ⟨u61, hu61, hp61⟩ := hv 8 61 (hc 8 (by decide)) rfl
                obtain rfl : u61 = undef := hp61
                have H := H.addS hu61
                obtain ⟨u63, hu63, hp63⟩ := hv 10 63 (hc 10 (by decide)) rfl
                obtain rfl : u63 = undef := hp63
                have H := H.addS hu63
                obtain ⟨u60, hu60, hp60⟩ := hv 7 60 (hc 7 (by decide)) rfl
                obtain rfl : u60 = .bool false := hp60
                have H := H.addS hu60
                have Hb := H.full; have H := Hb; clear hc
                refine s_skip H rfl rfl rfl rfl ?_; clear H; intro a H
                refine wl_nil ⟨rfl, ?_⟩
                exact draw_val (by kernel_rfl) hprm11 rfl rfl HT Hb hG hv (fun _ _ h => h) (rfl) H
              · intro S a w G1 _ hSi hc hG HT hv; have H := HT; clear hSi
                obtain ⟨u64, hu64, hp64⟩ := hv 11 64 (hc 11 (by decide)) rfl
                obtain rfl : u64 = undef := hp64
                have H := H.addS hu64
                obtain ⟨u60, hu60, hp60⟩ := hv 7 60 (hc 7 (by decide)) rfl
                obtain rfl : u60 = .bool false := hp60
                have H := H.addS hu60
                have Hb := H.full; have H := Hb; clear hc
                refine s_skip H rfl rfl rfl rfl ?_; clear H; intro a H
                refine wl_nil ⟨rfl, ?_⟩
                exact draw_val (by kernel_rfl) hprm11 rfl rfl HT Hb hG hv (fun _ _ h => h) (rfl) H
              · intro S a w G1 _ hSi hc hG HT hv; have H := HT; clear hSi
                obtain ⟨u65, hu65, hp65⟩ := hv 12 65 (hc 12 (by decide)) rfl
                obtain rfl : u65 = undef := hp65
                have H := H.addS hu65
                obtain ⟨u60, hu60, hp60⟩ := hv 7 60 (hc 7 (by decide)) rfl
                obtain rfl : u60 = .bool false := hp60
                have H := H.addS hu60
                have Hb := H.full; have H := Hb; clear hc
                refine s_skip H rfl rfl rfl rfl ?_; clear H; intro a H
                refine wl_nil ⟨rfl, ?_⟩
                exact draw_val (by kernel_rfl) hprm11 rfl rfl HT Hb hG hv (fun _ _ h => h) (rfl) H
              · intro S a w G1 _ hSi hc hG HT hv; have H := HT; clear hSi
                obtain ⟨u66, hu66, hp66⟩ := hv 13 66 (hc 13 (by decide)) rfl
                obtain rfl : u66 = undef := hp66
                have H := H.addS hu66
                obtain ⟨u60, hu60, hp60⟩ := hv 7 60 (hc 7 (by decide)) rfl
                obtain rfl : u60 = .bool false := hp60
                have H := H.addS hu60
                have Hb := H.full; have H := Hb; clear hc
                refine s_skip H rfl rfl rfl rfl ?_; clear H; intro a H
                refine wl_nil ⟨rfl, ?_⟩
                exact draw_val (by kernel_rfl) hprm11 rfl rfl HT Hb hG hv (fun _ _ h => h) (rfl) H
              · intro S a w G1 _ hSi hc hG HT hv; have H := HT; clear hSi
                obtain ⟨u60, hu60, hp60⟩ := hv 7 60 (hc 7 (by decide)) rfl
                obtain rfl : u60 = .bool false := hp60
                have H := H.addS hu60
                obtain ⟨u67, hu67, hp67⟩ := hv 14 67 (hc 14 (by decide)) rfl
                obtain rfl : u67 = undef := hp67
                have H := H.addS hu67
                have Hb := H.full; have H := Hb; clear hc
                refine s_pick_f H wn rfl rfl rfl rfl ?_; clear H; intro a H
                refine wl_nil ⟨rfl, ?_⟩
                exact draw_val (by kernel_rfl) hprm11 rfl rfl HT Hb hG hv (fun _ _ h => h) (rfl) H
              · intro S a w G1 _ hSi hc hG HT hv; have H := HT; clear hSi
                obtain ⟨u68, hu68, hp68⟩ := hv 15 68 (hc 15 (by decide)) rfl
                obtain rfl : u68 = .bool false := hp68
                have H := H.addS hu68
                have Hb := H.full; have H := Hb; clear hc
                refine s_move H wn rfl rfl ?_; clear H; intro a H
                refine wl_nil ⟨rfl, ?_⟩
                exact draw_val (by kernel_rfl) hprm11 rfl rfl HT Hb hG hv (fun _ _ h => h) (rfl) H
              · intro S a w G1 _ hSi hc hG HT hv; have H := HT; clear hSi
                obtain ⟨u69, hu69, hp69⟩ := hv 16 69 (hc 16 (by decide)) rfl
                obtain rfl : u69 = .bool false := hp69
                have H := H.addS hu69
                have Hb := H.full; have H := Hb; clear hc
                refine s_skip H rfl rfl rfl rfl ?_; clear H; intro a H
                refine wl_nil ⟨rfl, ?_⟩
                exact draw_val (by kernel_rfl) hprm11 rfl rfl HT Hb hG hv (fun _ _ h => h) (rfl) H
              · intro S a w G1 _ hSi hc hG HT hv; have H := HT; clear hSi
                obtain ⟨u69, hu69, hp69⟩ := hv 16 69 (hc 16 (by decide)) rfl
                obtain rfl : u69 = .bool false := hp69
                have H := H.addS hu69
                have Hb := H.full; have H := Hb; clear hc
                refine s_skip H rfl rfl rfl rfl ?_; clear H; intro a H
                refine wl_nil ⟨rfl, ?_⟩
                exact draw_val (by kernel_rfl) hprm11 rfl rfl HT Hb hG hv (fun _ _ h => h) (rfl) H
              · intro S a w G1 _ hSi hc hG HT hv; have H := HT; clear hSi
                obtain ⟨u71, hu71, hp71⟩ := hv 18 71 (hc 18 (by decide)) rfl
                obtain rfl : u71 = undef := hp71
                have H := H.addS hu71
                obtain ⟨u69, hu69, hp69⟩ := hv 16 69 (hc 16 (by decide)) rfl
                obtain rfl : u69 = .bool false := hp69
                have H := H.addS hu69
                have Hb := H.full; have H := Hb; clear hc
                refine s_skip H rfl rfl rfl rfl ?_; clear H; intro a H
                refine wl_nil ⟨rfl, ?_⟩
                exact draw_val (by kernel_rfl) hprm11 rfl rfl HT Hb hG hv (fun _ _ h => h) (rfl) H
              · intro S a w G1 _ hSi hc hG HT hv; have H := HT; clear hSi
                obtain ⟨u70, hu70, hp70⟩ := hv 17 70 (hc 17 (by decide)) rfl
                obtain rfl : u70 = undef := hp70
                have H := H.addS hu70
                obtain ⟨u72, hu72, hp72⟩ := hv 19 72 (hc 19 (by decide)) rfl
                obtain rfl : u72 = undef := hp72
                have H := H.addS hu72
                obtain ⟨u69, hu69, hp69⟩ := hv 16 69 (hc 16 (by decide)) rfl
                obtain rfl : u69 = .bool false := hp69
                have H := H.addS hu69
                have Hb := H.full; have H := Hb; clear hc
                refine s_skip H rfl rfl rfl rfl ?_; clear H; intro a H
                refine wl_nil ⟨rfl, ?_⟩
                exact draw_val (by kernel_rfl) hprm11 rfl rfl HT Hb hG hv (fun _ _ h => h) (rfl) H
              · intro S a w G1 _ hSi hc hG HT hv; have H := HT; clear hSi
                obtain ⟨u73, hu73, hp73⟩ := hv 20 73 (hc 20 (by decide)) rfl
                obtain rfl : u73 = undef := hp73
                have H := H.addS hu73
                obtain ⟨u69, hu69, hp69⟩ := hv 16 69 (hc 16 (by decide)) rfl
                obtain rfl : u69 = .bool false := hp69
                have H := H.addS hu69
                have Hb := H.full; have H := Hb; clear hc
                refine s_skip H rfl rfl rfl rfl ?_; clear H; intro a H
                refine wl_nil ⟨rfl, ?_⟩
                exact draw_val (by kernel_rfl) hprm11 rfl rfl HT Hb hG hv (fun _ _ h => h) (rfl) H
              · intro S a w G1 _ hSi hc hG HT hv; have H := HT; clear hSi
                obtain ⟨u74, hu74, hp74⟩ := hv 21 74 (hc 21 (by decide)) rfl
                obtain rfl : u74 = undef := hp74
                have H := H.addS hu74
                obtain ⟨u69, hu69, hp69⟩ := hv 16 69 (hc 16 (by decide)) rfl
                obtain rfl : u69 = .bool false := hp69
                have H := H.addS hu69
                have Hb := H.full; have H := Hb; clear hc
                refine s_skip H rfl rfl rfl rfl ?_; clear H; intro a H
                refine wl_nil ⟨rfl, ?_⟩
                exact draw_val (by kernel_rfl) hprm11 rfl rfl HT Hb hG hv (fun _ _ h => h) (rfl) H
              · intro S a w G1 _ hSi hc hG HT hv; have H := HT; clear hSi
                obtain ⟨u69, hu69, hp69⟩ := hv 16 69 (hc 16 (by decide)) rfl
                obtain rfl : u69 = .bool false := hp69
                have H := H.addS hu69
                have Hb := H.full; have H := Hb; clear hc
                refine s_skip H rfl rfl rfl rfl ?_; clear H; intro a H
                refine wl_nil ⟨rfl, ?_⟩
                exact draw_val (by kernel_rfl) hprm11 rfl rfl HT Hb hG hv (fun _ _ h => h) (rfl) H
              · intro S a w G1 _ hSi hc hG HT hv; have H := HT; clear hSi
                obtain ⟨u76, hu76, hp76⟩ := hv 23 76 (hc 23 (by decide)) rfl
                obtain rfl : u76 = undef := hp76
                have H := H.addS hu76
                obtain ⟨u69, hu69, hp69⟩ := hv 16 69 (hc 16 (by decide)) rfl
                obtain rfl : u69 = .bool false := hp69
                have H := H.addS hu69
                have Hb := H.full; have H := Hb; clear hc
                refine s_skip H rfl rfl rfl rfl ?_; clear H; intro a H
                refine wl_nil ⟨rfl, ?_⟩
                exact draw_val (by kernel_rfl) hprm11 rfl rfl HT Hb hG hv (fun _ _ h => h) (rfl) H
              · intro S a w G1 _ hSi hc hG HT hv; have H := HT; clear hSi
                obtain ⟨u75, hu75, hp75⟩ := hv 22 75 (hc 22 (by decide)) rfl
                obtain rfl : u75 = undef := hp75
                have H := H.addS hu75
                obtain ⟨u77, hu77, hp77⟩ := hv 24 77 (hc 24 (by decide)) rfl
                obtain rfl : u77 = undef := hp77
                have H := H.addS hu77
                obtain ⟨u69, hu69, hp69⟩ := hv 16 69 (hc 16 (by decide)) rfl
                obtain rfl : u69 = .bool false := hp69
                have H := H.addS hu69
                have Hb := H.full; have H := Hb; clear hc
                refine s_skip H rfl rfl rfl rfl ?_; clear H; intro a H
                refine wl_nil ⟨rfl, ?_⟩
                exact draw_val (by kernel_rfl) hprm11 rfl rfl HT Hb hG hv (fun _ _ h => h) (rfl) H
              · intro S a w G1 _ hSi hc hG HT hv; have H := HT; clear hSi
                obtain ⟨u69, hu69, hp69⟩ := hv 16 69 (hc 16 (by decide)) rfl
                obtain rfl : u69 = .bool false := hp69
                have H := H.addS hu69
                obtain ⟨u78, hu78, hp78⟩ := hv 25 78 (hc 25 (by decide)) rfl
                obtain rfl : u78 = undef := hp78
                have H := H.addS hu78
                have Hb := H.full; have H := Hb; clear hc
                refine s_pick_f H wn rfl rfl rfl rfl ?_; clear H; intro a H
                refine wl_nil ⟨rfl, ?_⟩
                exact draw_val (by kernel_rfl) hprm11 rfl rfl HT Hb hG hv (fun _ _ h => h) (rfl) H
              · intro S a w G1 _ hSi hc hG HT hv; have H := HT; clear hSi
                obtain ⟨u79, hu79, hp79⟩ := hv 26 79 (hc 26 (by decide)) rfl
                obtain rfl : u79 = .bool false := hp79
                have H := H.addS hu79
                have Hb := H.full; have H := Hb; clear hc
                refine s_assign H wn rfl rfl ?_; clear H; intro a H
                refine wl_nil ⟨rfl, ?_⟩
                exact draw_val (by kernel_rfl) hprm11 rfl rfl HT Hb hG hv (fun _ _ h => h) (rfl) H
            · clear H; intro a w G hGm11 H hv
              obtain ⟨u52, hu52, hp52⟩ := hv 27 52 (by decide) rfl
              obtain rfl : u52 = .bool false := hp52
              have H := H.addS hu52
              clear hv
              refine wl_nil ⟨rfl, ?_⟩
              refine hK15 _ _ ?_; clear hK15
              refine c_cond_f H rfl rfl ?_
              refine c_region ?_
              refine s_move H wn rfl rfl ?_; clear H; intro a H
              refine s_loada ty47nrm (cs := [_, _, _, _, _, _, _, _, _, _, _]) H wn rfl rfl (H.hp.ocells 0 rfl rfl) rfl ?_; clear H; intro a H
              refine s_buildSlice un28nrm ty47nrm [_, _, _, _, _, _, _, _, _, _, _] [_, _, _, _, _, _, _, _, _, _, _] H wn rfl rfl rfl rfl rfl (by intro i q h; match i, h with | 0, h => exact h | n + 1, h => simp at h) rfl rfl ?_; clear H; intro b30 a w hb30 H
              refine s_append (Li := [_, _]) (Lo := Lo) (news := cs31) un28nrm ty47nrm rfl rfl H wn rfl rfl hrw (by rw [hcs31]; rfl) (by rw [hcs31]; exact H.hp.ocells 0 rfl rfl) hr31.one (by omega) (by omega) rfl ?_; clear H; intro v31 Lo31 a w hrw31 H
              refine s_assign H wn rfl rfl ?_; clear H; intro a H
              refine wl_nil ?_
              refine hK7 _ _ ?_; clear hK7
              refine c_region ?_
              refine s_add _ H wn rfl rfl rfl (by omega) (by omega) rfl ?_; clear H; intro a H
              refine s_move H wn rfl rfl ?_; clear H; intro a H
              refine wl_nil ?_
              refine loop_end ((0 + 1, v31, xs ++ cs31, Lo31, G)) (by exact (H.pickT (Pl := [_, _]) (Pl' := []) [] (by decide) rfl).sub ⟨rfl, rfl, rfl, rfl, trivial⟩) ?_ ?_
              · try dsimp only
                exact ⟨by omega, hrw31, by rw [hA1]; exact (hcat.mono (fun b o h => hGm11 b o (hm24 b o (hm23 b o (hm19 b o (hm15 b o h)))))).snoc (hr31.mono hGm11) (by rw [hcs31]; rfl), fun b o h => hGm11 b o (hm24 b o (hm23 b o (hm19 b o (hm15 b o (hgm b o h)))))⟩
              · first | omega | (dsimp only; omega)
    · intro h10
      try have p10 := of_decide_eq_false h10
      refine c_exit ?_
      refine hK3 _ _ ?_; clear hK3
      refine c_seq (fun _ hK16 => ?_)
      obtain ⟨G', hm, hrep, H⟩ := H.giveRow (Li := []) hrw (rows := l.map ItemD.dat) (by simp; omega) (by rw [List.take_of_length_le (by simp; omega)] at hcat; exact hcat)
      refine c_region ?_
      refine s_move H wn rfl rfl ?_; clear H; intro a H
      refine s_assign H wn rfl rfl ?_; clear H; intro a H
      refine wl_nil ?_
      refine hK16 _ _ ?_; clear hK16
      refine c_ret ?_
      refine (leave1 H Try.results78 (.cons (rv_tmp H rfl) .nil) ?_).1
      exact H.hp.ret hrep
end Go.Proofs.Ytbfdhlakbdadhaa
