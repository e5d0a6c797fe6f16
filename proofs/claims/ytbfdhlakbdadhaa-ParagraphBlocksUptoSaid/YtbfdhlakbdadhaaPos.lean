/-
  Package position: the positions of a document, in document order.
-/
import Derived.Test.YtbfdhlakbdadhaaRun
import Derived.Test.YtbfdhlakbdadhaaRg
namespace Go.Proofs.Ytbfdhlakbdadhaa
open Go.RowKit
theorem en49pos : ∀ args w, (callFunc 49 args).run Try.prog w = .ok (.enter 49 args) w := enters Try.func49 rfl (by kernel_rfl)
theorem un28pos : Try.prog.underlying 28 = some (.slice 47) := by kernel_rfl
theorem ty47pos : Ty Try.prog 47 11 176 [.int .i64 0, .int .i64 0, .int .i64 0, .string ⟨#[]⟩, .slice none 0 0, .int .i64 0, .int .i64 0, .slice none 0 0, .slice none 0 0, .slice none 0 0, .slice none 0 0] true := ⟨by kernel_rfl, by kernel_rfl⟩
theorem en11pos : ∀ args w, (callFunc 11 args).run Try.prog w = .ok (.enter 11 args) w := enters Try.func11 rfl (by kernel_rfl)
theorem sr66pos : Srt Try.prog 66 [(0, 1), (1, 1)] [.int .i64 0, .int .i64 0] := ⟨by kernel_rfl, by kernel_rfl⟩
theorem fd47_0pos : Fld Try.prog 47 0 0 := ⟨by kernel_rfl⟩
theorem ty3pos : Ty Try.prog 3 1 8 [.int .i64 0] false := ⟨by kernel_rfl, by kernel_rfl⟩
theorem fd47_5pos : Fld Try.prog 47 5 9 := ⟨by kernel_rfl⟩
theorem ty28pos : Ty Try.prog 28 1 24 [.slice none 0 0] false := ⟨by kernel_rfl, by kernel_rfl⟩
theorem fd47_2pos : Fld Try.prog 47 2 2 := ⟨by kernel_rfl⟩
theorem fd47_6pos : Fld Try.prog 47 6 10 := ⟨by kernel_rfl⟩
theorem ty45pos : Ty Try.prog 45 1 24 [.slice none 0 0] false := ⟨by kernel_rfl, by kernel_rfl⟩
theorem un45pos : Try.prog.underlying 45 = some (.slice 107) := by kernel_rfl
theorem ty107pos : Ty Try.prog 107 6 112 [.slice none 0 0, .int .i64 0, .int .i64 0, .slice none 0 0, .slice none 0 0, .slice none 0 0] true := ⟨by kernel_rfl, by kernel_rfl⟩
theorem fd107_1pos : Fld Try.prog 107 1 5 := ⟨by kernel_rfl⟩
theorem ty105pos : Ty Try.prog 105 1 24 [.slice none 0 0] false := ⟨by kernel_rfl, by kernel_rfl⟩
theorem un105pos : Try.prog.underlying 105 = some (.slice 104) := by kernel_rfl
theorem ty104pos : Ty Try.prog 104 7 120 [.int .i64 0, .slice none 0 0, .int .i64 0, .int .i64 0, .slice none 0 0, .slice none 0 0, .slice none 0 0] true := ⟨by kernel_rfl, by kernel_rfl⟩
theorem fd104_2pos : Fld Try.prog 104 2 6 := ⟨by kernel_rfl⟩
theorem fd104_0pos : Fld Try.prog 104 0 0 := ⟨by kernel_rfl⟩
/-- How many units run.Len finds in a flow of one item. -/
def n1 (x : ItemD) : Nat := if unitsE x = 0 then unitsS x else 0
theorem lenS_one (x : ItemD) : lenS [x] = n1 x := by
  simp only [lenS, divS, n1, sumS, List.all_cons, List.all_nil, Bool.and_true, decide_eq_true_eq]
  split <;> simp_all
mutual
/-- The positions of a flow and of those within it, from an item on. -/
def vItem (flow : Int) (at_ : Nat) : ItemD → List (Int × Int)
  | .mk k c i t h f r => (List.range (n1 (.mk k c i t h f r))).map (fun q => (flow, ((at_ + q : Nat) : Int))) ++ ((if k = 6 then vItems i 0 f else []) ++ vRows r)
def vItems (flow : Int) : Nat → List ItemD → List (Int × Int)
  | at_, [] => [(flow, (at_ : Int))]
  | at_, x :: l => vItem flow at_ x ++ vItems flow (at_ + n1 x) l
def vRows : List RowD → List (Int × Int)
  | [] => []
  | r :: l => vRow r ++ vRows l
def vRow : RowD → List (Int × Int)
  | .mk _ cs => vCells cs
def vCells : List CellD → List (Int × Int)
  | [] => []
  | c :: l => vCell c ++ vCells l
def vCell : CellD → List (Int × Int)
  | .mk i _ f => vItems i 0 f
end
theorem vItem_eq (flow : Int) (at_ : Nat) (x : ItemD) : vItem flow at_ x = (List.range (n1 x)).map (fun q => (flow, ((at_ + q : Nat) : Int))) ++ ((if x.kind = 6 then vItems x.id 0 x.flow else []) ++ vRows x.rows) := by
  cases x; rw [vItem]; rfl
theorem vRow_eq (x : RowD) : vRow x = vCells x.cells := by cases x; simp [vRow, RowD.cells]
theorem vCell_eq (x : CellD) : vCell x = vItems x.id 0 x.flow := by cases x; simp [vCell, CellD.id, CellD.flow]
theorem n1_le (x : ItemD) : n1 x < szR x.dat := by
  have h1 := zItem_eq x
  have h2 := cntS_le x.text
  unfold n1 unitsS; split <;> (try split) <;> omega
/-- What is called at a position. -/
def posP (a : Int × Int) : AP := fun args _ => args = [.agg #[vi a.1, vi a.2]]
theorem RepV.len {G : GH} {sz : Nat} {rows : List (List Dat)} {A : Option Addr} {n c : Nat} (h : RepV G (.sl sz rows) (.slice A n c)) : n = rows.length := h.cells.1
theorem RepV.at_ {G : GH} {sz : Nat} {rows : List (List Dat)} {A : Option Addr} {n c : Nat} (h : RepV G (.sl sz rows) (.slice A n c)) : ∀ k r, rows[k]? = some r → ∃ b o cs, A = some ⟨b, o, none⟩ ∧ cs.length = sz ∧ (∀ j u, cs[j]? = some u → gcell G b (o + k * sz + j) = some u) ∧ RepRow G r cs := by
  obtain ⟨A2, c2, e, _, _, hg⟩ := h.slice
  cases e; exact hg
/-- A row that lies in memory. -/
theorem row_get {G : GH} {l : List RowD} {A : Option Addr} {k : Nat} (hk : k < l.length) (hg : ∀ k r, (l.map RowD.dat)[k]? = some r → ∃ b o cs, A = some ⟨b, o, none⟩ ∧ cs.length = 6 ∧ (∀ j u, cs[j]? = some u → gcell G b (o + k * 6 + j) = some u) ∧ RepRow G r cs) :
    ∃ b o pA pn pc dA dn dc yA yn yc cA cn cc, A = some ⟨b, o, none⟩ ∧ (∀ j u, [.slice pA pn pc, vi l[k].head.marks.ins, vi l[k].head.marks.move, .slice dA dn dc, .slice yA yn yc, .slice cA cn cc][j]? = some u → gcell G b (o + k * 6 + j) = some u) ∧
      HeadR G l[k].head (.slice pA pn pc) (.slice dA dn dc) (.slice yA yn yc) ∧ RepV G (.sl 7 (l[k].cells.map CellD.dat)) (.slice cA cn cc) := by
  obtain ⟨b, o, cs, h1, h2, h3, h4⟩ := hg k l[k].dat (by simp [hk])
  obtain ⟨pA, pn, pc, dA, dn, dc, yA, yn, yc, cA, cn, cc, rfl, h5, h6⟩ := h4.row
  exact ⟨b, o, pA, pn, pc, dA, dn, dc, yA, yn, yc, cA, cn, cc, h1, h3, h5, h6⟩
theorem cell_get {G : GH} {l : List CellD} {A : Option Addr} {k : Nat} (hk : k < l.length) (hg : ∀ k r, (l.map CellD.dat)[k]? = some r → ∃ b o cs, A = some ⟨b, o, none⟩ ∧ cs.length = 7 ∧ (∀ j u, cs[j]? = some u → gcell G b (o + k * 7 + j) = some u) ∧ RepRow G r cs) :
    ∃ b o pA pn pc dA dn dc yA yn yc fA fn fc, A = some ⟨b, o, none⟩ ∧ (∀ j u, [vi l[k].id, .slice pA pn pc, vi l[k].head.marks.ins, vi l[k].head.marks.move, .slice dA dn dc, .slice yA yn yc, .slice fA fn fc][j]? = some u → gcell G b (o + k * 7 + j) = some u) ∧
      HeadR G l[k].head (.slice pA pn pc) (.slice dA dn dc) (.slice yA yn yc) ∧ RepV G (.sl 11 (l[k].flow.map ItemD.dat)) (.slice fA fn fc) := by
  obtain ⟨b, o, cs, h1, h2, h3, h4⟩ := hg k l[k].dat (by simp [hk])
  obtain ⟨pA, pn, pc, dA, dn, dc, yA, yn, yc, fA, fn, fc, rfl, h5, h6⟩ := h4.cell
  exact ⟨b, o, pA, pn, pc, dA, dn, dc, yA, yn, yc, fA, fn, fc, h1, h3, h5, h6⟩
/-- Walks of flows that are smaller than n. -/
def VisitOk (n : Nat) : Prop := ∀ (fv : Value) (Gi : GH) (xs : List AP) (J : Nat → GH → OL → Prop) (Jx : GH → OL → Prop) (G : GH) (L : OL) (w0 : World) (j : Nat) (l : List ItemD) (flow : Int) (v : Value),
  (∀ b o, Gi b = some o → G b = some o) → Cback Try.prog fv Gi xs J Jx → JMono J → XMono Jx → J j G L → Owns G L w0 → RepV G (.sl 11 (l.map ItemD.dat)) v → zItems l < n → (∀ i a, (vItems flow 0 l)[i]? = some a → xs[j + i]? = some (posP a)) →
  Calls Try.prog 49 #[v, vi flow, fv] w0 (RetL w0 G L fun u G' L' => ∃ b, u = .bool b ∧ (b = true → J (j + (vItems flow 0 l).length) G' L') ∧ (b = false → Jx G' L'))
set_option maxHeartbeats 1000000 in
theorem visit_step {n : Nat} (ih : VisitOk n) (hn : n ≤ 4294967296) : VisitOk (n + 1) := by
  intro fv Gi xs J Jx G L w0 j0 l flow v hGi hcb hJm hJx hJ0 hO hv hz hx0
  obtain ⟨A, c, rfl, hc1, hc2, hg⟩ := hv.slice
  rw [List.length_map] at *
  have hll := zItems_length l
  refine enterL (N := 81) (T := [(0, _), (1, _), (2, _)]) Try.func49 rfl Try.ntmps49 rfl rfl hO ?_
  intro a H
  refine c_seq (fun _ hK1 => ?_)
  refine c_region ?_
  refine s_assign H wn rfl rfl ?_; clear H; intro a H
  refine wl_nil ?_
  refine hK1 _ _ ?_; clear hK1
  refine c_seq (fun _ hK2 => ?_)
  refine c_region ?_
  refine s_assign H wn rfl rfl ?_; clear H; intro a H
  refine wl_nil ?_
  refine hK2 _ _ ?_; clear hK2
  refine c_seq (fun _ hK3 => ?_)
  refine c_seq (fun _ hK4 => ?_)
  refine c_region ?_
  refine s_move H wn rfl rfl ?_; clear H; intro a H
  refine s_len un28pos H wn rfl rfl ?_; clear H; intro a H
  refine s_move H wn rfl rfl ?_; clear H; intro a H
  refine wl_nil ?_
  refine hK4 _ _ ?_; clear hK4
  refine c_block ?_
  skip
  refine c_loopS (ι := Nat × Nat × Nat × OL × GH) (Tc := [(1, _), (2, _), (16, _), (17, _)]) (Lc := []) (fun (gh : Nat × Nat × Nat × OL × GH) => [(7, vi gh.2.1), (18, vi gh.1)]) (fun (gh : Nat × Nat × Nat × OL × GH) => [] ++ gh.2.2.2.1) (fun (gh : Nat × Nat × Nat × OL × GH) => gh.2.2.2.2) (fun (gh : Nat × Nat × Nat × OL × GH) => gh.1 ≤ l.length ∧ (∀ b o, G b = some o → gh.2.2.2.2 b = some o) ∧ Now xs posP J (j0 + (vItems flow 0 l).length) gh.2.2.1 (vItems flow gh.2.1 (l.drop gh.1)) gh.2.2.2.2 gh.2.2.2.1 ∧ gh.2.1 + zItems (l.drop gh.1) ≤ n) (fun (gh : Nat × Nat × Nat × OL × GH) => l.length - gh.1) ((0, 0, j0, L, G)) (by exact (H).sub ⟨rfl, rfl, rfl, rfl, rfl, rfl, trivial⟩) ?_ ?_
  · exact ⟨by omega, fun _ _ h => h, ⟨hJ0, hx0, rfl⟩, by simp; omega⟩
  · clear H; intro gh a w hI H
    obtain ⟨k, at_, j, Lt, g⟩ := gh; dsimp only at hI H
    obtain ⟨hk, hgm, hnow, hsz⟩ := hI
    dsimp only [List.cons_append, List.nil_append, List.append_nil] at H
    refine c_seq (fun _ hK5 => ?_)
    refine c_region ?_
    refine s_cmp H wn rfl rfl rfl rfl ?_; clear H; intro a H
    refine wl_nil ?_
    refine hK5 _ _ ?_; clear hK5
    refine c_seq (fun _ hK6 => ?_)
    refine c_cond H rfl ?_ ?_
    · intro h19
      try have p19 := of_decide_eq_true h19
      have hk2 : k < l.length := by omega
      obtain ⟨b, o, pA, pn, pc, dA, dn, dc, yA, yn, yc, fA, fn, fc, rA, rn, rc, rfl, hrow, hhd, hfl, hrw⟩ := flow_get hk2 hg
      replace hrow := fun j u hj => gcell_mono hgm (hrow j u hj)
      have hrn := hrw.len; rw [List.length_map] at hrn; subst hrn
      have hrs := zRows_length l[k].rows
      have hsz1 := zItem_eq l[k]
      have hn1 := n1_le l[k]
      rw [List.drop_eq_getElem_cons hk2] at hnow hsz
      simp only [vItems, vItem_eq, List.append_assoc] at hnow
      rw [zItems, List.map_cons, szRs] at hsz
      refine c_skip ?_
      refine hK6 _ _ ?_; clear hK6
      refine c_seq (fun _ hK7 => ?_)
      refine c_block ?_
      refine c_seq (fun _ hK8 => ?_)
      refine c_region ?_
      refine s_index un28pos ty47pos _ H wn rfl rfl rfl (by first | assumption | omega) rfl ?_; clear H; intro a H
      refine s_loada ty47pos (cs := [_, _, _, _, _, _, _, _, _, _, _]) H wn rfl rfl (fun j v hj => H.hp.gcell (hrow j v hj)) rfl ?_; clear H; intro a H
      refine s_alloc ty47pos H wn rfl ?_; clear H; intro b9 a w hb9 H
      refine s_store ty47pos 0 (vs := [_, _, _, _, _, _, _, _, _, _, _]) _ H wn rfl rfl rfl rfl rfl rfl rfl rfl ?_; clear H; intro w H; dsimp only [List.set, setRow] at H
      refine wl_nil ?_
      refine hK8 _ _ ?_; clear hK8
      refine c_seq (fun _ hK9 => ?_)
      refine c_region ?_
      refine s_loada ty47pos (cs := [_, _, _, _, _, _, _, _, _, _, _]) H wn rfl rfl (H.hp.ocells 0 rfl rfl) rfl ?_; clear H; intro a H
      refine s_buildSlice un28pos ty47pos [_, _, _, _, _, _, _, _, _, _, _] [_, _, _, _, _, _, _, _, _, _, _] H wn rfl rfl rfl rfl rfl (by intro i q h; match i, h with | 0, h => exact h | n + 1, h => simp at h) rfl rfl ?_; clear H; intro b24 a w hb24 H
      obtain ⟨G24, hm24, hr24, H⟩ := H.giveOne (sz := 11) (d := l[k].dat) rfl (RepRow.mkItem (hhd.mono hgm) (hfl.mono hgm) (hrw.mono hgm))
      refine s_call en11pos H wn rfl (len_spec _ _ H.hp.ro [l[k]] _ hr24 (by simp only [zItems, List.map_cons, List.map_nil, szRs]; omega)) rfl ?_; clear H
      rintro v25 G25 a w ⟨rfl, rfl⟩ hm25 H
      rw [lenS_one] at H
      refine s_move H wn rfl rfl ?_; clear H; intro a H
      refine s_extract H wn rfl rfl rfl ?_; clear H; intro a H
      refine s_extract H wn rfl rfl rfl ?_; clear H; intro a H
      refine s_assign H wn rfl rfl ?_; clear H; intro a H
      refine s_assign H wn rfl rfl ?_; clear H; intro a H
      refine wl_nil ?_
      refine hK9 _ _ ?_; clear hK9
      refine c_seq (fun _ hK10 => ?_)
      refine c_seq (fun _ hK11 => ?_)
      refine c_region ?_
      refine s_move H wn rfl rfl ?_; clear H; intro a H
      refine s_move H wn rfl rfl ?_; clear H; intro a H
      refine wl_nil ?_
      refine hK11 _ _ ?_; clear hK11
      refine c_block ?_
      skip
      refine c_loopS (ι := Nat × Nat × OL × GH) (Tc := [(1, _), (2, _), (9, _), (16, _), (17, _), (18, _), (28, _)]) (Lc := [(_, _)]) (fun (gh : Nat × Nat × OL × GH) => [(7, vi ((at_ + gh.1 : Nat) : Int)), (29, vi gh.1)]) (fun (gh : Nat × Nat × OL × GH) => [] ++ gh.2.2.1) (fun (gh : Nat × Nat × OL × GH) => gh.2.2.2) (fun (gh : Nat × Nat × OL × GH) => gh.1 ≤ n1 l[k] ∧ (∀ b o, G b = some o → gh.2.2.2 b = some o) ∧ Now xs posP J (j0 + (vItems flow 0 l).length) gh.2.1 (((List.range (n1 l[k])).map (fun q => (flow, ((at_ + q : Nat) : Int)))).drop gh.1 ++ ((if l[k].kind = 6 then vItems l[k].id 0 l[k].flow else []) ++ (vRows l[k].rows ++ vItems flow (at_ + n1 l[k]) (l.drop (k + 1))))) gh.2.2.2 gh.2.2.1) (fun (gh : Nat × Nat × OL × GH) => n1 l[k] - gh.1) ((0, j, Lt, G24)) (by exact (H).sub ⟨rfl, rfl, rfl, rfl, rfl, rfl, rfl, rfl, rfl, trivial⟩) ?_ ?_
      · exact ⟨by omega, fun b o h => hm24 b o (hgm b o h), by dsimp only; rw [List.drop_zero]; exact ⟨hJm _ _ _ _ hm24 hnow.now, hnow.rem, hnow.len⟩⟩
      · clear H; intro gh a w hI H
        obtain ⟨i, j1, Lt1, g1⟩ := gh; dsimp only at hI H
        obtain ⟨hi, hgm1, hnow1⟩ := hI
        dsimp only [List.cons_append, List.nil_append, List.append_nil] at H
        refine c_seq (fun _ hK12 => ?_)
        refine c_region ?_
        refine s_cmp H wn rfl rfl rfl rfl ?_; clear H; intro a H
        refine wl_nil ?_
        refine hK12 _ _ ?_; clear hK12
        refine c_seq (fun _ hK13 => ?_)
        refine c_cond H rfl ?_ ?_
        · intro h30
          try have p30 := of_decide_eq_true h30
          have hi2 : i < n1 l[k] := by omega
          rw [List.drop_eq_getElem_cons (by simpa using hi2)] at hnow1
          simp only [List.getElem_map, List.getElem_range, List.cons_append] at hnow1
          refine c_skip ?_
          refine hK13 _ _ ?_; clear hK13
          refine c_seq (fun _ hK14 => ?_)
          refine c_block ?_
          refine c_seq (fun _ hK15 => ?_)
          refine c_seq (fun _ hK16 => ?_)
          refine c_region ?_
          refine s_move H wn rfl rfl ?_; clear H; intro a H
          refine s_move H wn rfl rfl ?_; clear H; intro a H
          refine s_move H wn rfl rfl ?_; clear H; intro a H
          refine s_build sr66pos [_, _] H wn rfl rfl rfl rfl ?_; clear H; intro a H
          refine s_callv (Li := [_]) (L := Lt1) H wn rfl rfl (hcb _ _ _ _ _ ⟨_, hnow1.head, rfl⟩ (fun b o h => hgm1 b o (hGi b o h)) hnow1.now (Hp.owns (Li := [_]) H.hp)) rfl ?_; clear H
          rintro v35 G35 Lt35 a w ⟨b35, rfl, hb1, hb2⟩ hm35 H
          refine s_not H wn rfl rfl ?_; clear H; intro a H
          refine wl_nil ?_
          refine hK16 _ _ ?_; clear hK16
          refine c_cond H rfl ?_ ?_
          · intro h36
            try have p36 := of_decide_eq_true h36
            refine c_seq (fun _ hK17 => ?_)
            refine c_region ?_
            refine s_assign H wn rfl rfl ?_; clear H; intro a H
            refine wl_nil ?_
            refine hK17 _ _ ?_; clear hK17
            refine c_ret ?_
            refine (leave1 H Try.results49 (.cons (rv_tmp H rfl) .nil) ?_).1
            first
              | exact H.hp.retD (L' := Lt35) (by repeat (first | exact List.Sublist.refl _ | apply List.Sublist.cons)) ⟨_, rfl, fun e => (by cases e), fun _ => hb2 (by simpa using h36)⟩
              | exact H.hp.retD (L' := Lt49) (by repeat (first | exact List.Sublist.refl _ | apply List.Sublist.cons)) ⟨_, rfl, fun e => (by cases e), fun _ => hb4 (by simpa using h51)⟩
              | exact H.hp.retD (L' := Lt71) (by repeat (first | exact List.Sublist.refl _ | apply List.Sublist.cons)) ⟨_, rfl, fun e => (by cases e), fun _ => hb6 (by simpa using h72)⟩
              | exact H.hp.retL ⟨_, rfl, fun e => (by have := hnow.len; simp only [List.length_singleton] at this; rw [← this]; exact hb7 e), hb8⟩
          · intro h36
            try have p36 := of_decide_eq_false h36
            refine c_skip ?_
            refine hK15 _ _ ?_; clear hK15
            refine c_region ?_
            refine s_move H wn rfl rfl ?_; clear H; intro a H
            refine s_add _ H wn rfl rfl rfl (by omega) (by omega) rfl ?_; clear H; intro a H
            refine s_assign H wn rfl rfl ?_; clear H; intro a H
            refine wl_nil ?_
            refine hK14 _ _ ?_; clear hK14
            refine c_region ?_
            refine s_add _ H wn rfl rfl rfl (by omega) (by omega) rfl ?_; clear H; intro a H
            refine s_move H wn rfl rfl ?_; clear H; intro a H
            refine wl_nil ?_
            refine loop_end ((i + 1, j1 + 1, Lt35, G35)) (by exact (H).sub ⟨rfl, rfl, rfl, rfl, rfl, rfl, rfl, rfl, rfl, trivial⟩) ?_ ?_
            · try dsimp only
              exact ⟨by omega, fun b o h => hm35 b o (hgm1 b o h), hnow1.step (hb1 (by simpa using h36))⟩
            · first | omega | (dsimp only; omega)
        · intro h30
          try have p30 := of_decide_eq_false h30
          refine c_exit ?_
          refine hK10 _ _ ?_; clear hK10
          refine c_seq (fun _ hK18 => ?_)
          refine c_seq (fun _ hK19 => ?_)
          have hin : i = n1 l[k] := by omega
          subst hin
          rw [List.drop_of_length_le (by simp), List.nil_append] at hnow1
          refine c_region ?_
          refine s_field fd47_0pos H wn rfl rfl ?_; clear H; intro a H
          refine s_load ty3pos H wn rfl (H.hp.ocell 0 rfl rfl) rfl ?_; clear H; intro a H
          refine s_cmp H wn rfl rfl rfl rfl ?_; clear H; intro a H
          refine s_move H wn rfl rfl ?_; clear H; intro a H
          refine s_split H 43 rfl ?_ ?_
          · intro h43
            try have p43 := of_decide_eq_true h43
            rw [if_pos p43] at hnow1
            refine s_field fd47_5pos H (wg H rfl rfl h43) rfl rfl ?_; clear H; intro a H
            refine s_load ty28pos H (wg H rfl rfl h43) rfl (H.hp.ocell 0 rfl rfl) rfl ?_; clear H; intro a H
            refine s_field fd47_2pos H (wg H rfl rfl h43) rfl rfl ?_; clear H; intro a H
            refine s_load ty3pos H (wg H rfl rfl h43) rfl (H.hp.ocell 0 rfl rfl) rfl ?_; clear H; intro a H
            refine s_move H (wg H rfl rfl h43) rfl rfl ?_; clear H; intro a H
            refine s_callL en49pos (Li := [_]) (L := Lt1) H (wg H rfl rfl h43) rfl (ih fv Gi xs J Jx _ _ _ j1 l[k].flow l[k].id _ (fun b o h => hgm1 b o (hGi b o h)) hcb hJm hJx hnow1.now (Hp.owns (Li := [_]) H.hp) (hfl.mono hgm1) (by omega) hnow1.part) rfl ?_; clear H
            rintro v49 G49 Lt49 a w ⟨b49, rfl, hb3, hb4⟩ hm49 H
            refine s_not H (wg H rfl rfl h43) rfl rfl ?_; clear H; intro a H
            refine s_pick_t H wn rfl h43 rfl rfl ?_; clear H; intro a H
            refine wl_nil ?_
            refine hK19 _ _ ?_; clear hK19
            refine c_cond H rfl ?_ ?_
            · intro h51
              try have p51 := of_decide_eq_true h51
              refine c_seq (fun _ hK20 => ?_)
              refine c_region ?_
              refine s_assign H wn rfl rfl ?_; clear H; intro a H
              refine wl_nil ?_
              refine hK20 _ _ ?_; clear hK20
              refine c_ret ?_
              refine (leave1 H Try.results49 (.cons (rv_tmp H rfl) .nil) ?_).1
              first
                | exact H.hp.retD (L' := Lt35) (by repeat (first | exact List.Sublist.refl _ | apply List.Sublist.cons)) ⟨_, rfl, fun e => (by cases e), fun _ => hb2 (by simpa using h36)⟩
                | exact H.hp.retD (L' := Lt49) (by repeat (first | exact List.Sublist.refl _ | apply List.Sublist.cons)) ⟨_, rfl, fun e => (by cases e), fun _ => hb4 (by simpa using h51)⟩
                | exact H.hp.retD (L' := Lt71) (by repeat (first | exact List.Sublist.refl _ | apply List.Sublist.cons)) ⟨_, rfl, fun e => (by cases e), fun _ => hb6 (by simpa using h72)⟩
                | exact H.hp.retL ⟨_, rfl, fun e => (by have := hnow.len; simp only [List.length_singleton] at this; rw [← this]; exact hb7 e), hb8⟩
            · intro h51
              try have p51 := of_decide_eq_false h51
              have hnow2 := hnow1.jump (hb3 (by simpa using h51))
              have hgm2 : ∀ b o, G b = some o → G49 b = some o := fun b o h => hm49 b o (hgm1 b o h)
              obtain ⟨j49, hj49⟩ : ∃ x, x = j1 + (vItems l[k].id 0 l[k].flow).length := ⟨_, rfl⟩
              rw [← hj49] at hnow2; clear hnow1 hgm1
              refine c_skip ?_
              refine hK18 _ _ ?_; clear hK18
              refine c_seq (fun _ hK21 => ?_)
              refine c_region ?_
              refine s_field fd47_6pos H wn rfl rfl ?_; clear H; intro a H
              refine s_load ty45pos H wn rfl (H.hp.ocell 0 rfl rfl) rfl ?_; clear H; intro a H
              refine s_len un45pos H wn rfl rfl ?_; clear H; intro a H
              refine s_move H wn rfl rfl ?_; clear H; intro a H
              refine wl_nil ?_
              refine hK21 _ _ ?_; clear hK21
              refine c_block ?_
              skip
              refine c_loopS (ι := Nat × Nat × OL × GH) (Tc := [(1, _), (2, _), (7, _), (16, _), (17, _), (18, _), (53, _), (54, _)]) (Lc := [(_, _)]) (fun (gh : Nat × Nat × OL × GH) => [(55, vi gh.1)]) (fun (gh : Nat × Nat × OL × GH) => [] ++ gh.2.2.1) (fun (gh : Nat × Nat × OL × GH) => gh.2.2.2) (fun (gh : Nat × Nat × OL × GH) => gh.1 ≤ l[k].rows.length ∧ (∀ b o, G b = some o → gh.2.2.2 b = some o) ∧ Now xs posP J (j0 + (vItems flow 0 l).length) gh.2.1 (vRows (l[k].rows.drop gh.1) ++ vItems flow (at_ + n1 l[k]) (l.drop (k + 1))) gh.2.2.2 gh.2.2.1) (fun (gh : Nat × Nat × OL × GH) => l[k].rows.length - gh.1) ((0, j49, Lt49, G49)) (by exact (H).sub ⟨rfl, rfl, rfl, rfl, rfl, rfl, rfl, rfl, rfl, trivial⟩) ?_ ?_
              · exact ⟨by omega, hgm2, hnow2⟩
              · clear H; intro gh a w hI H
                obtain ⟨rk, j3, Lt3, g3⟩ := gh; dsimp only at hI H
                obtain ⟨hrk, hgm3, hnow3⟩ := hI
                dsimp only [List.cons_append, List.nil_append, List.append_nil] at H
                refine c_seq (fun _ hK22 => ?_)
                refine c_region ?_
                refine s_cmp H wn rfl rfl rfl rfl ?_; clear H; intro a H
                refine wl_nil ?_
                refine hK22 _ _ ?_; clear hK22
                refine c_seq (fun _ hK23 => ?_)
                refine c_cond H rfl ?_ ?_
                · intro h56
                  try have p56 := of_decide_eq_true h56
                  have hk3 : rk < l[k].rows.length := by omega
                  obtain ⟨b2, o2, qA, qn, qc, eA, en, ec, zA, zn, zc, cA, cn, cc, rfl, hrow, hrh, hcl⟩ := row_get hk3 hrw.at_
                  replace hrow := fun j u hj => gcell_mono hgm3 (hrow j u hj)
                  have hcn := hcl.len; rw [List.length_map] at hcn; subst hcn
                  have hsz2 := zRows_get hk3
                  have hcs := zCells_length l[k].rows[rk].cells
                  rw [List.drop_eq_getElem_cons hk3] at hnow3
                  simp only [vRows, vRow_eq, List.append_assoc] at hnow3
                  refine c_skip ?_
                  refine hK23 _ _ ?_; clear hK23
                  refine c_seq (fun _ hK24 => ?_)
                  refine c_block ?_
                  refine c_seq (fun _ hK25 => ?_)
                  refine c_region ?_
                  refine s_index un45pos ty107pos _ H wn rfl rfl rfl (by first | assumption | omega) rfl ?_; clear H; intro a H
                  refine s_loada ty107pos (cs := [_, _, _, _, _, _]) H wn rfl rfl (fun j v hj => H.hp.gcell (hrow j v hj)) rfl ?_; clear H; intro a H
                  refine s_alloc ty107pos H wn rfl ?_; clear H; intro b13 a w hb13 H
                  refine s_store ty107pos 0 (vs := [_, _, _, _, _, _]) _ H wn rfl rfl rfl rfl rfl rfl rfl rfl ?_; clear H; intro w H; dsimp only [List.set, setRow] at H
                  refine wl_nil ?_
                  refine hK25 _ _ ?_; clear hK25
                  refine c_seq (fun _ hK26 => ?_)
                  refine c_region ?_
                  refine s_field fd107_1pos H wn rfl rfl ?_; clear H; intro a H
                  refine s_load ty105pos H wn rfl (H.hp.ocell 0 rfl rfl) rfl ?_; clear H; intro a H
                  refine s_len un105pos H wn rfl rfl ?_; clear H; intro a H
                  refine s_move H wn rfl rfl ?_; clear H; intro a H
                  refine wl_nil ?_
                  refine hK26 _ _ ?_; clear hK26
                  refine c_block ?_
                  skip
                  refine c_loopS (ι := Nat × Nat × OL × GH) (Tc := [(1, _), (2, _), (7, _), (16, _), (17, _), (18, _), (53, _), (54, _), (55, _), (60, _), (61, _)]) (Lc := [(_, _), (_, _)]) (fun (gh : Nat × Nat × OL × GH) => [(62, vi gh.1)]) (fun (gh : Nat × Nat × OL × GH) => [] ++ gh.2.2.1) (fun (gh : Nat × Nat × OL × GH) => gh.2.2.2) (fun (gh : Nat × Nat × OL × GH) => gh.1 ≤ l[k].rows[rk].cells.length ∧ (∀ b o, G b = some o → gh.2.2.2 b = some o) ∧ Now xs posP J (j0 + (vItems flow 0 l).length) gh.2.1 (vCells (l[k].rows[rk].cells.drop gh.1) ++ (vRows (l[k].rows.drop (rk + 1)) ++ vItems flow (at_ + n1 l[k]) (l.drop (k + 1)))) gh.2.2.2 gh.2.2.1) (fun (gh : Nat × Nat × OL × GH) => l[k].rows[rk].cells.length - gh.1) ((0, j3, Lt3, g3)) (by exact (H).sub ⟨rfl, rfl, rfl, rfl, rfl, rfl, rfl, rfl, rfl, rfl, rfl, rfl, trivial⟩) ?_ ?_
                  · exact ⟨by omega, hgm3, hnow3⟩
                  · clear H; intro gh a w hI H
                    obtain ⟨ck, j4, Lt4, g4⟩ := gh; dsimp only at hI H
                    obtain ⟨hck, hgm4, hnow4⟩ := hI
                    dsimp only [List.cons_append, List.nil_append, List.append_nil] at H
                    refine c_seq (fun _ hK27 => ?_)
                    refine c_region ?_
                    refine s_cmp H wn rfl rfl rfl rfl ?_; clear H; intro a H
                    refine wl_nil ?_
                    refine hK27 _ _ ?_; clear hK27
                    refine c_seq (fun _ hK28 => ?_)
                    refine c_cond H rfl ?_ ?_
                    · intro h63
                      try have p63 := of_decide_eq_true h63
                      have hk4 : ck < l[k].rows[rk].cells.length := by omega
                      obtain ⟨b3, o3, sA, sn, sc, tA, tn, tc, uA, un, uc, gA, gn, gc, rfl, hrow, hch, hcf⟩ := cell_get hk4 hcl.at_
                      replace hrow := fun j u hj => gcell_mono hgm4 (hrow j u hj)
                      have hsz3 := zCells_get hk4
                      rw [List.drop_eq_getElem_cons hk4] at hnow4
                      simp only [vCells, vCell_eq, List.append_assoc] at hnow4
                      refine c_skip ?_
                      refine hK28 _ _ ?_; clear hK28
                      refine c_seq (fun _ hK29 => ?_)
                      refine c_block ?_
                      refine c_seq (fun _ hK30 => ?_)
                      refine c_region ?_
                      refine s_index un105pos ty104pos _ H wn rfl rfl rfl (by first | assumption | omega) rfl ?_; clear H; intro a H
                      refine s_loada ty104pos (cs := [_, _, _, _, _, _, _]) H wn rfl rfl (fun j v hj => H.hp.gcell (hrow j v hj)) rfl ?_; clear H; intro a H
                      refine s_alloc ty104pos H wn rfl ?_; clear H; intro b15 a w hb15 H
                      refine s_store ty104pos 0 (vs := [_, _, _, _, _, _, _]) _ H wn rfl rfl rfl rfl rfl rfl rfl rfl ?_; clear H; intro w H; dsimp only [List.set, setRow] at H
                      refine wl_nil ?_
                      refine hK30 _ _ ?_; clear hK30
                      refine c_seq (fun _ hK31 => ?_)
                      refine c_region ?_
                      refine s_field fd104_2pos H wn rfl rfl ?_; clear H; intro a H
                      refine s_load ty28pos H wn rfl (H.hp.ocell 0 rfl rfl) rfl ?_; clear H; intro a H
                      refine s_field fd104_0pos H wn rfl rfl ?_; clear H; intro a H
                      refine s_load ty3pos H wn rfl (H.hp.ocell 0 rfl rfl) rfl ?_; clear H; intro a H
                      refine s_move H wn rfl rfl ?_; clear H; intro a H
                      refine s_callL en49pos (Li := [_, _, _]) (L := Lt4) H wn rfl (ih fv Gi xs J Jx _ _ _ j4 l[k].rows[rk].cells[ck].flow l[k].rows[rk].cells[ck].id _ (fun b o h => hgm4 b o (hGi b o h)) hcb hJm hJx hnow4.now (Hp.owns (Li := [_, _, _]) H.hp) (hcf.mono hgm4) (by omega) hnow4.part) rfl ?_; clear H
                      rintro v71 G71 Lt71 a w ⟨b71, rfl, hb5, hb6⟩ hm71 H
                      refine s_not H wn rfl rfl ?_; clear H; intro a H
                      refine wl_nil ?_
                      refine hK31 _ _ ?_; clear hK31
                      refine c_cond H rfl ?_ ?_
                      · intro h72
                        try have p72 := of_decide_eq_true h72
                        refine c_seq (fun _ hK32 => ?_)
                        refine c_region ?_
                        refine s_assign H wn rfl rfl ?_; clear H; intro a H
                        refine wl_nil ?_
                        refine hK32 _ _ ?_; clear hK32
                        refine c_ret ?_
                        refine (leave1 H Try.results49 (.cons (rv_tmp H rfl) .nil) ?_).1
                        first
                          | exact H.hp.retD (L' := Lt35) (by repeat (first | exact List.Sublist.refl _ | apply List.Sublist.cons)) ⟨_, rfl, fun e => (by cases e), fun _ => hb2 (by simpa using h36)⟩
                          | exact H.hp.retD (L' := Lt49) (by repeat (first | exact List.Sublist.refl _ | apply List.Sublist.cons)) ⟨_, rfl, fun e => (by cases e), fun _ => hb4 (by simpa using h51)⟩
                          | exact H.hp.retD (L' := Lt71) (by repeat (first | exact List.Sublist.refl _ | apply List.Sublist.cons)) ⟨_, rfl, fun e => (by cases e), fun _ => hb6 (by simpa using h72)⟩
                          | exact H.hp.retL ⟨_, rfl, fun e => (by have := hnow.len; simp only [List.length_singleton] at this; rw [← this]; exact hb7 e), hb8⟩
                      · intro h72
                        try have p72 := of_decide_eq_false h72
                        refine c_skip ?_
                        refine hK29 _ _ ?_; clear hK29
                        refine c_region ?_
                        refine s_add _ H wn rfl rfl rfl (by omega) (by omega) rfl ?_; clear H; intro a H
                        refine s_move H wn rfl rfl ?_; clear H; intro a H
                        refine wl_nil ?_
                        refine loop_end ((ck + 1, j4 + (vItems l[k].rows[rk].cells[ck].id 0 l[k].rows[rk].cells[ck].flow).length, Lt71, G71)) (by exact (H.pickT (Pl := [_, _, _]) (Pl' := [_, _]) [1, 2] (by decide) rfl).sub ⟨rfl, rfl, rfl, rfl, rfl, rfl, rfl, rfl, rfl, rfl, rfl, rfl, trivial⟩) ?_ ?_
                        · try dsimp only
                          exact ⟨by omega, fun b o h => hm71 b o (hgm4 b o h), hnow4.jump (hb5 (by simpa using h72))⟩
                        · first | omega | (dsimp only; omega)
                    · intro h63
                      try have p63 := of_decide_eq_false h63
                      refine c_exit ?_
                      refine hK24 _ _ ?_; clear hK24
                      refine c_region ?_
                      refine s_add _ H wn rfl rfl rfl (by omega) (by omega) rfl ?_; clear H; intro a H
                      refine s_move H wn rfl rfl ?_; clear H; intro a H
                      refine wl_nil ?_
                      refine loop_end ((rk + 1, j4, Lt4, g4)) (by exact (H.pickT (Pl := [_, _]) (Pl' := [_]) [1] (by decide) rfl).sub ⟨rfl, rfl, rfl, rfl, rfl, rfl, rfl, rfl, rfl, trivial⟩) ?_ ?_
                      · try dsimp only
                        exact ⟨by omega, hgm4, by rw [List.drop_of_length_le (by omega), vCells, List.nil_append] at hnow4; exact hnow4⟩
                      · first | omega | (dsimp only; omega)
                · intro h56
                  try have p56 := of_decide_eq_false h56
                  refine c_exit ?_
                  refine hK7 _ _ ?_; clear hK7
                  refine c_region ?_
                  refine s_add _ H wn rfl rfl rfl (by omega) (by omega) rfl ?_; clear H; intro a H
                  refine s_move H wn rfl rfl ?_; clear H; intro a H
                  refine wl_nil ?_
                  refine loop_end ((k + 1, at_ + n1 l[k], j3, Lt3, g3)) (by exact (H.pickT (Pl := [_]) (Pl' := []) [] (by decide) rfl).sub ⟨rfl, rfl, rfl, rfl, rfl, rfl, trivial⟩) ?_ ?_
                  · try dsimp only
                    exact ⟨by omega, hgm3, by rw [List.drop_of_length_le (by omega), vRows, List.nil_append] at hnow3; exact hnow3, by show at_ + n1 l[k] + szRs ((l.drop (k + 1)).map ItemD.dat) ≤ n; omega⟩
                  · first | omega | (dsimp only; omega)
          · intro h43
            try have p43 := of_decide_eq_false h43
            rw [if_neg p43, List.nil_append] at hnow1
            obtain ⟨Lt49, hren⟩ : ∃ x, x = Lt1 := ⟨_, rfl⟩; subst hren
            obtain ⟨G49, hren⟩ : ∃ x, x = g1 := ⟨_, rfl⟩; subst hren
            obtain ⟨j49, hren⟩ : ∃ x, x = j1 := ⟨_, rfl⟩; subst hren
            have hgm2 := hgm1; have hnow2 := hnow1; clear hgm1 hnow1
            refine s_skip H rfl rfl h43 rfl ?_; clear H; intro a H
            refine s_skip H rfl rfl h43 rfl ?_; clear H; intro a H
            refine s_skip H rfl rfl h43 rfl ?_; clear H; intro a H
            refine s_skip H rfl rfl h43 rfl ?_; clear H; intro a H
            refine s_skip H rfl rfl h43 rfl ?_; clear H; intro a H
            refine s_skip H rfl rfl h43 rfl ?_; clear H; intro a H
            refine s_skip H rfl rfl h43 rfl ?_; clear H; intro a H
            refine s_pick_f H wn rfl h43 rfl rfl ?_; clear H; intro a H
            refine wl_nil ?_
            refine hK19 _ _ ?_; clear hK19
            refine c_cond_f H rfl rfl ?_
            refine c_skip ?_
            refine hK18 _ _ ?_; clear hK18
            refine c_seq (fun _ hK33 => ?_)
            refine c_region ?_
            refine s_field fd47_6pos H wn rfl rfl ?_; clear H; intro a H
            refine s_load ty45pos H wn rfl (H.hp.ocell 0 rfl rfl) rfl ?_; clear H; intro a H
            refine s_len un45pos H wn rfl rfl ?_; clear H; intro a H
            refine s_move H wn rfl rfl ?_; clear H; intro a H
            refine wl_nil ?_
            refine hK33 _ _ ?_; clear hK33
            refine c_block ?_
            skip
            refine c_loopS (ι := Nat × Nat × OL × GH) (Tc := [(1, _), (2, _), (7, _), (16, _), (17, _), (18, _), (53, _), (54, _)]) (Lc := [(_, _)]) (fun (gh : Nat × Nat × OL × GH) => [(55, vi gh.1)]) (fun (gh : Nat × Nat × OL × GH) => [] ++ gh.2.2.1) (fun (gh : Nat × Nat × OL × GH) => gh.2.2.2) (fun (gh : Nat × Nat × OL × GH) => gh.1 ≤ l[k].rows.length ∧ (∀ b o, G b = some o → gh.2.2.2 b = some o) ∧ Now xs posP J (j0 + (vItems flow 0 l).length) gh.2.1 (vRows (l[k].rows.drop gh.1) ++ vItems flow (at_ + n1 l[k]) (l.drop (k + 1))) gh.2.2.2 gh.2.2.1) (fun (gh : Nat × Nat × OL × GH) => l[k].rows.length - gh.1) ((0, j49, Lt49, G49)) (by exact (H).sub ⟨rfl, rfl, rfl, rfl, rfl, rfl, rfl, rfl, rfl, trivial⟩) ?_ ?_
            · exact ⟨by omega, hgm2, hnow2⟩
            · clear H; intro gh a w hI H
              obtain ⟨rk, j3, Lt3, g3⟩ := gh; dsimp only at hI H
              obtain ⟨hrk, hgm3, hnow3⟩ := hI
              dsimp only [List.cons_append, List.nil_append, List.append_nil] at H
              refine c_seq (fun _ hK34 => ?_)
              refine c_region ?_
              refine s_cmp H wn rfl rfl rfl rfl ?_; clear H; intro a H
              refine wl_nil ?_
              refine hK34 _ _ ?_; clear hK34
              refine c_seq (fun _ hK35 => ?_)
              refine c_cond H rfl ?_ ?_
              · intro h56
                try have p56 := of_decide_eq_true h56
                have hk3 : rk < l[k].rows.length := by omega
                obtain ⟨b2, o2, qA, qn, qc, eA, en, ec, zA, zn, zc, cA, cn, cc, rfl, hrow, hrh, hcl⟩ := row_get hk3 hrw.at_
                replace hrow := fun j u hj => gcell_mono hgm3 (hrow j u hj)
                have hcn := hcl.len; rw [List.length_map] at hcn; subst hcn
                have hsz2 := zRows_get hk3
                have hcs := zCells_length l[k].rows[rk].cells
                rw [List.drop_eq_getElem_cons hk3] at hnow3
                simp only [vRows, vRow_eq, List.append_assoc] at hnow3
                refine c_skip ?_
                refine hK35 _ _ ?_; clear hK35
                refine c_seq (fun _ hK36 => ?_)
                refine c_block ?_
                refine c_seq (fun _ hK37 => ?_)
                refine c_region ?_
                refine s_index un45pos ty107pos _ H wn rfl rfl rfl (by first | assumption | omega) rfl ?_; clear H; intro a H
                refine s_loada ty107pos (cs := [_, _, _, _, _, _]) H wn rfl rfl (fun j v hj => H.hp.gcell (hrow j v hj)) rfl ?_; clear H; intro a H
                refine s_alloc ty107pos H wn rfl ?_; clear H; intro b13 a w hb13 H
                refine s_store ty107pos 0 (vs := [_, _, _, _, _, _]) _ H wn rfl rfl rfl rfl rfl rfl rfl rfl ?_; clear H; intro w H; dsimp only [List.set, setRow] at H
                refine wl_nil ?_
                refine hK37 _ _ ?_; clear hK37
                refine c_seq (fun _ hK38 => ?_)
                refine c_region ?_
                refine s_field fd107_1pos H wn rfl rfl ?_; clear H; intro a H
                refine s_load ty105pos H wn rfl (H.hp.ocell 0 rfl rfl) rfl ?_; clear H; intro a H
                refine s_len un105pos H wn rfl rfl ?_; clear H; intro a H
                refine s_move H wn rfl rfl ?_; clear H; intro a H
                refine wl_nil ?_
                refine hK38 _ _ ?_; clear hK38
                refine c_block ?_
                skip
                refine c_loopS (ι := Nat × Nat × OL × GH) (Tc := [(1, _), (2, _), (7, _), (16, _), (17, _), (18, _), (53, _), (54, _), (55, _), (60, _), (61, _)]) (Lc := [(_, _), (_, _)]) (fun (gh : Nat × Nat × OL × GH) => [(62, vi gh.1)]) (fun (gh : Nat × Nat × OL × GH) => [] ++ gh.2.2.1) (fun (gh : Nat × Nat × OL × GH) => gh.2.2.2) (fun (gh : Nat × Nat × OL × GH) => gh.1 ≤ l[k].rows[rk].cells.length ∧ (∀ b o, G b = some o → gh.2.2.2 b = some o) ∧ Now xs posP J (j0 + (vItems flow 0 l).length) gh.2.1 (vCells (l[k].rows[rk].cells.drop gh.1) ++ (vRows (l[k].rows.drop (rk + 1)) ++ vItems flow (at_ + n1 l[k]) (l.drop (k + 1)))) gh.2.2.2 gh.2.2.1) (fun (gh : Nat × Nat × OL × GH) => l[k].rows[rk].cells.length - gh.1) ((0, j3, Lt3, g3)) (by exact (H).sub ⟨rfl, rfl, rfl, rfl, rfl, rfl, rfl, rfl, rfl, rfl, rfl, rfl, trivial⟩) ?_ ?_
                · exact ⟨by omega, hgm3, hnow3⟩
                · clear H; intro gh a w hI H
                  obtain ⟨ck, j4, Lt4, g4⟩ := gh; dsimp only at hI H
                  obtain ⟨hck, hgm4, hnow4⟩ := hI
                  dsimp only [List.cons_append, List.nil_append, List.append_nil] at H
                  refine c_seq (fun _ hK39 => ?_)
                  refine c_region ?_
                  refine s_cmp H wn rfl rfl rfl rfl ?_; clear H; intro a H
                  refine wl_nil ?_
                  refine hK39 _ _ ?_; clear hK39
                  refine c_seq (fun _ hK40 => ?_)
                  refine c_cond H rfl ?_ ?_
                  · intro h63
                    try have p63 := of_decide_eq_true h63
                    have hk4 : ck < l[k].rows[rk].cells.length := by omega
                    obtain ⟨b3, o3, sA, sn, sc, tA, tn, tc, uA, un, uc, gA, gn, gc, rfl, hrow, hch, hcf⟩ := cell_get hk4 hcl.at_
                    replace hrow := fun j u hj => gcell_mono hgm4 (hrow j u hj)
                    have hsz3 := zCells_get hk4
                    rw [List.drop_eq_getElem_cons hk4] at hnow4
                    simp only [vCells, vCell_eq, List.append_assoc] at hnow4
                    refine c_skip ?_
                    refine hK40 _ _ ?_; clear hK40
                    refine c_seq (fun _ hK41 => ?_)
                    refine c_block ?_
                    refine c_seq (fun _ hK42 => ?_)
                    refine c_region ?_
                    refine s_index un105pos ty104pos _ H wn rfl rfl rfl (by first | assumption | omega) rfl ?_; clear H; intro a H
                    refine s_loada ty104pos (cs := [_, _, _, _, _, _, _]) H wn rfl rfl (fun j v hj => H.hp.gcell (hrow j v hj)) rfl ?_; clear H; intro a H
                    refine s_alloc ty104pos H wn rfl ?_; clear H; intro b15 a w hb15 H
                    refine s_store ty104pos 0 (vs := [_, _, _, _, _, _, _]) _ H wn rfl rfl rfl rfl rfl rfl rfl rfl ?_; clear H; intro w H; dsimp only [List.set, setRow] at H
                    refine wl_nil ?_
                    refine hK42 _ _ ?_; clear hK42
                    refine c_seq (fun _ hK43 => ?_)
                    refine c_region ?_
                    refine s_field fd104_2pos H wn rfl rfl ?_; clear H; intro a H
                    refine s_load ty28pos H wn rfl (H.hp.ocell 0 rfl rfl) rfl ?_; clear H; intro a H
                    refine s_field fd104_0pos H wn rfl rfl ?_; clear H; intro a H
                    refine s_load ty3pos H wn rfl (H.hp.ocell 0 rfl rfl) rfl ?_; clear H; intro a H
                    refine s_move H wn rfl rfl ?_; clear H; intro a H
                    refine s_callL en49pos (Li := [_, _, _]) (L := Lt4) H wn rfl (ih fv Gi xs J Jx _ _ _ j4 l[k].rows[rk].cells[ck].flow l[k].rows[rk].cells[ck].id _ (fun b o h => hgm4 b o (hGi b o h)) hcb hJm hJx hnow4.now (Hp.owns (Li := [_, _, _]) H.hp) (hcf.mono hgm4) (by omega) hnow4.part) rfl ?_; clear H
                    rintro v71 G71 Lt71 a w ⟨b71, rfl, hb5, hb6⟩ hm71 H
                    refine s_not H wn rfl rfl ?_; clear H; intro a H
                    refine wl_nil ?_
                    refine hK43 _ _ ?_; clear hK43
                    refine c_cond H rfl ?_ ?_
                    · intro h72
                      try have p72 := of_decide_eq_true h72
                      refine c_seq (fun _ hK44 => ?_)
                      refine c_region ?_
                      refine s_assign H wn rfl rfl ?_; clear H; intro a H
                      refine wl_nil ?_
                      refine hK44 _ _ ?_; clear hK44
                      refine c_ret ?_
                      refine (leave1 H Try.results49 (.cons (rv_tmp H rfl) .nil) ?_).1
                      first
                        | exact H.hp.retD (L' := Lt35) (by repeat (first | exact List.Sublist.refl _ | apply List.Sublist.cons)) ⟨_, rfl, fun e => (by cases e), fun _ => hb2 (by simpa using h36)⟩
                        | exact H.hp.retD (L' := Lt49) (by repeat (first | exact List.Sublist.refl _ | apply List.Sublist.cons)) ⟨_, rfl, fun e => (by cases e), fun _ => hb4 (by simpa using h51)⟩
                        | exact H.hp.retD (L' := Lt71) (by repeat (first | exact List.Sublist.refl _ | apply List.Sublist.cons)) ⟨_, rfl, fun e => (by cases e), fun _ => hb6 (by simpa using h72)⟩
                        | exact H.hp.retL ⟨_, rfl, fun e => (by have := hnow.len; simp only [List.length_singleton] at this; rw [← this]; exact hb7 e), hb8⟩
                    · intro h72
                      try have p72 := of_decide_eq_false h72
                      refine c_skip ?_
                      refine hK41 _ _ ?_; clear hK41
                      refine c_region ?_
                      refine s_add _ H wn rfl rfl rfl (by omega) (by omega) rfl ?_; clear H; intro a H
                      refine s_move H wn rfl rfl ?_; clear H; intro a H
                      refine wl_nil ?_
                      refine loop_end ((ck + 1, j4 + (vItems l[k].rows[rk].cells[ck].id 0 l[k].rows[rk].cells[ck].flow).length, Lt71, G71)) (by exact (H.pickT (Pl := [_, _, _]) (Pl' := [_, _]) [1, 2] (by decide) rfl).sub ⟨rfl, rfl, rfl, rfl, rfl, rfl, rfl, rfl, rfl, rfl, rfl, rfl, trivial⟩) ?_ ?_
                      · try dsimp only
                        exact ⟨by omega, fun b o h => hm71 b o (hgm4 b o h), hnow4.jump (hb5 (by simpa using h72))⟩
                      · first | omega | (dsimp only; omega)
                  · intro h63
                    try have p63 := of_decide_eq_false h63
                    refine c_exit ?_
                    refine hK36 _ _ ?_; clear hK36
                    refine c_region ?_
                    refine s_add _ H wn rfl rfl rfl (by omega) (by omega) rfl ?_; clear H; intro a H
                    refine s_move H wn rfl rfl ?_; clear H; intro a H
                    refine wl_nil ?_
                    refine loop_end ((rk + 1, j4, Lt4, g4)) (by exact (H.pickT (Pl := [_, _]) (Pl' := [_]) [1] (by decide) rfl).sub ⟨rfl, rfl, rfl, rfl, rfl, rfl, rfl, rfl, rfl, trivial⟩) ?_ ?_
                    · try dsimp only
                      exact ⟨by omega, hgm4, by rw [List.drop_of_length_le (by omega), vCells, List.nil_append] at hnow4; exact hnow4⟩
                    · first | omega | (dsimp only; omega)
              · intro h56
                try have p56 := of_decide_eq_false h56
                refine c_exit ?_
                refine hK7 _ _ ?_; clear hK7
                refine c_region ?_
                refine s_add _ H wn rfl rfl rfl (by omega) (by omega) rfl ?_; clear H; intro a H
                refine s_move H wn rfl rfl ?_; clear H; intro a H
                refine wl_nil ?_
                refine loop_end ((k + 1, at_ + n1 l[k], j3, Lt3, g3)) (by exact (H.pickT (Pl := [_]) (Pl' := []) [] (by decide) rfl).sub ⟨rfl, rfl, rfl, rfl, rfl, rfl, trivial⟩) ?_ ?_
                · try dsimp only
                  exact ⟨by omega, hgm3, by rw [List.drop_of_length_le (by omega), vRows, List.nil_append] at hnow3; exact hnow3, by show at_ + n1 l[k] + szRs ((l.drop (k + 1)).map ItemD.dat) ≤ n; omega⟩
                · first | omega | (dsimp only; omega)
    · intro h19
      try have p19 := of_decide_eq_false h19
      refine c_exit ?_
      refine hK3 _ _ ?_; clear hK3
      refine c_seq (fun _ hK45 => ?_)
      rw [List.drop_of_length_le (by omega), vItems] at hnow
      refine c_region ?_
      refine s_move H wn rfl rfl ?_; clear H; intro a H
      refine s_move H wn rfl rfl ?_; clear H; intro a H
      refine s_move H wn rfl rfl ?_; clear H; intro a H
      refine s_build sr66pos [_, _] H wn rfl rfl rfl rfl ?_; clear H; intro a H
      refine s_callv (Li := []) (L := Lt) H wn rfl rfl (hcb _ _ _ _ _ ⟨_, hnow.head, rfl⟩ (fun b o h => hgm b o (hGi b o h)) hnow.now (Hp.owns (Li := []) H.hp)) rfl ?_; clear H
      rintro v80 G80 Lt80 a w ⟨b80, rfl, hb7, hb8⟩ hm80 H
      refine s_assign H wn rfl rfl ?_; clear H; intro a H
      refine wl_nil ?_
      refine hK45 _ _ ?_; clear hK45
      refine c_ret ?_
      refine (leave1 H Try.results49 (.cons (rv_tmp H rfl) .nil) ?_).1
      first
        | exact H.hp.retD (L' := Lt35) (by repeat (first | exact List.Sublist.refl _ | apply List.Sublist.cons)) ⟨_, rfl, fun e => (by cases e), fun _ => hb2 (by simpa using h36)⟩
        | exact H.hp.retD (L' := Lt49) (by repeat (first | exact List.Sublist.refl _ | apply List.Sublist.cons)) ⟨_, rfl, fun e => (by cases e), fun _ => hb4 (by simpa using h51)⟩
        | exact H.hp.retD (L' := Lt71) (by repeat (first | exact List.Sublist.refl _ | apply List.Sublist.cons)) ⟨_, rfl, fun e => (by cases e), fun _ => hb6 (by simpa using h72)⟩
        | exact H.hp.retL ⟨_, rfl, fun e => (by have := hnow.len; simp only [List.length_singleton] at this; rw [← this]; exact hb7 e), hb8⟩
end Go.Proofs.Ytbfdhlakbdadhaa
