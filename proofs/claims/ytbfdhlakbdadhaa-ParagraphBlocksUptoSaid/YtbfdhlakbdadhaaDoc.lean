/-
  Package document: the flows of a document.
-/
import Derived.Test.YtbfdhlakbdadhaaPq
namespace Go.Proofs.Ytbfdhlakbdadhaa
open Go.RowKit
theorem en82doc : ∀ args w, (callFunc 82 args).run Try.prog w = .ok (.enter 82 args) w := enters Try.func82 rfl (by kernel_rfl)
theorem ty127doc : Ty Try.prog 127 3 16 [.bool false, .bool false, .int .i64 0] true := ⟨by kernel_rfl, by kernel_rfl⟩
theorem sr129doc : Srt Try.prog 129 [(0, 1), (1, 3)] [.slice none 0 0, .bool false, .bool false, .int .i64 0] := ⟨by kernel_rfl, by kernel_rfl⟩
theorem un28doc : Try.prog.underlying 28 = some (.slice 47) := by kernel_rfl
theorem ty47doc : Ty Try.prog 47 11 176 [.int .i64 0, .int .i64 0, .int .i64 0, .string ⟨#[]⟩, .slice none 0 0, .int .i64 0, .int .i64 0, .slice none 0 0, .slice none 0 0, .slice none 0 0, .slice none 0 0] true := ⟨by kernel_rfl, by kernel_rfl⟩
theorem fd47_0doc : Fld Try.prog 47 0 0 := ⟨by kernel_rfl⟩
theorem ty3doc : Ty Try.prog 3 1 8 [.int .i64 0] false := ⟨by kernel_rfl, by kernel_rfl⟩
theorem fd47_2doc : Fld Try.prog 47 2 2 := ⟨by kernel_rfl⟩
theorem fd47_5doc : Fld Try.prog 47 5 9 := ⟨by kernel_rfl⟩
theorem ty28doc : Ty Try.prog 28 1 24 [.slice none 0 0] false := ⟨by kernel_rfl, by kernel_rfl⟩
theorem fd127_2doc : Fld Try.prog 127 2 2 := ⟨by kernel_rfl⟩
theorem sr127doc : Srt Try.prog 127 [(0, 1), (1, 1), (2, 1)] [.bool false, .bool false, .int .i64 0] := ⟨by kernel_rfl, by kernel_rfl⟩
theorem fd47_6doc : Fld Try.prog 47 6 10 := ⟨by kernel_rfl⟩
theorem ty45doc : Ty Try.prog 45 1 24 [.slice none 0 0] false := ⟨by kernel_rfl, by kernel_rfl⟩
theorem un45doc : Try.prog.underlying 45 = some (.slice 107) := by kernel_rfl
theorem ty107doc : Ty Try.prog 107 6 112 [.slice none 0 0, .int .i64 0, .int .i64 0, .slice none 0 0, .slice none 0 0, .slice none 0 0] true := ⟨by kernel_rfl, by kernel_rfl⟩
theorem fd107_1doc : Fld Try.prog 107 1 5 := ⟨by kernel_rfl⟩
theorem ty105doc : Ty Try.prog 105 1 24 [.slice none 0 0] false := ⟨by kernel_rfl, by kernel_rfl⟩
theorem un105doc : Try.prog.underlying 105 = some (.slice 104) := by kernel_rfl
theorem ty104doc : Ty Try.prog 104 7 120 [.int .i64 0, .slice none 0 0, .int .i64 0, .int .i64 0, .slice none 0 0, .slice none 0 0, .slice none 0 0] true := ⟨by kernel_rfl, by kernel_rfl⟩
theorem fd104_0doc : Fld Try.prog 104 0 0 := ⟨by kernel_rfl⟩
theorem fd104_2doc : Fld Try.prog 104 2 6 := ⟨by kernel_rfl⟩
theorem fd127_1doc : Fld Try.prog 127 1 1 := ⟨by kernel_rfl⟩
theorem ty4doc : Ty Try.prog 4 1 1 [.bool false] false := ⟨by kernel_rfl, by kernel_rfl⟩
theorem fd62_0doc : Fld Try.prog 62 0 0 := ⟨by kernel_rfl⟩
theorem en65doc : ∀ args w, (callFunc 65 args).run Try.prog w = .ok (.enter 65 args) w := enters Try.func65 rfl (by kernel_rfl)
theorem en81doc : ∀ args w, (callFunc 81 args).run Try.prog w = .ok (.enter 81 args) w := enters Try.func81 rfl (by kernel_rfl)
/-- A flow and its place. -/
structure FlowD where
  id : Int
  items : List ItemD
  body : Bool
  note : Bool
  tables : Int
mutual
def wItem (note : Bool) (t : Int) : ItemD → List FlowD
  | .mk k _ i _ _ f r => if k = 6 then ⟨i, f, false, true, t⟩ :: wItems true t f else if k = 7 then wRows note t r else []
def wItems (note : Bool) (t : Int) : List ItemD → List FlowD
  | [] => []
  | x :: l => wItem note t x ++ wItems note t l
def wRows (note : Bool) (t : Int) : List RowD → List FlowD
  | [] => []
  | r :: l => wRow note t r ++ wRows note t l
def wRow (note : Bool) (t : Int) : RowD → List FlowD
  | .mk _ cs => wCells note t cs
def wCells (note : Bool) (t : Int) : List CellD → List FlowD
  | [] => []
  | c :: l => wCell note t c ++ wCells note t l
def wCell (note : Bool) (t : Int) : CellD → List FlowD
  | .mk i _ f => ⟨i, f, false, note, t + 1⟩ :: wItems note (t + 1) f
end
theorem wItem_eq (note : Bool) (t : Int) (x : ItemD) : wItem note t x = if x.kind = 6 then ⟨x.id, x.flow, false, true, t⟩ :: wItems true t x.flow else if x.kind = 7 then wRows note t x.rows else [] := by cases x; rw [wItem]; rfl
theorem wRow_eq (note : Bool) (t : Int) (x : RowD) : wRow note t x = wCells note t x.cells := by cases x; rw [wRow]; rfl
theorem wCell_eq (note : Bool) (t : Int) (x : CellD) : wCell note t x = ⟨x.id, x.flow, false, note, t + 1⟩ :: wItems note (t + 1) x.flow := by cases x; rw [wCell]; rfl
/-- What is called at a flow. -/
def flP (a : FlowD) : AP := fun args g => ∃ v, args = [vi a.id, .agg #[v, .bool a.body, .bool a.note, vi a.tables]] ∧ RepV g (.sl 11 (a.items.map ItemD.dat)) v
def WalkOk (n : Nat) : Prop := ∀ (fv : Value) (Gi : GH) (xs : List AP) (J : Nat → GH → OL → Prop) (Jx : GH → OL → Prop) (G : GH) (L : OL) (w0 : World) (j : Nat) (l : List ItemD) (id : Int) (body note : Bool) (t : Int) (v : Value),
  (∀ b o, Gi b = some o → G b = some o) → Cback Try.prog fv Gi xs J Jx → JMono J → XMono Jx → J j G L → Owns G L w0 → RepV G (.sl 11 (l.map ItemD.dat)) v → zItems l < n → 0 ≤ t → t + zItems l ≤ 4294967296 → (∀ i a, (⟨id, l, body, note, t⟩ :: wItems note t l)[i]? = some a → xs[j + i]? = some (flP a)) →
  Calls Try.prog 82 #[vi id, v, .agg #[.bool body, .bool note, vi t], fv] w0 (RetL w0 G L fun u G' L' => ∃ b, u = .bool b ∧ (b = true → J (j + ((wItems note t l).length + 1)) G' L') ∧ (b = false → Jx G' L'))
set_option maxHeartbeats 1000000 in
theorem walk_step {n : Nat} (ih : WalkOk n) (hn : n ≤ 4294967296) : WalkOk (n + 1) := by
  intro fv Gi xs J Jx G L w0 j0 l id body note t v hGi hcb hJm hJx hJ0 hO hv hz ht0 ht1 hx0
  obtain ⟨A, c, rfl, hc1, hc2, hg⟩ := hv.slice
  rw [List.length_map] at *
  have hll := zItems_length l
  have hnow0 : Now xs flP J (j0 + ((wItems note t l).length + 1)) j0 (⟨id, l, body, note, t⟩ :: wItems note t l) G L := ⟨hJ0, hx0, rfl⟩
  refine enterL (N := 74) (T := [(0, _), (1, _), (2, _), (3, _)]) Try.func82 rfl Try.ntmps82 rfl rfl hO ?_
  intro a H
  refine c_seq (fun _ hK1 => ?_)
  refine c_region ?_
  refine s_box (cs := [_, _, _]) H wn rfl rfl rfl ?_; clear H; intro b6 a w hb6 H
  refine s_assign H wn rfl rfl ?_; clear H; intro a H
  refine wl_nil ?_
  refine hK1 _ _ ?_; clear hK1
  refine c_seq (fun _ hK2 => ?_)
  refine c_seq (fun _ hK3 => ?_)
  refine c_region ?_
  refine s_move H wn rfl rfl ?_; clear H; intro a H
  refine s_move H wn rfl rfl ?_; clear H; intro a H
  refine s_move H wn rfl rfl ?_; clear H; intro a H
  refine s_loada ty127doc (cs := [_, _, _]) H wn rfl rfl (H.hp.ocells 0 rfl rfl) rfl ?_; clear H; intro a H
  refine s_build sr129doc [_, _, _, _] H wn rfl rfl rfl rfl ?_; clear H; intro a H
  refine s_callv (Li := [_]) (L := L) H wn rfl rfl (hcb _ _ _ _ _ ⟨_, hnow0.head, _, rfl, hv⟩ hGi hnow0.now (Hp.owns (Li := [_]) H.hp)) rfl ?_; clear H
  rintro v20 G20 Lt20 a w ⟨b20, rfl, hb1, hb2⟩ hm20 H
  refine s_not H wn rfl rfl ?_; clear H; intro a H
  refine wl_nil ?_
  refine hK3 _ _ ?_; clear hK3
  refine c_cond H rfl ?_ ?_
  · intro h21
    try have p21 := of_decide_eq_true h21
    refine c_seq (fun _ hK4 => ?_)
    refine c_region ?_
    refine s_assign H wn rfl rfl ?_; clear H; intro a H
    refine wl_nil ?_
    refine hK4 _ _ ?_; clear hK4
    refine c_ret ?_
    refine (leave1 H Try.results82 (.cons (rv_tmp H rfl) .nil) ?_).1
    first
      | exact H.hp.retD (L' := Lt20) (by repeat (first | exact List.Sublist.refl _ | apply List.Sublist.cons)) ⟨_, rfl, fun e => (by cases e), fun _ => hb2 (by simpa using h21)⟩
      | exact H.hp.retD (L' := Lt40) (by repeat (first | exact List.Sublist.refl _ | apply List.Sublist.cons)) ⟨_, rfl, fun e => (by cases e), fun _ => hb4 (by simpa using h41)⟩
      | exact H.hp.retD (L' := Lt69) (by repeat (first | exact List.Sublist.refl _ | apply List.Sublist.cons)) ⟨_, rfl, fun e => (by cases e), fun _ => hb6 (by simpa using h70)⟩
      | exact H.hp.retD (L' := Lt) (by repeat (first | exact List.Sublist.refl _ | apply List.Sublist.cons)) ⟨_, rfl, fun _ => (by rw [List.drop_of_length_le (by omega), wItems] at hnow; have := hnow.len; simp only [List.length_nil, Nat.add_zero] at this; rw [← this]; exact hnow.now), fun e => (by cases e)⟩
  · intro h21
    try have p21 := of_decide_eq_false h21
    refine c_skip ?_
    refine hK2 _ _ ?_; clear hK2
    refine c_seq (fun _ hK5 => ?_)
    refine c_seq (fun _ hK6 => ?_)
    refine c_region ?_
    refine s_move H wn rfl rfl ?_; clear H; intro a H
    refine s_len un28doc H wn rfl rfl ?_; clear H; intro a H
    refine s_move H wn rfl rfl ?_; clear H; intro a H
    refine wl_nil ?_
    refine hK6 _ _ ?_; clear hK6
    refine c_block ?_
    skip
    refine c_loopS (ι := Nat × Nat × OL × GH) (Tc := [(3, _), (6, _), (22, _), (23, _)]) (Lc := [(_, _)]) (fun (gh : Nat × Nat × OL × GH) => [(24, vi gh.1)]) (fun (gh : Nat × Nat × OL × GH) => [] ++ gh.2.2.1) (fun (gh : Nat × Nat × OL × GH) => gh.2.2.2) (fun (gh : Nat × Nat × OL × GH) => gh.1 ≤ l.length ∧ (∀ b o, G b = some o → gh.2.2.2 b = some o) ∧ Now xs flP J (j0 + ((wItems note t l).length + 1)) gh.2.1 (wItems note t (l.drop gh.1)) gh.2.2.2 gh.2.2.1) (fun (gh : Nat × Nat × OL × GH) => l.length - gh.1) ((0, j0 + 1, Lt20, G20)) (by exact (H).sub ⟨rfl, rfl, rfl, rfl, rfl, trivial⟩) ?_ ?_
    · exact ⟨by omega, hm20, hnow0.step (hb1 (by simpa using h21))⟩
    · clear H; intro gh a w hI H
      obtain ⟨k, j1, Lt, g⟩ := gh; dsimp only at hI H
      obtain ⟨hk, hgm, hnow⟩ := hI
      dsimp only [List.cons_append, List.nil_append, List.append_nil] at H
      refine c_seq (fun _ hK7 => ?_)
      refine c_region ?_
      refine s_cmp H wn rfl rfl rfl rfl ?_; clear H; intro a H
      refine wl_nil ?_
      refine hK7 _ _ ?_; clear hK7
      refine c_seq (fun _ hK8 => ?_)
      refine c_cond H rfl ?_ ?_
      · intro h25
        try have p25 := of_decide_eq_true h25
        have hk2 : k < l.length := by omega
        obtain ⟨b, o, pA, pn, pc, dA, dn, dc, yA, yn, yc, fA, fn, fc, rA, rn, rc, rfl, hrow, hhd, hfl, hrw⟩ := flow_get hk2 hg
        replace hrow := fun j u hj => gcell_mono hgm (hrow j u hj)
        have hrn := hrw.len; rw [List.length_map] at hrn; subst hrn
        have hrs := zRows_length l[k].rows
        have hsz1 := zItems_get hk2
        rw [List.drop_eq_getElem_cons hk2] at hnow
        simp only [wItems, wItem_eq] at hnow
        refine c_skip ?_
        refine hK8 _ _ ?_; clear hK8
        refine c_seq (fun _ hK9 => ?_)
        refine c_block ?_
        refine c_seq (fun _ hK10 => ?_)
        refine c_region ?_
        refine s_index un28doc ty47doc _ H wn rfl rfl rfl (by first | assumption | omega) rfl ?_; clear H; intro a H
        refine s_loada ty47doc (cs := [_, _, _, _, _, _, _, _, _, _, _]) H wn rfl rfl (fun j v hj => H.hp.gcell (hrow j v hj)) rfl ?_; clear H; intro a H
        refine s_alloc ty47doc H wn rfl ?_; clear H; intro b10 a w hb10 H
        refine s_store ty47doc 0 (vs := [_, _, _, _, _, _, _, _, _, _, _]) _ H wn rfl rfl rfl rfl rfl rfl rfl rfl ?_; clear H; intro w H; dsimp only [List.set, setRow] at H
        refine wl_nil ?_
        refine hK10 _ _ ?_; clear hK10
        refine c_seq (fun _ hK11 => ?_)
        refine c_region ?_
        refine s_field fd47_0doc H wn rfl rfl ?_; clear H; intro a H
        refine s_load ty3doc H wn rfl (H.hp.ocell 0 rfl rfl) rfl ?_; clear H; intro a H
        refine wl_nil ?_
        refine hK11 _ _ ?_; clear hK11
        refine c_block ?_
        refine c_seq (fun _ hK12 => ?_)
        refine c_region ?_
        refine s_cmp H wn rfl rfl rfl rfl ?_; clear H; intro a H
        refine s_assign H wn rfl rfl ?_; clear H; intro a H
        refine wl_nil ?_
        refine hK12 _ _ ?_; clear hK12
        refine c_cond H rfl ?_ ?_
        · intro h30
          try have p30 := of_decide_eq_true h30
          rw [if_pos p30] at hnow
          refine c_seq (fun _ hK13 => ?_)
          refine c_region ?_
          refine s_field fd47_2doc H wn rfl rfl ?_; clear H; intro a H
          refine s_load ty3doc H wn rfl (H.hp.ocell 0 rfl rfl) rfl ?_; clear H; intro a H
          refine s_field fd47_5doc H wn rfl rfl ?_; clear H; intro a H
          refine s_load ty28doc H wn rfl (H.hp.ocell 0 rfl rfl) rfl ?_; clear H; intro a H
          refine s_field fd127_2doc H wn rfl rfl ?_; clear H; intro a H
          refine s_load ty3doc H wn rfl (H.hp.ocell 1 rfl rfl) rfl ?_; clear H; intro a H
          refine s_build sr127doc [_, _, _] H wn rfl rfl rfl rfl ?_; clear H; intro a H
          refine s_move H wn rfl rfl ?_; clear H; intro a H
          refine s_callL en82doc (Li := [_, _]) (L := Lt) H wn rfl (ih fv Gi xs J Jx _ _ _ j1 l[k].flow l[k].id false true t _ (fun b o h => hgm b o (hGi b o h)) hcb hJm hJx hnow.now (Hp.owns (Li := [_, _]) H.hp) (hfl.mono hgm) (by omega) ht0 (by omega) hnow.part) rfl ?_; clear H
          rintro v40 G40 Lt40 a w ⟨b40, rfl, hb3, hb4⟩ hm40 H
          refine s_not H wn rfl rfl ?_; clear H; intro a H
          refine wl_nil ?_
          refine hK13 _ _ ?_; clear hK13
          refine c_cond H rfl ?_ ?_
          · intro h41
            try have p41 := of_decide_eq_true h41
            refine c_seq (fun _ hK14 => ?_)
            refine c_region ?_
            refine s_assign H wn rfl rfl ?_; clear H; intro a H
            refine wl_nil ?_
            refine hK14 _ _ ?_; clear hK14
            refine c_ret ?_
            refine (leave1 H Try.results82 (.cons (rv_tmp H rfl) .nil) ?_).1
            first
              | exact H.hp.retD (L' := Lt20) (by repeat (first | exact List.Sublist.refl _ | apply List.Sublist.cons)) ⟨_, rfl, fun e => (by cases e), fun _ => hb2 (by simpa using h21)⟩
              | exact H.hp.retD (L' := Lt40) (by repeat (first | exact List.Sublist.refl _ | apply List.Sublist.cons)) ⟨_, rfl, fun e => (by cases e), fun _ => hb4 (by simpa using h41)⟩
              | exact H.hp.retD (L' := Lt69) (by repeat (first | exact List.Sublist.refl _ | apply List.Sublist.cons)) ⟨_, rfl, fun e => (by cases e), fun _ => hb6 (by simpa using h70)⟩
              | exact H.hp.retD (L' := Lt) (by repeat (first | exact List.Sublist.refl _ | apply List.Sublist.cons)) ⟨_, rfl, fun _ => (by rw [List.drop_of_length_le (by omega), wItems] at hnow; have := hnow.len; simp only [List.length_nil, Nat.add_zero] at this; rw [← this]; exact hnow.now), fun e => (by cases e)⟩
          · intro h41
            try have p41 := of_decide_eq_false h41
            refine c_skip ?_
            refine hK9 _ _ ?_; clear hK9
            refine c_region ?_
            refine s_add _ H wn rfl rfl rfl (by omega) (by omega) rfl ?_; clear H; intro a H
            refine s_move H wn rfl rfl ?_; clear H; intro a H
            refine wl_nil ?_
            refine loop_end ((k + 1, j1 + ((wItems true t l[k].flow).length + 1), Lt40, G40)) (by exact (H.pickT (Pl := [_, _]) (Pl' := [_]) [1] (by decide) rfl).sub ⟨rfl, rfl, rfl, rfl, rfl, trivial⟩) ?_ ?_
            · try dsimp only
              exact ⟨by omega, fun b o h => hm40 b o (hgm b o h), hnow.jump (hb3 (by simpa using h41))⟩
            · first | omega | (dsimp only; omega)
        · intro h30
          try have p30 := of_decide_eq_false h30
          refine c_seq (fun _ hK15 => ?_)
          refine c_region ?_
          refine s_cmp H wn rfl rfl rfl rfl ?_; clear H; intro a H
          refine s_assign H wn rfl rfl ?_; clear H; intro a H
          refine wl_nil ?_
          refine hK15 _ _ ?_; clear hK15
          refine c_cond H rfl ?_ ?_
          · intro h42
            try have p42 := of_decide_eq_true h42
            rw [if_neg p30, if_pos p42] at hnow
            refine c_seq (fun _ hK16 => ?_)
            refine c_region ?_
            refine s_field fd47_6doc H wn rfl rfl ?_; clear H; intro a H
            refine s_load ty45doc H wn rfl (H.hp.ocell 0 rfl rfl) rfl ?_; clear H; intro a H
            refine s_len un45doc H wn rfl rfl ?_; clear H; intro a H
            refine s_move H wn rfl rfl ?_; clear H; intro a H
            refine wl_nil ?_
            refine hK16 _ _ ?_; clear hK16
            refine c_block ?_
            skip
            refine c_loopS (ι := Nat × Nat × OL × GH) (Tc := [(3, _), (6, _), (22, _), (23, _), (24, _), (45, _), (46, _)]) (Lc := [(_, _), (_, _)]) (fun (gh : Nat × Nat × OL × GH) => [(47, vi gh.1)]) (fun (gh : Nat × Nat × OL × GH) => [] ++ gh.2.2.1) (fun (gh : Nat × Nat × OL × GH) => gh.2.2.2) (fun (gh : Nat × Nat × OL × GH) => gh.1 ≤ l[k].rows.length ∧ (∀ b o, G b = some o → gh.2.2.2 b = some o) ∧ Now xs flP J (j0 + ((wItems note t l).length + 1)) gh.2.1 (wRows note t (l[k].rows.drop gh.1) ++ wItems note t (l.drop (k + 1))) gh.2.2.2 gh.2.2.1) (fun (gh : Nat × Nat × OL × GH) => l[k].rows.length - gh.1) ((0, j1, Lt, g)) (by exact (H).sub ⟨rfl, rfl, rfl, rfl, rfl, rfl, rfl, rfl, trivial⟩) ?_ ?_
            · exact ⟨by omega, hgm, hnow⟩
            · clear H; intro gh a w hI H
              obtain ⟨rk, j3, Lt3, g3⟩ := gh; dsimp only at hI H
              obtain ⟨hrk, hgm3, hnow3⟩ := hI
              dsimp only [List.cons_append, List.nil_append, List.append_nil] at H
              refine c_seq (fun _ hK17 => ?_)
              refine c_region ?_
              refine s_cmp H wn rfl rfl rfl rfl ?_; clear H; intro a H
              refine wl_nil ?_
              refine hK17 _ _ ?_; clear hK17
              refine c_seq (fun _ hK18 => ?_)
              refine c_cond H rfl ?_ ?_
              · intro h48
                try have p48 := of_decide_eq_true h48
                have hk3 : rk < l[k].rows.length := by omega
                obtain ⟨b2, o2, qA, qn, qc, eA, en, ec, zA, zn, zc, cA, cn, cc, rfl, hrow, hrh, hcl⟩ := row_get hk3 hrw.at_
                replace hrow := fun j u hj => gcell_mono hgm3 (hrow j u hj)
                have hcn := hcl.len; rw [List.length_map] at hcn; subst hcn
                have hsz2 := zRows_get hk3
                have hcs := zCells_length l[k].rows[rk].cells
                rw [List.drop_eq_getElem_cons hk3] at hnow3
                simp only [wRows, wRow_eq, List.append_assoc] at hnow3
                refine c_skip ?_
                refine hK18 _ _ ?_; clear hK18
                refine c_seq (fun _ hK19 => ?_)
                refine c_block ?_
                refine c_seq (fun _ hK20 => ?_)
                refine c_region ?_
                refine s_index un45doc ty107doc _ H wn rfl rfl rfl (by first | assumption | omega) rfl ?_; clear H; intro a H
                refine s_loada ty107doc (cs := [_, _, _, _, _, _]) H wn rfl rfl (fun j v hj => H.hp.gcell (hrow j v hj)) rfl ?_; clear H; intro a H
                refine s_alloc ty107doc H wn rfl ?_; clear H; intro b12 a w hb12 H
                refine s_store ty107doc 0 (vs := [_, _, _, _, _, _]) _ H wn rfl rfl rfl rfl rfl rfl rfl rfl ?_; clear H; intro w H; dsimp only [List.set, setRow] at H
                refine wl_nil ?_
                refine hK20 _ _ ?_; clear hK20
                refine c_seq (fun _ hK21 => ?_)
                refine c_region ?_
                refine s_field fd107_1doc H wn rfl rfl ?_; clear H; intro a H
                refine s_load ty105doc H wn rfl (H.hp.ocell 0 rfl rfl) rfl ?_; clear H; intro a H
                refine s_len un105doc H wn rfl rfl ?_; clear H; intro a H
                refine s_move H wn rfl rfl ?_; clear H; intro a H
                refine wl_nil ?_
                refine hK21 _ _ ?_; clear hK21
                refine c_block ?_
                skip
                refine c_loopS (ι := Nat × Nat × OL × GH) (Tc := [(3, _), (6, _), (22, _), (23, _), (24, _), (45, _), (46, _), (47, _), (52, _), (53, _)]) (Lc := [(_, _), (_, _), (_, _)]) (fun (gh : Nat × Nat × OL × GH) => [(54, vi gh.1)]) (fun (gh : Nat × Nat × OL × GH) => [] ++ gh.2.2.1) (fun (gh : Nat × Nat × OL × GH) => gh.2.2.2) (fun (gh : Nat × Nat × OL × GH) => gh.1 ≤ l[k].rows[rk].cells.length ∧ (∀ b o, G b = some o → gh.2.2.2 b = some o) ∧ Now xs flP J (j0 + ((wItems note t l).length + 1)) gh.2.1 (wCells note t (l[k].rows[rk].cells.drop gh.1) ++ (wRows note t (l[k].rows.drop (rk + 1)) ++ wItems note t (l.drop (k + 1)))) gh.2.2.2 gh.2.2.1) (fun (gh : Nat × Nat × OL × GH) => l[k].rows[rk].cells.length - gh.1) ((0, j3, Lt3, g3)) (by exact (H).sub ⟨rfl, rfl, rfl, rfl, rfl, rfl, rfl, rfl, rfl, rfl, rfl, trivial⟩) ?_ ?_
                · exact ⟨by omega, hgm3, hnow3⟩
                · clear H; intro gh a w hI H
                  obtain ⟨ck, j4, Lt4, g4⟩ := gh; dsimp only at hI H
                  obtain ⟨hck, hgm4, hnow4⟩ := hI
                  dsimp only [List.cons_append, List.nil_append, List.append_nil] at H
                  refine c_seq (fun _ hK22 => ?_)
                  refine c_region ?_
                  refine s_cmp H wn rfl rfl rfl rfl ?_; clear H; intro a H
                  refine wl_nil ?_
                  refine hK22 _ _ ?_; clear hK22
                  refine c_seq (fun _ hK23 => ?_)
                  refine c_cond H rfl ?_ ?_
                  · intro h55
                    try have p55 := of_decide_eq_true h55
                    have hk4 : ck < l[k].rows[rk].cells.length := by omega
                    obtain ⟨b3, o3, sA, sn, sc, tA, tn, tc, uA, un, uc, gA, gn, gc, rfl, hrow, hch, hcf⟩ := cell_get hk4 hcl.at_
                    replace hrow := fun j u hj => gcell_mono hgm4 (hrow j u hj)
                    have hsz3 := zCells_get hk4
                    rw [List.drop_eq_getElem_cons hk4] at hnow4
                    simp only [wCells, wCell_eq, List.append_assoc] at hnow4
                    refine c_skip ?_
                    refine hK23 _ _ ?_; clear hK23
                    refine c_seq (fun _ hK24 => ?_)
                    refine c_block ?_
                    refine c_seq (fun _ hK25 => ?_)
                    refine c_region ?_
                    refine s_index un105doc ty104doc _ H wn rfl rfl rfl (by first | assumption | omega) rfl ?_; clear H; intro a H
                    refine s_loada ty104doc (cs := [_, _, _, _, _, _, _]) H wn rfl rfl (fun j v hj => H.hp.gcell (hrow j v hj)) rfl ?_; clear H; intro a H
                    refine s_alloc ty104doc H wn rfl ?_; clear H; intro b14 a w hb14 H
                    refine s_store ty104doc 0 (vs := [_, _, _, _, _, _, _]) _ H wn rfl rfl rfl rfl rfl rfl rfl rfl ?_; clear H; intro w H; dsimp only [List.set, setRow] at H
                    refine wl_nil ?_
                    refine hK25 _ _ ?_; clear hK25
                    refine c_seq (fun _ hK26 => ?_)
                    refine c_region ?_
                    refine s_field fd104_0doc H wn rfl rfl ?_; clear H; intro a H
                    refine s_load ty3doc H wn rfl (H.hp.ocell 0 rfl rfl) rfl ?_; clear H; intro a H
                    refine s_field fd104_2doc H wn rfl rfl ?_; clear H; intro a H
                    refine s_load ty28doc H wn rfl (H.hp.ocell 0 rfl rfl) rfl ?_; clear H; intro a H
                    refine s_field fd127_1doc H wn rfl rfl ?_; clear H; intro a H
                    refine s_load ty4doc H wn rfl (H.hp.ocell 3 rfl rfl) rfl ?_; clear H; intro a H
                    refine s_field fd127_2doc H wn rfl rfl ?_; clear H; intro a H
                    refine s_load ty3doc H wn rfl (H.hp.ocell 3 rfl rfl) rfl ?_; clear H; intro a H
                    refine s_add _ H wn rfl rfl rfl (by omega) (by omega) rfl ?_; clear H; intro a H
                    refine s_build sr127doc [_, _, _] H wn rfl rfl rfl rfl ?_; clear H; intro a H
                    refine s_move H wn rfl rfl ?_; clear H; intro a H
                    refine s_callL en82doc (Li := [_, _, _, _]) (L := Lt4) H wn rfl (ih fv Gi xs J Jx _ _ _ j4 l[k].rows[rk].cells[ck].flow l[k].rows[rk].cells[ck].id false note (t + 1) _ (fun b o h => hgm4 b o (hGi b o h)) hcb hJm hJx hnow4.now (Hp.owns (Li := [_, _, _, _]) H.hp) (hcf.mono hgm4) (by omega) (by omega) (by omega) hnow4.part) rfl ?_; clear H
                    rintro v69 G69 Lt69 a w ⟨b69, rfl, hb5, hb6⟩ hm69 H
                    refine s_not H wn rfl rfl ?_; clear H; intro a H
                    refine wl_nil ?_
                    refine hK26 _ _ ?_; clear hK26
                    refine c_cond H rfl ?_ ?_
                    · intro h70
                      try have p70 := of_decide_eq_true h70
                      refine c_seq (fun _ hK27 => ?_)
                      refine c_region ?_
                      refine s_assign H wn rfl rfl ?_; clear H; intro a H
                      refine wl_nil ?_
                      refine hK27 _ _ ?_; clear hK27
                      refine c_ret ?_
                      refine (leave1 H Try.results82 (.cons (rv_tmp H rfl) .nil) ?_).1
                      first
                        | exact H.hp.retD (L' := Lt20) (by repeat (first | exact List.Sublist.refl _ | apply List.Sublist.cons)) ⟨_, rfl, fun e => (by cases e), fun _ => hb2 (by simpa using h21)⟩
                        | exact H.hp.retD (L' := Lt40) (by repeat (first | exact List.Sublist.refl _ | apply List.Sublist.cons)) ⟨_, rfl, fun e => (by cases e), fun _ => hb4 (by simpa using h41)⟩
                        | exact H.hp.retD (L' := Lt69) (by repeat (first | exact List.Sublist.refl _ | apply List.Sublist.cons)) ⟨_, rfl, fun e => (by cases e), fun _ => hb6 (by simpa using h70)⟩
                        | exact H.hp.retD (L' := Lt) (by repeat (first | exact List.Sublist.refl _ | apply List.Sublist.cons)) ⟨_, rfl, fun _ => (by rw [List.drop_of_length_le (by omega), wItems] at hnow; have := hnow.len; simp only [List.length_nil, Nat.add_zero] at this; rw [← this]; exact hnow.now), fun e => (by cases e)⟩
                    · intro h70
                      try have p70 := of_decide_eq_false h70
                      refine c_skip ?_
                      refine hK24 _ _ ?_; clear hK24
                      refine c_region ?_
                      refine s_add _ H wn rfl rfl rfl (by omega) (by omega) rfl ?_; clear H; intro a H
                      refine s_move H wn rfl rfl ?_; clear H; intro a H
                      refine wl_nil ?_
                      refine loop_end ((ck + 1, j4 + ((wItems note (t + 1) l[k].rows[rk].cells[ck].flow).length + 1), Lt69, G69)) (by exact (H.pickT (Pl := [_, _, _, _]) (Pl' := [_, _, _]) [1, 2, 3] (by decide) rfl).sub ⟨rfl, rfl, rfl, rfl, rfl, rfl, rfl, rfl, rfl, rfl, rfl, trivial⟩) ?_ ?_
                      · try dsimp only
                        exact ⟨by omega, fun b o h => hm69 b o (hgm4 b o h), hnow4.jump (hb5 (by simpa using h70))⟩
                      · first | omega | (dsimp only; omega)
                  · intro h55
                    try have p55 := of_decide_eq_false h55
                    refine c_exit ?_
                    refine hK19 _ _ ?_; clear hK19
                    refine c_region ?_
                    refine s_add _ H wn rfl rfl rfl (by omega) (by omega) rfl ?_; clear H; intro a H
                    refine s_move H wn rfl rfl ?_; clear H; intro a H
                    refine wl_nil ?_
                    refine loop_end ((rk + 1, j4, Lt4, g4)) (by exact (H.pickT (Pl := [_, _, _]) (Pl' := [_, _]) [1, 2] (by decide) rfl).sub ⟨rfl, rfl, rfl, rfl, rfl, rfl, rfl, rfl, trivial⟩) ?_ ?_
                    · try dsimp only
                      exact ⟨by omega, hgm4, by rw [List.drop_of_length_le (by omega), wCells, List.nil_append] at hnow4; exact hnow4⟩
                    · first | omega | (dsimp only; omega)
              · intro h48
                try have p48 := of_decide_eq_false h48
                refine c_exit ?_
                refine hK9 _ _ ?_; clear hK9
                refine c_region ?_
                refine s_add _ H wn rfl rfl rfl (by omega) (by omega) rfl ?_; clear H; intro a H
                refine s_move H wn rfl rfl ?_; clear H; intro a H
                refine wl_nil ?_
                refine loop_end ((k + 1, j3, Lt3, g3)) (by exact (H.pickT (Pl := [_, _]) (Pl' := [_]) [1] (by decide) rfl).sub ⟨rfl, rfl, rfl, rfl, rfl, trivial⟩) ?_ ?_
                · try dsimp only
                  exact ⟨by omega, hgm3, by rw [List.drop_of_length_le (by omega), wRows, List.nil_append] at hnow3; exact hnow3⟩
                · first | omega | (dsimp only; omega)
          · intro h42
            try have p42 := of_decide_eq_false h42
            refine c_skip ?_
            refine hK9 _ _ ?_; clear hK9
            refine c_region ?_
            refine s_add _ H wn rfl rfl rfl (by omega) (by omega) rfl ?_; clear H; intro a H
            refine s_move H wn rfl rfl ?_; clear H; intro a H
            refine wl_nil ?_
            refine loop_end ((k + 1, j1, Lt, g)) (by exact (H.pickT (Pl := [_, _]) (Pl' := [_]) [1] (by decide) rfl).sub ⟨rfl, rfl, rfl, rfl, rfl, trivial⟩) ?_ ?_
            · try dsimp only
              exact ⟨by omega, hgm, by rw [if_neg p30, if_neg p42, List.nil_append] at hnow; exact hnow⟩
            · first | omega | (dsimp only; omega)
      · intro h25
        try have p25 := of_decide_eq_false h25
        refine c_exit ?_
        refine hK5 _ _ ?_; clear hK5
        refine c_seq (fun _ hK28 => ?_)
        refine c_region ?_
        refine s_assign H wn rfl rfl ?_; clear H; intro a H
        refine wl_nil ?_
        refine hK28 _ _ ?_; clear hK28
        refine c_ret ?_
        refine (leave1 H Try.results82 (.cons (rv_tmp H rfl) .nil) ?_).1
        first
          | exact H.hp.retD (L' := Lt20) (by repeat (first | exact List.Sublist.refl _ | apply List.Sublist.cons)) ⟨_, rfl, fun e => (by cases e), fun _ => hb2 (by simpa using h21)⟩
          | exact H.hp.retD (L' := Lt40) (by repeat (first | exact List.Sublist.refl _ | apply List.Sublist.cons)) ⟨_, rfl, fun e => (by cases e), fun _ => hb4 (by simpa using h41)⟩
          | exact H.hp.retD (L' := Lt69) (by repeat (first | exact List.Sublist.refl _ | apply List.Sublist.cons)) ⟨_, rfl, fun e => (by cases e), fun _ => hb6 (by simpa using h70)⟩
          | exact H.hp.retD (L' := Lt) (by repeat (first | exact List.Sublist.refl _ | apply List.Sublist.cons)) ⟨_, rfl, fun _ => (by rw [List.drop_of_length_le (by omega), wItems] at hnow; have := hnow.len; simp only [List.length_nil, Nat.add_zero] at this; rw [← this]; exact hnow.now), fun e => (by cases e)⟩
theorem walk_ok : ∀ n : Nat, n ≤ 4294967297 → WalkOk n
  | 0, _ => fun _ _ _ _ _ _ _ _ _ _ _ _ _ _ _ _ _ _ _ _ _ _ h => absurd h (by omega)
  | n + 1, hn => walk_step (walk_ok n (by omega)) (by omega)
/-- All flows of a document. -/
def flowsD (l : List ItemD) : List FlowD := ⟨0, l, true, false, 0⟩ :: wItems false 0 l
theorem flows1_iter {G : GH} {ba bl bp : Nat} {l : List ItemD} {v : Value} {id t : Int} {body note : Bool} (h1 : gcell G ba 0 = some (vi id)) (h2 : gcell G bl 0 = some v) (h3 : G bp = some (.cells #[.bool body, .bool note, vi t] 127 (0, 0))) (hv : RepV G (.sl 11 (l.map ItemD.dat)) v) (hz : zItems l ≤ 4294967296) (ht0 : 0 ≤ t) (ht1 : t + zItems l ≤ 4294967296) :
    Iter Try.prog G (.func (.func 81) #[] #[.pointer (some ⟨ba, 0, none⟩), .pointer (some ⟨bl, 0, none⟩), .pointer (some ⟨bp, 0, none⟩)]) ((⟨id, l, body, note, t⟩ :: wItems note t l).map flP) := by
  intro J Jx fv G1 L w0 hfv hGi hJm hJx hJ hO hcb
  refine callV_func (caps := [.pointer (some ⟨ba, 0, none⟩), .pointer (some ⟨bl, 0, none⟩), .pointer (some ⟨bp, 0, none⟩)]) en81doc ?_
  replace h1 := gcell_mono hGi h1
  replace h2 := gcell_mono hGi h2
  have hrow : ∀ j u, [.bool body, .bool note, vi t][j]? = some u → gcell G1 bp (0 + j) = some u := by
    intro j u hj
    refine gcell_mono hGi ?_
    unfold gcell; rw [h3]; simpa using hj
  refine enterL (N := 10) (T := [(0, _), (1, _), (2, _), (3, _)]) Try.func81 rfl Try.ntmps81 rfl rfl hO ?_
  intro a H
  refine c_region ?_
  refine s_load ty3doc H wn rfl (H.hp.gcell (by assumption)) rfl ?_; clear H; intro a H
  refine s_load ty28doc H wn rfl (H.hp.gcell (by assumption)) rfl ?_; clear H; intro a H
  refine s_loada ty127doc (cs := [_, _, _]) H wn rfl rfl (fun j v hj => H.hp.gcell (hrow j v hj)) rfl ?_; clear H; intro a H
  refine s_move H wn rfl rfl ?_; clear H; intro a H
  refine s_callL en82doc (Li := []) (L := L) H wn rfl (walk_ok 4294967297 (by omega) _ G1 _ J Jx G1 _ _ 0 l id body note t _ (fun _ _ h => h) hcb hJm hJx hJ (Hp.owns (Li := []) H.hp) (hv.mono hGi) (by omega) ht0 ht1 (fun i a h => by rw [Nat.zero_add, List.getElem?_map, h]; rfl)) rfl ?_; clear H
  rintro v9 G9 L9 a w ⟨b9, rfl, h1, h2⟩ hm9 H
  refine wl_nil ?_
  refine (leave0 H Try.results81 ?_).2
  cases b9
  · exact H.hp.retL (.inr (h2 rfl))
  · exact H.hp.retL (.inl (by simpa using h1 rfl))
theorem flows_spec (G : GH) (w0 : World) (hG : Hold G w0) (l : List ItemD) (v : Value) (id t : Int) (body note : Bool) (hv : RepV G (.sl 11 (l.map ItemD.dat)) v) (hz : zItems l ≤ 4294967296) (ht0 : 0 ≤ t) (ht1 : t + zItems l ≤ 4294967296) :
    Calls Try.prog 65 #[vi id, v, .agg #[.bool body, .bool note, vi t]] w0 (Ret w0 G fun u G' => ∃ ba bl bp, u = .func (.func 81) #[] #[.pointer (some ⟨ba, 0, none⟩), .pointer (some ⟨bl, 0, none⟩), .pointer (some ⟨bp, 0, none⟩)] ∧ Iter Try.prog G' u ((⟨id, l, body, note, t⟩ :: wItems note t l).map flP)) := by
  obtain ⟨A, c, rfl, hc1, hc2, hg⟩ := hv.slice
  refine enter (N := 8) (T := [(0, _), (1, _), (2, _)]) (F := fun k => k < w0.heap.size) (L := []) Try.func65 rfl Try.ntmps65 rfl rfl hG (fun _ h => h) (fun _ h => by cases h) (fun _ h => by cases h) (fun _ h => by cases h) List.Pairwise.nil ?_
  intro a H
  refine c_seq (fun _ hK1 => ?_)
  refine c_region ?_
  refine s_box (cs := [_]) H wn rfl rfl rfl ?_; clear H; intro b3 a w hb3 H
  refine s_box (cs := [_]) H wn rfl rfl rfl ?_; clear H; intro b4 a w hb4 H
  refine s_box (cs := [_, _, _]) H wn rfl rfl rfl ?_; clear H; intro b5 a w hb5 H
  refine s_assign H wn rfl rfl ?_; clear H; intro a H
  refine wl_nil ?_
  refine hK1 _ _ ?_; clear hK1
  refine c_seq (fun _ hK2 => ?_)
  refine c_region ?_
  refine s_makeFunc H wn rfl rfl ?_; clear H; intro a H
  refine s_assign H wn rfl rfl ?_; clear H; intro a H
  refine wl_nil ?_
  refine hK2 _ _ ?_; clear hK2
  refine c_ret ?_
  obtain ⟨G2, hm2, hb5, H⟩ := H.giveBox
  obtain ⟨G3, hm3, hb4, H⟩ := H.giveBox
  obtain ⟨G4, hm4, hb3, H⟩ := H.giveBox
  refine (leave1 H Try.results65 (.cons (rv_tmp H rfl) .nil) ?_).1
  exact H.hp.ret ⟨b3, b4, b5, rfl, flows1_iter (by unfold gcell; rw [hb3]; rfl) (gcell_mono hm4 (by unfold gcell; rw [hb4]; rfl)) (hm4 _ _ (hm3 _ _ hb5)) (hv.mono fun b o h => hm4 _ _ (hm3 _ _ (hm2 _ _ h))) hz ht0 ht1⟩
theorem of_spec (G : GH) (w0 : World) (hG : Hold G w0) (D : DocV) (l : List ItemD) (hv : RepV G (.sl 11 (l.map ItemD.dat)) (sl3 D.f)) (hz : zItems l ≤ 4294967296) :
    Calls Try.prog 51 #[D.val] w0 (Ret w0 G fun u G' => ∃ ba bl bp, u = .func (.func 81) #[] #[.pointer (some ⟨ba, 0, none⟩), .pointer (some ⟨bl, 0, none⟩), .pointer (some ⟨bp, 0, none⟩)] ∧ Iter Try.prog G' u ((flowsD l).map flP)) := by
  refine enter (N := 7) (T := [(0, _)]) (F := fun k => k < w0.heap.size) (L := []) Try.func51 rfl Try.ntmps51 rfl rfl hG (fun _ h => h) (fun _ h => by cases h) (fun _ h => by cases h) (fun _ h => by cases h) List.Pairwise.nil ?_
  intro a H
  refine c_seq (fun _ hK1 => ?_)
  refine c_region ?_
  refine s_box (cs := [_, _, _, _, _, _, _, _, _, _, _]) H wn rfl rfl rfl ?_; clear H; intro b1 a w hb1 H
  refine s_assign H wn rfl rfl ?_; clear H; intro a H
  refine wl_nil ?_
  refine hK1 _ _ ?_; clear hK1
  refine c_seq (fun _ hK2 => ?_)
  refine c_region ?_
  refine s_field fd62_0doc H wn rfl rfl ?_; clear H; intro a H
  refine s_load ty28doc H wn rfl (H.hp.ocell 0 rfl rfl) rfl ?_; clear H; intro a H
  refine s_build sr127doc [_, _, _] H wn rfl rfl rfl rfl ?_; clear H; intro a H
  refine s_call en65doc H wn rfl (flows_spec _ _ H.hp.ro l _ 0 0 true false hv hz (by omega) (by omega)) rfl ?_; clear H
  rintro v6 G6 a w ⟨ba, bl, bp, rfl, hit⟩ hm6 H
  refine s_assign H wn rfl rfl ?_; clear H; intro a H
  refine wl_nil ?_
  refine hK2 _ _ ?_; clear hK2
  refine c_ret ?_
  refine (leave1 H Try.results51 (.cons (rv_tmp H rfl) .nil) ?_).1
  exact H.hp.ret ⟨ba, bl, bp, rfl, hit⟩
end Go.Proofs.Ytbfdhlakbdadhaa
