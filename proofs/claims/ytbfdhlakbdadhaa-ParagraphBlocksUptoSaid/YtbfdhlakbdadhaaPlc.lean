/-
  Package document: notes and tables with their positions.
-/
import Derived.Test.YtbfdhlakbdadhaaIdx
namespace Go.Proofs.Ytbfdhlakbdadhaa
open Go.RowKit
theorem un105plc : Try.prog.underlying 105 = some (.slice 104) := by kernel_rfl
theorem ty104plc : Ty Try.prog 104 7 120 [.int .i64 0, .slice none 0 0, .int .i64 0, .int .i64 0, .slice none 0 0, .slice none 0 0, .slice none 0 0] true := ⟨by kernel_rfl, by kernel_rfl⟩
theorem fd47_2plc : Fld Try.prog 47 2 2 := ⟨by kernel_rfl⟩
theorem ty3plc : Ty Try.prog 3 1 8 [.int .i64 0] false := ⟨by kernel_rfl, by kernel_rfl⟩
theorem fd47_5plc : Fld Try.prog 47 5 9 := ⟨by kernel_rfl⟩
theorem ty28plc : Ty Try.prog 28 1 24 [.slice none 0 0] false := ⟨by kernel_rfl, by kernel_rfl⟩
theorem sr104plc : Srt Try.prog 104 [(0, 1), (1, 5), (6, 1)] [.int .i64 0, .slice none 0 0, .int .i64 0, .int .i64 0, .slice none 0 0, .slice none 0 0, .slice none 0 0] := ⟨by kernel_rfl, by kernel_rfl⟩
theorem fd47_0plc : Fld Try.prog 47 0 0 := ⟨by kernel_rfl⟩
theorem fd47_6plc : Fld Try.prog 47 6 10 := ⟨by kernel_rfl⟩
theorem ty45plc : Ty Try.prog 45 1 24 [.slice none 0 0] false := ⟨by kernel_rfl, by kernel_rfl⟩
theorem un45plc : Try.prog.underlying 45 = some (.slice 107) := by kernel_rfl
theorem ty107plc : Ty Try.prog 107 6 112 [.slice none 0 0, .int .i64 0, .int .i64 0, .slice none 0 0, .slice none 0 0, .slice none 0 0] true := ⟨by kernel_rfl, by kernel_rfl⟩
theorem fd107_1plc : Fld Try.prog 107 1 5 := ⟨by kernel_rfl⟩
theorem ty105plc : Ty Try.prog 105 1 24 [.slice none 0 0] false := ⟨by kernel_rfl, by kernel_rfl⟩
theorem fd104_0plc : Fld Try.prog 104 0 0 := ⟨by kernel_rfl⟩
theorem fd104_2plc : Fld Try.prog 104 2 6 := ⟨by kernel_rfl⟩
theorem en53plc : ∀ args w, (callFunc 53 args).run Try.prog w = .ok (.enter 53 args) w := enters Try.func53 rfl (by kernel_rfl)
theorem en71plc : ∀ args w, (callFunc 71 args).run Try.prog w = .ok (.enter 71 args) w := enters Try.func71 rfl (by kernel_rfl)
theorem ty66plc : Ty Try.prog 66 2 16 [.int .i64 0, .int .i64 0] true := ⟨by kernel_rfl, by kernel_rfl⟩
theorem ty47plc : Ty Try.prog 47 11 176 [.int .i64 0, .int .i64 0, .int .i64 0, .string ⟨#[]⟩, .slice none 0 0, .int .i64 0, .int .i64 0, .slice none 0 0, .slice none 0 0, .slice none 0 0, .slice none 0 0] true := ⟨by kernel_rfl, by kernel_rfl⟩
theorem ty159plc : Ty Try.prog 159 1 8 [.nilFunc] false := ⟨by kernel_rfl, by kernel_rfl⟩
theorem un28plc : Try.prog.underlying 28 = some (.slice 47) := by kernel_rfl
theorem sr66plc : Srt Try.prog 66 [(0, 1), (1, 1)] [.int .i64 0, .int .i64 0] := ⟨by kernel_rfl, by kernel_rfl⟩
theorem fd47_3plc : Fld Try.prog 47 3 3 := ⟨by kernel_rfl⟩
theorem ty9plc : Ty Try.prog 9 1 16 [.string ⟨#[]⟩] false := ⟨by kernel_rfl, by kernel_rfl⟩
theorem en43plc : ∀ args w, (callFunc 43 args).run Try.prog w = .ok (.enter 43 args) w := enters Try.func43 rfl (by kernel_rfl)
theorem en72plc : ∀ args w, (callFunc 72 args).run Try.prog w = .ok (.enter 72 args) w := enters Try.func72 rfl (by kernel_rfl)
theorem en87plc : ∀ args w, (callFunc 87 args).run Try.prog w = .ok (.enter 87 args) w := enters Try.func87 rfl (by kernel_rfl)
/-- How far an item moves the positions on. -/
def adv (x : ItemD) : Nat := if x.kind = 1 then cntS x.text else 1
mutual
def pItem (flow at_ : Int) : ItemD → List ((Int × Int) × ItemD)
  | .mk k c i t h f r => if k = 6 then ((flow, at_), .mk k c i t h f r) :: pItems i 0 f else if k = 7 then ((flow, at_), .mk k c i t h f r) :: pRows r else []
/-- The notes and tables of a flow, and those in them, with their positions. -/
def pItems (flow : Int) : Int → List ItemD → List ((Int × Int) × ItemD)
  | _, [] => []
  | at_, x :: l => pItem flow at_ x ++ pItems flow (at_ + adv x) l
def pRows : List RowD → List ((Int × Int) × ItemD)
  | [] => []
  | r :: l => pRow r ++ pRows l
def pRow : RowD → List ((Int × Int) × ItemD)
  | .mk _ cs => pCells cs
def pCells : List CellD → List ((Int × Int) × ItemD)
  | [] => []
  | c :: l => pCell c ++ pCells l
def pCell : CellD → List ((Int × Int) × ItemD)
  | .mk i _ f => pItems i 0 f
end
def innerC (x : ItemD) : List CellD := if x.kind = 7 then x.rows.flatMap RowD.cells else [.mk x.id ⟨[], ⟨0, 0, [], []⟩⟩ x.flow]
theorem pCell_eq (x : CellD) : pCell x = pItems x.id 0 x.flow := by cases x; simp [pCell, CellD.id, CellD.flow]
theorem pRow_eq (x : RowD) : pRow x = pCells x.cells := by cases x; simp [pRow, RowD.cells]
theorem pCells_append : ∀ a b : List CellD, pCells (a ++ b) = pCells a ++ pCells b
  | [], b => by simp [pCells]
  | x :: a, b => by simp [pCells, pCells_append a b]
theorem pRows_flat : ∀ l : List RowD, pRows l = pCells (l.flatMap RowD.cells)
  | [] => by simp [pRows, pCells]
  | x :: l => by simp [pRows, pRow_eq, pCells_append, pRows_flat l]
theorem pItem_eq (flow at_ : Int) (x : ItemD) : pItem flow at_ x = if x.kind = 6 ∨ x.kind = 7 then ((flow, at_), x) :: pCells (innerC x) else [] := by
  obtain ⟨k, c, i, t, h, f, r⟩ := x
  simp only [pItem, innerC, ItemD.kind, ItemD.rows, ItemD.id, ItemD.flow]
  by_cases h6 : k = 6
  · subst h6; simp [pCells, pCell]
  · by_cases h7 : k = 7
    · subst h7; simp [pRows_flat]
    · simp [h6, h7]
theorem innerC_sz {x : ItemD} {c : CellD} (h : c ∈ innerC x) : zItems c.flow < szR x.dat := by
  have h4 := zItem_eq x
  unfold innerC at h
  split at h
  · obtain ⟨r, hr, hc⟩ := List.mem_flatMap.1 h
    have h1 := zRows_mem hr
    have h2 := zCells_mem hc
    have h3 := zRow_eq r
    have h5 := zCell_eq c
    omega
  · rw [List.mem_singleton.1 h]; show zItems x.flow < _; omega
/-- What is called at a note or table. -/
def plP (a : (Int × Int) × ItemD) : AP := fun args g => ∃ cs, args = [.agg #[vi a.1.1, vi a.1.2], .agg cs.toArray] ∧ RepRow g a.2.dat cs
theorem pl_at {A : List ((Int × Int) × ItemD)} {k : Nat} {args : List Value} {g : GH} (h : AtAP (A.map plP) k args g) : ∃ (hk : k < A.length) (cs : List Value), args = [.agg #[vi A[k].1.1, vi A[k].1.2], .agg cs.toArray] ∧ RepRow g A[k].2.dat cs := by
  obtain ⟨p, hp, hargs⟩ := h
  rw [List.getElem?_map] at hp
  obtain ⟨q, hq, rfl⟩ := Option.map_eq_some_iff.1 hp
  obtain ⟨hk, rfl⟩ := List.getElem?_eq_some_iff.1 hq
  exact ⟨hk, hargs⟩
def PlacedOk (n : Nat) : Prop := ∀ (G : GH) (l : List ItemD) (id : Int) (bl bi : Nat) (v : Value), zItems l < n → gcell G bl 0 = some v → gcell G bi 0 = some (vi id) → RepV G (.sl 11 (l.map ItemD.dat)) v →
  Iter Try.prog G (.func (.func 71) #[] #[.pointer (some ⟨bl, 0, none⟩), .pointer (some ⟨bi, 0, none⟩)]) ((pItems id 0 l).map plP)
theorem placed_spec' {n : Nat} (ih : PlacedOk n) (G : GH) (w0 : World) (hG : Hold G w0) (l : List ItemD) (id : Int) (v : Value) (hz : zItems l < n) (hv : RepV G (.sl 11 (l.map ItemD.dat)) v) :
    Calls Try.prog 53 #[vi id, v] w0 (Ret w0 G fun u G' => ∃ bl bi, u = .func (.func 71) #[] #[.pointer (some ⟨bl, 0, none⟩), .pointer (some ⟨bi, 0, none⟩)] ∧ Iter Try.prog G' u ((pItems id 0 l).map plP)) := by
  obtain ⟨A, c, rfl, hc1, hc2, hg⟩ := hv.slice
  refine enter (N := 6) (T := [(0, _), (1, _)]) (F := fun k => k < w0.heap.size) (L := []) Try.func53 rfl Try.ntmps53 rfl rfl hG (fun _ h => h) (fun _ h => by cases h) (fun _ h => by cases h) (fun _ h => by cases h) List.Pairwise.nil ?_
  intro a H
  refine c_seq (fun _ hK1 => ?_)
  refine c_region ?_
  refine s_box (cs := [_]) H wn rfl rfl rfl ?_; clear H; intro b2 a w hb2 H
  refine s_box (cs := [_]) H wn rfl rfl rfl ?_; clear H; intro b3 a w hb3 H
  refine s_assign H wn rfl rfl ?_; clear H; intro a H
  refine wl_nil ?_
  refine hK1 _ _ ?_; clear hK1
  refine c_seq (fun _ hK2 => ?_)
  refine c_region ?_
  refine s_makeFunc H wn rfl rfl ?_; clear H; intro a H
  refine s_assign H wn rfl rfl ?_; clear H; intro a H
  refine wl_nil ?_
  refine hK2 _ _ ?_; clear hK2
  refine c_ret ?_
  obtain ⟨G2, hm2, hb3, H⟩ := H.giveBox
  obtain ⟨G3, hm3, hb2, H⟩ := H.giveBox
  refine (leave1 H Try.results53 (.cons (rv_tmp H rfl) .nil) ?_).1
  exact H.hp.ret ⟨b3, b2, rfl, ih _ _ _ _ _ _ hz (gcell_mono hm3 (by unfold gcell; rw [hb3]; rfl)) (by unfold gcell; rw [hb2]; rfl) (hv.mono fun b o h => hm3 _ _ (hm2 _ _ h))⟩
theorem flat_len : ∀ l : List RowD, (l.flatMap RowD.cells).length ≤ zRows l
  | [] => Nat.le_refl _
  | x :: l => by
    have h1 := flat_len l
    have h2 := zCells_length x.cells
    have h3 := zRow_eq x
    simp only [List.flatMap_cons, List.length_append, zRows, List.map_cons, szRs] at *; omega
theorem zRows_take (l : List RowD) (k : Nat) : zRows (l.take k) ≤ zRows l := by
  have h : zRows l = zRows (l.take k ++ l.drop k) := by rw [List.take_append_drop]
  rw [h]; simp only [zRows, List.map_append, szRs_append]; omega
theorem pCells_cons (c : CellD) (l : List CellD) : pCells (c :: l) = pItems c.id 0 c.flow ++ pCells l := by rw [pCells, pCell_eq]
set_option maxHeartbeats 1000000 in
theorem within1_iter {n : Nat} (ih : PlacedOk n) (hn : n ≤ 4294967296) {G : GH} {x : ItemD} {bx : Nat} {cs : List Value} (hsz : szR x.dat ≤ n) (hb : G bx = some (.cells cs.toArray 47 (0, 0))) (hv : RepRow G x.dat cs) :
    Iter Try.prog G (.func (.func 87) #[] #[.pointer (some ⟨bx, 0, none⟩)]) ((pCells (innerC x)).map plP) := by
  intro J Jx fv G1 L w0 hfv hGi hJm hJx hJ hO hcb
  refine callV_func (caps := [.pointer (some ⟨bx, 0, none⟩)]) en87plc ?_
  obtain ⟨pA, pn, pc, dA, dn, dc, yA, yn, yc, fA, fn, fc, rA, rn, rc, rfl, hh, hf, hr⟩ := hv.item
  have hsz1 := zItem_eq x
  have hrn := hr.len; rw [List.length_map] at hrn; subst hrn
  have hrs := zRows_length x.rows
  have hrow : ∀ j u, [vi x.kind, vi x.code, vi x.id, .string x.text, .slice pA pn pc, vi x.head.marks.ins, vi x.head.marks.move, .slice dA dn dc, .slice yA yn yc, .slice fA fn fc, .slice rA x.rows.length rc][j]? = some u → gcell G1 bx (0 + j) = some u := by
    intro j u hj
    refine gcell_mono hGi ?_
    unfold gcell; rw [hb]; simpa using hj
  have hfc : gcell G1 bx 0 = some (vi x.kind) ∧ gcell G1 bx 2 = some (vi x.id) ∧ gcell G1 bx 9 = some (.slice fA fn fc) ∧ gcell G1 bx 10 = some (.slice rA x.rows.length rc) := ⟨hrow 0 _ rfl, hrow 2 _ rfl, hrow 9 _ rfl, hrow 10 _ rfl⟩
  obtain ⟨hc0, hc2, hc9, hc10⟩ := hfc
  have hml : 4294967297 ≤ maxLen := by decide
  refine enterL (N := 50) (T := [(0, _), (1, _)]) Try.func87 rfl Try.ntmps87 rfl rfl hO ?_
  intro a H
  refine c_seq (fun _ hK1 => ?_)
  refine c_region ?_
  refine s_box (cs := [fv]) H wn rfl hfv rfl ?_; clear H; intro b2 a w hb2 H
  refine wl_nil ?_
  refine hK1 _ _ ?_; clear hK1
  refine c_seq (fun _ hK2 => ?_)
  refine c_region ?_
  refine s_field fd47_2plc H wn rfl rfl ?_; clear H; intro a H
  refine s_load ty3plc H wn rfl (H.hp.gcell (by assumption)) rfl ?_; clear H; intro a H
  refine s_field fd47_5plc H wn rfl rfl ?_; clear H; intro a H
  refine s_load ty28plc H wn rfl (H.hp.gcell (by assumption)) rfl ?_; clear H; intro a H
  refine s_build sr104plc [_, _, _, _, _, _, _] H wn rfl rfl rfl rfl ?_; clear H; intro a H
  refine s_buildSlice un105plc ty104plc [_, _, _, _, _, _, _] [_, _, _, _, _, _, _] H wn rfl rfl rfl rfl rfl (by intro i q h; match i, h with | 0, h => exact h | n + 1, h => simp at h) rfl rfl ?_; clear H; intro b15 a w hb15 H
  refine s_assign H wn rfl rfl ?_; clear H; intro a H
  refine wl_nil ?_
  refine hK2 _ _ ?_; clear hK2
  refine c_seq (fun _ hK3 => ?_)
  refine c_seq (fun _ hK4 => ?_)
  refine c_region ?_
  refine s_field fd47_0plc H wn rfl rfl ?_; clear H; intro a H
  refine s_load ty3plc H wn rfl (H.hp.gcell (by assumption)) rfl ?_; clear H; intro a H
  refine s_cmp H wn rfl rfl rfl rfl ?_; clear H; intro a H
  refine wl_nil ?_
  refine hK4 _ _ ?_; clear hK4
  refine c_cond H rfl ?_ ?_
  · intro h18
    try have p18 := of_decide_eq_true h18
    refine c_seq (fun _ hK5 => ?_)
    refine c_region ?_
    refine s_assign H wn rfl rfl ?_; clear H; intro a H
    refine wl_nil ?_
    refine hK5 _ _ ?_; clear hK5
    refine c_seq (fun _ hK6 => ?_)
    refine c_region ?_
    refine s_field fd47_6plc H wn rfl rfl ?_; clear H; intro a H
    refine s_load ty45plc H wn rfl (H.hp.gcell (by assumption)) rfl ?_; clear H; intro a H
    refine s_len un45plc H wn rfl rfl ?_; clear H; intro a H
    refine s_move H wn rfl rfl ?_; clear H; intro a H
    refine wl_nil ?_
    refine hK6 _ _ ?_; clear hK6
    refine c_block ?_
    skip
    refine c_loopS (ι := Nat × Value × List Value × OL) (Tc := [(2, _), (20, _), (21, _)]) (Lc := [(_, _)]) (fun (gh : Nat × Value × List Value × OL) => [(3, gh.2.1), (22, vi gh.1)]) (fun (gh : Nat × Value × List Value × OL) => [] ++ (L ++ gh.2.2.2)) (fun (gh : Nat × Value × List Value × OL) => G1) (fun (gh : Nat × Value × List Value × OL) => gh.1 ≤ x.rows.length ∧ IsRow 104 7 gh.2.1 ((x.rows.take gh.1).flatMap RowD.cells).length gh.2.2.1 gh.2.2.2 ∧ RepCat G1 7 (((x.rows.take gh.1).flatMap RowD.cells).map CellD.dat) gh.2.2.1) (fun (gh : Nat × Value × List Value × OL) => x.rows.length - gh.1) ((0, .slice none 0 0, [], [])) (by exact (St.nilT (A := [_]) (H.pickT (Pl := [_, _]) (Pl' := [_]) [1] (by decide) rfl)).sub ⟨rfl, rfl, rfl, rfl, rfl, trivial⟩) ?_ ?_
    · exact ⟨by omega, IsRow.nil, by simpa using RepCat.nil⟩
    · clear H; intro gh a w hI H
      obtain ⟨rk, v3, xs, Lo⟩ := gh; dsimp only at hI H
      obtain ⟨hrk, hrw3, hcat⟩ := hI
      dsimp only [List.cons_append, List.nil_append, List.append_nil] at H
      refine c_seq (fun _ hK7 => ?_)
      refine c_region ?_
      refine s_cmp H wn rfl rfl rfl rfl ?_; clear H; intro a H
      refine wl_nil ?_
      refine hK7 _ _ ?_; clear hK7
      refine c_seq (fun _ hK8 => ?_)
      refine c_cond H rfl ?_ ?_
      · intro h23
        try have p23 := of_decide_eq_true h23
        have hk2 : rk < x.rows.length := by omega
        obtain ⟨b, o, qA, qn, qc, eA, en, ec, zA, zn, zc, cA, cn, cc, rfl, hrow, hrh, hcl⟩ := row_get hk2 hr.at_
        replace hrow := fun j u hj => gcell_mono hGi (hrow j u hj)
        have hcn2 := hcl.len; rw [List.length_map] at hcn2; subst hcn2
        have hsz2 := flat_len (x.rows.take (rk + 1))
        have hsz3 := zRows_take x.rows (rk + 1)
        rw [List.take_succ_eq_append_getElem hk2, List.flatMap_append, List.length_append, List.flatMap_singleton] at hsz2
        rw [List.take_succ_eq_append_getElem hk2] at hsz3
        refine c_skip ?_
        refine hK8 _ _ ?_; clear hK8
        refine c_seq (fun _ hK9 => ?_)
        refine c_block ?_
        refine c_seq (fun _ hK10 => ?_)
        refine c_region ?_
        refine s_index un45plc ty107plc _ H wn rfl rfl rfl (by first | assumption | omega) rfl ?_; clear H; intro a H
        refine s_loada ty107plc (cs := [_, _, _, _, _, _]) H wn rfl rfl (fun j v hj => H.hp.gcell (hrow j v hj)) rfl ?_; clear H; intro a H
        refine s_alloc ty107plc H wn rfl ?_; clear H; intro b5 a w hb5 H
        refine s_store ty107plc 0 (vs := [_, _, _, _, _, _]) _ H wn rfl rfl rfl rfl rfl rfl rfl rfl ?_; clear H; intro w H; dsimp only [List.set, setRow] at H
        refine wl_nil ?_
        refine hK10 _ _ ?_; clear hK10
        refine c_region ?_
        refine s_move H wn rfl rfl ?_; clear H; intro a H
        refine s_field fd107_1plc H wn rfl rfl ?_; clear H; intro a H
        refine s_load ty105plc H wn rfl (H.hp.ocell 0 rfl rfl) rfl ?_; clear H; intro a H
        refine s_appendG (Li := [_, _] ++ L) (Lo := Lo) un105plc ty104plc rfl rfl (St.un (A := [_, _]) H) wn rfl rfl hrw3 (hcl.mono hGi) (by omega) (by omega) rfl ?_; clear H; intro v29 Lo29 news a w hrw29 hcn H
        refine s_assign H wn rfl rfl ?_; clear H; intro a H
        refine wl_nil ?_
        replace H := H.assoc.pickT (Pl := [_, _]) (Pl' := [_]) [1] (by decide) rfl
        refine hK9 _ _ ?_; clear hK9
        refine c_region ?_
        refine s_add _ H wn rfl rfl rfl (by omega) (by omega) rfl ?_; clear H; intro a H
        refine s_move H wn rfl rfl ?_; clear H; intro a H
        refine wl_nil ?_
        refine loop_end ((rk + 1, v29, xs ++ news, Lo29)) (by exact H.sub ⟨rfl, rfl, rfl, rfl, rfl, trivial⟩) ?_ ?_
        · try dsimp only
          exact ⟨by omega, by rw [List.take_succ_eq_append_getElem hk2, List.flatMap_append, List.length_append, List.flatMap_singleton]; exact hrw29, by rw [List.take_succ_eq_append_getElem hk2, List.flatMap_append, List.map_append, List.flatMap_singleton]; exact hcat.append hcn⟩
        · first | omega | (dsimp only; omega)
      · intro h23
        try have p23 := of_decide_eq_false h23
        have hrk2 : rk = x.rows.length := by omega
        subst hrk2
        rw [List.take_length] at hrw3 hcat
        obtain ⟨G3, hm3, hin, H⟩ := (St.un (A := [_]) H).giveRow (rows := ((x.rows.flatMap RowD.cells)).map CellD.dat) hrw3 (by simp) hcat
        replace hin : RepV G3 (.sl 7 ((innerC x).map CellD.dat)) v3 := by rw [innerC, if_pos p18]; exact hin
        obtain ⟨iA, ni, ic, rfl⟩ := hin.form
        have hni2 := hin.len; rw [List.length_map] at hni2
        have hisz : (innerC x).length ≤ 4294967296 := by
          have h1 := flat_len x.rows
          rw [innerC, if_pos p18]; omega
        refine c_exit ?_
        refine hK3 _ _ ?_; clear hK3
        refine c_seq (fun _ hK11 => ?_)
        refine c_region ?_
        refine s_move H wn rfl rfl ?_; clear H; intro a H
        refine s_len un105plc H wn rfl rfl ?_; clear H; intro a H
        refine s_move H wn rfl rfl ?_; clear H; intro a H
        refine wl_nil ?_
        refine hK11 _ _ ?_; clear hK11
        refine c_block ?_
        skip
        refine c_loopD (ι := Nat × Nat × OL × GH × List Nat) (Tc := [(2, _), (31, _), (32, _)]) (Lc := [(_, _)]) (fun (gh : Nat × Nat × OL × GH × List Nat) => mkD gh.2.2.2.2) (fun (gh : Nat × Nat × OL × GH × List Nat) => [(33, vi gh.1)]) (fun (gh : Nat × Nat × OL × GH × List Nat) => [] ++ (mkL gh.2.2.2.2 ++ gh.2.2.1)) (fun (gh : Nat × Nat × OL × GH × List Nat) => gh.2.2.2.1) (fun (gh : Nat × Nat × OL × GH × List Nat) => gh.1 ≤ (innerC x).length ∧ (∀ b o, G3 b = some o → gh.2.2.2.1 b = some o) ∧ Now ((pCells (innerC x)).map plP) plP J (pCells (innerC x)).length gh.2.1 (pCells ((innerC x).drop gh.1)) gh.2.2.2.1 gh.2.2.1) (fun (gh : Nat × Nat × OL × GH × List Nat) => (innerC x).length - gh.1) ((0, 0, L, G3, [])) (by exact (H).sub ⟨rfl, rfl, rfl, rfl, trivial⟩) ?_ ?_
        · exact ⟨by omega, fun _ _ h => h, ⟨hJm _ _ _ _ hm3 hJ, fun i a h => by rw [Nat.zero_add, List.getElem?_map]; rw [List.drop_zero] at h; rw [h]; rfl, by simp⟩⟩
        · clear H; intro gh a w hI H
          obtain ⟨ck, j1, Lt, g, ds⟩ := gh; dsimp only at hI H
          obtain ⟨hck, hgm, hnow⟩ := hI
          dsimp only [List.cons_append, List.nil_append, List.append_nil] at H
          refine c_seq (fun _ hK12 => ?_)
          refine c_region ?_
          refine s_cmp H wn rfl rfl rfl rfl ?_; clear H; intro a H
          refine wl_nil ?_
          refine hK12 _ _ ?_; clear hK12
          refine c_seq (fun _ hK13 => ?_)
          refine c_cond H rfl ?_ ?_
          · intro h34
            try have p34 := of_decide_eq_true h34
            have hk3 : ck < (innerC x).length := by omega
            obtain ⟨b, o, sA, sn, sc, tA, tn, tc, uA, un, uc, gA, gn, gc, hiA2, hrow, hch, hcf⟩ := cell_get hk3 hin.at_
            subst hiA2
            replace hrow := fun j u hj => gcell_mono hgm (hrow j u hj)
            rw [List.drop_eq_getElem_cons hk3, pCells_cons] at hnow
            refine c_skip ?_
            refine hK13 _ _ ?_; clear hK13
            refine c_seq (fun _ hK14 => ?_)
            refine c_block ?_
            refine c_seq (fun _ hK15 => ?_)
            refine c_region ?_
            refine s_index un105plc ty104plc _ H wn rfl rfl rfl (by first | assumption | omega) rfl ?_; clear H; intro a H
            refine s_loada ty104plc (cs := [_, _, _, _, _, _, _]) H wn rfl rfl (fun j v hj => H.hp.gcell (hrow j v hj)) rfl ?_; clear H; intro a H
            refine s_alloc ty104plc H wn rfl ?_; clear H; intro b7 a w hb7 H
            refine s_store ty104plc 0 (vs := [_, _, _, _, _, _, _]) _ H wn rfl rfl rfl rfl rfl rfl rfl rfl ?_; clear H; intro w H; dsimp only [List.set, setRow] at H
            refine wl_nil ?_
            refine hK15 _ _ ?_; clear hK15
            refine c_seq (fun _ hK16 => ?_)
            refine c_region ?_
            refine s_field fd104_0plc H wn rfl rfl ?_; clear H; intro a H
            refine s_load ty3plc H wn rfl (H.hp.ocell 0 rfl rfl) rfl ?_; clear H; intro a H
            refine s_field fd104_2plc H wn rfl rfl ?_; clear H; intro a H
            refine s_load ty28plc H wn rfl (H.hp.ocell 0 rfl rfl) rfl ?_; clear H; intro a H
            refine s_call en53plc H wn rfl (placed_spec' ih _ _ H.hp.ro (innerC x)[ck].flow (innerC x)[ck].id _ (by have := innerC_sz (List.getElem_mem hk3); omega) (hcf.mono hgm)) rfl ?_; clear H
            rintro v41 G41 a w ⟨bl, bi, rfl, hit⟩ hm41 H
            refine wl_nil ?_
            refine hK16 _ _ ?_; clear hK16
            refine c_block ?_
            skip
            refine c_rangeJ (ι := OL) (κ := OL) (Lc := [(_, _), (_, _)]) (fun (k : Nat) (gh : OL) => []) (fun (k : Nat) (gh : OL) => (mkL ds ++ gh)) (fun (k : Nat) (gh : OL) (g : GH) => J (j1 + k) g gh) (fun (gx : OL) => Code.ret) (fun (gx : OL) => []) (fun (gx : OL) => (mkL ds ++ gx)) (fun (gx : OL) (g : GH) => Jx g gx) (Lt) (by exact H) rfl en71plc (hit) (fun _ _ h => h) rfl (fun k args g h => by obtain ⟨_, _, rfl, _⟩ := pl_at h; rfl) (fun k i G G' hm h => hJm _ _ _ _ hm h) (fun x G G' hm h => hJx _ _ _ hm h) (hJm _ _ _ _ hm41 hnow.now) ?_ ?_ ?_
            · clear H; intro l13 rdy bsy bk k args gh G13 w13 F13 B13 a hk13 hm13 hI hbeg13 hnext13 hstop13 H
              obtain ⟨Lt1, hgh⟩ : ∃ x, x = gh := ⟨_, rfl⟩; subst hgh
              obtain ⟨hk, cs8, rfl, hrep8⟩ := pl_at hk13
              obtain ⟨aA, an, ac, bA, bn, bc, dA8, dn8, dc8, eA8, en8, ec8, iA8, in8, ic8, rfl, -⟩ := hrep8.item
              dsimp only [asg, List.cons_append, List.nil_append] at H
              refine c_seq (fun _ hK17 => ?_)
              refine c_region ?_
              refine s_alloc ty66plc H wn rfl ?_; clear H; intro b8 a w hb8 H
              refine s_store ty66plc 0 (vs := [_, _]) _ H wn rfl rfl rfl rfl rfl rfl rfl rfl ?_; clear H; intro w H; dsimp only [List.set, setRow] at H
              refine wl_nil ?_
              refine hK17 _ _ ?_; clear hK17
              refine c_region ?_
              refine s_alloc ty47plc H wn rfl ?_; clear H; intro b9 a w hb9 H
              refine s_store ty47plc 0 (vs := [_, _, _, _, _, _, _, _, _, _, _]) _ H wn rfl rfl rfl rfl rfl rfl rfl rfl ?_; clear H; intro w H; dsimp only [List.set, setRow] at H
              refine wl_nil ?_
              refine hbeg13 _ _ _ _ _ _ (by exact H.pickT (Pl := [_, _, _, _, _]) (Pl' := [_, _, _, _, _]) [2, 0, 1, 3, 4] (by decide) rfl) ?_; clear H; intro w H
              refine c_block ?_
              refine c_seq (fun _ hK18 => ?_)
              refine c_region ?_
              refine s_load ty159plc H wn rfl (H.hp.ocell 4 rfl rfl) rfl ?_; clear H; intro a H
              refine s_loada ty66plc (cs := [_, _]) H wn rfl rfl (H.hp.ocells 2 rfl rfl) rfl ?_; clear H; intro a H
              refine s_loada ty47plc (cs := [_, _, _, _, _, _, _, _, _, _, _]) H wn rfl rfl (H.hp.ocells 1 rfl rfl) rfl ?_; clear H; intro a H
              refine s_callv (Li := ([_, _, _, _, _] ++ bk) ++ mkL ds) (L := Lt1) (St.un (A := [_, _, _, _, _] ++ bk) (St.un (A := [_, _, _, _, _]) H)) wn rfl rfl (hcb (j1 + k) _ _ _ _ ⟨_, hnow.part k _ (List.getElem?_eq_getElem hk), _, rfl, hrep8⟩ (fun b o h => hm13 b o (hm41 b o (hgm b o (hm3 b o h)))) hI (Hp.owns (Li := ([_, _, _, _, _] ++ bk) ++ mkL ds) (St.un (A := [_, _, _, _, _] ++ bk) (St.un (A := [_, _, _, _, _]) H)).hp)) rfl ?_; clear H
              rintro v47 G47 Lt47 a w ⟨b47, rfl, hb1, hb2⟩ hm47 H
              simp only [List.append_assoc, List.cons_append, List.nil_append] at H
              refine s_not H wn rfl rfl ?_; clear H; intro a H
              refine wl_nil ?_
              refine hK18 _ _ ?_; clear hK18
              refine c_cond H rfl ?_ ?_
              · intro h48
                try have p48 := of_decide_eq_true h48
                refine c_ret ?_
                refine (hstop13 (Lt47) _ _ _ _ _ (by exact H.pickT (Pl := [_, _, _, _, _]) (Pl' := [_, _, _]) [0, 3, 4] (by decide) rfl) ?_).1 rfl
                exact hb2 (by simpa using h48)
              · intro h48
                try have p48 := of_decide_eq_false h48
                refine c_skip ?_
                refine hnext13 (Lt47) _ _ _ _ _ (by exact H.pickT (Pl := [_, _, _, _, _]) (Pl' := [_, _, _]) [0, 3, 4] (by decide) rfl) ?_
                exact hb1 (by simpa using h48)
            · clear H; intro Dk13 gh Gd13 a w hm13 hI H
              obtain ⟨Lt1, hgh⟩ : ∃ x, x = gh := ⟨_, rfl⟩; subst hgh
              dsimp only [List.cons_append, List.nil_append, List.append_nil] at H
              refine hK14 _ _ ?_; clear hK14
              refine c_region ?_
              refine s_add _ H wn rfl rfl rfl (by omega) (by omega) rfl ?_; clear H; intro a H
              refine s_move H wn rfl rfl ?_; clear H; intro a H
              refine wl_nil ?_
              refine loopD_end ((ck + 1, j1 + (pItems (innerC x)[ck].id 0 (innerC x)[ck].flow).length, Lt1, Gd13, Dk13 :: ds)) (by exact (H.pickT (Pl := [_, _, _]) (Pl' := [_, _]) [2, 0] (by decide) rfl).sub ⟨rfl, rfl, rfl, rfl, trivial⟩) ?_ ?_
              · try dsimp only
                exact ⟨by omega, fun b o h => hm13 b o (hm41 b o (hgm b o h)), hnow.jump (by simpa using hI)⟩
              · first | omega | (dsimp only; omega)
            · clear H; intro Dk13 gx Gd13 a w hm13 hI H
              obtain ⟨Lx, hgh⟩ : ∃ x, x = gx := ⟨_, rfl⟩; subst hgh
              dsimp only [List.cons_append, List.nil_append, List.append_nil] at H
              refine c_ret ?_
              refine (leaveM H 0 rfl ?_).1; clear H; intro a w H; dsimp only [List.eraseIdx_cons_succ, List.eraseIdx_cons_zero] at H
              refine (leaveMs (Lh := [_, _]) _ H ?_).1; clear H; intro a w H; dsimp only [List.cons_append, List.nil_append] at H
              refine (leave0 H Try.results87 ?_).1
              first
                | exact H.hp.retD (L' := Lx) (by repeat (first | exact List.Sublist.refl _ | apply List.Sublist.cons)) (.inr hI)
                | exact H.hp.retD (L' := Lt) (by repeat (first | exact List.Sublist.refl _ | apply List.Sublist.cons)) (.inl (by rw [List.drop_of_length_le (by omega), pCells] at hnow; have := hnow.len; simp only [List.length_nil, Nat.add_zero] at this; rw [List.length_map, ← this]; exact hnow.now))
          · intro h34
            try have p34 := of_decide_eq_false h34
            refine c_exit ?_
            refine (leaveMs (Lh := [_]) _ H ?_).2; clear H; intro a w H; dsimp only [List.cons_append, List.nil_append] at H
            refine (leave0 H Try.results87 ?_).1
            first
              | exact H.hp.retD (L' := Lx) (by repeat (first | exact List.Sublist.refl _ | apply List.Sublist.cons)) (.inr hI)
              | exact H.hp.retD (L' := Lt) (by repeat (first | exact List.Sublist.refl _ | apply List.Sublist.cons)) (.inl (by rw [List.drop_of_length_le (by omega), pCells] at hnow; have := hnow.len; simp only [List.length_nil, Nat.add_zero] at this; rw [List.length_map, ← this]; exact hnow.now))
  · intro h18
    try have p18 := of_decide_eq_false h18
    obtain ⟨G3, hm3, hin, H⟩ := H.giveOne (sz := 7) (d := (CellD.mk x.id ⟨[], ⟨0, 0, [], []⟩⟩ x.flow).dat) rfl (RepRow.mkCell (x := CellD.mk x.id ⟨[], ⟨0, 0, [], []⟩⟩ x.flow) ⟨RepV.nil_ rfl (by decide), RepV.nil_ rfl (by decide), RepV.nil_ rfl (by decide)⟩ (hf.mono hGi))
    replace hin : RepV G3 (.sl 7 ((innerC x).map CellD.dat)) (.slice (some ⟨b15, 0, none⟩) 1 1) := by rw [innerC, if_neg p18]; exact hin
    obtain ⟨iA, hiA⟩ : ∃ z, z = some (Addr.mk b15 0 none) := ⟨_, rfl⟩
    obtain ⟨ni, hni⟩ : ∃ z, z = 1 := ⟨_, rfl⟩
    obtain ⟨ic, hic⟩ : ∃ z, z = 1 := ⟨_, rfl⟩
    rw [← hiA] at hin H
    have hni2 := hin.len; rw [List.length_map] at hni2
    have hisz : (innerC x).length ≤ 4294967296 := by omega
    refine c_skip ?_
    refine hK3 _ _ ?_; clear hK3
    refine c_seq (fun _ hK19 => ?_)
    refine c_region ?_
    refine s_move H wn rfl rfl ?_; clear H; intro a H
    refine s_len un105plc H wn rfl rfl ?_; clear H; intro a H
    refine s_move H wn rfl rfl ?_; clear H; intro a H
    refine wl_nil ?_
    refine hK19 _ _ ?_; clear hK19
    refine c_block ?_
    skip
    refine c_loopD (ι := Nat × Nat × OL × GH × List Nat) (Tc := [(2, _), (31, _), (32, _)]) (Lc := [(_, _)]) (fun (gh : Nat × Nat × OL × GH × List Nat) => mkD gh.2.2.2.2) (fun (gh : Nat × Nat × OL × GH × List Nat) => [(33, vi gh.1)]) (fun (gh : Nat × Nat × OL × GH × List Nat) => [] ++ (mkL gh.2.2.2.2 ++ gh.2.2.1)) (fun (gh : Nat × Nat × OL × GH × List Nat) => gh.2.2.2.1) (fun (gh : Nat × Nat × OL × GH × List Nat) => gh.1 ≤ (innerC x).length ∧ (∀ b o, G3 b = some o → gh.2.2.2.1 b = some o) ∧ Now ((pCells (innerC x)).map plP) plP J (pCells (innerC x)).length gh.2.1 (pCells ((innerC x).drop gh.1)) gh.2.2.2.1 gh.2.2.1) (fun (gh : Nat × Nat × OL × GH × List Nat) => (innerC x).length - gh.1) ((0, 0, L, G3, [])) (by exact (H).sub ⟨rfl, rfl, rfl, rfl, trivial⟩) ?_ ?_
    · exact ⟨by omega, fun _ _ h => h, ⟨hJm _ _ _ _ hm3 hJ, fun i a h => by rw [Nat.zero_add, List.getElem?_map]; rw [List.drop_zero] at h; rw [h]; rfl, by simp⟩⟩
    · clear H; intro gh a w hI H
      obtain ⟨ck, j1, Lt, g, ds⟩ := gh; dsimp only at hI H
      obtain ⟨hck, hgm, hnow⟩ := hI
      dsimp only [List.cons_append, List.nil_append, List.append_nil] at H
      refine c_seq (fun _ hK20 => ?_)
      refine c_region ?_
      refine s_cmp H wn rfl rfl rfl rfl ?_; clear H; intro a H
      refine wl_nil ?_
      refine hK20 _ _ ?_; clear hK20
      refine c_seq (fun _ hK21 => ?_)
      refine c_cond H rfl ?_ ?_
      · intro h34
        try have p34 := of_decide_eq_true h34
        have hk3 : ck < (innerC x).length := by omega
        obtain ⟨b, o, sA, sn, sc, tA, tn, tc, uA, un, uc, gA, gn, gc, hiA2, hrow, hch, hcf⟩ := cell_get hk3 hin.at_
        subst hiA2
        replace hrow := fun j u hj => gcell_mono hgm (hrow j u hj)
        rw [List.drop_eq_getElem_cons hk3, pCells_cons] at hnow
        refine c_skip ?_
        refine hK21 _ _ ?_; clear hK21
        refine c_seq (fun _ hK22 => ?_)
        refine c_block ?_
        refine c_seq (fun _ hK23 => ?_)
        refine c_region ?_
        refine s_index un105plc ty104plc _ H wn rfl rfl rfl (by first | assumption | omega) rfl ?_; clear H; intro a H
        refine s_loada ty104plc (cs := [_, _, _, _, _, _, _]) H wn rfl rfl (fun j v hj => H.hp.gcell (hrow j v hj)) rfl ?_; clear H; intro a H
        refine s_alloc ty104plc H wn rfl ?_; clear H; intro b7 a w hb7 H
        refine s_store ty104plc 0 (vs := [_, _, _, _, _, _, _]) _ H wn rfl rfl rfl rfl rfl rfl rfl rfl ?_; clear H; intro w H; dsimp only [List.set, setRow] at H
        refine wl_nil ?_
        refine hK23 _ _ ?_; clear hK23
        refine c_seq (fun _ hK24 => ?_)
        refine c_region ?_
        refine s_field fd104_0plc H wn rfl rfl ?_; clear H; intro a H
        refine s_load ty3plc H wn rfl (H.hp.ocell 0 rfl rfl) rfl ?_; clear H; intro a H
        refine s_field fd104_2plc H wn rfl rfl ?_; clear H; intro a H
        refine s_load ty28plc H wn rfl (H.hp.ocell 0 rfl rfl) rfl ?_; clear H; intro a H
        refine s_call en53plc H wn rfl (placed_spec' ih _ _ H.hp.ro (innerC x)[ck].flow (innerC x)[ck].id _ (by have := innerC_sz (List.getElem_mem hk3); omega) (hcf.mono hgm)) rfl ?_; clear H
        rintro v41 G41 a w ⟨bl, bi, rfl, hit⟩ hm41 H
        refine wl_nil ?_
        refine hK24 _ _ ?_; clear hK24
        refine c_block ?_
        skip
        refine c_rangeJ (ι := OL) (κ := OL) (Lc := [(_, _), (_, _)]) (fun (k : Nat) (gh : OL) => []) (fun (k : Nat) (gh : OL) => (mkL ds ++ gh)) (fun (k : Nat) (gh : OL) (g : GH) => J (j1 + k) g gh) (fun (gx : OL) => Code.ret) (fun (gx : OL) => []) (fun (gx : OL) => (mkL ds ++ gx)) (fun (gx : OL) (g : GH) => Jx g gx) (Lt) (by exact H) rfl en71plc (hit) (fun _ _ h => h) rfl (fun k args g h => by obtain ⟨_, _, rfl, _⟩ := pl_at h; rfl) (fun k i G G' hm h => hJm _ _ _ _ hm h) (fun x G G' hm h => hJx _ _ _ hm h) (hJm _ _ _ _ hm41 hnow.now) ?_ ?_ ?_
        · clear H; intro l13 rdy bsy bk k args gh G13 w13 F13 B13 a hk13 hm13 hI hbeg13 hnext13 hstop13 H
          obtain ⟨Lt1, hgh⟩ : ∃ x, x = gh := ⟨_, rfl⟩; subst hgh
          obtain ⟨hk, cs8, rfl, hrep8⟩ := pl_at hk13
          obtain ⟨aA, an, ac, bA, bn, bc, dA8, dn8, dc8, eA8, en8, ec8, iA8, in8, ic8, rfl, -⟩ := hrep8.item
          dsimp only [asg, List.cons_append, List.nil_append] at H
          refine c_seq (fun _ hK25 => ?_)
          refine c_region ?_
          refine s_alloc ty66plc H wn rfl ?_; clear H; intro b8 a w hb8 H
          refine s_store ty66plc 0 (vs := [_, _]) _ H wn rfl rfl rfl rfl rfl rfl rfl rfl ?_; clear H; intro w H; dsimp only [List.set, setRow] at H
          refine wl_nil ?_
          refine hK25 _ _ ?_; clear hK25
          refine c_region ?_
          refine s_alloc ty47plc H wn rfl ?_; clear H; intro b9 a w hb9 H
          refine s_store ty47plc 0 (vs := [_, _, _, _, _, _, _, _, _, _, _]) _ H wn rfl rfl rfl rfl rfl rfl rfl rfl ?_; clear H; intro w H; dsimp only [List.set, setRow] at H
          refine wl_nil ?_
          refine hbeg13 _ _ _ _ _ _ (by exact H.pickT (Pl := [_, _, _, _, _]) (Pl' := [_, _, _, _, _]) [2, 0, 1, 3, 4] (by decide) rfl) ?_; clear H; intro w H
          refine c_block ?_
          refine c_seq (fun _ hK26 => ?_)
          refine c_region ?_
          refine s_load ty159plc H wn rfl (H.hp.ocell 4 rfl rfl) rfl ?_; clear H; intro a H
          refine s_loada ty66plc (cs := [_, _]) H wn rfl rfl (H.hp.ocells 2 rfl rfl) rfl ?_; clear H; intro a H
          refine s_loada ty47plc (cs := [_, _, _, _, _, _, _, _, _, _, _]) H wn rfl rfl (H.hp.ocells 1 rfl rfl) rfl ?_; clear H; intro a H
          refine s_callv (Li := ([_, _, _, _, _] ++ bk) ++ mkL ds) (L := Lt1) (St.un (A := [_, _, _, _, _] ++ bk) (St.un (A := [_, _, _, _, _]) H)) wn rfl rfl (hcb (j1 + k) _ _ _ _ ⟨_, hnow.part k _ (List.getElem?_eq_getElem hk), _, rfl, hrep8⟩ (fun b o h => hm13 b o (hm41 b o (hgm b o (hm3 b o h)))) hI (Hp.owns (Li := ([_, _, _, _, _] ++ bk) ++ mkL ds) (St.un (A := [_, _, _, _, _] ++ bk) (St.un (A := [_, _, _, _, _]) H)).hp)) rfl ?_; clear H
          rintro v47 G47 Lt47 a w ⟨b47, rfl, hb1, hb2⟩ hm47 H
          simp only [List.append_assoc, List.cons_append, List.nil_append] at H
          refine s_not H wn rfl rfl ?_; clear H; intro a H
          refine wl_nil ?_
          refine hK26 _ _ ?_; clear hK26
          refine c_cond H rfl ?_ ?_
          · intro h48
            try have p48 := of_decide_eq_true h48
            refine c_ret ?_
            refine (hstop13 (Lt47) _ _ _ _ _ (by exact H.pickT (Pl := [_, _, _, _, _]) (Pl' := [_, _, _]) [0, 3, 4] (by decide) rfl) ?_).1 rfl
            exact hb2 (by simpa using h48)
          · intro h48
            try have p48 := of_decide_eq_false h48
            refine c_skip ?_
            refine hnext13 (Lt47) _ _ _ _ _ (by exact H.pickT (Pl := [_, _, _, _, _]) (Pl' := [_, _, _]) [0, 3, 4] (by decide) rfl) ?_
            exact hb1 (by simpa using h48)
        · clear H; intro Dk13 gh Gd13 a w hm13 hI H
          obtain ⟨Lt1, hgh⟩ : ∃ x, x = gh := ⟨_, rfl⟩; subst hgh
          dsimp only [List.cons_append, List.nil_append, List.append_nil] at H
          refine hK22 _ _ ?_; clear hK22
          refine c_region ?_
          refine s_add _ H wn rfl rfl rfl (by omega) (by omega) rfl ?_; clear H; intro a H
          refine s_move H wn rfl rfl ?_; clear H; intro a H
          refine wl_nil ?_
          refine loopD_end ((ck + 1, j1 + (pItems (innerC x)[ck].id 0 (innerC x)[ck].flow).length, Lt1, Gd13, Dk13 :: ds)) (by exact (H.pickT (Pl := [_, _, _]) (Pl' := [_, _]) [2, 0] (by decide) rfl).sub ⟨rfl, rfl, rfl, rfl, trivial⟩) ?_ ?_
          · try dsimp only
            exact ⟨by omega, fun b o h => hm13 b o (hm41 b o (hgm b o h)), hnow.jump (by simpa using hI)⟩
          · first | omega | (dsimp only; omega)
        · clear H; intro Dk13 gx Gd13 a w hm13 hI H
          obtain ⟨Lx, hgh⟩ : ∃ x, x = gx := ⟨_, rfl⟩; subst hgh
          dsimp only [List.cons_append, List.nil_append, List.append_nil] at H
          refine c_ret ?_
          refine (leaveM H 0 rfl ?_).1; clear H; intro a w H; dsimp only [List.eraseIdx_cons_succ, List.eraseIdx_cons_zero] at H
          refine (leaveMs (Lh := [_, _]) _ H ?_).1; clear H; intro a w H; dsimp only [List.cons_append, List.nil_append] at H
          refine (leave0 H Try.results87 ?_).1
          first
            | exact H.hp.retD (L' := Lx) (by repeat (first | exact List.Sublist.refl _ | apply List.Sublist.cons)) (.inr hI)
            | exact H.hp.retD (L' := Lt) (by repeat (first | exact List.Sublist.refl _ | apply List.Sublist.cons)) (.inl (by rw [List.drop_of_length_le (by omega), pCells] at hnow; have := hnow.len; simp only [List.length_nil, Nat.add_zero] at this; rw [List.length_map, ← this]; exact hnow.now))
      · intro h34
        try have p34 := of_decide_eq_false h34
        refine c_exit ?_
        refine (leaveMs (Lh := [_]) _ H ?_).2; clear H; intro a w H; dsimp only [List.cons_append, List.nil_append] at H
        refine (leave0 H Try.results87 ?_).1
        first
          | exact H.hp.retD (L' := Lx) (by repeat (first | exact List.Sublist.refl _ | apply List.Sublist.cons)) (.inr hI)
          | exact H.hp.retD (L' := Lt) (by repeat (first | exact List.Sublist.refl _ | apply List.Sublist.cons)) (.inl (by rw [List.drop_of_length_le (by omega), pCells] at hnow; have := hnow.len; simp only [List.length_nil, Nat.add_zero] at this; rw [List.length_map, ← this]; exact hnow.now))
theorem within_spec {n : Nat} (ih : PlacedOk n) (hn : n ≤ 4294967296) (G : GH) (w0 : World) (hG : Hold G w0) (x : ItemD) (cs : List Value) (hsz : szR x.dat ≤ n) (hv : RepRow G x.dat cs) :
    Calls Try.prog 72 #[.agg cs.toArray] w0 (Ret w0 G fun u G' => ∃ bx, u = .func (.func 87) #[] #[.pointer (some ⟨bx, 0, none⟩)] ∧ Iter Try.prog G' u ((pCells (innerC x)).map plP)) := by
  obtain ⟨pA, pn, pc, dA, dn, dc, yA, yn, yc, fA, fn, fc, rA, rn, rc, hcs, -⟩ := hv.item
  have hv2 := hv
  rw [hcs] at hv2 ⊢
  refine enter (N := 4) (T := [(0, _)]) (F := fun k => k < w0.heap.size) (L := []) Try.func72 rfl Try.ntmps72 rfl rfl hG (fun _ h => h) (fun _ h => by cases h) (fun _ h => by cases h) (fun _ h => by cases h) List.Pairwise.nil ?_
  intro a H
  refine c_seq (fun _ hK1 => ?_)
  refine c_region ?_
  refine s_box (cs := [_, _, _, _, _, _, _, _, _, _, _]) H wn rfl rfl rfl ?_; clear H; intro b1 a w hb1 H
  refine s_assign H wn rfl rfl ?_; clear H; intro a H
  refine wl_nil ?_
  refine hK1 _ _ ?_; clear hK1
  refine c_seq (fun _ hK2 => ?_)
  refine c_region ?_
  refine s_makeFunc H wn rfl rfl ?_; clear H; intro a H
  refine s_assign H wn rfl rfl ?_; clear H; intro a H
  refine wl_nil ?_
  refine hK2 _ _ ?_; clear hK2
  refine c_ret ?_
  obtain ⟨G2, hm2, hb1, H⟩ := H.giveBox
  refine (leave1 H Try.results72 (.cons (rv_tmp H rfl) .nil) ?_).1
  exact H.hp.ret ⟨b1, rfl, within1_iter ih hn hsz hb1 (hv2.mono hm2)⟩
theorem adv_le (x : ItemD) : adv x < szR x.dat := by
  have h1 := zItem_eq x
  have h2 := cntS_le x.text
  unfold adv; split <;> omega
set_option maxHeartbeats 1000000 in
theorem placed_step {n : Nat} (ih : PlacedOk n) (hn : n ≤ 4294967296) : PlacedOk (n + 1) := by
  intro G l id bl bi v hz hbl hbi hv J Jx fv G1 L w0 hfv hGi hJm hJx hJ hO hcb
  refine callV_func (caps := [.pointer (some ⟨bl, 0, none⟩), .pointer (some ⟨bi, 0, none⟩)]) en71plc ?_
  obtain ⟨A, c, rfl, hc1, hc2, hg⟩ := hv.slice
  rw [List.length_map] at *
  have hll := zItems_length l
  replace hbl := gcell_mono hGi hbl
  replace hbi := gcell_mono hGi hbi
  refine enterL (N := 55) (T := [(0, _), (1, _), (2, _)]) Try.func71 rfl Try.ntmps71 rfl rfl hO ?_
  intro a H
  refine c_seq (fun _ hK1 => ?_)
  refine c_region ?_
  refine s_box (cs := [fv]) H wn rfl hfv rfl ?_; clear H; intro b3 a w hb3 H
  refine wl_nil ?_
  refine hK1 _ _ ?_; clear hK1
  refine c_seq (fun _ hK2 => ?_)
  refine c_region ?_
  refine s_assign H wn rfl rfl ?_; clear H; intro a H
  refine wl_nil ?_
  refine hK2 _ _ ?_; clear hK2
  refine c_seq (fun _ hK3 => ?_)
  refine c_region ?_
  refine s_load ty28plc H wn rfl (H.hp.gcell (by assumption)) rfl ?_; clear H; intro a H
  refine s_len un28plc H wn rfl rfl ?_; clear H; intro a H
  refine s_move H wn rfl rfl ?_; clear H; intro a H
  refine wl_nil ?_
  refine hK3 _ _ ?_; clear hK3
  refine c_block ?_
  skip
  refine c_loopD (ι := Nat × Int × Nat × OL × GH × List Nat) (Tc := [(2, _), (3, _), (12, _), (13, _)]) (Lc := [(_, _)]) (fun (gh : Nat × Int × Nat × OL × GH × List Nat) => mkD gh.2.2.2.2.2) (fun (gh : Nat × Int × Nat × OL × GH × List Nat) => [(4, vi gh.2.1), (14, vi gh.1)]) (fun (gh : Nat × Int × Nat × OL × GH × List Nat) => [] ++ (mkL gh.2.2.2.2.2 ++ gh.2.2.2.1)) (fun (gh : Nat × Int × Nat × OL × GH × List Nat) => gh.2.2.2.2.1) (fun (gh : Nat × Int × Nat × OL × GH × List Nat) => gh.1 ≤ l.length ∧ (∀ b o, G1 b = some o → gh.2.2.2.2.1 b = some o) ∧ Now ((pItems id 0 l).map plP) plP J (pItems id 0 l).length gh.2.2.1 (pItems id gh.2.1 (l.drop gh.1)) gh.2.2.2.2.1 gh.2.2.2.1 ∧ 0 ≤ gh.2.1 ∧ gh.2.1 + zItems (l.drop gh.1) ≤ n) (fun (gh : Nat × Int × Nat × OL × GH × List Nat) => l.length - gh.1) ((0, 0, 0, L, G1, [])) (by exact (H).sub ⟨rfl, rfl, rfl, rfl, rfl, rfl, trivial⟩) ?_ ?_
  · exact ⟨by omega, fun _ _ h => h, ⟨hJ, fun i a h => by rw [Nat.zero_add, List.getElem?_map]; rw [List.drop_zero] at h; rw [h]; rfl, by simp⟩, Int.le_refl _, by simp; omega⟩
  · clear H; intro gh a w hI H
    obtain ⟨k, at_, j1, Lt, g, ds⟩ := gh; dsimp only at hI H
    obtain ⟨hk, hgm, hnow, hat0, hat⟩ := hI
    dsimp only [List.cons_append, List.nil_append, List.append_nil] at H
    refine c_seq (fun _ hK4 => ?_)
    refine c_region ?_
    refine s_cmp H wn rfl rfl rfl rfl ?_; clear H; intro a H
    refine wl_nil ?_
    refine hK4 _ _ ?_; clear hK4
    refine c_seq (fun _ hK5 => ?_)
    refine c_cond H rfl ?_ ?_
    · intro h15
      try have p15 := of_decide_eq_true h15
      have hk2 : k < l.length := by omega
      obtain ⟨b, o, pA, pn, pc, dA, dn, dc, yA, yn, yc, fA, fn, fc, rA, rn, rc, rfl, hrow, hhd, hfl, hrw⟩ := flow_get hk2 hg
      have hgm0 : ∀ b o, G b = some o → g b = some o := fun b o h => hgm b o (hGi b o h)
      replace hrow := fun j u hj => gcell_mono hgm0 (hrow j u hj)
      have hbi2 := gcell_mono hgm hbi
      have hsz1 := zItem_eq l[k]
      have hsz2 := zItems_mem (List.getElem_mem hk2)
      have hadv := adv_le l[k]
      rw [List.drop_eq_getElem_cons hk2] at hnow hat
      rw [zItems, List.map_cons, szRs] at hat
      rw [pItems] at hnow
      refine c_skip ?_
      refine hK5 _ _ ?_; clear hK5
      refine c_seq (fun _ hK6 => ?_)
      refine c_block ?_
      refine c_seq (fun _ hK7 => ?_)
      refine c_region ?_
      refine s_index un28plc ty47plc _ H wn rfl rfl rfl (by first | assumption | omega) rfl ?_; clear H; intro a H
      refine s_loada ty47plc (cs := [_, _, _, _, _, _, _, _, _, _, _]) H wn rfl rfl (fun j v hj => H.hp.gcell (hrow j v hj)) rfl ?_; clear H; intro a H
      refine s_alloc ty47plc H wn rfl ?_; clear H; intro b6 a w hb6 H
      refine s_store ty47plc 0 (vs := [_, _, _, _, _, _, _, _, _, _, _]) _ H wn rfl rfl rfl rfl rfl rfl rfl rfl ?_; clear H; intro w H; dsimp only [List.set, setRow] at H
      refine wl_nil ?_
      refine hK7 _ _ ?_; clear hK7
      refine c_seq (fun _ hK8 => ?_)
      refine c_region ?_
      refine s_load ty3plc H wn rfl (H.hp.gcell (by assumption)) rfl ?_; clear H; intro a H
      refine s_move H wn rfl rfl ?_; clear H; intro a H
      refine s_build sr66plc [_, _] H wn rfl rfl rfl rfl ?_; clear H; intro a H
      refine s_alloc ty66plc H wn rfl ?_; clear H; intro b7 a w hb7 H
      refine s_store ty66plc 0 (vs := [_, _]) _ H wn rfl rfl rfl rfl rfl rfl rfl rfl ?_; clear H; intro w H; dsimp only [List.set, setRow] at H
      refine wl_nil ?_
      refine hK8 _ _ ?_; clear hK8
      refine c_seq (fun _ hK9 => ?_)
      refine c_region ?_
      refine s_move H wn rfl rfl ?_; clear H; intro a H
      refine s_add _ H wn rfl rfl rfl (by omega) (by omega) rfl ?_; clear H; intro a H
      refine s_assign H wn rfl rfl ?_; clear H; intro a H
      refine wl_nil ?_
      refine hK9 _ _ ?_; clear hK9
      refine c_seq (fun _ hK10 => ?_)
      refine c_region ?_
      refine s_field fd47_0plc H wn rfl rfl ?_; clear H; intro a H
      refine s_load ty3plc H wn rfl (H.hp.ocell 1 rfl rfl) rfl ?_; clear H; intro a H
      refine wl_nil ?_
      refine hK10 _ _ ?_; clear hK10
      refine c_block ?_
      refine c_seq (fun _ hK11 => ?_)
      refine c_region ?_
      refine s_cmp H wn rfl rfl rfl rfl ?_; clear H; intro a H
      refine s_assign H wn rfl rfl ?_; clear H; intro a H
      refine wl_nil ?_
      refine hK11 _ _ ?_; clear hK11
      refine c_cond H rfl ?_ ?_
      · intro h25
        try have p25 := of_decide_eq_true h25
        have hcl := cntS_le l[k].text
        refine c_seq (fun _ hK12 => ?_)
        refine c_region ?_
        refine s_field fd47_3plc H wn rfl rfl ?_; clear H; intro a H
        refine s_load ty9plc H wn rfl (H.hp.ocell 1 rfl rfl) rfl ?_; clear H; intro a H
        refine s_call en43plc H wn rfl (count_spec _ _ H.hp.ro _ (by omega)) rfl ?_; clear H
        rintro v30 G30 a w ⟨rfl, rfl⟩ hm30 H
        refine s_move H wn rfl rfl ?_; clear H; intro a H
        refine s_extract H wn rfl rfl rfl ?_; clear H; intro a H
        refine s_extract H wn rfl rfl rfl ?_; clear H; intro a H
        refine s_assign H wn rfl rfl ?_; clear H; intro a H
        refine s_assign H wn rfl rfl ?_; clear H; intro a H
        refine wl_nil ?_
        refine hK12 _ _ ?_; clear hK12
        refine c_region ?_
        refine s_move H wn rfl rfl ?_; clear H; intro a H
        refine s_move H wn rfl rfl ?_; clear H; intro a H
        refine s_sub _ H wn rfl rfl rfl (by omega) (by omega) rfl ?_; clear H; intro a H
        refine s_add _ H wn rfl rfl rfl (by omega) (by omega) rfl ?_; clear H; intro a H
        refine s_assign H wn rfl rfl ?_; clear H; intro a H
        have e : at_ + 1 + ((cntS l[k].text : Int) - 1) = at_ + (adv l[k] : Int) := by rw [adv, if_pos p25]; omega
        rw [e] at H
        refine wl_nil ?_
        refine hK6 _ _ ?_; clear hK6
        refine c_region ?_
        refine s_add _ H wn rfl rfl rfl (by omega) (by omega) rfl ?_; clear H; intro a H
        refine s_move H wn rfl rfl ?_; clear H; intro a H
        refine wl_nil ?_
        refine loopD_end ((k + 1, at_ + adv l[k], j1, Lt, g, ds)) (by exact (H.pickT (Pl := [_, _, _]) (Pl' := [_]) [2] (by decide) rfl).sub ⟨rfl, rfl, rfl, rfl, rfl, rfl, trivial⟩) ?_ ?_
        · try dsimp only
          exact ⟨by omega, hgm, by rw [pItem_eq, if_neg (by omega), List.nil_append] at hnow; exact hnow, by omega, by show at_ + (adv l[k] : Int) + (szRs ((l.drop (k + 1)).map ItemD.dat) : Nat) ≤ n; omega⟩
        · first | omega | (dsimp only; omega)
      · intro h25
        try have p25 := of_decide_eq_false h25
        have e : at_ + 1 = at_ + (adv l[k] : Int) := by rw [adv, if_neg p25]; rfl
        rw [e] at H
        refine c_seq (fun _ hK13 => ?_)
        refine c_seq (fun _ hK14 => ?_)
        refine c_region ?_
        refine s_cmp H wn rfl rfl rfl rfl ?_; clear H; intro a H
        refine s_assign H wn rfl rfl ?_; clear H; intro a H
        refine wl_nil ?_
        refine hK14 _ _ ?_; clear hK14
        refine c_cond H rfl ?_ ?_
        · intro h37
          try have p37 := of_decide_eq_true h37
          have h67 : l[k].kind = 6 ∨ l[k].kind = 7 := by first | exact .inl p37 | exact .inr p37
          rw [pItem_eq, if_pos h67] at hnow
          refine c_skip ?_
          refine hK13 _ _ ?_; clear hK13
          refine c_cond_t H rfl h37 ?_
          refine c_seq (fun _ hK15 => ?_)
          refine c_seq (fun _ hK16 => ?_)
          refine c_region ?_
          refine s_load ty159plc H wn rfl (H.hp.ocell 2 rfl rfl) rfl ?_; clear H; intro a H
          refine s_loada ty66plc (cs := [_, _]) H wn rfl rfl (H.hp.ocells 0 rfl rfl) rfl ?_; clear H; intro a H
          refine s_loada ty47plc (cs := [_, _, _, _, _, _, _, _, _, _, _]) H wn rfl rfl (H.hp.ocells 1 rfl rfl) rfl ?_; clear H; intro a H
          refine s_callv (Li := [_, _, _] ++ mkL ds) (L := Lt) (St.un (A := [_, _, _]) H) wn rfl rfl (hcb j1 _ _ _ _ ⟨_, hnow.head, _, rfl, RepRow.mkItem (hhd.mono hgm0) (hfl.mono hgm0) (hrw.mono hgm0)⟩ hgm hnow.now (Hp.owns (Li := [_, _, _] ++ mkL ds) (St.un (A := [_, _, _]) H).hp)) rfl ?_; clear H
          rintro v43 G43 Lt43 a w ⟨b43, rfl, hb1, hb2⟩ hm43 H
          simp only [List.append_assoc, List.cons_append, List.nil_append] at H
          refine s_not H wn rfl rfl ?_; clear H; intro a H
          refine wl_nil ?_
          refine hK16 _ _ ?_; clear hK16
          refine c_cond H rfl ?_ ?_
          · intro h44
            try have p44 := of_decide_eq_true h44
            refine c_ret ?_
            refine (leaveMs (Lh := [_, _, _]) _ H ?_).1; clear H; intro a w H; dsimp only [List.cons_append, List.nil_append] at H
            refine (leave0 H Try.results71 ?_).1
            first
              | exact H.hp.retD (L' := Lx) (by repeat (first | exact List.Sublist.refl _ | apply List.Sublist.cons)) (.inr hI)
              | exact H.hp.retD (L' := Lt43) (by repeat (first | exact List.Sublist.refl _ | apply List.Sublist.cons)) (.inr (hb2 (by simpa using h44)))
              | exact H.hp.retD (L' := Lt) (by repeat (first | exact List.Sublist.refl _ | apply List.Sublist.cons)) (.inl (by rw [List.drop_of_length_le (by omega), pItems] at hnow; have := hnow.len; simp only [List.length_nil, Nat.add_zero] at this; (try rw [List.length_map]); rw [← this]; exact hnow.now))
          · intro h44
            try have p44 := of_decide_eq_false h44
            have hnow2 := hnow.step (hb1 (by simpa using h44))
            refine c_skip ?_
            refine hK15 _ _ ?_; clear hK15
            refine c_seq (fun _ hK17 => ?_)
            refine c_region ?_
            refine s_loada ty47plc (cs := [_, _, _, _, _, _, _, _, _, _, _]) H wn rfl rfl (H.hp.ocells 1 rfl rfl) rfl ?_; clear H; intro a H
            refine s_call en72plc H wn rfl (within_spec ih hn _ _ H.hp.ro l[k] _ (by omega) (RepRow.mkItem (hhd.mono fun b o h => hm43 b o (hgm0 b o h)) (hfl.mono fun b o h => hm43 b o (hgm0 b o h)) (hrw.mono fun b o h => hm43 b o (hgm0 b o h)))) rfl ?_; clear H
            rintro v46 G46 a w ⟨bx, rfl, hit⟩ hm46 H
            refine wl_nil ?_
            refine hK17 _ _ ?_; clear hK17
            refine c_block ?_
            skip
            refine c_rangeJ (ι := OL) (κ := OL) (Lc := [(_, _), (_, _), (_, _)]) (fun (k : Nat) (gh : OL) => []) (fun (k : Nat) (gh : OL) => (mkL ds ++ gh)) (fun (k : Nat) (gh : OL) (g : GH) => J (j1 + 1 + k) g gh) (fun (gx : OL) => Code.ret) (fun (gx : OL) => []) (fun (gx : OL) => (mkL ds ++ gx)) (fun (gx : OL) (g : GH) => Jx g gx) (Lt43) (by exact H) rfl en87plc (hit) (fun _ _ h => h) rfl (fun k args g h => by obtain ⟨_, _, rfl, _⟩ := pl_at h; rfl) (fun k i G G' hm h => hJm _ _ _ _ hm h) (fun x G G' hm h => hJx _ _ _ hm h) (hJm _ _ _ _ hm46 hnow2.now) ?_ ?_ ?_
            · clear H; intro l15 rdy bsy bk k args gh G15 w15 F15 B15 a hk15 hm15 hI hbeg15 hnext15 hstop15 H
              obtain ⟨Lt1, hgh⟩ : ∃ x, x = gh := ⟨_, rfl⟩; subst hgh
              obtain ⟨hk8, cs8, rfl, hrep8⟩ := pl_at hk15
              obtain ⟨aA, an, ac, bA, bn, bc, dA8, dn8, dc8, eA8, en8, ec8, iA8, in8, ic8, rfl, -⟩ := hrep8.item
              dsimp only [asg, List.cons_append, List.nil_append] at H
              refine c_seq (fun _ hK18 => ?_)
              refine c_region ?_
              refine s_alloc ty66plc H wn rfl ?_; clear H; intro b10 a w hb10 H
              refine s_store ty66plc 0 (vs := [_, _]) _ H wn rfl rfl rfl rfl rfl rfl rfl rfl ?_; clear H; intro w H; dsimp only [List.set, setRow] at H
              refine wl_nil ?_
              refine hK18 _ _ ?_; clear hK18
              refine c_region ?_
              refine s_alloc ty47plc H wn rfl ?_; clear H; intro b11 a w hb11 H
              refine s_store ty47plc 0 (vs := [_, _, _, _, _, _, _, _, _, _, _]) _ H wn rfl rfl rfl rfl rfl rfl rfl rfl ?_; clear H; intro w H; dsimp only [List.set, setRow] at H
              refine wl_nil ?_
              refine hbeg15 _ _ _ _ _ _ (by exact H.pickT (Pl := [_, _, _, _, _, _]) (Pl' := [_, _, _, _, _, _]) [2, 0, 1, 3, 4, 5] (by decide) rfl) ?_; clear H; intro w H
              refine c_block ?_
              refine c_seq (fun _ hK19 => ?_)
              refine c_region ?_
              refine s_load ty159plc H wn rfl (H.hp.ocell 5 rfl rfl) rfl ?_; clear H; intro a H
              refine s_loada ty66plc (cs := [_, _]) H wn rfl rfl (H.hp.ocells 2 rfl rfl) rfl ?_; clear H; intro a H
              refine s_loada ty47plc (cs := [_, _, _, _, _, _, _, _, _, _, _]) H wn rfl rfl (H.hp.ocells 1 rfl rfl) rfl ?_; clear H; intro a H
              refine s_callv (Li := ([_, _, _, _, _, _] ++ bk) ++ mkL ds) (L := Lt1) (St.un (A := [_, _, _, _, _, _] ++ bk) (St.un (A := [_, _, _, _, _, _]) H)) wn rfl rfl (hcb (j1 + 1 + k) _ _ _ _ ⟨_, hnow2.part k _ (List.getElem?_eq_getElem hk8), _, rfl, hrep8⟩ (fun b o h => hm15 b o (hm46 b o (hm43 b o (hgm b o h)))) hI (Hp.owns (Li := ([_, _, _, _, _, _] ++ bk) ++ mkL ds) (St.un (A := [_, _, _, _, _, _] ++ bk) (St.un (A := [_, _, _, _, _, _]) H)).hp)) rfl ?_; clear H
              rintro v52 G52 Lt52 a w ⟨b52, rfl, hb3, hb4⟩ hm52 H
              simp only [List.append_assoc, List.cons_append, List.nil_append] at H
              refine s_not H wn rfl rfl ?_; clear H; intro a H
              refine wl_nil ?_
              refine hK19 _ _ ?_; clear hK19
              refine c_cond H rfl ?_ ?_
              · intro h53
                try have p53 := of_decide_eq_true h53
                refine c_ret ?_
                refine (hstop15 (Lt52) _ _ _ _ _ (by exact H.pickT (Pl := [_, _, _, _, _, _]) (Pl' := [_, _, _, _]) [0, 3, 4, 5] (by decide) rfl) ?_).1 rfl
                exact hb4 (by simpa using h53)
              · intro h53
                try have p53 := of_decide_eq_false h53
                refine c_skip ?_
                refine hnext15 (Lt52) _ _ _ _ _ (by exact H.pickT (Pl := [_, _, _, _, _, _]) (Pl' := [_, _, _, _]) [0, 3, 4, 5] (by decide) rfl) ?_
                exact hb3 (by simpa using h53)
            · clear H; intro Dk15 gh Gd15 a w hm15 hI H
              obtain ⟨Lt1, hgh⟩ : ∃ x, x = gh := ⟨_, rfl⟩; subst hgh
              dsimp only [List.cons_append, List.nil_append, List.append_nil] at H
              refine hK6 _ _ ?_; clear hK6
              refine c_region ?_
              refine s_add _ H wn rfl rfl rfl (by omega) (by omega) rfl ?_; clear H; intro a H
              refine s_move H wn rfl rfl ?_; clear H; intro a H
              refine wl_nil ?_
              refine loopD_end ((k + 1, at_ + adv l[k], j1 + 1 + (pCells (innerC l[k])).length, Lt1, Gd15, Dk15 :: ds)) (by exact (H.pickT (Pl := [_, _, _, _]) (Pl' := [_, _]) [3, 0] (by decide) rfl).sub ⟨rfl, rfl, rfl, rfl, rfl, rfl, trivial⟩) ?_ ?_
              · try dsimp only
                exact ⟨by omega, fun b o h => hm15 b o (hm46 b o (hm43 b o (hgm b o h))), hnow2.jump (by simpa using hI), by omega, by show at_ + (adv l[k] : Int) + (szRs ((l.drop (k + 1)).map ItemD.dat) : Nat) ≤ n; omega⟩
              · first | omega | (dsimp only; omega)
            · clear H; intro Dk15 gx Gd15 a w hm15 hI H
              obtain ⟨Lx, hgh⟩ : ∃ x, x = gx := ⟨_, rfl⟩; subst hgh
              dsimp only [List.cons_append, List.nil_append, List.append_nil] at H
              refine c_ret ?_
              refine (leaveM H 0 rfl ?_).1; clear H; intro a w H; dsimp only [List.eraseIdx_cons_succ, List.eraseIdx_cons_zero] at H
              refine (leaveMs (Lh := [_, _, _]) _ H ?_).1; clear H; intro a w H; dsimp only [List.cons_append, List.nil_append] at H
              refine (leave0 H Try.results71 ?_).1
              first
                | exact H.hp.retD (L' := Lx) (by repeat (first | exact List.Sublist.refl _ | apply List.Sublist.cons)) (.inr hI)
                | exact H.hp.retD (L' := Lt43) (by repeat (first | exact List.Sublist.refl _ | apply List.Sublist.cons)) (.inr (hb2 (by simpa using h44)))
                | exact H.hp.retD (L' := Lt) (by repeat (first | exact List.Sublist.refl _ | apply List.Sublist.cons)) (.inl (by rw [List.drop_of_length_le (by omega), pItems] at hnow; have := hnow.len; simp only [List.length_nil, Nat.add_zero] at this; (try rw [List.length_map]); rw [← this]; exact hnow.now))
        · intro h37
          try have p37 := of_decide_eq_false h37
          first
            | (have hn6 : ¬ l[k].kind = 6 := p37)
            | (have hn7 : ¬ l[k].kind = 7 := p37)
          refine c_region ?_
          refine s_cmp H wn rfl rfl rfl rfl ?_; clear H; intro a H
          refine s_assign H wn rfl rfl ?_; clear H; intro a H
          refine wl_nil ?_
          refine hK13 _ _ ?_; clear hK13
          refine c_cond H rfl ?_ ?_
          · intro h37
            try have p37 := of_decide_eq_true h37
            have h67 : l[k].kind = 6 ∨ l[k].kind = 7 := by first | exact .inl p37 | exact .inr p37
            rw [pItem_eq, if_pos h67] at hnow
            refine c_seq (fun _ hK20 => ?_)
            refine c_seq (fun _ hK21 => ?_)
            refine c_region ?_
            refine s_load ty159plc H wn rfl (H.hp.ocell 2 rfl rfl) rfl ?_; clear H; intro a H
            refine s_loada ty66plc (cs := [_, _]) H wn rfl rfl (H.hp.ocells 0 rfl rfl) rfl ?_; clear H; intro a H
            refine s_loada ty47plc (cs := [_, _, _, _, _, _, _, _, _, _, _]) H wn rfl rfl (H.hp.ocells 1 rfl rfl) rfl ?_; clear H; intro a H
            refine s_callv (Li := [_, _, _] ++ mkL ds) (L := Lt) (St.un (A := [_, _, _]) H) wn rfl rfl (hcb j1 _ _ _ _ ⟨_, hnow.head, _, rfl, RepRow.mkItem (hhd.mono hgm0) (hfl.mono hgm0) (hrw.mono hgm0)⟩ hgm hnow.now (Hp.owns (Li := [_, _, _] ++ mkL ds) (St.un (A := [_, _, _]) H).hp)) rfl ?_; clear H
            rintro v43 G43 Lt43 a w ⟨b43, rfl, hb1, hb2⟩ hm43 H
            simp only [List.append_assoc, List.cons_append, List.nil_append] at H
            refine s_not H wn rfl rfl ?_; clear H; intro a H
            refine wl_nil ?_
            refine hK21 _ _ ?_; clear hK21
            refine c_cond H rfl ?_ ?_
            · intro h44
              try have p44 := of_decide_eq_true h44
              refine c_ret ?_
              refine (leaveMs (Lh := [_, _, _]) _ H ?_).1; clear H; intro a w H; dsimp only [List.cons_append, List.nil_append] at H
              refine (leave0 H Try.results71 ?_).1
              first
                | exact H.hp.retD (L' := Lx) (by repeat (first | exact List.Sublist.refl _ | apply List.Sublist.cons)) (.inr hI)
                | exact H.hp.retD (L' := Lt43) (by repeat (first | exact List.Sublist.refl _ | apply List.Sublist.cons)) (.inr (hb2 (by simpa using h44)))
                | exact H.hp.retD (L' := Lt) (by repeat (first | exact List.Sublist.refl _ | apply List.Sublist.cons)) (.inl (by rw [List.drop_of_length_le (by omega), pItems] at hnow; have := hnow.len; simp only [List.length_nil, Nat.add_zero] at this; (try rw [List.length_map]); rw [← this]; exact hnow.now))
            · intro h44
              try have p44 := of_decide_eq_false h44
              have hnow2 := hnow.step (hb1 (by simpa using h44))
              refine c_skip ?_
              refine hK20 _ _ ?_; clear hK20
              refine c_seq (fun _ hK22 => ?_)
              refine c_region ?_
              refine s_loada ty47plc (cs := [_, _, _, _, _, _, _, _, _, _, _]) H wn rfl rfl (H.hp.ocells 1 rfl rfl) rfl ?_; clear H; intro a H
              refine s_call en72plc H wn rfl (within_spec ih hn _ _ H.hp.ro l[k] _ (by omega) (RepRow.mkItem (hhd.mono fun b o h => hm43 b o (hgm0 b o h)) (hfl.mono fun b o h => hm43 b o (hgm0 b o h)) (hrw.mono fun b o h => hm43 b o (hgm0 b o h)))) rfl ?_; clear H
              rintro v46 G46 a w ⟨bx, rfl, hit⟩ hm46 H
              refine wl_nil ?_
              refine hK22 _ _ ?_; clear hK22
              refine c_block ?_
              skip
              refine c_rangeJ (ι := OL) (κ := OL) (Lc := [(_, _), (_, _), (_, _)]) (fun (k : Nat) (gh : OL) => []) (fun (k : Nat) (gh : OL) => (mkL ds ++ gh)) (fun (k : Nat) (gh : OL) (g : GH) => J (j1 + 1 + k) g gh) (fun (gx : OL) => Code.ret) (fun (gx : OL) => []) (fun (gx : OL) => (mkL ds ++ gx)) (fun (gx : OL) (g : GH) => Jx g gx) (Lt43) (by exact H) rfl en87plc (hit) (fun _ _ h => h) rfl (fun k args g h => by obtain ⟨_, _, rfl, _⟩ := pl_at h; rfl) (fun k i G G' hm h => hJm _ _ _ _ hm h) (fun x G G' hm h => hJx _ _ _ hm h) (hJm _ _ _ _ hm46 hnow2.now) ?_ ?_ ?_
              · clear H; intro l15 rdy bsy bk k args gh G15 w15 F15 B15 a hk15 hm15 hI hbeg15 hnext15 hstop15 H
                obtain ⟨Lt1, hgh⟩ : ∃ x, x = gh := ⟨_, rfl⟩; subst hgh
                obtain ⟨hk8, cs8, rfl, hrep8⟩ := pl_at hk15
                obtain ⟨aA, an, ac, bA, bn, bc, dA8, dn8, dc8, eA8, en8, ec8, iA8, in8, ic8, rfl, -⟩ := hrep8.item
                dsimp only [asg, List.cons_append, List.nil_append] at H
                refine c_seq (fun _ hK23 => ?_)
                refine c_region ?_
                refine s_alloc ty66plc H wn rfl ?_; clear H; intro b10 a w hb10 H
                refine s_store ty66plc 0 (vs := [_, _]) _ H wn rfl rfl rfl rfl rfl rfl rfl rfl ?_; clear H; intro w H; dsimp only [List.set, setRow] at H
                refine wl_nil ?_
                refine hK23 _ _ ?_; clear hK23
                refine c_region ?_
                refine s_alloc ty47plc H wn rfl ?_; clear H; intro b11 a w hb11 H
                refine s_store ty47plc 0 (vs := [_, _, _, _, _, _, _, _, _, _, _]) _ H wn rfl rfl rfl rfl rfl rfl rfl rfl ?_; clear H; intro w H; dsimp only [List.set, setRow] at H
                refine wl_nil ?_
                refine hbeg15 _ _ _ _ _ _ (by exact H.pickT (Pl := [_, _, _, _, _, _]) (Pl' := [_, _, _, _, _, _]) [2, 0, 1, 3, 4, 5] (by decide) rfl) ?_; clear H; intro w H
                refine c_block ?_
                refine c_seq (fun _ hK24 => ?_)
                refine c_region ?_
                refine s_load ty159plc H wn rfl (H.hp.ocell 5 rfl rfl) rfl ?_; clear H; intro a H
                refine s_loada ty66plc (cs := [_, _]) H wn rfl rfl (H.hp.ocells 2 rfl rfl) rfl ?_; clear H; intro a H
                refine s_loada ty47plc (cs := [_, _, _, _, _, _, _, _, _, _, _]) H wn rfl rfl (H.hp.ocells 1 rfl rfl) rfl ?_; clear H; intro a H
                refine s_callv (Li := ([_, _, _, _, _, _] ++ bk) ++ mkL ds) (L := Lt1) (St.un (A := [_, _, _, _, _, _] ++ bk) (St.un (A := [_, _, _, _, _, _]) H)) wn rfl rfl (hcb (j1 + 1 + k) _ _ _ _ ⟨_, hnow2.part k _ (List.getElem?_eq_getElem hk8), _, rfl, hrep8⟩ (fun b o h => hm15 b o (hm46 b o (hm43 b o (hgm b o h)))) hI (Hp.owns (Li := ([_, _, _, _, _, _] ++ bk) ++ mkL ds) (St.un (A := [_, _, _, _, _, _] ++ bk) (St.un (A := [_, _, _, _, _, _]) H)).hp)) rfl ?_; clear H
                rintro v52 G52 Lt52 a w ⟨b52, rfl, hb3, hb4⟩ hm52 H
                simp only [List.append_assoc, List.cons_append, List.nil_append] at H
                refine s_not H wn rfl rfl ?_; clear H; intro a H
                refine wl_nil ?_
                refine hK24 _ _ ?_; clear hK24
                refine c_cond H rfl ?_ ?_
                · intro h53
                  try have p53 := of_decide_eq_true h53
                  refine c_ret ?_
                  refine (hstop15 (Lt52) _ _ _ _ _ (by exact H.pickT (Pl := [_, _, _, _, _, _]) (Pl' := [_, _, _, _]) [0, 3, 4, 5] (by decide) rfl) ?_).1 rfl
                  exact hb4 (by simpa using h53)
                · intro h53
                  try have p53 := of_decide_eq_false h53
                  refine c_skip ?_
                  refine hnext15 (Lt52) _ _ _ _ _ (by exact H.pickT (Pl := [_, _, _, _, _, _]) (Pl' := [_, _, _, _]) [0, 3, 4, 5] (by decide) rfl) ?_
                  exact hb3 (by simpa using h53)
              · clear H; intro Dk15 gh Gd15 a w hm15 hI H
                obtain ⟨Lt1, hgh⟩ : ∃ x, x = gh := ⟨_, rfl⟩; subst hgh
                dsimp only [List.cons_append, List.nil_append, List.append_nil] at H
                refine hK6 _ _ ?_; clear hK6
                refine c_region ?_
                refine s_add _ H wn rfl rfl rfl (by omega) (by omega) rfl ?_; clear H; intro a H
                refine s_move H wn rfl rfl ?_; clear H; intro a H
                refine wl_nil ?_
                refine loopD_end ((k + 1, at_ + adv l[k], j1 + 1 + (pCells (innerC l[k])).length, Lt1, Gd15, Dk15 :: ds)) (by exact (H.pickT (Pl := [_, _, _, _]) (Pl' := [_, _]) [3, 0] (by decide) rfl).sub ⟨rfl, rfl, rfl, rfl, rfl, rfl, trivial⟩) ?_ ?_
                · try dsimp only
                  exact ⟨by omega, fun b o h => hm15 b o (hm46 b o (hm43 b o (hgm b o h))), hnow2.jump (by simpa using hI), by omega, by show at_ + (adv l[k] : Int) + (szRs ((l.drop (k + 1)).map ItemD.dat) : Nat) ≤ n; omega⟩
                · first | omega | (dsimp only; omega)
              · clear H; intro Dk15 gx Gd15 a w hm15 hI H
                obtain ⟨Lx, hgh⟩ : ∃ x, x = gx := ⟨_, rfl⟩; subst hgh
                dsimp only [List.cons_append, List.nil_append, List.append_nil] at H
                refine c_ret ?_
                refine (leaveM H 0 rfl ?_).1; clear H; intro a w H; dsimp only [List.eraseIdx_cons_succ, List.eraseIdx_cons_zero] at H
                refine (leaveMs (Lh := [_, _, _]) _ H ?_).1; clear H; intro a w H; dsimp only [List.cons_append, List.nil_append] at H
                refine (leave0 H Try.results71 ?_).1
                first
                  | exact H.hp.retD (L' := Lx) (by repeat (first | exact List.Sublist.refl _ | apply List.Sublist.cons)) (.inr hI)
                  | exact H.hp.retD (L' := Lt43) (by repeat (first | exact List.Sublist.refl _ | apply List.Sublist.cons)) (.inr (hb2 (by simpa using h44)))
                  | exact H.hp.retD (L' := Lt) (by repeat (first | exact List.Sublist.refl _ | apply List.Sublist.cons)) (.inl (by rw [List.drop_of_length_le (by omega), pItems] at hnow; have := hnow.len; simp only [List.length_nil, Nat.add_zero] at this; (try rw [List.length_map]); rw [← this]; exact hnow.now))
          · intro h37
            try have p37 := of_decide_eq_false h37
            first
              | (have hn6 : ¬ l[k].kind = 6 := p37)
              | (have hn7 : ¬ l[k].kind = 7 := p37)
            refine c_skip ?_
            refine hK6 _ _ ?_; clear hK6
            refine c_region ?_
            refine s_add _ H wn rfl rfl rfl (by omega) (by omega) rfl ?_; clear H; intro a H
            refine s_move H wn rfl rfl ?_; clear H; intro a H
            refine wl_nil ?_
            refine loopD_end ((k + 1, at_ + adv l[k], j1, Lt, g, ds)) (by exact (H.pickT (Pl := [_, _, _]) (Pl' := [_]) [2] (by decide) rfl).sub ⟨rfl, rfl, rfl, rfl, rfl, rfl, trivial⟩) ?_ ?_
            · try dsimp only
              exact ⟨by omega, hgm, by rw [pItem_eq, if_neg (by omega), List.nil_append] at hnow; exact hnow, by omega, by show at_ + (adv l[k] : Int) + (szRs ((l.drop (k + 1)).map ItemD.dat) : Nat) ≤ n; omega⟩
            · first | omega | (dsimp only; omega)
    · intro h15
      try have p15 := of_decide_eq_false h15
      refine c_exit ?_
      refine (leaveMs (Lh := [_]) _ H ?_).2; clear H; intro a w H; dsimp only [List.cons_append, List.nil_append] at H
      refine (leave0 H Try.results71 ?_).1
      first
        | exact H.hp.retD (L' := Lx) (by repeat (first | exact List.Sublist.refl _ | apply List.Sublist.cons)) (.inr hI)
        | exact H.hp.retD (L' := Lt43) (by repeat (first | exact List.Sublist.refl _ | apply List.Sublist.cons)) (.inr (hb2 (by simpa using h44)))
        | exact H.hp.retD (L' := Lt) (by repeat (first | exact List.Sublist.refl _ | apply List.Sublist.cons)) (.inl (by rw [List.drop_of_length_le (by omega), pItems] at hnow; have := hnow.len; simp only [List.length_nil, Nat.add_zero] at this; (try rw [List.length_map]); rw [← this]; exact hnow.now))
theorem placed_ok : ∀ n : Nat, n ≤ 4294967297 → PlacedOk n
  | 0, _ => fun _ _ _ _ _ _ h => absurd h (by omega)
  | n + 1, hn => placed_step (placed_ok n (by omega)) (by omega)
theorem placed_spec (G : GH) (w0 : World) (hG : Hold G w0) (l : List ItemD) (id : Int) (v : Value) (hz : zItems l ≤ 4294967296) (hv : RepV G (.sl 11 (l.map ItemD.dat)) v) :
    Calls Try.prog 53 #[vi id, v] w0 (Ret w0 G fun u G' => ∃ bl bi, u = .func (.func 71) #[] #[.pointer (some ⟨bl, 0, none⟩), .pointer (some ⟨bi, 0, none⟩)] ∧ Iter Try.prog G' u ((pItems id 0 l).map plP)) :=
  placed_spec' (placed_ok 4294967297 (by omega)) G w0 hG l id v (by omega) hv
end Go.Proofs.Ytbfdhlakbdadhaa
