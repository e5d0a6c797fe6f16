/-
  Package document: Place.
-/
import Derived.Test.YtbfdhlakbdadhaaPlc
namespace Go.Proofs.Ytbfdhlakbdadhaa
open Go.RowKit
theorem un45plr : Try.prog.underlying 45 = some (.slice 107) := by kernel_rfl
theorem ty107plr : Ty Try.prog 107 6 112 [.slice none 0 0, .int .i64 0, .int .i64 0, .slice none 0 0, .slice none 0 0, .slice none 0 0] true := ⟨by kernel_rfl, by kernel_rfl⟩
theorem en73plr : ∀ args w, (callFunc 73 args).run Try.prog w = .ok (.enter 73 args) w := enters Try.func73 rfl (by kernel_rfl)
theorem un105plr : Try.prog.underlying 105 = some (.slice 104) := by kernel_rfl
theorem ty104plr : Ty Try.prog 104 7 120 [.int .i64 0, .slice none 0 0, .int .i64 0, .int .i64 0, .slice none 0 0, .slice none 0 0, .slice none 0 0] true := ⟨by kernel_rfl, by kernel_rfl⟩
theorem en74plr : ∀ args w, (callFunc 74 args).run Try.prog w = .ok (.enter 74 args) w := enters Try.func74 rfl (by kernel_rfl)
theorem fd104_0plr : Fld Try.prog 104 0 0 := ⟨by kernel_rfl⟩
theorem ty3plr : Ty Try.prog 3 1 8 [.int .i64 0] false := ⟨by kernel_rfl, by kernel_rfl⟩
theorem fd107_1plr : Fld Try.prog 107 1 5 := ⟨by kernel_rfl⟩
theorem ty105plr : Ty Try.prog 105 1 24 [.slice none 0 0] false := ⟨by kernel_rfl, by kernel_rfl⟩
theorem en56plr : ∀ args w, (callFunc 56 args).run Try.prog w = .ok (.enter 56 args) w := enters Try.func56 rfl (by kernel_rfl)
theorem ty66plr : Ty Try.prog 66 2 16 [.int .i64 0, .int .i64 0] true := ⟨by kernel_rfl, by kernel_rfl⟩
theorem ty4plr : Ty Try.prog 4 1 1 [.bool false] false := ⟨by kernel_rfl, by kernel_rfl⟩
theorem fd62_0plr : Fld Try.prog 62 0 0 := ⟨by kernel_rfl⟩
theorem ty28plr : Ty Try.prog 28 1 24 [.slice none 0 0] false := ⟨by kernel_rfl, by kernel_rfl⟩
theorem en53plr : ∀ args w, (callFunc 53 args).run Try.prog w = .ok (.enter 53 args) w := enters Try.func53 rfl (by kernel_rfl)
theorem en71plr : ∀ args w, (callFunc 71 args).run Try.prog w = .ok (.enter 71 args) w := enters Try.func71 rfl (by kernel_rfl)
theorem ty47plr : Ty Try.prog 47 11 176 [.int .i64 0, .int .i64 0, .int .i64 0, .string ⟨#[]⟩, .slice none 0 0, .int .i64 0, .int .i64 0, .slice none 0 0, .slice none 0 0, .slice none 0 0, .slice none 0 0] true := ⟨by kernel_rfl, by kernel_rfl⟩
theorem fd47_6plr : Fld Try.prog 47 6 10 := ⟨by kernel_rfl⟩
theorem ty45plr : Ty Try.prog 45 1 24 [.slice none 0 0] false := ⟨by kernel_rfl, by kernel_rfl⟩
theorem en54plr : ∀ args w, (callFunc 54 args).run Try.prog w = .ok (.enter 54 args) w := enters Try.func54 rfl (by kernel_rfl)
theorem fd47_2plr : Fld Try.prog 47 2 2 := ⟨by kernel_rfl⟩
theorem sr66plr : Srt Try.prog 66 [(0, 1), (1, 1)] [.int .i64 0, .int .i64 0] := ⟨by kernel_rfl, by kernel_rfl⟩
theorem en57plr : ∀ args w, (callFunc 57 args).run Try.prog w = .ok (.enter 57 args) w := enters Try.func57 rfl (by kernel_rfl)
theorem en55plr : ∀ args w, (callFunc 55 args).run Try.prog w = .ok (.enter 55 args) w := enters Try.func55 rfl (by kernel_rfl)
/-- What a test of elements owes. -/
def Tester (fv : Value) (G : GH) (d : List Dat) (b : Bool) : Prop := ∀ (G1 : GH) (w1 : World) (cs : List Value), (∀ b o, G b = some o → G1 b = some o) → Hold G1 w1 → RepRow G1 d cs →
  CallV Try.prog fv [.agg cs.toArray] w1 (Ret w1 G1 fun u G' => u = .bool b)
def ixI (o : Option Nat) : Int := match o with | some i => i | none => -1
theorem indexFuncRow (G : GH) (w0 : World) (hG : Hold G w0) (l : List RowD) (p : RowD → Bool) (v fv : Value) (hv : RepV G (.sl 6 (l.map RowD.dat)) v) (hf : ∀ x ∈ l, Tester fv G x.dat (p x)) :
    Calls Try.prog 73 #[v, fv] w0 (Ret w0 G fun u G' => u = vi (ixI (l.findIdx? p))) := by
  obtain ⟨A, c, rfl, hc1, hc2, hg⟩ := hv.slice
  have hml : maxLen = 9223372036854775807 := rfl
  rw [List.length_map] at *
  refine enter (N := 19) (T := [(0, _), (1, _)]) (F := fun k => k < w0.heap.size) (L := []) Try.func73 rfl Try.ntmps73 rfl rfl hG (fun _ h => h) (fun _ h => by cases h) (fun _ h => by cases h) (fun _ h => by cases h) List.Pairwise.nil ?_
  intro a H
  refine c_seq (fun _ hK1 => ?_)
  refine c_region ?_
  refine s_assign H wn rfl rfl ?_; clear H; intro a H
  refine wl_nil ?_
  refine hK1 _ _ ?_; clear hK1
  refine c_seq (fun _ hK2 => ?_)
  refine c_seq (fun _ hK3 => ?_)
  refine c_region ?_
  refine s_move H wn rfl rfl ?_; clear H; intro a H
  refine s_len un45plr H wn rfl rfl ?_; clear H; intro a H
  refine s_move H wn rfl rfl ?_; clear H; intro a H
  refine wl_nil ?_
  refine hK3 _ _ ?_; clear hK3
  refine c_block ?_
  skip
  refine c_loopS (ι := Nat × GH) (Tc := [(0, _), (1, _), (7, _)]) (Lc := []) (fun (gh : Nat × GH) => [(8, vi gh.1)]) (fun (gh : Nat × GH) => []) (fun (gh : Nat × GH) => gh.2) (fun (gh : Nat × GH) => gh.1 ≤ l.length ∧ (l.take gh.1).findIdx? p = none ∧ (∀ b o, G b = some o → gh.2 b = some o)) (fun (gh : Nat × GH) => l.length - gh.1) ((0, G)) (by exact (H).sub ⟨rfl, rfl, rfl, rfl, trivial⟩) ?_ ?_
  · exact ⟨by omega, rfl, fun _ _ h => h⟩
  · clear H; intro gh a w hI H
    obtain ⟨k, g⟩ := gh; dsimp only at hI H
    obtain ⟨hk, hno, hgm⟩ := hI
    dsimp only [List.cons_append, List.nil_append, List.append_nil] at H
    refine c_seq (fun _ hK4 => ?_)
    refine c_region ?_
    refine s_cmp H wn rfl rfl rfl rfl ?_; clear H; intro a H
    refine wl_nil ?_
    refine hK4 _ _ ?_; clear hK4
    refine c_seq (fun _ hK5 => ?_)
    refine c_cond H rfl ?_ ?_
    · intro h9
      try have p9 := of_decide_eq_true h9
      have hk2 : k < l.length := by omega
      obtain ⟨b, o, cs, rfl, hcl, hrow, hrep⟩ := hg k l[k].dat (by simp [hk2])
      obtain ⟨pA, pn, pc, dA, dn, dc, yA, yn, yc, fA, fn, fc, rfl, -⟩ := hrep.row
      replace hrow := fun j u hj => gcell_mono hgm (hrow j u hj)
      refine c_skip ?_
      refine hK5 _ _ ?_; clear hK5
      refine c_seq (fun _ hK6 => ?_)
      refine c_block ?_
      refine c_seq (fun _ hK7 => ?_)
      refine c_region ?_
      refine s_move H wn rfl rfl ?_; clear H; intro a H
      refine s_assign H wn rfl rfl ?_; clear H; intro a H
      refine wl_nil ?_
      refine hK7 _ _ ?_; clear hK7
      refine c_seq (fun _ hK8 => ?_)
      refine c_region ?_
      refine s_move H wn rfl rfl ?_; clear H; intro a H
      refine s_move H wn rfl rfl ?_; clear H; intro a H
      refine s_move H wn rfl rfl ?_; clear H; intro a H
      refine s_index un45plr ty107plr _ H wn rfl rfl rfl (by first | assumption | omega) rfl ?_; clear H; intro a H
      refine s_loada ty107plr (cs := [_, _, _, _, _, _]) H wn rfl rfl (fun j v hj => H.hp.gcell (hrow j v hj)) rfl ?_; clear H; intro a H
      refine s_callv0 H wn rfl rfl (hf _ (List.getElem_mem hk2) _ _ _ hgm H.hp.ro (hrep.mono hgm)) rfl ?_; clear H
      rintro v16 G16 a w rfl hm16 H
      refine wl_nil ?_
      refine hK8 _ _ ?_; clear hK8
      refine c_cond H rfl ?_ ?_
      · intro h16
        try have p16 := of_decide_eq_true h16
        refine c_seq (fun _ hK9 => ?_)
        refine c_region ?_
        refine s_move H wn rfl rfl ?_; clear H; intro a H
        refine s_assign H wn rfl rfl ?_; clear H; intro a H
        refine wl_nil ?_
        refine hK9 _ _ ?_; clear hK9
        refine c_ret ?_
        refine (leave1 H Try.results73 (.cons (rv_tmp H rfl) .nil) ?_).1
        first
          | exact H.hp.ret (by rw [idx_stop hk2 hno h16]; rfl)
          | exact H.hp.ret (by rw [show l.take k = l from List.take_of_length_le (by omega)] at hno; rw [hno]; rfl)
      · intro h16
        try have p16 := of_decide_eq_false h16
        refine c_skip ?_
        refine hK6 _ _ ?_; clear hK6
        refine c_region ?_
        refine s_add _ H wn rfl rfl rfl (by omega) (by omega) rfl ?_; clear H; intro a H
        refine s_move H wn rfl rfl ?_; clear H; intro a H
        refine wl_nil ?_
        refine loop_end ((k + 1, G16)) (by exact (H).sub ⟨rfl, rfl, rfl, rfl, trivial⟩) ?_ ?_
        · try dsimp only
          exact ⟨by omega, idx_next hk2 hno h16, fun b o h => hm16 b o (hgm b o h)⟩
        · first | omega | (dsimp only; omega)
    · intro h9
      try have p9 := of_decide_eq_false h9
      refine c_exit ?_
      refine hK2 _ _ ?_; clear hK2
      refine c_seq (fun _ hK10 => ?_)
      refine c_region ?_
      refine s_assign H wn rfl rfl ?_; clear H; intro a H
      refine wl_nil ?_
      refine hK10 _ _ ?_; clear hK10
      refine c_ret ?_
      refine (leave1 H Try.results73 (.cons (rv_tmp H rfl) .nil) ?_).1
      first
        | exact H.hp.ret (by rw [idx_stop hk2 hno h16]; rfl)
        | exact H.hp.ret (by rw [show l.take k = l from List.take_of_length_le (by omega)] at hno; rw [hno]; rfl)
theorem containsFuncRow (G : GH) (w0 : World) (hG : Hold G w0) (l : List RowD) (p : RowD → Bool) (v fv : Value) (hv : RepV G (.sl 6 (l.map RowD.dat)) v) (hf : ∀ x ∈ l, Tester fv G x.dat (p x)) :
    Calls Try.prog 54 #[v, fv] w0 (Ret w0 G fun u G' => u = .bool (l.findIdx? p).isSome) := by
  refine enter (N := 9) (T := [(0, _), (1, _)]) (F := fun k => k < w0.heap.size) (L := []) Try.func54 rfl Try.ntmps54 rfl rfl hG (fun _ h => h) (fun _ h => by cases h) (fun _ h => by cases h) (fun _ h => by cases h) List.Pairwise.nil ?_
  intro a H
  refine c_seq (fun _ hK1 => ?_)
  refine c_region ?_
  refine s_assign H wn rfl rfl ?_; clear H; intro a H
  refine wl_nil ?_
  refine hK1 _ _ ?_; clear hK1
  refine c_seq (fun _ hK2 => ?_)
  refine c_region ?_
  refine s_move H wn rfl rfl ?_; clear H; intro a H
  refine s_move H wn rfl rfl ?_; clear H; intro a H
  refine s_call en73plr H wn rfl (indexFuncRow _ _ H.hp.ro l p _ _ hv hf) rfl ?_; clear H
  rintro v7 G7 a w rfl hm7 H
  refine s_cmp H wn rfl rfl rfl rfl ?_; clear H; intro a H
  refine s_assign H wn rfl rfl ?_; clear H; intro a H
  refine wl_nil ?_
  refine hK2 _ _ ?_; clear hK2
  refine c_ret ?_
  refine (leave1 H Try.results54 (.cons (rv_tmp H rfl) .nil) ?_).1
  exact H.hp.ret (by cases h : l.findIdx? p <;> simp [ixI])
theorem indexFuncCell (G : GH) (w0 : World) (hG : Hold G w0) (l : List CellD) (p : CellD → Bool) (v fv : Value) (hv : RepV G (.sl 7 (l.map CellD.dat)) v) (hf : ∀ x ∈ l, Tester fv G x.dat (p x)) :
    Calls Try.prog 74 #[v, fv] w0 (Ret w0 G fun u G' => u = vi (ixI (l.findIdx? p))) := by
  obtain ⟨A, c, rfl, hc1, hc2, hg⟩ := hv.slice
  have hml : maxLen = 9223372036854775807 := rfl
  rw [List.length_map] at *
  refine enter (N := 19) (T := [(0, _), (1, _)]) (F := fun k => k < w0.heap.size) (L := []) Try.func74 rfl Try.ntmps74 rfl rfl hG (fun _ h => h) (fun _ h => by cases h) (fun _ h => by cases h) (fun _ h => by cases h) List.Pairwise.nil ?_
  intro a H
  refine c_seq (fun _ hK1 => ?_)
  refine c_region ?_
  refine s_assign H wn rfl rfl ?_; clear H; intro a H
  refine wl_nil ?_
  refine hK1 _ _ ?_; clear hK1
  refine c_seq (fun _ hK2 => ?_)
  refine c_seq (fun _ hK3 => ?_)
  refine c_region ?_
  refine s_move H wn rfl rfl ?_; clear H; intro a H
  refine s_len un105plr H wn rfl rfl ?_; clear H; intro a H
  refine s_move H wn rfl rfl ?_; clear H; intro a H
  refine wl_nil ?_
  refine hK3 _ _ ?_; clear hK3
  refine c_block ?_
  skip
  refine c_loopS (ι := Nat × GH) (Tc := [(0, _), (1, _), (7, _)]) (Lc := []) (fun (gh : Nat × GH) => [(8, vi gh.1)]) (fun (gh : Nat × GH) => []) (fun (gh : Nat × GH) => gh.2) (fun (gh : Nat × GH) => gh.1 ≤ l.length ∧ (l.take gh.1).findIdx? p = none ∧ (∀ b o, G b = some o → gh.2 b = some o)) (fun (gh : Nat × GH) => l.length - gh.1) ((0, G)) (by exact (H).sub ⟨rfl, rfl, rfl, rfl, trivial⟩) ?_ ?_
  · exact ⟨by omega, rfl, fun _ _ h => h⟩
  · clear H; intro gh a w hI H
    obtain ⟨k, g⟩ := gh; dsimp only at hI H
    obtain ⟨hk, hno, hgm⟩ := hI
    dsimp only [List.cons_append, List.nil_append, List.append_nil] at H
    refine c_seq (fun _ hK4 => ?_)
    refine c_region ?_
    refine s_cmp H wn rfl rfl rfl rfl ?_; clear H; intro a H
    refine wl_nil ?_
    refine hK4 _ _ ?_; clear hK4
    refine c_seq (fun _ hK5 => ?_)
    refine c_cond H rfl ?_ ?_
    · intro h9
      try have p9 := of_decide_eq_true h9
      have hk2 : k < l.length := by omega
      obtain ⟨b, o, cs, rfl, hcl, hrow, hrep⟩ := hg k l[k].dat (by simp [hk2])
      obtain ⟨pA, pn, pc, dA, dn, dc, yA, yn, yc, fA, fn, fc, rfl, -⟩ := hrep.cell
      replace hrow := fun j u hj => gcell_mono hgm (hrow j u hj)
      refine c_skip ?_
      refine hK5 _ _ ?_; clear hK5
      refine c_seq (fun _ hK6 => ?_)
      refine c_block ?_
      refine c_seq (fun _ hK7 => ?_)
      refine c_region ?_
      refine s_move H wn rfl rfl ?_; clear H; intro a H
      refine s_assign H wn rfl rfl ?_; clear H; intro a H
      refine wl_nil ?_
      refine hK7 _ _ ?_; clear hK7
      refine c_seq (fun _ hK8 => ?_)
      refine c_region ?_
      refine s_move H wn rfl rfl ?_; clear H; intro a H
      refine s_move H wn rfl rfl ?_; clear H; intro a H
      refine s_move H wn rfl rfl ?_; clear H; intro a H
      refine s_index un105plr ty104plr _ H wn rfl rfl rfl (by first | assumption | omega) rfl ?_; clear H; intro a H
      refine s_loada ty104plr (cs := [_, _, _, _, _, _, _]) H wn rfl rfl (fun j v hj => H.hp.gcell (hrow j v hj)) rfl ?_; clear H; intro a H
      refine s_callv0 H wn rfl rfl (hf _ (List.getElem_mem hk2) _ _ _ hgm H.hp.ro (hrep.mono hgm)) rfl ?_; clear H
      rintro v16 G16 a w rfl hm16 H
      refine wl_nil ?_
      refine hK8 _ _ ?_; clear hK8
      refine c_cond H rfl ?_ ?_
      · intro h16
        try have p16 := of_decide_eq_true h16
        refine c_seq (fun _ hK9 => ?_)
        refine c_region ?_
        refine s_move H wn rfl rfl ?_; clear H; intro a H
        refine s_assign H wn rfl rfl ?_; clear H; intro a H
        refine wl_nil ?_
        refine hK9 _ _ ?_; clear hK9
        refine c_ret ?_
        refine (leave1 H Try.results74 (.cons (rv_tmp H rfl) .nil) ?_).1
        first
          | exact H.hp.ret (by rw [idx_stop hk2 hno h16]; rfl)
          | exact H.hp.ret (by rw [show l.take k = l from List.take_of_length_le (by omega)] at hno; rw [hno]; rfl)
      · intro h16
        try have p16 := of_decide_eq_false h16
        refine c_skip ?_
        refine hK6 _ _ ?_; clear hK6
        refine c_region ?_
        refine s_add _ H wn rfl rfl rfl (by omega) (by omega) rfl ?_; clear H; intro a H
        refine s_move H wn rfl rfl ?_; clear H; intro a H
        refine wl_nil ?_
        refine loop_end ((k + 1, G16)) (by exact (H).sub ⟨rfl, rfl, rfl, rfl, trivial⟩) ?_ ?_
        · try dsimp only
          exact ⟨by omega, idx_next hk2 hno h16, fun b o h => hm16 b o (hgm b o h)⟩
        · first | omega | (dsimp only; omega)
    · intro h9
      try have p9 := of_decide_eq_false h9
      refine c_exit ?_
      refine hK2 _ _ ?_; clear hK2
      refine c_seq (fun _ hK10 => ?_)
      refine c_region ?_
      refine s_assign H wn rfl rfl ?_; clear H; intro a H
      refine wl_nil ?_
      refine hK10 _ _ ?_; clear hK10
      refine c_ret ?_
      refine (leave1 H Try.results74 (.cons (rv_tmp H rfl) .nil) ?_).1
      first
        | exact H.hp.ret (by rw [idx_stop hk2 hno h16]; rfl)
        | exact H.hp.ret (by rw [show l.take k = l from List.take_of_length_le (by omega)] at hno; rw [hno]; rfl)
theorem containsFuncCell (G : GH) (w0 : World) (hG : Hold G w0) (l : List CellD) (p : CellD → Bool) (v fv : Value) (hv : RepV G (.sl 7 (l.map CellD.dat)) v) (hf : ∀ x ∈ l, Tester fv G x.dat (p x)) :
    Calls Try.prog 56 #[v, fv] w0 (Ret w0 G fun u G' => u = .bool (l.findIdx? p).isSome) := by
  refine enter (N := 9) (T := [(0, _), (1, _)]) (F := fun k => k < w0.heap.size) (L := []) Try.func56 rfl Try.ntmps56 rfl rfl hG (fun _ h => h) (fun _ h => by cases h) (fun _ h => by cases h) (fun _ h => by cases h) List.Pairwise.nil ?_
  intro a H
  refine c_seq (fun _ hK1 => ?_)
  refine c_region ?_
  refine s_assign H wn rfl rfl ?_; clear H; intro a H
  refine wl_nil ?_
  refine hK1 _ _ ?_; clear hK1
  refine c_seq (fun _ hK2 => ?_)
  refine c_region ?_
  refine s_move H wn rfl rfl ?_; clear H; intro a H
  refine s_move H wn rfl rfl ?_; clear H; intro a H
  refine s_call en74plr H wn rfl (indexFuncCell _ _ H.hp.ro l p _ _ hv hf) rfl ?_; clear H
  rintro v7 G7 a w rfl hm7 H
  refine s_cmp H wn rfl rfl rfl rfl ?_; clear H; intro a H
  refine s_assign H wn rfl rfl ?_; clear H; intro a H
  refine wl_nil ?_
  refine hK2 _ _ ?_; clear hK2
  refine c_ret ?_
  refine (leave1 H Try.results56 (.cons (rv_tmp H rfl) .nil) ?_).1
  exact H.hp.ret (by cases h : l.findIdx? p <;> simp [ixI])
def inRow (id : Int) (r : RowD) : Bool := (r.cells.findIdx? fun c => decide (c.id = id)).isSome
def isAt (id : Int) (x : ItemD) : Bool := decide (x.id = id) || (x.rows.findIdx? (inRow id)).isSome
theorem place11 {G : GH} {bi : Nat} {id : Int} (hb : gcell G bi 0 = some (vi id)) (c : CellD) : Tester (.func (.func 57) #[] #[.pointer (some ⟨bi, 0, none⟩)]) G c.dat (decide (c.id = id)) := by
  intro G1 w0 cs hm hG hr
  refine callV_func (caps := [.pointer (some ⟨bi, 0, none⟩)]) en57plr ?_
  obtain ⟨pA, pn, pc, dA, dn, dc, yA, yn, yc, fA, fn, fc, rfl, -⟩ := hr.cell
  replace hb := gcell_mono hm hb
  refine enter (N := 8) (T := [(0, _), (1, _)]) (F := fun k => k < w0.heap.size) (L := []) Try.func57 rfl Try.ntmps57 rfl rfl hG (fun _ h => h) (fun _ h => by cases h) (fun _ h => by cases h) (fun _ h => by cases h) List.Pairwise.nil ?_
  intro a H
  refine c_seq (fun _ hK1 => ?_)
  refine c_region ?_
  refine s_box (cs := [_, _, _, _, _, _, _]) H wn rfl rfl rfl ?_; clear H; intro b2 a w hb2 H
  refine s_assign H wn rfl rfl ?_; clear H; intro a H
  refine wl_nil ?_
  refine hK1 _ _ ?_; clear hK1
  refine c_seq (fun _ hK2 => ?_)
  refine c_region ?_
  refine s_field fd104_0plr H wn rfl rfl ?_; clear H; intro a H
  refine s_load ty3plr H wn rfl (H.hp.ocell 0 rfl rfl) rfl ?_; clear H; intro a H
  refine s_load ty3plr H wn rfl (H.hp.gcell (by assumption)) rfl ?_; clear H; intro a H
  refine s_cmp H wn rfl rfl rfl rfl ?_; clear H; intro a H
  refine s_assign H wn rfl rfl ?_; clear H; intro a H
  refine wl_nil ?_
  refine hK2 _ _ ?_; clear hK2
  refine c_ret ?_
  refine (leave1 H Try.results57 (.cons (rv_tmp H rfl) .nil) ?_).1
  exact H.hp.ret rfl
theorem place1 {G : GH} {bi : Nat} {id : Int} (hb : gcell G bi 0 = some (vi id)) (r : RowD) : Tester (.func (.func 55) #[] #[.pointer (some ⟨bi, 0, none⟩)]) G r.dat (inRow id r) := by
  intro G1 w0 cs hm hG hr
  refine callV_func (caps := [.pointer (some ⟨bi, 0, none⟩)]) en55plr ?_
  obtain ⟨pA, pn, pc, dA, dn, dc, yA, yn, yc, fA, fn, fc, rfl, -, hcl⟩ := hr.row
  replace hb := gcell_mono hm hb
  refine enter (N := 8) (T := [(0, _), (1, _)]) (F := fun k => k < w0.heap.size) (L := []) Try.func55 rfl Try.ntmps55 rfl rfl hG (fun _ h => h) (fun _ h => by cases h) (fun _ h => by cases h) (fun _ h => by cases h) List.Pairwise.nil ?_
  intro a H
  refine c_seq (fun _ hK1 => ?_)
  refine c_region ?_
  refine s_box (cs := [_, _, _, _, _, _]) H wn rfl rfl rfl ?_; clear H; intro b2 a w hb2 H
  refine s_assign H wn rfl rfl ?_; clear H; intro a H
  refine wl_nil ?_
  refine hK1 _ _ ?_; clear hK1
  refine c_seq (fun _ hK2 => ?_)
  refine c_region ?_
  refine s_field fd107_1plr H wn rfl rfl ?_; clear H; intro a H
  refine s_load ty105plr H wn rfl (H.hp.ocell 0 rfl rfl) rfl ?_; clear H; intro a H
  refine s_makeFunc H wn rfl rfl ?_; clear H; intro a H
  refine s_call en56plr H wn rfl (containsFuncCell _ _ H.hp.ro r.cells (fun c => decide (c.id = id)) _ _ hcl (fun c _ => place11 hb c)) rfl ?_; clear H
  rintro v7 G7 a w rfl hm7 H
  refine s_assign H wn rfl rfl ?_; clear H; intro a H
  refine wl_nil ?_
  refine hK2 _ _ ?_; clear hK2
  refine c_ret ?_
  refine (leave1 H Try.results55 (.cons (rv_tmp H rfl) .nil) ?_).1
  exact H.hp.ret rfl
/-- Where a flow stands. -/
def placeS (l : List ItemD) (id : Int) : Option (Int × Int) := ((pItems 0 0 l).find? fun a => isAt id a.2).map (·.1)
theorem place_spec (G : GH) (w0 : World) (hG : Hold G w0) (D : DocV) (l : List ItemD) (id : Int) (hv : RepV G (.sl 11 (l.map ItemD.dat)) (sl3 D.f)) (hz : zItems l ≤ 4294967296) :
    Calls Try.prog 36 #[D.val, vi id] w0 (Ret w0 G fun u G' => u = .tuple #[.agg #[vi ((placeS l id).getD (0, 0)).1, vi ((placeS l id).getD (0, 0)).2], .bool (placeS l id).isSome]) := by
  refine enter (N := 27) (T := [(0, _), (1, _)]) (F := fun k => k < w0.heap.size) (L := []) Try.func36 rfl Try.ntmps36 rfl rfl hG (fun _ h => h) (fun _ h => by cases h) (fun _ h => by cases h) (fun _ h => by cases h) List.Pairwise.nil ?_
  intro a H
  refine c_seq (fun _ hK1 => ?_)
  refine c_region ?_
  refine s_box (cs := [_, _, _, _, _, _, _, _, _, _, _]) H wn rfl rfl rfl ?_; clear H; intro b2 a w hb2 H
  refine s_box (cs := [_]) H wn rfl rfl rfl ?_; clear H; intro b3 a w hb3 H
  refine s_alloc ty66plr H wn rfl ?_; clear H; intro b4 a w hb4 H
  refine s_alloc ty4plr H wn rfl ?_; clear H; intro b5 a w hb5 H
  refine wl_nil ?_
  refine hK1 _ _ ?_; clear hK1
  refine c_seq (fun _ hK2 => ?_)
  refine c_seq (fun _ hK3 => ?_)
  have H := H.pickT (Pl := [_, _, _, _]) (Pl' := [_, _, _, _]) [2, 0, 1, 3] (by decide) rfl
  obtain ⟨Ga, hma, hb3, H⟩ := H.giveBox
  have hbi : gcell Ga b3 0 = some (vi id) := by unfold gcell; rw [hb3]; rfl
  refine c_region ?_
  refine s_field fd62_0plr H wn rfl rfl ?_; clear H; intro a H
  refine s_load ty28plr H wn rfl (H.hp.ocell 2 rfl rfl) rfl ?_; clear H; intro a H
  refine s_call en53plr H wn rfl (placed_spec _ _ H.hp.ro l 0 _ hz (hv.mono hma)) rfl ?_; clear H
  rintro v11 G11 a w ⟨bl, bi, rfl, hit⟩ hm11 H
  refine wl_nil ?_
  refine hK3 _ _ ?_; clear hK3
  refine c_block ?_
  skip
  refine c_rangeJ (ι := Unit) (κ := Int × Int) (Lc := [(_, _)]) (fun (k : Nat) (gh : Unit) => [(b4, .cells #[vi 0, vi 0] 66 (0, 0)), (b5, .cells #[.bool false] 4 (0, 0))]) (fun (k : Nat) (gh : Unit) => []) (fun (k : Nat) (gh : Unit) (g : GH) => ((pItems 0 0 l).take k).find? (fun a => isAt id a.2) = none) (fun (gx : Int × Int) => Code.ret) (fun (gx : Int × Int) => [(b4, .cells #[vi gx.1, vi gx.2] 66 (0, 0)), (b5, .cells #[.bool true] 4 (0, 0))]) (fun (gx : Int × Int) => []) (fun (gx : Int × Int) (g : GH) => placeS l id = some gx) (()) (by exact H.pickT (Pl := [_, _, _]) (Pl' := [_, _, _]) [2, 1, 0] (by decide) rfl) rfl en71plr (hit) (fun _ _ h => h) rfl (fun k args g h => by obtain ⟨_, _, rfl, _⟩ := pl_at h; rfl) (fun _ _ _ _ _ h => h) (fun _ _ _ _ h => h) (rfl) ?_ ?_ ?_
  · clear H; intro l2 rdy bsy bk k args gh G2 w2 F2 B2 a hk2 hm2 hI hbeg2 hnext2 hstop2 H
    obtain ⟨hk, cs8, rfl, hrep8⟩ := pl_at hk2
    obtain ⟨aA, an, ac, bA, bn, bc, dA8, dn8, dc8, eA8, en8, ec8, iA8, in8, ic8, rfl, hh8, hf8, hr8⟩ := hrep8.item
    dsimp only [asg, List.cons_append, List.nil_append] at H
    replace hbi := gcell_mono hm2 (gcell_mono hm11 hbi)
    refine c_seq (fun _ hK4 => ?_)
    refine c_region ?_
    refine s_alloc ty66plr H wn rfl ?_; clear H; intro b6 a w hb6 H
    refine s_store ty66plr 0 (vs := [_, _]) _ H wn rfl rfl rfl rfl rfl rfl rfl rfl ?_; clear H; intro w H; dsimp only [List.set, setRow] at H
    refine wl_nil ?_
    refine hK4 _ _ ?_; clear hK4
    refine c_region ?_
    refine s_alloc ty47plr H wn rfl ?_; clear H; intro b7 a w hb7 H
    refine s_store ty47plr 0 (vs := [_, _, _, _, _, _, _, _, _, _, _]) _ H wn rfl rfl rfl rfl rfl rfl rfl rfl ?_; clear H; intro w H; dsimp only [List.set, setRow] at H
    refine wl_nil ?_
    refine hbeg2 _ _ _ _ _ _ (by exact H.pickT (Pl := [_, _, _, _, _, _]) (Pl' := [_, _, _, _, _, _]) [2, 0, 1, 3, 4, 5] (by decide) rfl) ?_; clear H; intro w H
    refine c_block ?_
    refine c_seq (fun _ hK5 => ?_)
    refine c_region ?_
    refine s_field fd47_6plr H wn rfl rfl ?_; clear H; intro a H
    refine s_load ty45plr H wn rfl (H.hp.ocell 1 rfl rfl) rfl ?_; clear H; intro a H
    refine s_makeFunc H wn rfl rfl ?_; clear H; intro a H
    refine s_call en54plr H wn rfl (containsFuncRow _ _ H.hp.ro _ (inRow id) _ _ hr8 (fun r _ => place1 hbi r)) rfl ?_; clear H
    rintro v17 G17 a w rfl hm17 H
    replace hbi := gcell_mono hm17 hbi
    refine s_assign H wn rfl rfl ?_; clear H; intro a H
    refine wl_nil ?_
    refine hK5 _ _ ?_; clear hK5
    refine c_seq (fun _ hK6 => ?_)
    refine c_region ?_
    refine s_field fd47_2plr H wn rfl rfl ?_; clear H; intro a H
    refine s_load ty3plr H wn rfl (H.hp.ocell 1 rfl rfl) rfl ?_; clear H; intro a H
    refine s_load ty3plr H wn rfl (H.hp.gcell (by assumption)) rfl ?_; clear H; intro a H
    refine s_cmp H wn rfl rfl rfl rfl ?_; clear H; intro a H
    refine s_move H wn rfl rfl ?_; clear H; intro a H
    refine s_split H 22 rfl ?_ ?_
    · intro h22
      try have p22 := of_decide_eq_true h22
      refine s_skip H rfl rfl h22 rfl ?_; clear H; intro a H
      refine s_pick_t H wn rfl h22 rfl rfl ?_; clear H; intro a H
      refine wl_nil ?_
      refine hK6 _ _ ?_; clear hK6
      refine c_cond_t H rfl rfl ?_
      refine c_seq (fun _ hK7 => ?_)
      refine c_region ?_
      refine s_loada ty66plr (cs := [_, _]) H wn rfl rfl (H.hp.ocells 2 rfl rfl) rfl ?_; clear H; intro a H
      refine s_store ty66plr 4 (vs := [_, _]) _ H wn rfl rfl rfl rfl rfl rfl rfl rfl ?_; clear H; intro w H; dsimp only [List.set, setRow] at H
      refine s_store ty4plr 5 (vs := [_]) _ H wn rfl rfl rfl rfl rfl rfl rfl rfl ?_; clear H; intro w H; dsimp only [List.set, setRow] at H
      refine wl_nil ?_
      refine hK7 _ _ ?_; clear hK7
      refine c_ret ?_
      refine (hstop2 ((pItems 0 0 l)[k].1) _ _ _ _ _ (by exact H.pickT (Pl := [_, _, _, _, _, _]) (Pl' := [_, _, _, _]) [0, 3, 4, 5] (by decide) rfl) ?_).1 rfl
      exact (by unfold placeS; rw [find_stop hk hI (by unfold isAt; simp_all)]; rfl)
    · intro h22
      try have p22 := of_decide_eq_false h22
      refine s_move H (wg H rfl rfl h22) rfl rfl ?_; clear H; intro a H
      refine s_pick_f H wn rfl h22 rfl rfl ?_; clear H; intro a H
      refine wl_nil ?_
      refine hK6 _ _ ?_; clear hK6
      refine c_cond H rfl ?_ ?_
      · intro h24
        try have p24 := of_decide_eq_true h24
        refine c_seq (fun _ hK8 => ?_)
        refine c_region ?_
        refine s_loada ty66plr (cs := [_, _]) H wn rfl rfl (H.hp.ocells 2 rfl rfl) rfl ?_; clear H; intro a H
        refine s_store ty66plr 4 (vs := [_, _]) _ H wn rfl rfl rfl rfl rfl rfl rfl rfl ?_; clear H; intro w H; dsimp only [List.set, setRow] at H
        refine s_store ty4plr 5 (vs := [_]) _ H wn rfl rfl rfl rfl rfl rfl rfl rfl ?_; clear H; intro w H; dsimp only [List.set, setRow] at H
        refine wl_nil ?_
        refine hK8 _ _ ?_; clear hK8
        refine c_ret ?_
        refine (hstop2 ((pItems 0 0 l)[k].1) _ _ _ _ _ (by exact H.pickT (Pl := [_, _, _, _, _, _]) (Pl' := [_, _, _, _]) [0, 3, 4, 5] (by decide) rfl) ?_).1 rfl
        exact (by unfold placeS; rw [find_stop hk hI (by unfold isAt; simp_all)]; rfl)
      · intro h24
        try have p24 := of_decide_eq_false h24
        refine c_skip ?_
        refine hnext2 (()) _ _ _ _ _ (by exact H.pickT (Pl := [_, _, _, _, _, _]) (Pl' := [_, _, _, _]) [0, 3, 4, 5] (by decide) rfl) ?_
        exact find_next hk hI (by unfold isAt; simp_all)
  · clear H; intro Dk2 gh Gd2 a w hm2 hI H
    dsimp only [List.cons_append, List.nil_append, List.append_nil] at H
    refine hK2 _ _ ?_; clear hK2
    refine c_seq (fun _ hK9 => ?_)
    refine c_region ?_
    refine s_build sr66plr [_, _] H wn rfl rfl rfl rfl ?_; clear H; intro a H
    refine s_store ty66plr 2 (vs := [_, _]) _ H wn rfl rfl rfl rfl rfl rfl rfl rfl ?_; clear H; intro w H; dsimp only [List.set, setRow] at H
    refine s_store ty4plr 3 (vs := [_]) _ H wn rfl rfl rfl rfl rfl rfl rfl rfl ?_; clear H; intro w H; dsimp only [List.set, setRow] at H
    refine wl_nil ?_
    refine hK9 _ _ ?_; clear hK9
    refine c_ret ?_
    refine (leaveM H 0 rfl ?_).1; clear H; intro a w H; dsimp only [List.eraseIdx_cons_succ, List.eraseIdx_cons_zero] at H
    refine (leaveT H Try.results36 (.cons (rv_cella ty66plr (cs := [_, _]) H rfl rfl (H.hp.ocells 1 rfl rfl)) (.cons (rv_cell ty4plr H rfl (H.hp.ocell 2 rfl rfl)) .nil)) ?_).1
    have h : placeS l id = none := by unfold placeS; rw [find_done (by simpa using hI)]; rfl
    exact H.hp.ret (by rw [h]; rfl)
  · clear H; intro Dk2 gx Gd2 a w hm2 hI H
    obtain ⟨x, hgh⟩ : ∃ x, x = gx := ⟨_, rfl⟩; subst hgh
    dsimp only [List.cons_append, List.nil_append, List.append_nil] at H
    refine c_ret ?_
    refine (leaveM H 0 rfl ?_).1; clear H; intro a w H; dsimp only [List.eraseIdx_cons_succ, List.eraseIdx_cons_zero] at H
    refine (leaveT H Try.results36 (.cons (rv_cella ty66plr (cs := [_, _]) H rfl rfl (H.hp.ocells 1 rfl rfl)) (.cons (rv_cell ty4plr H rfl (H.hp.ocell 2 rfl rfl)) .nil)) ?_).1
    exact H.hp.ret (by rw [hI]; rfl)
end Go.Proofs.Ytbfdhlakbdadhaa
