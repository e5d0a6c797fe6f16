/-
  Package run: what its functions compute.
-/
import Derived.Test.YtbfdhlakbdadhaaCp
import Derived.Test.YtbfdhlakbdadhaaRow
namespace Go.Proofs.Ytbfdhlakbdadhaa
open Go.RowKit
theorem hmx : Try.prog.follows .mixedOrders = true := by kernel_rfl
theorem fd47_0run : Fld Try.prog 47 0 0 := ⟨by kernel_rfl⟩
theorem ty3run : Ty Try.prog 3 1 8 [.int .i64 0] false := ⟨by kernel_rfl, by kernel_rfl⟩
theorem fd47_3run : Fld Try.prog 47 3 3 := ⟨by kernel_rfl⟩
theorem ty9run : Ty Try.prog 9 1 16 [.string ⟨#[]⟩] false := ⟨by kernel_rfl, by kernel_rfl⟩
theorem en43run : ∀ args w, (callFunc 43 args).run Try.prog w = .ok (.enter 43 args) w := enters Try.func43 rfl (by kernel_rfl)
theorem un28run : Try.prog.underlying 28 = some (.slice 47) := by kernel_rfl
theorem ty47run : Ty Try.prog 47 11 176 [.int .i64 0, .int .i64 0, .int .i64 0, .string ⟨#[]⟩, .slice none 0 0, .int .i64 0, .int .i64 0, .slice none 0 0, .slice none 0 0, .slice none 0 0, .slice none 0 0] true := ⟨by kernel_rfl, by kernel_rfl⟩
theorem en29run : ∀ args w, (callFunc 29 args).run Try.prog w = .ok (.enter 29 args) w := enters Try.func29 rfl (by kernel_rfl)
theorem un38run : Try.prog.underlying 38 = some (.slice 113) := by kernel_rfl
theorem ty113run : Ty Try.prog 113 2 16 [.int .i64 0, .int .i64 0] true := ⟨by kernel_rfl, by kernel_rfl⟩
theorem un39run : Try.prog.underlying 39 = some (.slice 173) := by kernel_rfl
theorem ty173run : Ty Try.prog 173 2 16 [.int .i64 0, .int .i64 0] true := ⟨by kernel_rfl, by kernel_rfl⟩
theorem un40run : Try.prog.underlying 40 = some (.slice 176) := by kernel_rfl
theorem ty176run : Ty Try.prog 176 4 32 [.int .i64 0, .int .i64 0, .int .i64 0, .bool false] true := ⟨by kernel_rfl, by kernel_rfl⟩
theorem ty44run : Ty Try.prog 44 5 88 [.slice none 0 0, .int .i64 0, .int .i64 0, .slice none 0 0, .slice none 0 0] true := ⟨by kernel_rfl, by kernel_rfl⟩
theorem fd44_0run : Fld Try.prog 44 0 0 := ⟨by kernel_rfl⟩
theorem ty38run : Ty Try.prog 38 1 24 [.slice none 0 0] false := ⟨by kernel_rfl, by kernel_rfl⟩
theorem en40run : ∀ args w, (callFunc 40 args).run Try.prog w = .ok (.enter 40 args) w := enters Try.func40 rfl (by kernel_rfl)
theorem fd44_1run : Fld Try.prog 44 1 1 := ⟨by kernel_rfl⟩
theorem fd42_2run : Fld Try.prog 42 2 2 := ⟨by kernel_rfl⟩
theorem ty39run : Ty Try.prog 39 1 24 [.slice none 0 0] false := ⟨by kernel_rfl, by kernel_rfl⟩
theorem en83run : ∀ args w, (callFunc 83 args).run Try.prog w = .ok (.enter 83 args) w := enters Try.func83 rfl (by kernel_rfl)
theorem fd42_3run : Fld Try.prog 42 3 3 := ⟨by kernel_rfl⟩
theorem ty40run : Ty Try.prog 40 1 24 [.slice none 0 0] false := ⟨by kernel_rfl, by kernel_rfl⟩
theorem en84run : ∀ args w, (callFunc 84 args).run Try.prog w = .ok (.enter 84 args) w := enters Try.func84 rfl (by kernel_rfl)
theorem un45run : Try.prog.underlying 45 = some (.slice 107) := by kernel_rfl
theorem ty107run : Ty Try.prog 107 6 112 [.slice none 0 0, .int .i64 0, .int .i64 0, .slice none 0 0, .slice none 0 0, .slice none 0 0] true := ⟨by kernel_rfl, by kernel_rfl⟩
theorem un105run : Try.prog.underlying 105 = some (.slice 104) := by kernel_rfl
theorem ty104run : Ty Try.prog 104 7 120 [.int .i64 0, .slice none 0 0, .int .i64 0, .int .i64 0, .slice none 0 0, .slice none 0 0, .slice none 0 0] true := ⟨by kernel_rfl, by kernel_rfl⟩
theorem fd104_0run : Fld Try.prog 104 0 0 := ⟨by kernel_rfl⟩
theorem fd104_1run : Fld Try.prog 104 1 1 := ⟨by kernel_rfl⟩
theorem en68run : ∀ args w, (callFunc 68 args).run Try.prog w = .ok (.enter 68 args) w := enters Try.func68 rfl (by kernel_rfl)
theorem fd104_2run : Fld Try.prog 104 2 6 := ⟨by kernel_rfl⟩
theorem ty28run : Ty Try.prog 28 1 24 [.slice none 0 0] false := ⟨by kernel_rfl, by kernel_rfl⟩
theorem en52run : ∀ args w, (callFunc 52 args).run Try.prog w = .ok (.enter 52 args) w := enters Try.func52 rfl (by kernel_rfl)
theorem sr104run : Srt Try.prog 104 [(0, 1), (1, 5), (6, 1)] [.int .i64 0, .slice none 0 0, .int .i64 0, .int .i64 0, .slice none 0 0, .slice none 0 0, .slice none 0 0] := ⟨by kernel_rfl, by kernel_rfl⟩
theorem fd107_0run : Fld Try.prog 107 0 0 := ⟨by kernel_rfl⟩
theorem fd107_1run : Fld Try.prog 107 1 5 := ⟨by kernel_rfl⟩
theorem ty105run : Ty Try.prog 105 1 24 [.slice none 0 0] false := ⟨by kernel_rfl, by kernel_rfl⟩
theorem en85run : ∀ args w, (callFunc 85 args).run Try.prog w = .ok (.enter 85 args) w := enters Try.func85 rfl (by kernel_rfl)
theorem sr107run : Srt Try.prog 107 [(0, 5), (5, 1)] [.slice none 0 0, .int .i64 0, .int .i64 0, .slice none 0 0, .slice none 0 0, .slice none 0 0] := ⟨by kernel_rfl, by kernel_rfl⟩
theorem fd47_4run : Fld Try.prog 47 4 4 := ⟨by kernel_rfl⟩
theorem fd47_5run : Fld Try.prog 47 5 9 := ⟨by kernel_rfl⟩
theorem fd47_6run : Fld Try.prog 47 6 10 := ⟨by kernel_rfl⟩
theorem ty45run : Ty Try.prog 45 1 24 [.slice none 0 0] false := ⟨by kernel_rfl, by kernel_rfl⟩
theorem en69run : ∀ args w, (callFunc 69 args).run Try.prog w = .ok (.enter 69 args) w := enters Try.func69 rfl (by kernel_rfl)
theorem en66run : ∀ args w, (callFunc 66 args).run Try.prog w = .ok (.enter 66 args) w := enters Try.func66 rfl (by kernel_rfl)
theorem en86run : ∀ args w, (callFunc 86 args).run Try.prog w = .ok (.enter 86 args) w := enters Try.func86 rfl (by kernel_rfl)
theorem en70run : ∀ args w, (callFunc 70 args).run Try.prog w = .ok (.enter 70 args) w := enters Try.func70 rfl (by kernel_rfl)
theorem en67run : ∀ args w, (callFunc 67 args).run Try.prog w = .ok (.enter 67 args) w := enters Try.func67 rfl (by kernel_rfl)
/-- How many units an item has, and its error. -/
def unitsS (x : ItemD) : Nat := if x.kind = 1 then cntS x.text else 1
def unitsE (x : ItemD) : Int := if x.kind = 1 then utfS x.text else 0
theorem units_spec (G : GH) (w0 : World) (hG : Hold G w0) (x : ItemD) (i2 i3 : Int) (p i5 i6 d l f r : Value) (hs : x.text.size < 4611686018427387904) :
    Calls Try.prog 29 #[.agg #[vi x.kind, vi i2, vi i3, .string x.text, p, i5, i6, d, l, f, r]] w0 (Ret w0 G fun v G' => v = .tuple #[vi (unitsS x), vi (unitsE x)] ∧ G = G') := by
  refine enter (N := 12) (T := [(0, _)]) (F := fun k => k < w0.heap.size) (L := []) Try.func29 rfl Try.ntmps29 rfl rfl hG (fun _ h => h) (fun _ h => by cases h) (fun _ h => by cases h) (fun _ h => by cases h) List.Pairwise.nil ?_
  intro a H
  refine c_seq (fun _ hK1 => ?_)
  refine c_region ?_
  refine s_box (cs := [_, _, _, _, _, _, _, _, _, _, _]) H wn rfl rfl rfl ?_; clear H; intro b1 a w hb1 H
  refine s_assign H wn rfl rfl ?_; clear H; intro a H
  refine s_assign H wn rfl rfl ?_; clear H; intro a H
  refine wl_nil ?_
  refine hK1 _ _ ?_; clear hK1
  refine c_seq (fun _ hK2 => ?_)
  refine c_seq (fun _ hK3 => ?_)
  refine c_region ?_
  refine s_field fd47_0run H wn rfl rfl ?_; clear H; intro a H
  refine s_load ty3run H wn rfl (H.hp.ocell 0 rfl rfl) rfl ?_; clear H; intro a H
  refine s_cmp H wn rfl rfl rfl rfl ?_; clear H; intro a H
  refine wl_nil ?_
  refine hK3 _ _ ?_; clear hK3
  refine c_cond H rfl ?_ ?_
  · intro h6
    try have p6 := of_decide_eq_true h6
    refine c_seq (fun _ hK4 => ?_)
    refine c_region ?_
    refine s_assign H wn rfl rfl ?_; clear H; intro a H
    refine s_assign H wn rfl rfl ?_; clear H; intro a H
    refine wl_nil ?_
    refine hK4 _ _ ?_; clear hK4
    refine c_ret ?_
    refine (leaveT H Try.results29 (.cons (rv_tmp H rfl) (.cons (rv_tmp H rfl) .nil)) ?_).1
    exact H.hp.ret ⟨by simp only [unitsS, unitsE, if_neg p6]; rfl, rfl⟩
  · intro h6
    try have p6 := of_decide_eq_false h6
    refine c_skip ?_
    refine hK2 _ _ ?_; clear hK2
    refine c_seq (fun _ hK5 => ?_)
    refine c_region ?_
    refine s_field fd47_3run H wn rfl rfl ?_; clear H; intro a H
    refine s_load ty9run H wn rfl (H.hp.ocell 0 rfl rfl) rfl ?_; clear H; intro a H
    refine s_call en43run H wn rfl (count_spec _ _ H.hp.ro _ hs) rfl ?_; clear H
    rintro v9 _ a w ⟨rfl, rfl⟩ - H
    refine s_extract H wn rfl rfl rfl ?_; clear H; intro a H
    refine s_extract H wn rfl rfl rfl ?_; clear H; intro a H
    refine s_assign H wn rfl rfl ?_; clear H; intro a H
    refine s_assign H wn rfl rfl ?_; clear H; intro a H
    refine wl_nil ?_
    refine hK5 _ _ ?_; clear hK5
    refine c_ret ?_
    refine (leaveT H Try.results29 (.cons (rv_tmp H rfl) (.cons (rv_tmp H rfl) .nil)) ?_).1
    exact H.hp.ret ⟨by rw [Decidable.not_not] at p6; simp only [unitsS, unitsE, if_pos p6], rfl⟩
def divS (l : List ItemD) : Bool := l.all fun x => decide (unitsE x = 0)
def sumS : List ItemD → Nat
  | [] => 0
  | x :: l => unitsS x + sumS l
def lenS (l : List ItemD) : Int := if divS l then sumS l else 0
def lenE (l : List ItemD) : Int := if divS l then 0 else 12
def txtS : List ItemD → Nat
  | [] => 0
  | x :: l => x.text.size + 1 + txtS l
theorem sumS_le : ∀ l : List ItemD, sumS l ≤ txtS l
  | [] => Nat.le_refl _
  | x :: l => by
    have := sumS_le l
    have h2 := cntS_le x.text
    simp only [sumS, txtS, unitsS]; split <;> omega
theorem txtS_mem {x : ItemD} : ∀ {l : List ItemD}, x ∈ l → x.text.size < txtS l
  | [], h => by cases h
  | y :: l, h => by
    simp only [txtS]
    rcases List.mem_cons.1 h with rfl | h
    · omega
    · have := txtS_mem h; omega
theorem sumS_append (l m : List ItemD) : sumS (l ++ m) = sumS l + sumS m := by
  induction l with
  | nil => simp [sumS]
  | cons x l ih => simp [sumS, ih]; omega
theorem sumS_take_succ {l : List ItemD} {k : Nat} (h : k < l.length) : sumS (l.take (k + 1)) = sumS (l.take k) + unitsS l[k] := by
  rw [List.take_succ_eq_append_getElem h, sumS_append]; simp [sumS]
theorem txtS_append (l m : List ItemD) : txtS (l ++ m) = txtS l + txtS m := by
  induction l with
  | nil => simp [txtS]
  | cons x l ih => simp [txtS, ih]; omega
theorem txtS_take (l : List ItemD) (k : Nat) : txtS (l.take k) ≤ txtS l := by
  have := txtS_append (l.take k) (l.drop k)
  rw [List.take_append_drop] at this; omega
/-- An element of a flow that lies in memory. -/
theorem flow_get {G : GH} {l : List ItemD} {A : Option Addr} {k : Nat} (hk : k < l.length) (hg : ∀ k r, (l.map ItemD.dat)[k]? = some r → ∃ b o cs, A = some ⟨b, o, none⟩ ∧ cs.length = 11 ∧ (∀ j u, cs[j]? = some u → gcell G b (o + k * 11 + j) = some u) ∧ RepRow G r cs) :
    ∃ b o pA pn pc dA dn dc yA yn yc fA fn fc rA rn rc, A = some ⟨b, o, none⟩ ∧ (∀ j u, [vi l[k].kind, vi l[k].code, vi l[k].id, .string l[k].text, .slice pA pn pc, vi l[k].head.marks.ins, vi l[k].head.marks.move, .slice dA dn dc, .slice yA yn yc, .slice fA fn fc, .slice rA rn rc][j]? = some u → gcell G b (o + k * 11 + j) = some u) ∧
      HeadR G l[k].head (.slice pA pn pc) (.slice dA dn dc) (.slice yA yn yc) ∧ RepV G (.sl 11 (l[k].flow.map ItemD.dat)) (.slice fA fn fc) ∧ RepV G (.sl 6 (l[k].rows.map RowD.dat)) (.slice rA rn rc) := by
  obtain ⟨b, o, cs, h1, h2, h3, h4⟩ := hg k l[k].dat (by simp [hk])
  obtain ⟨pA, pn, pc, dA, dn, dc, yA, yn, yc, fA, fn, fc, rA, rn, rc, rfl, h5, h6, h7⟩ := h4.item
  exact ⟨b, o, pA, pn, pc, dA, dn, dc, yA, yn, yc, fA, fn, fc, rA, rn, rc, h1, h3, h5, h6, h7⟩
theorem divS_take_succ {l : List ItemD} {k : Nat} (h : k < l.length) : divS (l.take (k + 1)) = (divS (l.take k) && decide (unitsE l[k] = 0)) := by
  unfold divS
  rw [List.take_succ_eq_append_getElem h, List.all_append]; simp
theorem divS_split {l : List ItemD} {k : Nat} (h : k < l.length) (hn : ¬ unitsE l[k] = 0) : divS l = false := by
  unfold divS
  rw [List.all_eq_false]
  exact ⟨l[k], List.getElem_mem h, by simpa using hn⟩
theorem length_le_txt : ∀ l : List ItemD, l.length ≤ txtS l
  | [] => Nat.le_refl _
  | x :: l => by have := length_le_txt l; simp only [List.length_cons, txtS]; omega
theorem txtS_le : ∀ l : List ItemD, txtS l ≤ zItems l
  | [] => Nat.le_refl _
  | x :: l => by
    have := txtS_le l
    have h2 := zItem_eq x
    simp only [txtS, zItems, List.map_cons, szRs] at *; omega
theorem len_spec (G : GH) (w0 : World) (hG : Hold G w0) (l : List ItemD) (v : Value) (hv : RepV G (.sl 11 (l.map ItemD.dat)) v) (hz : zItems l ≤ 4294967296) :
    Calls Try.prog 11 #[v] w0 (Ret w0 G fun v G' => v = .tuple #[vi (lenS l), vi (lenE l)] ∧ G = G') := by
  obtain ⟨A, c, rfl, hc1, hc2, hg⟩ := hv.slice
  rw [List.length_map] at *
  have hll := length_le_txt l
  have htz := txtS_le l
  refine enter (N := 27) (T := [(0, _)]) (F := fun k => k < w0.heap.size) (L := []) Try.func11 rfl Try.ntmps11 rfl rfl hG (fun _ h => h) (fun _ h => by cases h) (fun _ h => by cases h) (fun _ h => by cases h) List.Pairwise.nil ?_
  intro a H
  refine c_seq (fun _ hK1 => ?_)
  refine c_region ?_
  refine s_assign H wn rfl rfl ?_; clear H; intro a H
  refine s_assign H wn rfl rfl ?_; clear H; intro a H
  refine wl_nil ?_
  refine hK1 _ _ ?_; clear hK1
  refine c_seq (fun _ hK2 => ?_)
  refine c_region ?_
  refine s_assign H wn rfl rfl ?_; clear H; intro a H
  refine wl_nil ?_
  refine hK2 _ _ ?_; clear hK2
  refine c_seq (fun _ hK3 => ?_)
  refine c_seq (fun _ hK4 => ?_)
  refine c_region ?_
  refine s_move H wn rfl rfl ?_; clear H; intro a H
  refine s_len un28run H wn rfl rfl ?_; clear H; intro a H
  refine s_move H wn rfl rfl ?_; clear H; intro a H
  refine wl_nil ?_
  refine hK4 _ _ ?_; clear hK4
  refine c_block ?_
  skip
  refine c_loopS (ι := Nat) (Tc := [(9, _), (10, _)]) (Lc := []) (fun (gh : Nat) => [(4, vi (sumS (l.take gh))), (11, vi gh)]) (fun (gh : Nat) => []) (fun (gh : Nat) => G) (fun (gh : Nat) => gh ≤ l.length ∧ divS (l.take gh) = true) (fun (gh : Nat) => l.length - gh) (0) (by exact (H).sub ⟨rfl, rfl, rfl, rfl, trivial⟩) ?_ ?_
  · exact ⟨by omega, by simp [divS]⟩
  · clear H; intro gh a w hI H
    obtain ⟨k, hgh⟩ : ∃ x, x = gh := ⟨_, rfl⟩; subst hgh
    obtain ⟨hk, hd⟩ := hI
    dsimp only [List.cons_append, List.nil_append, List.append_nil] at H
    refine c_seq (fun _ hK5 => ?_)
    refine c_region ?_
    refine s_cmp H wn rfl rfl rfl rfl ?_; clear H; intro a H
    refine wl_nil ?_
    refine hK5 _ _ ?_; clear hK5
    refine c_seq (fun _ hK6 => ?_)
    refine c_cond H rfl ?_ ?_
    · intro h12
      try have p12 := of_decide_eq_true h12
      have hk2 : k < l.length := by omega
      obtain ⟨b, o, pA, pn, pc, dA, dn, dc, yA, yn, yc, fA, fn, fc, rA, rn, rc, rfl, hrow, -⟩ := flow_get hk2 hg
      have hsm := sumS_take_succ hk2
      have hle := sumS_le (l.take (k + 1))
      have hle2 := txtS_take l (k + 1)
      refine c_skip ?_
      refine hK6 _ _ ?_; clear hK6
      refine c_seq (fun _ hK7 => ?_)
      refine c_block ?_
      refine c_seq (fun _ hK8 => ?_)
      refine c_region ?_
      refine s_index un28run ty47run _ H wn rfl rfl rfl (by first | assumption | omega) rfl ?_; clear H; intro a H
      refine s_loada ty47run (cs := [_, _, _, _, _, _, _, _, _, _, _]) H wn rfl rfl (fun j v hj => H.hp.gcell (hrow j v hj)) rfl ?_; clear H; intro a H
      refine s_alloc ty47run H wn rfl ?_; clear H; intro b6 a w hb6 H
      refine s_store ty47run 0 (vs := [_, _, _, _, _, _, _, _, _, _, _]) _ H wn rfl rfl rfl rfl rfl rfl rfl rfl ?_; clear H; intro w H; dsimp only [List.set, setRow] at H
      refine wl_nil ?_
      refine hK8 _ _ ?_; clear hK8
      refine c_seq (fun _ hK9 => ?_)
      refine c_region ?_
      refine s_loada ty47run (cs := [_, _, _, _, _, _, _, _, _, _, _]) H wn rfl rfl (H.hp.ocells 0 rfl rfl) rfl ?_; clear H; intro a H
      refine s_call en29run H wn rfl (units_spec _ _ H.hp.ro _ _ _ _ _ _ _ _ _ _ (by have := txtS_mem (List.getElem_mem hk2); omega)) rfl ?_; clear H
      rintro v17 _ a w ⟨rfl, rfl⟩ - H
      refine s_move H wn rfl rfl ?_; clear H; intro a H
      refine s_extract H wn rfl rfl rfl ?_; clear H; intro a H
      refine s_extract H wn rfl rfl rfl ?_; clear H; intro a H
      refine s_assign H wn rfl rfl ?_; clear H; intro a H
      refine s_assign H wn rfl rfl ?_; clear H; intro a H
      refine wl_nil ?_
      refine hK9 _ _ ?_; clear hK9
      refine c_seq (fun _ hK10 => ?_)
      refine c_seq (fun _ hK11 => ?_)
      refine c_region ?_
      refine s_move H wn rfl rfl ?_; clear H; intro a H
      refine s_cmp H wn rfl rfl rfl rfl ?_; clear H; intro a H
      refine wl_nil ?_
      refine hK11 _ _ ?_; clear hK11
      refine c_cond H rfl ?_ ?_
      · intro h21
        try have p21 := of_decide_eq_true h21
        refine c_seq (fun _ hK12 => ?_)
        refine c_region ?_
        refine s_assign H wn rfl rfl ?_; clear H; intro a H
        refine s_assign H wn rfl rfl ?_; clear H; intro a H
        refine wl_nil ?_
        refine hK12 _ _ ?_; clear hK12
        refine c_ret ?_
        refine (leaveT H Try.results11 (.cons (rv_tmp H rfl) (.cons (rv_tmp H rfl) .nil)) ?_).1
        exact H.hp.ret ⟨by simp [lenS, lenE, divS_split hk2 p21], rfl⟩
      · intro h21
        try have p21 := of_decide_eq_false h21
        refine c_skip ?_
        refine hK10 _ _ ?_; clear hK10
        refine c_region ?_
        refine s_move H wn rfl rfl ?_; clear H; intro a H
        refine s_move H wn rfl rfl ?_; clear H; intro a H
        refine s_add _ H wn rfl rfl rfl (by omega) (by omega) rfl ?_; clear H; intro a H
        rw [← Int.natCast_add, ← hsm] at H
        refine s_assign H wn rfl rfl ?_; clear H; intro a H
        refine wl_nil ?_
        refine hK7 _ _ ?_; clear hK7
        refine c_region ?_
        refine s_add _ H wn rfl rfl rfl (by omega) (by omega) rfl ?_; clear H; intro a H
        refine s_move H wn rfl rfl ?_; clear H; intro a H
        refine wl_nil ?_
        refine loop_end ((k + 1)) (by exact (H.pickT (Pl := [_]) (Pl' := []) [] (by decide) rfl).sub ⟨rfl, rfl, rfl, rfl, trivial⟩) ?_ ?_
        · exact ⟨by omega, by rw [divS_take_succ hk2, hd]; simpa using p21⟩
        · first | omega | (dsimp only; omega)
    · intro h12
      try have p12 := of_decide_eq_false h12
      refine c_exit ?_
      refine hK3 _ _ ?_; clear hK3
      refine c_seq (fun _ hK13 => ?_)
      refine c_region ?_
      refine s_move H wn rfl rfl ?_; clear H; intro a H
      refine s_assign H wn rfl rfl ?_; clear H; intro a H
      refine s_assign H wn rfl rfl ?_; clear H; intro a H
      refine wl_nil ?_
      refine hK13 _ _ ?_; clear hK13
      refine c_ret ?_
      refine (leaveT H Try.results11 (.cons (rv_tmp H rfl) (.cons (rv_tmp H rfl) .nil)) ?_).1
      exact H.hp.ret ⟨by rw [show l.take k = l from List.take_of_length_le (by omega)] at hd ⊢; simp [lenS, lenE, hd], rfl⟩
/-- A copy of a slice of Props. -/
theorem cloneProp_spec (G : GH) (w0 : World) (hG : Hold G w0) (rows : List (List Dat)) (A : Option Addr) (n c : Nat) (hv : RepV G (.sl 2 rows) (.slice A n c)) (hz : rows.length ≤ 4294967296) :
    Calls Try.prog 40 #[.slice A n c] w0 (Ret w0 G fun v G' => RepV G' (.sl 2 rows) v) := by
  obtain ⟨hn, hc1, hc2, hnil, hx⟩ := hv.cells
  refine enter (N := 8) (T := [(0, _)]) (F := fun k => k < w0.heap.size) (L := []) Try.func40 rfl Try.ntmps40 rfl rfl hG (fun _ h => h) (fun _ h => by cases h) (fun _ h => by cases h) (fun _ h => by cases h) List.Pairwise.nil ?_
  intro a H
  refine c_seq (fun _ hK1 => ?_)
  refine c_region ?_
  refine s_assign H wn rfl rfl ?_; clear H; intro a H
  refine wl_nil ?_
  refine hK1 _ _ ?_; clear hK1
  refine c_seq (fun _ hK2 => ?_)
  refine c_seq (fun _ hK3 => ?_)
  refine c_region ?_
  refine s_move H wn rfl rfl ?_; clear H; intro a H
  refine s_eqnil un38run H wn rfl rfl ?_; clear H; intro a H
  refine wl_nil ?_
  refine hK3 _ _ ?_; clear hK3
  refine c_cond H rfl ?_ ?_
  · intro h4
    try have p4 := of_decide_eq_true h4
    refine c_seq (fun _ hK4 => ?_)
    refine c_region ?_
    refine s_assign H wn rfl rfl ?_; clear H; intro a H
    refine wl_nil ?_
    refine hK4 _ _ ?_; clear hK4
    refine c_ret ?_
    refine (leave1 H Try.results40 (.cons (rv_tmp H rfl) .nil) ?_).1
    exact H.hp.ret (by rw [hnil (by simpa using h4)]; exact RepV.nil_ rfl (by simp [maxLen]))
  · intro h4
    try have p4 := of_decide_eq_false h4
    refine c_skip ?_
    refine hK2 _ _ ?_; clear hK2
    refine c_seq (fun _ hK5 => ?_)
    have hA : ¬ A = none := by intro e; rw [e] at h4; cases h4
    refine c_region ?_
    refine s_buildSlice0 un38run ty113run H wn rfl ?_; clear H; intro b5 a w hb5 H
    refine s_move H wn rfl rfl ?_; clear H; intro a H
    by_cases hr0 : rows = []
    · have hn0 : n = 0 := by rw [hn, hr0]; rfl
      subst hn0
      refine s_append0 un38run ty113run H wn rfl rfl (Nat.le_refl _) rfl ?_; clear H; intro a H
      refine s_assign H wn rfl rfl ?_; clear H; intro a H
      refine wl_nil ?_
      refine hK5 _ _ ?_; clear hK5
      refine c_ret ?_
      refine (leave1 H Try.results40 (.cons (rv_tmp H rfl) .nil) ?_).1
      exact H.hp.ret (by rw [hr0]; exact RepV.nil_ rfl (by simp [maxLen]))
    obtain ⟨b, o, xs, rfl, hxl, hxc, hx1, hcat⟩ := hx hr0
    refine s_append (Li := []) (Lo := [_]) (news := xs) un38run ty113run rfl rfl H wn rfl rfl IsRow.empty hxl (fun j u hj => H.hp.gcell (hxc j u hj)) hx1 (by omega) (by omega) rfl ?_; clear H; intro v7 Lo a w hrow H
    obtain ⟨G', hm, hrep, H⟩ := H.giveRow hrow (rows := rows) (by omega) (by simpa using hcat)
    try clear hG
    obtain ⟨G2, hG2⟩ : ∃ g, g = G' := ⟨_, rfl⟩
    subst hG2
    refine s_assign H wn rfl rfl ?_; clear H; intro a H
    refine wl_nil ?_
    refine hK5 _ _ ?_; clear hK5
    refine c_ret ?_
    refine (leave1 H Try.results40 (.cons (rv_tmp H rfl) .nil) ?_).1
    exact H.hp.ret hrep
/-- A copy of a slice of Dels. -/
theorem cloneDel_spec (G : GH) (w0 : World) (hG : Hold G w0) (rows : List (List Dat)) (A : Option Addr) (n c : Nat) (hv : RepV G (.sl 2 rows) (.slice A n c)) (hz : rows.length ≤ 4294967296) :
    Calls Try.prog 83 #[.slice A n c] w0 (Ret w0 G fun v G' => RepV G' (.sl 2 rows) v) := by
  obtain ⟨hn, hc1, hc2, hnil, hx⟩ := hv.cells
  refine enter (N := 8) (T := [(0, _)]) (F := fun k => k < w0.heap.size) (L := []) Try.func83 rfl Try.ntmps83 rfl rfl hG (fun _ h => h) (fun _ h => by cases h) (fun _ h => by cases h) (fun _ h => by cases h) List.Pairwise.nil ?_
  intro a H
  refine c_seq (fun _ hK1 => ?_)
  refine c_region ?_
  refine s_assign H wn rfl rfl ?_; clear H; intro a H
  refine wl_nil ?_
  refine hK1 _ _ ?_; clear hK1
  refine c_seq (fun _ hK2 => ?_)
  refine c_seq (fun _ hK3 => ?_)
  refine c_region ?_
  refine s_move H wn rfl rfl ?_; clear H; intro a H
  refine s_eqnil un39run H wn rfl rfl ?_; clear H; intro a H
  refine wl_nil ?_
  refine hK3 _ _ ?_; clear hK3
  refine c_cond H rfl ?_ ?_
  · intro h4
    try have p4 := of_decide_eq_true h4
    refine c_seq (fun _ hK4 => ?_)
    refine c_region ?_
    refine s_assign H wn rfl rfl ?_; clear H; intro a H
    refine wl_nil ?_
    refine hK4 _ _ ?_; clear hK4
    refine c_ret ?_
    refine (leave1 H Try.results83 (.cons (rv_tmp H rfl) .nil) ?_).1
    exact H.hp.ret (by rw [hnil (by simpa using h4)]; exact RepV.nil_ rfl (by simp [maxLen]))
  · intro h4
    try have p4 := of_decide_eq_false h4
    refine c_skip ?_
    refine hK2 _ _ ?_; clear hK2
    refine c_seq (fun _ hK5 => ?_)
    have hA : ¬ A = none := by intro e; rw [e] at h4; cases h4
    refine c_region ?_
    refine s_buildSlice0 un39run ty173run H wn rfl ?_; clear H; intro b5 a w hb5 H
    refine s_move H wn rfl rfl ?_; clear H; intro a H
    by_cases hr0 : rows = []
    · have hn0 : n = 0 := by rw [hn, hr0]; rfl
      subst hn0
      refine s_append0 un39run ty173run H wn rfl rfl (Nat.le_refl _) rfl ?_; clear H; intro a H
      refine s_assign H wn rfl rfl ?_; clear H; intro a H
      refine wl_nil ?_
      refine hK5 _ _ ?_; clear hK5
      refine c_ret ?_
      refine (leave1 H Try.results83 (.cons (rv_tmp H rfl) .nil) ?_).1
      exact H.hp.ret (by rw [hr0]; exact RepV.nil_ rfl (by simp [maxLen]))
    obtain ⟨b, o, xs, rfl, hxl, hxc, hx1, hcat⟩ := hx hr0
    refine s_append (Li := []) (Lo := [_]) (news := xs) un39run ty173run rfl rfl H wn rfl rfl IsRow.empty hxl (fun j u hj => H.hp.gcell (hxc j u hj)) hx1 (by omega) (by omega) rfl ?_; clear H; intro v7 Lo a w hrow H
    obtain ⟨G', hm, hrep, H⟩ := H.giveRow hrow (rows := rows) (by omega) (by simpa using hcat)
    try clear hG
    obtain ⟨G2, hG2⟩ : ∃ g, g = G' := ⟨_, rfl⟩
    subst hG2
    refine s_assign H wn rfl rfl ?_; clear H; intro a H
    refine wl_nil ?_
    refine hK5 _ _ ?_; clear hK5
    refine c_ret ?_
    refine (leave1 H Try.results83 (.cons (rv_tmp H rfl) .nil) ?_).1
    exact H.hp.ret hrep
/-- A copy of a slice of Layers. -/
theorem cloneLayer_spec (G : GH) (w0 : World) (hG : Hold G w0) (rows : List (List Dat)) (A : Option Addr) (n c : Nat) (hv : RepV G (.sl 4 rows) (.slice A n c)) (hz : rows.length ≤ 4294967296) :
    Calls Try.prog 84 #[.slice A n c] w0 (Ret w0 G fun v G' => RepV G' (.sl 4 rows) v) := by
  obtain ⟨hn, hc1, hc2, hnil, hx⟩ := hv.cells
  refine enter (N := 8) (T := [(0, _)]) (F := fun k => k < w0.heap.size) (L := []) Try.func84 rfl Try.ntmps84 rfl rfl hG (fun _ h => h) (fun _ h => by cases h) (fun _ h => by cases h) (fun _ h => by cases h) List.Pairwise.nil ?_
  intro a H
  refine c_seq (fun _ hK1 => ?_)
  refine c_region ?_
  refine s_assign H wn rfl rfl ?_; clear H; intro a H
  refine wl_nil ?_
  refine hK1 _ _ ?_; clear hK1
  refine c_seq (fun _ hK2 => ?_)
  refine c_seq (fun _ hK3 => ?_)
  refine c_region ?_
  refine s_move H wn rfl rfl ?_; clear H; intro a H
  refine s_eqnil un40run H wn rfl rfl ?_; clear H; intro a H
  refine wl_nil ?_
  refine hK3 _ _ ?_; clear hK3
  refine c_cond H rfl ?_ ?_
  · intro h4
    try have p4 := of_decide_eq_true h4
    refine c_seq (fun _ hK4 => ?_)
    refine c_region ?_
    refine s_assign H wn rfl rfl ?_; clear H; intro a H
    refine wl_nil ?_
    refine hK4 _ _ ?_; clear hK4
    refine c_ret ?_
    refine (leave1 H Try.results84 (.cons (rv_tmp H rfl) .nil) ?_).1
    exact H.hp.ret (by rw [hnil (by simpa using h4)]; exact RepV.nil_ rfl (by simp [maxLen]))
  · intro h4
    try have p4 := of_decide_eq_false h4
    refine c_skip ?_
    refine hK2 _ _ ?_; clear hK2
    refine c_seq (fun _ hK5 => ?_)
    have hA : ¬ A = none := by intro e; rw [e] at h4; cases h4
    refine c_region ?_
    refine s_buildSlice0 un40run ty176run H wn rfl ?_; clear H; intro b5 a w hb5 H
    refine s_move H wn rfl rfl ?_; clear H; intro a H
    by_cases hr0 : rows = []
    · have hn0 : n = 0 := by rw [hn, hr0]; rfl
      subst hn0
      refine s_append0 un40run ty176run H wn rfl rfl (Nat.le_refl _) rfl ?_; clear H; intro a H
      refine s_assign H wn rfl rfl ?_; clear H; intro a H
      refine wl_nil ?_
      refine hK5 _ _ ?_; clear hK5
      refine c_ret ?_
      refine (leave1 H Try.results84 (.cons (rv_tmp H rfl) .nil) ?_).1
      exact H.hp.ret (by rw [hr0]; exact RepV.nil_ rfl (by simp [maxLen]))
    obtain ⟨b, o, xs, rfl, hxl, hxc, hx1, hcat⟩ := hx hr0
    refine s_append (Li := []) (Lo := [_]) (news := xs) un40run ty176run rfl rfl H wn rfl rfl IsRow.empty hxl (fun j u hj => H.hp.gcell (hxc j u hj)) hx1 (by omega) (by omega) rfl ?_; clear H; intro v7 Lo a w hrow H
    obtain ⟨G', hm, hrep, H⟩ := H.giveRow hrow (rows := rows) (by omega) (by simpa using hcat)
    try clear hG
    obtain ⟨G2, hG2⟩ : ∃ g, g = G' := ⟨_, rfl⟩
    subst hG2
    refine s_assign H wn rfl rfl ?_; clear H; intro a H
    refine wl_nil ?_
    refine hK5 _ _ ?_; clear hK5
    refine c_ret ?_
    refine (leave1 H Try.results84 (.cons (rv_tmp H rfl) .nil) ?_).1
    exact H.hp.ret hrep
/-- A copy of a head. -/
theorem cloneHead_spec (G : GH) (w0 : World) (hG : Hold G w0) (h : HeadD) (pA dA yA : Option Addr) (pn pc dn dc yn yc : Nat) (hv : HeadR G h (.slice pA pn pc) (.slice dA dn dc) (.slice yA yn yc)) (hz : zHead h ≤ 4294967296) :
    Calls Try.prog 68 #[.agg #[.slice pA pn pc, vi h.marks.ins, vi h.marks.move, .slice dA dn dc, .slice yA yn yc]] w0 (Ret w0 G fun v G' => ∃ p d l, v = .agg #[p, vi h.marks.ins, vi h.marks.move, d, l] ∧ HeadR G' h p d l) := by
  have he := zHead_eq h
  have h1 := szRs_length (h.props.map PropD.dat)
  have h2 := szRs_length (h.marks.dels.map DelD.dat)
  have h3 := szRs_length (h.marks.layers.map LayerD.dat)
  refine enter (N := 20) (T := [(0, _)]) (F := fun k => k < w0.heap.size) (L := []) Try.func68 rfl Try.ntmps68 rfl rfl hG (fun _ h => h) (fun _ h => by cases h) (fun _ h => by cases h) (fun _ h => by cases h) List.Pairwise.nil ?_
  intro a H
  refine c_seq (fun _ hK1 => ?_)
  refine c_region ?_
  refine s_box (cs := [_, _, _, _, _]) H wn rfl rfl rfl ?_; clear H; intro b1 a w hb1 H
  refine s_alloc ty44run H wn rfl ?_; clear H; intro b2 a w hb2 H
  refine wl_nil ?_
  refine hK1 _ _ ?_; clear hK1
  refine c_seq (fun _ hK2 => ?_)
  refine c_region ?_
  refine s_field fd44_0run H wn rfl rfl ?_; clear H; intro a H
  refine s_load ty38run H wn rfl (H.hp.ocell 1 rfl rfl) rfl ?_; clear H; intro a H
  refine s_call en40run H wn rfl (cloneProp_spec _ _ H.hp.ro _ _ _ _ hv.props (by omega)) rfl ?_; clear H
  rintro v5 G5 a w hp5 hm5 H
  obtain ⟨A5, n5, c5, rfl⟩ := hp5.form
  refine s_field fd44_0run H wn rfl rfl ?_; clear H; intro a H
  refine s_store ty38run 1 (vs := [_]) _ H wn rfl rfl rfl rfl rfl rfl rfl rfl ?_; clear H; intro w H; dsimp only [List.set, setRow] at H
  refine wl_nil ?_
  refine hK2 _ _ ?_; clear hK2
  refine c_seq (fun _ hK3 => ?_)
  obtain ⟨hvp, hvd, hvy⟩ := hv.mono hm5; clear hv
  have hprm2 : ∀ (i : Nat) (v : Value) (G G' : GH), (∀ k o, G k = some o → G' k = some o) → (fun (i : Nat) (v : Value) (G : GH) => match i with | 0 => v = .pointer (some ⟨b1, 1, none⟩) | 1 => v = .pointer (some ⟨b1, 3, none⟩) | 2 => v = .slice dA dn dc | 3 => RepV G (.sl 2 (h.marks.dels.map DelD.dat)) v | 4 => v = .pointer (some ⟨b1, 1, none⟩) | 5 => v = .pointer (some ⟨b1, 4, none⟩) | 6 => v = .slice yA yn yc | 7 => RepV G (.sl 4 (h.marks.layers.map LayerD.dat)) v | 8 => v = .pointer (some ⟨b1, 1, none⟩) | 9 => v = .pointer (some ⟨b1, 3, none⟩) | _ => True) i v G → (fun (i : Nat) (v : Value) (G : GH) => match i with | 0 => v = .pointer (some ⟨b1, 1, none⟩) | 1 => v = .pointer (some ⟨b1, 3, none⟩) | 2 => v = .slice dA dn dc | 3 => RepV G (.sl 2 (h.marks.dels.map DelD.dat)) v | 4 => v = .pointer (some ⟨b1, 1, none⟩) | 5 => v = .pointer (some ⟨b1, 4, none⟩) | 6 => v = .slice yA yn yc | 7 => RepV G (.sl 4 (h.marks.layers.map LayerD.dat)) v | 8 => v = .pointer (some ⟨b1, 1, none⟩) | 9 => v = .pointer (some ⟨b1, 3, none⟩) | _ => True) i v G' := by
    intro i v G G' hm h
    match i, h with
    | 0, h => exact h
    | 1, h => exact h
    | 2, h => exact h
    | 3, h => exact RepV.mono hm h
    | 4, h => exact h
    | 5, h => exact h
    | 6, h => exact h
    | 7, h => exact RepV.mono hm h
    | 8, h => exact h
    | 9, h => exact h
    | 10, h => exact trivial
    | 11, h => exact trivial
    | 12, h => exact trivial
    | 13, h => exact trivial
    | _ + 14, h => exact trivial
  refine c_drawI (hmx) [[], [0], [0, 1], [0, 1, 2], [], [4], [4, 5], [0, 1, 2, 3, 4, 5, 6], [0, 1, 2, 3, 4, 5, 6], [0, 1, 2, 3, 4, 5, 6, 8], [0, 1, 2, 3, 4, 5, 6, 7, 8, 9], [0, 1, 2, 3, 4, 5, 6, 7, 8, 9, 10], [0, 1, 2, 3, 4, 5, 6, 7, 8, 9, 10, 11], [0, 1, 2, 3, 4, 5, 6, 7, 8, 9, 10, 11, 12]] [10, 11, 12, 13] (by kernel_rfl) (by kernel_rfl) (fun (i : Nat) (v : Value) (G : GH) => match i with | 0 => v = .pointer (some ⟨b1, 1, none⟩) | 1 => v = .pointer (some ⟨b1, 3, none⟩) | 2 => v = .slice dA dn dc | 3 => RepV G (.sl 2 (h.marks.dels.map DelD.dat)) v | 4 => v = .pointer (some ⟨b1, 1, none⟩) | 5 => v = .pointer (some ⟨b1, 4, none⟩) | 6 => v = .slice yA yn yc | 7 => RepV G (.sl 4 (h.marks.layers.map LayerD.dat)) v | 8 => v = .pointer (some ⟨b1, 1, none⟩) | 9 => v = .pointer (some ⟨b1, 3, none⟩) | _ => True) hprm2 H ?_ ?_
  · clear H; refine (allI_cons ?_ (allI_cons ?_ (allI_cons ?_ (allI_cons ?_ (allI_cons ?_ (allI_cons ?_ (allI_cons ?_ (allI_cons ?_ (allI_cons ?_ (allI_cons ?_ (allI_cons ?_ (allI_cons ?_ (allI_cons ?_ (allI_cons ?_ allI_nil))))))))))))))
    · intro S a w G1 _ hSi hc hG HT hv; have H := HT; clear hSi
      have Hb := H.full; have H := Hb; clear hc
      refine s_field fd44_1run H wn rfl rfl ?_; clear H; intro a H
      refine wl_nil ⟨rfl, ?_⟩
      exact draw_val (by kernel_rfl) hprm2 rfl rfl HT Hb hG hv (fun _ _ h => h) (rfl) H
    · intro S a w G1 _ hSi hc hG HT hv; have H := HT; clear hSi
      obtain ⟨u7, hu7, hp7⟩ := hv 0 7 (hc 0 (by decide)) rfl
      obtain rfl : u7 = .pointer (some ⟨b1, 1, none⟩) := hp7
      have H := H.addS hu7
      have Hb := H.full; have H := Hb; clear hc
      refine s_field fd42_2run H wn rfl rfl ?_; clear H; intro a H
      refine wl_nil ⟨rfl, ?_⟩
      exact draw_val (by kernel_rfl) hprm2 rfl rfl HT Hb hG hv (fun _ _ h => h) (rfl) H
    · intro S a w G1 _ hSi hc hG HT hv; have H := HT; clear hSi
      obtain ⟨u8, hu8, hp8⟩ := hv 1 8 (hc 1 (by decide)) rfl
      obtain rfl : u8 = .pointer (some ⟨b1, 3, none⟩) := hp8
      have H := H.addS hu8
      have Hb := H.full; have H := Hb; clear hc
      refine s_load ty39run H wn rfl (H.hp.ocell 1 rfl rfl) rfl ?_; clear H; intro a H
      refine wl_nil ⟨rfl, ?_⟩
      exact draw_val (by kernel_rfl) hprm2 rfl rfl HT Hb hG hv (fun _ _ h => h) (rfl) H
    · intro S a w G1 _ hSi hc hG HT hv; have H := HT; clear hSi
      obtain ⟨u9, hu9, hp9⟩ := hv 2 9 (hc 2 (by decide)) rfl
      obtain rfl : u9 = .slice dA dn dc := hp9
      have H := H.addS hu9
      have Hb := H.full; have H := Hb; clear hc
      refine s_call en83run H wn rfl (cloneDel_spec _ _ H.hp.ro _ _ _ _ (hvd.mono hG) (by omega)) rfl ?_; clear H
      rintro v10 G10 a w hp10 hGm10 H
      refine wl_nil ⟨rfl, ?_⟩
      exact draw_val (by kernel_rfl) hprm2 rfl rfl HT Hb hG hv hGm10 (hp10) H
    · intro S a w G1 _ hSi hc hG HT hv; have H := HT; clear hSi
      have Hb := H.full; have H := Hb; clear hc
      refine s_field fd44_1run H wn rfl rfl ?_; clear H; intro a H
      refine wl_nil ⟨rfl, ?_⟩
      exact draw_val (by kernel_rfl) hprm2 rfl rfl HT Hb hG hv (fun _ _ h => h) (rfl) H
    · intro S a w G1 _ hSi hc hG HT hv; have H := HT; clear hSi
      obtain ⟨u11, hu11, hp11⟩ := hv 4 11 (hc 4 (by decide)) rfl
      obtain rfl : u11 = .pointer (some ⟨b1, 1, none⟩) := hp11
      have H := H.addS hu11
      have Hb := H.full; have H := Hb; clear hc
      refine s_field fd42_3run H wn rfl rfl ?_; clear H; intro a H
      refine wl_nil ⟨rfl, ?_⟩
      exact draw_val (by kernel_rfl) hprm2 rfl rfl HT Hb hG hv (fun _ _ h => h) (rfl) H
    · intro S a w G1 _ hSi hc hG HT hv; have H := HT; clear hSi
      obtain ⟨u12, hu12, hp12⟩ := hv 5 12 (hc 5 (by decide)) rfl
      obtain rfl : u12 = .pointer (some ⟨b1, 4, none⟩) := hp12
      have H := H.addS hu12
      have Hb := H.full; have H := Hb; clear hc
      refine s_load ty40run H wn rfl (H.hp.ocell 1 rfl rfl) rfl ?_; clear H; intro a H
      refine wl_nil ⟨rfl, ?_⟩
      exact draw_val (by kernel_rfl) hprm2 rfl rfl HT Hb hG hv (fun _ _ h => h) (rfl) H
    · intro S a w G1 _ hSi hc hG HT hv; have H := HT; clear hSi
      obtain ⟨u13, hu13, hp13⟩ := hv 6 13 (hc 6 (by decide)) rfl
      obtain rfl : u13 = .slice yA yn yc := hp13
      have H := H.addS hu13
      have Hb := H.full; have H := Hb; clear hc
      refine s_call en84run H wn rfl (cloneLayer_spec _ _ H.hp.ro _ _ _ _ (hvy.mono hG) (by omega)) rfl ?_; clear H
      rintro v14 G14 a w hp14 hGm14 H
      refine wl_nil ⟨rfl, ?_⟩
      exact draw_val (by kernel_rfl) hprm2 rfl rfl HT Hb hG hv hGm14 (hp14) H
    · intro S a w G1 _ hSi hc hG HT hv; have H := HT; clear hSi
      have Hb := H.full; have H := Hb; clear hc
      refine s_field fd44_1run H wn rfl rfl ?_; clear H; intro a H
      refine wl_nil ⟨rfl, ?_⟩
      exact draw_val (by kernel_rfl) hprm2 rfl rfl HT Hb hG hv (fun _ _ h => h) (rfl) H
    · intro S a w G1 _ hSi hc hG HT hv; have H := HT; clear hSi
      obtain ⟨u15, hu15, hp15⟩ := hv 8 15 (hc 8 (by decide)) rfl
      obtain rfl : u15 = .pointer (some ⟨b1, 1, none⟩) := hp15
      have H := H.addS hu15
      have Hb := H.full; have H := Hb; clear hc
      refine s_field fd42_2run H wn rfl rfl ?_; clear H; intro a H
      refine wl_nil ⟨rfl, ?_⟩
      exact draw_val (by kernel_rfl) hprm2 rfl rfl HT Hb hG hv (fun _ _ h => h) (rfl) H
    · intro _ _ _ _ hB; exact absurd hB (by decide)
    · intro _ _ _ _ hB; exact absurd hB (by decide)
    · intro _ _ _ _ hB; exact absurd hB (by decide)
    · intro _ _ _ _ hB; exact absurd hB (by decide)
  · clear H; intro a w G hGm2 H hv
    obtain ⟨u10, hu10, hp10⟩ := hv 3 10 (by decide) rfl
    try dsimp only at hp10
    obtain ⟨A10, n10, c10, rfl⟩ := hp10.form
    have H := H.addS hu10
    obtain ⟨u14, hu14, hp14⟩ := hv 7 14 (by decide) rfl
    try dsimp only at hp14
    obtain ⟨A14, n14, c14, rfl⟩ := hp14.form
    have H := H.addS hu14
    obtain ⟨u16, hu16, hp16⟩ := hv 9 16 (by decide) rfl
    obtain rfl : u16 = .pointer (some ⟨b1, 3, none⟩) := hp16
    have H := H.addS hu16
    clear hv
    refine s_store ty39run 1 (vs := [_]) _ H wn rfl rfl rfl rfl rfl rfl rfl rfl ?_; clear H; intro w H; dsimp only [List.set, setRow] at H
    refine s_field fd44_1run H wn rfl rfl ?_; clear H; intro a H
    refine s_field fd42_3run H wn rfl rfl ?_; clear H; intro a H
    refine s_store ty40run 1 (vs := [_]) _ H wn rfl rfl rfl rfl rfl rfl rfl rfl ?_; clear H; intro w H; dsimp only [List.set, setRow] at H
    refine wl_nil ⟨rfl, ?_⟩
    refine hK3 _ _ ?_; clear hK3
    refine c_seq (fun _ hK4 => ?_)
    refine c_region ?_
    refine s_loada ty44run (cs := [_, _, _, _, _]) H wn rfl rfl (H.hp.ocells 1 rfl rfl) rfl ?_; clear H; intro a H
    refine s_store ty44run 0 (vs := [_, _, _, _, _]) _ H wn rfl rfl rfl rfl rfl rfl rfl rfl ?_; clear H; intro w H; dsimp only [List.set, setRow] at H
    refine wl_nil ?_
    refine hK4 _ _ ?_; clear hK4
    refine c_ret ?_
    refine (leave1 H Try.results68 (.cons (rv_cella ty44run (cs := [_, _, _, _, _]) H rfl rfl (H.hp.ocells 0 rfl rfl)) .nil) ?_).1
    exact H.hp.ret ⟨_, _, _, rfl, hp5.mono hGm2, hp10, hp14⟩
/-- What a copier of elements owes. -/
def Copier (fv : Value) (w0 : World) (G : GH) (d : List Dat) : Prop := ∀ (G1 : GH) (w1 : World) (cs : List Value), (∀ b o, G b = some o → G1 b = some o) → Hold G1 w1 → RepRow G1 d cs →
  CallV Try.prog fv [.agg cs.toArray] w1 (Ret w1 G1 fun u G' => ∃ cs', u = .agg cs'.toArray ∧ RepRow G' d cs')
/-- The list of the copies of Items. -/
theorem eachItem_spec (G : GH) (w0 : World) (hG : Hold G w0) (l : List ItemD) (v fv : Value) (hv : RepV G (.sl 11 (l.map ItemD.dat)) v) (hz : l.length ≤ 4294967296) (hf : ∀ x ∈ l, Copier fv w0 G x.dat) :
    Calls Try.prog 66 #[v, fv] w0 (Ret w0 G fun u G' => RepV G' (.sl 11 (l.map ItemD.dat)) u) := by
  obtain ⟨A, c, rfl, hc1, hc2, hg⟩ := hv.slice
  have hml : 4294967297 ≤ maxLen := by decide
  rw [List.length_map] at *
  refine enter (N := 22) (T := [(0, _), (1, _)]) (F := fun k => k < w0.heap.size) (L := []) Try.func66 rfl Try.ntmps66 rfl rfl hG (fun _ h => h) (fun _ h => by cases h) (fun _ h => by cases h) (fun _ h => by cases h) List.Pairwise.nil ?_
  intro a H
  refine c_seq (fun _ hK1 => ?_)
  refine c_region ?_
  refine s_assign H wn rfl rfl ?_; clear H; intro a H
  refine wl_nil ?_
  refine hK1 _ _ ?_; clear hK1
  refine c_seq (fun _ hK2 => ?_)
  refine c_region ?_
  refine s_assign H wn rfl rfl ?_; clear H; intro a H
  refine wl_nil ?_
  refine hK2 _ _ ?_; clear hK2
  refine c_seq (fun _ hK3 => ?_)
  refine c_seq (fun _ hK4 => ?_)
  refine c_region ?_
  refine s_move H wn rfl rfl ?_; clear H; intro a H
  refine s_len un28run H wn rfl rfl ?_; clear H; intro a H
  refine s_move H wn rfl rfl ?_; clear H; intro a H
  refine wl_nil ?_
  refine hK4 _ _ ?_; clear hK4
  refine c_block ?_
  skip
  refine c_loopS (ι := Nat × Value × List Value × OL × GH) (Tc := [(1, _), (8, _), (9, _)]) (Lc := []) (fun (gh : Nat × Value × List Value × OL × GH) => [(5, gh.2.1), (10, vi gh.1)]) (fun (gh : Nat × Value × List Value × OL × GH) => [] ++ gh.2.2.2.1) (fun (gh : Nat × Value × List Value × OL × GH) => gh.2.2.2.2) (fun (gh : Nat × Value × List Value × OL × GH) => gh.1 ≤ l.length ∧ IsRow 47 11 gh.2.1 gh.1 gh.2.2.1 gh.2.2.2.1 ∧ RepCat gh.2.2.2.2 11 ((l.map ItemD.dat).take gh.1) gh.2.2.1 ∧ (∀ b o, G b = some o → gh.2.2.2.2 b = some o)) (fun (gh : Nat × Value × List Value × OL × GH) => l.length - gh.1) ((0, .slice none 0 0, [], [], G)) (by exact (H).sub ⟨rfl, rfl, rfl, rfl, rfl, trivial⟩) ?_ ?_
  · exact ⟨by omega, IsRow.nil, by simpa using RepCat.nil, fun _ _ h => h⟩
  · clear H; intro gh a w hI H
    obtain ⟨k, v, xs, Lo, g⟩ := gh; dsimp only at hI H
    obtain ⟨hk, hrw, hcat, hgm⟩ := hI
    dsimp only [List.cons_append, List.nil_append, List.append_nil] at H
    refine c_seq (fun _ hK5 => ?_)
    refine c_region ?_
    refine s_cmp H wn rfl rfl rfl rfl ?_; clear H; intro a H
    refine wl_nil ?_
    refine hK5 _ _ ?_; clear hK5
    refine c_seq (fun _ hK6 => ?_)
    refine c_cond H rfl ?_ ?_
    · intro h11
      try have p11 := of_decide_eq_true h11
      have hk2 : k < l.length := by omega
      obtain ⟨b, o, cs, rfl, hcl, hrow, hrep⟩ := hg k l[k].dat (by simp [hk2])
      obtain ⟨pA, pn, pc, dA, dn, dc, yA, yn, yc, fA, fn, fc, rA, rn, rc, rfl, -⟩ := hrep.item
      replace hrow := fun j u hj => gcell_mono hgm (hrow j u hj)
      refine c_skip ?_
      refine hK6 _ _ ?_; clear hK6
      refine c_seq (fun _ hK7 => ?_)
      refine c_block ?_
      refine c_seq (fun _ hK8 => ?_)
      refine c_region ?_
      refine s_index un28run ty47run _ H wn rfl rfl rfl (by first | assumption | omega) rfl ?_; clear H; intro a H
      refine s_loada ty47run (cs := [_, _, _, _, _, _, _, _, _, _, _]) H wn rfl rfl (fun j v hj => H.hp.gcell (hrow j v hj)) rfl ?_; clear H; intro a H
      refine s_alloc ty47run H wn rfl ?_; clear H; intro b7 a w hb7 H
      refine s_store ty47run 0 (vs := [_, _, _, _, _, _, _, _, _, _, _]) _ H wn rfl rfl rfl rfl rfl rfl rfl rfl ?_; clear H; intro w H; dsimp only [List.set, setRow] at H
      refine wl_nil ?_
      refine hK8 _ _ ?_; clear hK8
      refine c_region ?_
      refine s_move H wn rfl rfl ?_; clear H; intro a H
      refine s_move H wn rfl rfl ?_; clear H; intro a H
      refine s_loada ty47run (cs := [_, _, _, _, _, _, _, _, _, _, _]) H wn rfl rfl (H.hp.ocells 0 rfl rfl) rfl ?_; clear H; intro a H
      refine s_callv0 H wn rfl rfl (hf _ (List.getElem_mem hk2) _ _ _ hgm H.hp.ro (hrep.mono hgm)) rfl ?_; clear H
      rintro v17 G17 a w ⟨cs17, rfl, h17⟩ hm17 H
      obtain ⟨cs, hcs⟩ : ∃ cs, cs = cs17 := ⟨_, rfl⟩
      obtain ⟨pA, pn, pc, dA, dn, dc, yA, yn, yc, fA, fn, fc, rA, rn, rc, hcs17, -⟩ := h17.item
      rw [hcs17] at H
      refine s_buildSlice un28run ty47run [_, _, _, _, _, _, _, _, _, _, _] [_, _, _, _, _, _, _, _, _, _, _] H wn rfl rfl rfl rfl rfl (by intro i q h; match i, h with | 0, h => exact h | n + 1, h => simp at h) rfl rfl ?_; clear H; intro b18 a w hb18 H
      refine s_append (Li := [_, _]) (Lo := Lo) (news := cs17) un28run ty47run rfl rfl H wn rfl rfl hrw (by rw [hcs17]; rfl) (by rw [hcs17]; exact H.hp.ocells 0 rfl rfl) h17.one (by omega) (by omega) rfl ?_; clear H; intro v19 Lo19 a w hrw19 H
      refine s_assign H wn rfl rfl ?_; clear H; intro a H
      refine wl_nil ?_
      refine hK7 _ _ ?_; clear hK7
      refine c_region ?_
      refine s_add _ H wn rfl rfl rfl (by omega) (by omega) rfl ?_; clear H; intro a H
      refine s_move H wn rfl rfl ?_; clear H; intro a H
      refine wl_nil ?_
      refine loop_end ((k + 1, v19, xs ++ cs17, Lo19, G17)) (by exact (H.pickT (Pl := [_, _]) (Pl' := []) [] (by decide) rfl).sub ⟨rfl, rfl, rfl, rfl, rfl, trivial⟩) ?_ ?_
      · try dsimp only
        refine ⟨by omega, hrw19, ?_, fun b o h => hm17 b o (hgm b o h)⟩
        rw [List.take_succ_eq_append_getElem (by simpa using hk2)]
        exact (hcat.mono hm17).snoc (by simpa using h17) (by rw [hcs17]; rfl)
      · first | omega | (dsimp only; omega)
    · intro h11
      try have p11 := of_decide_eq_false h11
      refine c_exit ?_
      refine hK3 _ _ ?_; clear hK3
      refine c_seq (fun _ hK9 => ?_)
      obtain ⟨G', hm, hrep, H⟩ := H.giveRow (Li := []) hrw (rows := l.map ItemD.dat) (by simp; omega) (by rw [List.take_of_length_le (by simp; omega)] at hcat; exact hcat)
      refine c_region ?_
      refine s_move H wn rfl rfl ?_; clear H; intro a H
      refine s_assign H wn rfl rfl ?_; clear H; intro a H
      refine wl_nil ?_
      refine hK9 _ _ ?_; clear hK9
      refine c_ret ?_
      refine (leave1 H Try.results66 (.cons (rv_tmp H rfl) .nil) ?_).1
      exact H.hp.ret hrep
/-- The list of the copies of Rows. -/
theorem eachRow_spec (G : GH) (w0 : World) (hG : Hold G w0) (l : List RowD) (v fv : Value) (hv : RepV G (.sl 6 (l.map RowD.dat)) v) (hz : l.length ≤ 4294967296) (hf : ∀ x ∈ l, Copier fv w0 G x.dat) :
    Calls Try.prog 69 #[v, fv] w0 (Ret w0 G fun u G' => RepV G' (.sl 6 (l.map RowD.dat)) u) := by
  obtain ⟨A, c, rfl, hc1, hc2, hg⟩ := hv.slice
  have hml : 4294967297 ≤ maxLen := by decide
  rw [List.length_map] at *
  refine enter (N := 22) (T := [(0, _), (1, _)]) (F := fun k => k < w0.heap.size) (L := []) Try.func69 rfl Try.ntmps69 rfl rfl hG (fun _ h => h) (fun _ h => by cases h) (fun _ h => by cases h) (fun _ h => by cases h) List.Pairwise.nil ?_
  intro a H
  refine c_seq (fun _ hK1 => ?_)
  refine c_region ?_
  refine s_assign H wn rfl rfl ?_; clear H; intro a H
  refine wl_nil ?_
  refine hK1 _ _ ?_; clear hK1
  refine c_seq (fun _ hK2 => ?_)
  refine c_region ?_
  refine s_assign H wn rfl rfl ?_; clear H; intro a H
  refine wl_nil ?_
  refine hK2 _ _ ?_; clear hK2
  refine c_seq (fun _ hK3 => ?_)
  refine c_seq (fun _ hK4 => ?_)
  refine c_region ?_
  refine s_move H wn rfl rfl ?_; clear H; intro a H
  refine s_len un45run H wn rfl rfl ?_; clear H; intro a H
  refine s_move H wn rfl rfl ?_; clear H; intro a H
  refine wl_nil ?_
  refine hK4 _ _ ?_; clear hK4
  refine c_block ?_
  skip
  refine c_loopS (ι := Nat × Value × List Value × OL × GH) (Tc := [(1, _), (8, _), (9, _)]) (Lc := []) (fun (gh : Nat × Value × List Value × OL × GH) => [(5, gh.2.1), (10, vi gh.1)]) (fun (gh : Nat × Value × List Value × OL × GH) => [] ++ gh.2.2.2.1) (fun (gh : Nat × Value × List Value × OL × GH) => gh.2.2.2.2) (fun (gh : Nat × Value × List Value × OL × GH) => gh.1 ≤ l.length ∧ IsRow 107 6 gh.2.1 gh.1 gh.2.2.1 gh.2.2.2.1 ∧ RepCat gh.2.2.2.2 6 ((l.map RowD.dat).take gh.1) gh.2.2.1 ∧ (∀ b o, G b = some o → gh.2.2.2.2 b = some o)) (fun (gh : Nat × Value × List Value × OL × GH) => l.length - gh.1) ((0, .slice none 0 0, [], [], G)) (by exact (H).sub ⟨rfl, rfl, rfl, rfl, rfl, trivial⟩) ?_ ?_
  · exact ⟨by omega, IsRow.nil, by simpa using RepCat.nil, fun _ _ h => h⟩
  · clear H; intro gh a w hI H
    obtain ⟨k, v, xs, Lo, g⟩ := gh; dsimp only at hI H
    obtain ⟨hk, hrw, hcat, hgm⟩ := hI
    dsimp only [List.cons_append, List.nil_append, List.append_nil] at H
    refine c_seq (fun _ hK5 => ?_)
    refine c_region ?_
    refine s_cmp H wn rfl rfl rfl rfl ?_; clear H; intro a H
    refine wl_nil ?_
    refine hK5 _ _ ?_; clear hK5
    refine c_seq (fun _ hK6 => ?_)
    refine c_cond H rfl ?_ ?_
    · intro h11
      try have p11 := of_decide_eq_true h11
      have hk2 : k < l.length := by omega
      obtain ⟨b, o, cs, rfl, hcl, hrow, hrep⟩ := hg k l[k].dat (by simp [hk2])
      obtain ⟨pA, pn, pc, dA, dn, dc, yA, yn, yc, fA, fn, fc, rfl, -⟩ := hrep.row
      replace hrow := fun j u hj => gcell_mono hgm (hrow j u hj)
      refine c_skip ?_
      refine hK6 _ _ ?_; clear hK6
      refine c_seq (fun _ hK7 => ?_)
      refine c_block ?_
      refine c_seq (fun _ hK8 => ?_)
      refine c_region ?_
      refine s_index un45run ty107run _ H wn rfl rfl rfl (by first | assumption | omega) rfl ?_; clear H; intro a H
      refine s_loada ty107run (cs := [_, _, _, _, _, _]) H wn rfl rfl (fun j v hj => H.hp.gcell (hrow j v hj)) rfl ?_; clear H; intro a H
      refine s_alloc ty107run H wn rfl ?_; clear H; intro b7 a w hb7 H
      refine s_store ty107run 0 (vs := [_, _, _, _, _, _]) _ H wn rfl rfl rfl rfl rfl rfl rfl rfl ?_; clear H; intro w H; dsimp only [List.set, setRow] at H
      refine wl_nil ?_
      refine hK8 _ _ ?_; clear hK8
      refine c_region ?_
      refine s_move H wn rfl rfl ?_; clear H; intro a H
      refine s_move H wn rfl rfl ?_; clear H; intro a H
      refine s_loada ty107run (cs := [_, _, _, _, _, _]) H wn rfl rfl (H.hp.ocells 0 rfl rfl) rfl ?_; clear H; intro a H
      refine s_callv0 H wn rfl rfl (hf _ (List.getElem_mem hk2) _ _ _ hgm H.hp.ro (hrep.mono hgm)) rfl ?_; clear H
      rintro v17 G17 a w ⟨cs17, rfl, h17⟩ hm17 H
      obtain ⟨cs, hcs⟩ : ∃ cs, cs = cs17 := ⟨_, rfl⟩
      obtain ⟨pA, pn, pc, dA, dn, dc, yA, yn, yc, fA, fn, fc, hcs17, -⟩ := h17.row
      rw [hcs17] at H
      refine s_buildSlice un45run ty107run [_, _, _, _, _, _] [_, _, _, _, _, _] H wn rfl rfl rfl rfl rfl (by intro i q h; match i, h with | 0, h => exact h | n + 1, h => simp at h) rfl rfl ?_; clear H; intro b18 a w hb18 H
      refine s_append (Li := [_, _]) (Lo := Lo) (news := cs17) un45run ty107run rfl rfl H wn rfl rfl hrw (by rw [hcs17]; rfl) (by rw [hcs17]; exact H.hp.ocells 0 rfl rfl) h17.one (by omega) (by omega) rfl ?_; clear H; intro v19 Lo19 a w hrw19 H
      refine s_assign H wn rfl rfl ?_; clear H; intro a H
      refine wl_nil ?_
      refine hK7 _ _ ?_; clear hK7
      refine c_region ?_
      refine s_add _ H wn rfl rfl rfl (by omega) (by omega) rfl ?_; clear H; intro a H
      refine s_move H wn rfl rfl ?_; clear H; intro a H
      refine wl_nil ?_
      refine loop_end ((k + 1, v19, xs ++ cs17, Lo19, G17)) (by exact (H.pickT (Pl := [_, _]) (Pl' := []) [] (by decide) rfl).sub ⟨rfl, rfl, rfl, rfl, rfl, trivial⟩) ?_ ?_
      · try dsimp only
        refine ⟨by omega, hrw19, ?_, fun b o h => hm17 b o (hgm b o h)⟩
        rw [List.take_succ_eq_append_getElem (by simpa using hk2)]
        exact (hcat.mono hm17).snoc (by simpa using h17) (by rw [hcs17]; rfl)
      · first | omega | (dsimp only; omega)
    · intro h11
      try have p11 := of_decide_eq_false h11
      refine c_exit ?_
      refine hK3 _ _ ?_; clear hK3
      refine c_seq (fun _ hK9 => ?_)
      obtain ⟨G', hm, hrep, H⟩ := H.giveRow (Li := []) hrw (rows := l.map RowD.dat) (by simp; omega) (by rw [List.take_of_length_le (by simp; omega)] at hcat; exact hcat)
      refine c_region ?_
      refine s_move H wn rfl rfl ?_; clear H; intro a H
      refine s_assign H wn rfl rfl ?_; clear H; intro a H
      refine wl_nil ?_
      refine hK9 _ _ ?_; clear hK9
      refine c_ret ?_
      refine (leave1 H Try.results69 (.cons (rv_tmp H rfl) .nil) ?_).1
      exact H.hp.ret hrep
/-- The list of the copies of Cells. -/
theorem eachCell_spec (G : GH) (w0 : World) (hG : Hold G w0) (l : List CellD) (v fv : Value) (hv : RepV G (.sl 7 (l.map CellD.dat)) v) (hz : l.length ≤ 4294967296) (hf : ∀ x ∈ l, Copier fv w0 G x.dat) :
    Calls Try.prog 85 #[v, fv] w0 (Ret w0 G fun u G' => RepV G' (.sl 7 (l.map CellD.dat)) u) := by
  obtain ⟨A, c, rfl, hc1, hc2, hg⟩ := hv.slice
  have hml : 4294967297 ≤ maxLen := by decide
  rw [List.length_map] at *
  refine enter (N := 22) (T := [(0, _), (1, _)]) (F := fun k => k < w0.heap.size) (L := []) Try.func85 rfl Try.ntmps85 rfl rfl hG (fun _ h => h) (fun _ h => by cases h) (fun _ h => by cases h) (fun _ h => by cases h) List.Pairwise.nil ?_
  intro a H
  refine c_seq (fun _ hK1 => ?_)
  refine c_region ?_
  refine s_assign H wn rfl rfl ?_; clear H; intro a H
  refine wl_nil ?_
  refine hK1 _ _ ?_; clear hK1
  refine c_seq (fun _ hK2 => ?_)
  refine c_region ?_
  refine s_assign H wn rfl rfl ?_; clear H; intro a H
  refine wl_nil ?_
  refine hK2 _ _ ?_; clear hK2
  refine c_seq (fun _ hK3 => ?_)
  refine c_seq (fun _ hK4 => ?_)
  refine c_region ?_
  refine s_move H wn rfl rfl ?_; clear H; intro a H
  refine s_len un105run H wn rfl rfl ?_; clear H; intro a H
  refine s_move H wn rfl rfl ?_; clear H; intro a H
  refine wl_nil ?_
  refine hK4 _ _ ?_; clear hK4
  refine c_block ?_
  skip
  refine c_loopS (ι := Nat × Value × List Value × OL × GH) (Tc := [(1, _), (8, _), (9, _)]) (Lc := []) (fun (gh : Nat × Value × List Value × OL × GH) => [(5, gh.2.1), (10, vi gh.1)]) (fun (gh : Nat × Value × List Value × OL × GH) => [] ++ gh.2.2.2.1) (fun (gh : Nat × Value × List Value × OL × GH) => gh.2.2.2.2) (fun (gh : Nat × Value × List Value × OL × GH) => gh.1 ≤ l.length ∧ IsRow 104 7 gh.2.1 gh.1 gh.2.2.1 gh.2.2.2.1 ∧ RepCat gh.2.2.2.2 7 ((l.map CellD.dat).take gh.1) gh.2.2.1 ∧ (∀ b o, G b = some o → gh.2.2.2.2 b = some o)) (fun (gh : Nat × Value × List Value × OL × GH) => l.length - gh.1) ((0, .slice none 0 0, [], [], G)) (by exact (H).sub ⟨rfl, rfl, rfl, rfl, rfl, trivial⟩) ?_ ?_
  · exact ⟨by omega, IsRow.nil, by simpa using RepCat.nil, fun _ _ h => h⟩
  · clear H; intro gh a w hI H
    obtain ⟨k, v, xs, Lo, g⟩ := gh; dsimp only at hI H
    obtain ⟨hk, hrw, hcat, hgm⟩ := hI
    dsimp only [List.cons_append, List.nil_append, List.append_nil] at H
    refine c_seq (fun _ hK5 => ?_)
    refine c_region ?_
    refine s_cmp H wn rfl rfl rfl rfl ?_; clear H; intro a H
    refine wl_nil ?_
    refine hK5 _ _ ?_; clear hK5
    refine c_seq (fun _ hK6 => ?_)
    refine c_cond H rfl ?_ ?_
    · intro h11
      try have p11 := of_decide_eq_true h11
      have hk2 : k < l.length := by omega
      obtain ⟨b, o, cs, rfl, hcl, hrow, hrep⟩ := hg k l[k].dat (by simp [hk2])
      obtain ⟨pA, pn, pc, dA, dn, dc, yA, yn, yc, fA, fn, fc, rfl, -⟩ := hrep.cell
      replace hrow := fun j u hj => gcell_mono hgm (hrow j u hj)
      refine c_skip ?_
      refine hK6 _ _ ?_; clear hK6
      refine c_seq (fun _ hK7 => ?_)
      refine c_block ?_
      refine c_seq (fun _ hK8 => ?_)
      refine c_region ?_
      refine s_index un105run ty104run _ H wn rfl rfl rfl (by first | assumption | omega) rfl ?_; clear H; intro a H
      refine s_loada ty104run (cs := [_, _, _, _, _, _, _]) H wn rfl rfl (fun j v hj => H.hp.gcell (hrow j v hj)) rfl ?_; clear H; intro a H
      refine s_alloc ty104run H wn rfl ?_; clear H; intro b7 a w hb7 H
      refine s_store ty104run 0 (vs := [_, _, _, _, _, _, _]) _ H wn rfl rfl rfl rfl rfl rfl rfl rfl ?_; clear H; intro w H; dsimp only [List.set, setRow] at H
      refine wl_nil ?_
      refine hK8 _ _ ?_; clear hK8
      refine c_region ?_
      refine s_move H wn rfl rfl ?_; clear H; intro a H
      refine s_move H wn rfl rfl ?_; clear H; intro a H
      refine s_loada ty104run (cs := [_, _, _, _, _, _, _]) H wn rfl rfl (H.hp.ocells 0 rfl rfl) rfl ?_; clear H; intro a H
      refine s_callv0 H wn rfl rfl (hf _ (List.getElem_mem hk2) _ _ _ hgm H.hp.ro (hrep.mono hgm)) rfl ?_; clear H
      rintro v17 G17 a w ⟨cs17, rfl, h17⟩ hm17 H
      obtain ⟨cs, hcs⟩ : ∃ cs, cs = cs17 := ⟨_, rfl⟩
      obtain ⟨pA, pn, pc, dA, dn, dc, yA, yn, yc, fA, fn, fc, hcs17, -⟩ := h17.cell
      rw [hcs17] at H
      refine s_buildSlice un105run ty104run [_, _, _, _, _, _, _] [_, _, _, _, _, _, _] H wn rfl rfl rfl rfl rfl (by intro i q h; match i, h with | 0, h => exact h | n + 1, h => simp at h) rfl rfl ?_; clear H; intro b18 a w hb18 H
      refine s_append (Li := [_, _]) (Lo := Lo) (news := cs17) un105run ty104run rfl rfl H wn rfl rfl hrw (by rw [hcs17]; rfl) (by rw [hcs17]; exact H.hp.ocells 0 rfl rfl) h17.one (by omega) (by omega) rfl ?_; clear H; intro v19 Lo19 a w hrw19 H
      refine s_assign H wn rfl rfl ?_; clear H; intro a H
      refine wl_nil ?_
      refine hK7 _ _ ?_; clear hK7
      refine c_region ?_
      refine s_add _ H wn rfl rfl rfl (by omega) (by omega) rfl ?_; clear H; intro a H
      refine s_move H wn rfl rfl ?_; clear H; intro a H
      refine wl_nil ?_
      refine loop_end ((k + 1, v19, xs ++ cs17, Lo19, G17)) (by exact (H.pickT (Pl := [_, _]) (Pl' := []) [] (by decide) rfl).sub ⟨rfl, rfl, rfl, rfl, rfl, trivial⟩) ?_ ?_
      · try dsimp only
        refine ⟨by omega, hrw19, ?_, fun b o h => hm17 b o (hgm b o h)⟩
        rw [List.take_succ_eq_append_getElem (by simpa using hk2)]
        exact (hcat.mono hm17).snoc (by simpa using h17) (by rw [hcs17]; rfl)
      · first | omega | (dsimp only; omega)
    · intro h11
      try have p11 := of_decide_eq_false h11
      refine c_exit ?_
      refine hK3 _ _ ?_; clear hK3
      refine c_seq (fun _ hK9 => ?_)
      obtain ⟨G', hm, hrep, H⟩ := H.giveRow (Li := []) hrw (rows := l.map CellD.dat) (by simp; omega) (by rw [List.take_of_length_le (by simp; omega)] at hcat; exact hcat)
      refine c_region ?_
      refine s_move H wn rfl rfl ?_; clear H; intro a H
      refine s_assign H wn rfl rfl ?_; clear H; intro a H
      refine wl_nil ?_
      refine hK9 _ _ ?_; clear hK9
      refine c_ret ?_
      refine (leave1 H Try.results85 (.cons (rv_tmp H rfl) .nil) ?_).1
      exact H.hp.ret hrep
/-- Copies of flows that are smaller than n. -/
def CloneOk (n : Nat) : Prop := ∀ (G : GH) (w0 : World), Hold G w0 → ∀ (l : List ItemD) (v : Value), RepV G (.sl 11 (l.map ItemD.dat)) v → zItems l < n →
  Calls Try.prog 52 #[v] w0 (Ret w0 G fun u G' => RepV G' (.sl 11 (l.map ItemD.dat)) u)
theorem cloneCell_spec {n : Nat} (ih : CloneOk n) (hn : n ≤ 4294967296) (G : GH) (w0 : World) (hG : Hold G w0) (x : CellD) (cs : List Value) (hv : RepRow G x.dat cs) (hz : szR x.dat < n + 1) :
    Calls Try.prog 86 #[.agg cs.toArray] w0 (Ret w0 G fun u G' => ∃ cs', u = .agg cs'.toArray ∧ RepRow G' x.dat cs') := by
  have he := zCell_eq x
  obtain ⟨pA, pn, pc, dA, dn, dc, yA, yn, yc, fA, fn, fc, rfl, hh, hf⟩ := hv.cell
  refine enter (N := 12) (T := [(0, _)]) (F := fun k => k < w0.heap.size) (L := []) Try.func86 rfl Try.ntmps86 rfl rfl hG (fun _ h => h) (fun _ h => by cases h) (fun _ h => by cases h) (fun _ h => by cases h) List.Pairwise.nil ?_
  intro a H
  refine c_seq (fun _ hK1 => ?_)
  refine c_region ?_
  refine s_box (cs := [_, _, _, _, _, _, _]) H wn rfl rfl rfl ?_; clear H; intro b1 a w hb1 H
  refine s_alloc ty104run H wn rfl ?_; clear H; intro b2 a w hb2 H
  refine wl_nil ?_
  refine hK1 _ _ ?_; clear hK1
  refine c_seq (fun _ hK2 => ?_)
  have hprm1 : ∀ (i : Nat) (v : Value) (G G' : GH), (∀ k o, G k = some o → G' k = some o) → (fun (i : Nat) (v : Value) (G : GH) => match i with | 0 => v = .pointer (some ⟨b1, 0, none⟩) | 1 => v = vi x.id | 2 => v = .pointer (some ⟨b1, 1, none⟩) | 3 => v = .agg #[.slice pA pn pc, vi x.head.marks.ins, vi x.head.marks.move, .slice dA dn dc, .slice yA yn yc] | 4 => ∃ p d l, v = .agg #[p, vi x.head.marks.ins, vi x.head.marks.move, d, l] ∧ HeadR G x.head p d l | 5 => v = .pointer (some ⟨b1, 6, none⟩) | 6 => v = .slice fA fn fc | 7 => RepV G (.sl 11 (x.flow.map ItemD.dat)) v | _ => True) i v G → (fun (i : Nat) (v : Value) (G : GH) => match i with | 0 => v = .pointer (some ⟨b1, 0, none⟩) | 1 => v = vi x.id | 2 => v = .pointer (some ⟨b1, 1, none⟩) | 3 => v = .agg #[.slice pA pn pc, vi x.head.marks.ins, vi x.head.marks.move, .slice dA dn dc, .slice yA yn yc] | 4 => ∃ p d l, v = .agg #[p, vi x.head.marks.ins, vi x.head.marks.move, d, l] ∧ HeadR G x.head p d l | 5 => v = .pointer (some ⟨b1, 6, none⟩) | 6 => v = .slice fA fn fc | 7 => RepV G (.sl 11 (x.flow.map ItemD.dat)) v | _ => True) i v G' := by
    intro i v G G' hm h
    match i, h with
    | 0, h => exact h
    | 1, h => exact h
    | 2, h => exact h
    | 3, h => exact h
    | 4, h => exact let ⟨p, d, l, h1, h2⟩ := h; ⟨p, d, l, h1, h2.mono hm⟩
    | 5, h => exact h
    | 6, h => exact h
    | 7, h => exact RepV.mono hm h
    | 8, h => exact trivial
    | 9, h => exact trivial
    | _ + 10, h => exact trivial
  refine c_drawI (hmx) [[], [0], [], [2], [2, 3], [], [5], [2, 3, 4, 5, 6], [0, 1, 2, 3, 4, 5, 6, 7], [0, 1, 2, 3, 4, 5, 6, 7, 8]] [8, 9] (by kernel_rfl) (by kernel_rfl) (fun (i : Nat) (v : Value) (G : GH) => match i with | 0 => v = .pointer (some ⟨b1, 0, none⟩) | 1 => v = vi x.id | 2 => v = .pointer (some ⟨b1, 1, none⟩) | 3 => v = .agg #[.slice pA pn pc, vi x.head.marks.ins, vi x.head.marks.move, .slice dA dn dc, .slice yA yn yc] | 4 => ∃ p d l, v = .agg #[p, vi x.head.marks.ins, vi x.head.marks.move, d, l] ∧ HeadR G x.head p d l | 5 => v = .pointer (some ⟨b1, 6, none⟩) | 6 => v = .slice fA fn fc | 7 => RepV G (.sl 11 (x.flow.map ItemD.dat)) v | _ => True) hprm1 H ?_ ?_
  · clear H; refine (allI_cons ?_ (allI_cons ?_ (allI_cons ?_ (allI_cons ?_ (allI_cons ?_ (allI_cons ?_ (allI_cons ?_ (allI_cons ?_ (allI_cons ?_ (allI_cons ?_ allI_nil))))))))))
    · intro S a w G1 _ hSi hc hG HT hv; have H := HT; clear hSi
      have Hb := H.full; have H := Hb; clear hc
      refine s_field fd104_0run H wn rfl rfl ?_; clear H; intro a H
      refine wl_nil ⟨rfl, ?_⟩
      exact draw_val (by kernel_rfl) hprm1 rfl rfl HT Hb hG hv (fun _ _ h => h) (rfl) H
    · intro S a w G1 _ hSi hc hG HT hv; have H := HT; clear hSi
      obtain ⟨u3, hu3, hp3⟩ := hv 0 3 (hc 0 (by decide)) rfl
      obtain rfl : u3 = .pointer (some ⟨b1, 0, none⟩) := hp3
      have H := H.addS hu3
      have Hb := H.full; have H := Hb; clear hc
      refine s_load ty3run H wn rfl (H.hp.ocell 1 rfl rfl) rfl ?_; clear H; intro a H
      refine wl_nil ⟨rfl, ?_⟩
      exact draw_val (by kernel_rfl) hprm1 rfl rfl HT Hb hG hv (fun _ _ h => h) (rfl) H
    · intro S a w G1 _ hSi hc hG HT hv; have H := HT; clear hSi
      have Hb := H.full; have H := Hb; clear hc
      refine s_field fd104_1run H wn rfl rfl ?_; clear H; intro a H
      refine wl_nil ⟨rfl, ?_⟩
      exact draw_val (by kernel_rfl) hprm1 rfl rfl HT Hb hG hv (fun _ _ h => h) (rfl) H
    · intro S a w G1 _ hSi hc hG HT hv; have H := HT; clear hSi
      obtain ⟨u5, hu5, hp5⟩ := hv 2 5 (hc 2 (by decide)) rfl
      obtain rfl : u5 = .pointer (some ⟨b1, 1, none⟩) := hp5
      have H := H.addS hu5
      have Hb := H.full; have H := Hb; clear hc
      refine s_loada ty44run (cs := [_, _, _, _, _]) H wn rfl rfl (H.hp.ocells 1 rfl rfl) rfl ?_; clear H; intro a H
      refine wl_nil ⟨rfl, ?_⟩
      exact draw_val (by kernel_rfl) hprm1 rfl rfl HT Hb hG hv (fun _ _ h => h) (rfl) H
    · intro S a w G1 _ hSi hc hG HT hv; have H := HT; clear hSi
      obtain ⟨u6, hu6, hp6⟩ := hv 3 6 (hc 3 (by decide)) rfl
      obtain rfl : u6 = .agg #[.slice pA pn pc, vi x.head.marks.ins, vi x.head.marks.move, .slice dA dn dc, .slice yA yn yc] := hp6
      have H := H.addS hu6
      have Hb := H.full; have H := Hb; clear hc
      refine s_call en68run H wn rfl (cloneHead_spec _ _ H.hp.ro x.head _ _ _ _ _ _ _ _ _ (hh.mono hG) (by omega)) rfl ?_; clear H
      rintro v7 G7 a w hp7 hGm7 H
      refine wl_nil ⟨rfl, ?_⟩
      exact draw_val (by kernel_rfl) hprm1 rfl rfl HT Hb hG hv hGm7 (hp7) H
    · intro S a w G1 _ hSi hc hG HT hv; have H := HT; clear hSi
      have Hb := H.full; have H := Hb; clear hc
      refine s_field fd104_2run H wn rfl rfl ?_; clear H; intro a H
      refine wl_nil ⟨rfl, ?_⟩
      exact draw_val (by kernel_rfl) hprm1 rfl rfl HT Hb hG hv (fun _ _ h => h) (rfl) H
    · intro S a w G1 _ hSi hc hG HT hv; have H := HT; clear hSi
      obtain ⟨u8, hu8, hp8⟩ := hv 5 8 (hc 5 (by decide)) rfl
      obtain rfl : u8 = .pointer (some ⟨b1, 6, none⟩) := hp8
      have H := H.addS hu8
      have Hb := H.full; have H := Hb; clear hc
      refine s_load ty28run H wn rfl (H.hp.ocell 1 rfl rfl) rfl ?_; clear H; intro a H
      refine wl_nil ⟨rfl, ?_⟩
      exact draw_val (by kernel_rfl) hprm1 rfl rfl HT Hb hG hv (fun _ _ h => h) (rfl) H
    · intro S a w G1 _ hSi hc hG HT hv; have H := HT; clear hSi
      obtain ⟨u9, hu9, hp9⟩ := hv 6 9 (hc 6 (by decide)) rfl
      obtain rfl : u9 = .slice fA fn fc := hp9
      have H := H.addS hu9
      have Hb := H.full; have H := Hb; clear hc
      refine s_call en52run H wn rfl (ih _ _ H.hp.ro x.flow _ (hf.mono hG) (by omega)) rfl ?_; clear H
      rintro v10 G10 a w hp10 hGm10 H
      refine wl_nil ⟨rfl, ?_⟩
      exact draw_val (by kernel_rfl) hprm1 rfl rfl HT Hb hG hv hGm10 (hp10) H
    · intro _ _ _ _ hB; exact absurd hB (by decide)
    · intro _ _ _ _ hB; exact absurd hB (by decide)
  · clear H; intro a w G hGm1 H hv
    obtain ⟨u4, hu4, hp4⟩ := hv 1 4 (by decide) rfl
    obtain rfl : u4 = vi x.id := hp4
    have H := H.addS hu4
    obtain ⟨u7, hu7, hp7⟩ := hv 4 7 (by decide) rfl
    try dsimp only at hp7
    obtain ⟨p7, d7, l7, rfl, hh7⟩ := hp7
    obtain ⟨a1, a2, a3, rfl⟩ := hh7.props.form; obtain ⟨a4, a5, a6, rfl⟩ := hh7.dels.form; obtain ⟨a7, a8, a9, rfl⟩ := hh7.layers.form
    have H := H.addS hu7
    obtain ⟨u10, hu10, hp10⟩ := hv 7 10 (by decide) rfl
    try dsimp only at hp10
    obtain ⟨A10, n10, c10, rfl⟩ := hp10.form
    have H := H.addS hu10
    clear hv
    refine s_build sr104run [_, _, _, _, _, _, _] H wn rfl rfl rfl rfl ?_; clear H; intro a H
    refine s_store ty104run 0 (vs := [_, _, _, _, _, _, _]) _ H wn rfl rfl rfl rfl rfl rfl rfl rfl ?_; clear H; intro w H; dsimp only [List.set, setRow] at H
    refine wl_nil ⟨rfl, ?_⟩
    refine hK2 _ _ ?_; clear hK2
    refine c_ret ?_
    refine (leave1 H Try.results86 (.cons (rv_cella ty104run (cs := [_, _, _, _, _, _, _]) H rfl rfl (H.hp.ocells 0 rfl rfl)) .nil) ?_).1
    exact H.hp.ret ⟨_, rfl, RepRow.mkCell hh7 hp10⟩
theorem cloneCell_copier {n : Nat} (ih : CloneOk n) (hn : n ≤ 4294967296) {G : GH} {w0 : World} (x : CellD) (hz : szR x.dat < n + 1) : Copier (.func (.func 86) #[] #[]) w0 G x.dat := by
  intro G1 w1 cs hm1 hG1 hr
  have h := cloneCell_spec ih hn _ _ hG1 x cs hr hz
  have h2 := callV_func (P := Try.prog) (caps := []) (args := [.agg cs.toArray]) en86run h
  exact h2
theorem cloneRow_spec {n : Nat} (ih : CloneOk n) (hn : n ≤ 4294967296) (G : GH) (w0 : World) (hG : Hold G w0) (x : RowD) (cs : List Value) (hv : RepRow G x.dat cs) (hz : szR x.dat < n + 1) :
    Calls Try.prog 70 #[.agg cs.toArray] w0 (Ret w0 G fun u G' => ∃ cs', u = .agg cs'.toArray ∧ RepRow G' x.dat cs') := by
  have he := zRow_eq x
  have hl := zCells_length x.cells
  obtain ⟨pA, pn, pc, dA, dn, dc, yA, yn, yc, fA, fn, fc, rfl, hh, hf⟩ := hv.row
  refine enter (N := 10) (T := [(0, _)]) (F := fun k => k < w0.heap.size) (L := []) Try.func70 rfl Try.ntmps70 rfl rfl hG (fun _ h => h) (fun _ h => by cases h) (fun _ h => by cases h) (fun _ h => by cases h) List.Pairwise.nil ?_
  intro a H
  refine c_seq (fun _ hK1 => ?_)
  refine c_region ?_
  refine s_box (cs := [_, _, _, _, _, _]) H wn rfl rfl rfl ?_; clear H; intro b1 a w hb1 H
  refine s_alloc ty107run H wn rfl ?_; clear H; intro b2 a w hb2 H
  refine wl_nil ?_
  refine hK1 _ _ ?_; clear hK1
  refine c_seq (fun _ hK2 => ?_)
  have hprm1 : ∀ (i : Nat) (v : Value) (G G' : GH), (∀ k o, G k = some o → G' k = some o) → (fun (i : Nat) (v : Value) (G : GH) => match i with | 0 => v = .pointer (some ⟨b1, 0, none⟩) | 1 => v = .agg #[.slice pA pn pc, vi x.head.marks.ins, vi x.head.marks.move, .slice dA dn dc, .slice yA yn yc] | 2 => ∃ p d l, v = .agg #[p, vi x.head.marks.ins, vi x.head.marks.move, d, l] ∧ HeadR G x.head p d l | 3 => v = .pointer (some ⟨b1, 5, none⟩) | 4 => v = .slice fA fn fc | 5 => RepV G (.sl 7 (x.cells.map CellD.dat)) v | _ => True) i v G → (fun (i : Nat) (v : Value) (G : GH) => match i with | 0 => v = .pointer (some ⟨b1, 0, none⟩) | 1 => v = .agg #[.slice pA pn pc, vi x.head.marks.ins, vi x.head.marks.move, .slice dA dn dc, .slice yA yn yc] | 2 => ∃ p d l, v = .agg #[p, vi x.head.marks.ins, vi x.head.marks.move, d, l] ∧ HeadR G x.head p d l | 3 => v = .pointer (some ⟨b1, 5, none⟩) | 4 => v = .slice fA fn fc | 5 => RepV G (.sl 7 (x.cells.map CellD.dat)) v | _ => True) i v G' := by
    intro i v G G' hm h
    match i, h with
    | 0, h => exact h
    | 1, h => exact h
    | 2, h => exact let ⟨p, d, l, h1, h2⟩ := h; ⟨p, d, l, h1, h2.mono hm⟩
    | 3, h => exact h
    | 4, h => exact h
    | 5, h => exact RepV.mono hm h
    | 6, h => exact trivial
    | 7, h => exact trivial
    | _ + 8, h => exact trivial
  refine c_drawI (hmx) [[], [0], [0, 1], [], [3], [0, 1, 2, 3, 4], [0, 1, 2, 3, 4, 5], [0, 1, 2, 3, 4, 5, 6]] [6, 7] (by kernel_rfl) (by kernel_rfl) (fun (i : Nat) (v : Value) (G : GH) => match i with | 0 => v = .pointer (some ⟨b1, 0, none⟩) | 1 => v = .agg #[.slice pA pn pc, vi x.head.marks.ins, vi x.head.marks.move, .slice dA dn dc, .slice yA yn yc] | 2 => ∃ p d l, v = .agg #[p, vi x.head.marks.ins, vi x.head.marks.move, d, l] ∧ HeadR G x.head p d l | 3 => v = .pointer (some ⟨b1, 5, none⟩) | 4 => v = .slice fA fn fc | 5 => RepV G (.sl 7 (x.cells.map CellD.dat)) v | _ => True) hprm1 H ?_ ?_
  · clear H; refine (allI_cons ?_ (allI_cons ?_ (allI_cons ?_ (allI_cons ?_ (allI_cons ?_ (allI_cons ?_ (allI_cons ?_ (allI_cons ?_ allI_nil))))))))
    · intro S a w G1 _ hSi hc hG HT hv; have H := HT; clear hSi
      have Hb := H.full; have H := Hb; clear hc
      refine s_field fd107_0run H wn rfl rfl ?_; clear H; intro a H
      refine wl_nil ⟨rfl, ?_⟩
      exact draw_val (by kernel_rfl) hprm1 rfl rfl HT Hb hG hv (fun _ _ h => h) (rfl) H
    · intro S a w G1 _ hSi hc hG HT hv; have H := HT; clear hSi
      obtain ⟨u3, hu3, hp3⟩ := hv 0 3 (hc 0 (by decide)) rfl
      obtain rfl : u3 = .pointer (some ⟨b1, 0, none⟩) := hp3
      have H := H.addS hu3
      have Hb := H.full; have H := Hb; clear hc
      refine s_loada ty44run (cs := [_, _, _, _, _]) H wn rfl rfl (H.hp.ocells 1 rfl rfl) rfl ?_; clear H; intro a H
      refine wl_nil ⟨rfl, ?_⟩
      exact draw_val (by kernel_rfl) hprm1 rfl rfl HT Hb hG hv (fun _ _ h => h) (rfl) H
    · intro S a w G1 _ hSi hc hG HT hv; have H := HT; clear hSi
      obtain ⟨u4, hu4, hp4⟩ := hv 1 4 (hc 1 (by decide)) rfl
      obtain rfl : u4 = .agg #[.slice pA pn pc, vi x.head.marks.ins, vi x.head.marks.move, .slice dA dn dc, .slice yA yn yc] := hp4
      have H := H.addS hu4
      have Hb := H.full; have H := Hb; clear hc
      refine s_call en68run H wn rfl (cloneHead_spec _ _ H.hp.ro x.head _ _ _ _ _ _ _ _ _ (hh.mono hG) (by omega)) rfl ?_; clear H
      rintro v5 G5 a w hp5 hGm5 H
      refine wl_nil ⟨rfl, ?_⟩
      exact draw_val (by kernel_rfl) hprm1 rfl rfl HT Hb hG hv hGm5 (hp5) H
    · intro S a w G1 _ hSi hc hG HT hv; have H := HT; clear hSi
      have Hb := H.full; have H := Hb; clear hc
      refine s_field fd107_1run H wn rfl rfl ?_; clear H; intro a H
      refine wl_nil ⟨rfl, ?_⟩
      exact draw_val (by kernel_rfl) hprm1 rfl rfl HT Hb hG hv (fun _ _ h => h) (rfl) H
    · intro S a w G1 _ hSi hc hG HT hv; have H := HT; clear hSi
      obtain ⟨u6, hu6, hp6⟩ := hv 3 6 (hc 3 (by decide)) rfl
      obtain rfl : u6 = .pointer (some ⟨b1, 5, none⟩) := hp6
      have H := H.addS hu6
      have Hb := H.full; have H := Hb; clear hc
      refine s_load ty105run H wn rfl (H.hp.ocell 1 rfl rfl) rfl ?_; clear H; intro a H
      refine wl_nil ⟨rfl, ?_⟩
      exact draw_val (by kernel_rfl) hprm1 rfl rfl HT Hb hG hv (fun _ _ h => h) (rfl) H
    · intro S a w G1 _ hSi hc hG HT hv; have H := HT; clear hSi
      obtain ⟨u7, hu7, hp7⟩ := hv 4 7 (hc 4 (by decide)) rfl
      obtain rfl : u7 = .slice fA fn fc := hp7
      have H := H.addS hu7
      have Hb := H.full; have H := Hb; clear hc
      refine s_call en85run H wn rfl (eachCell_spec _ _ H.hp.ro x.cells _ _ (hf.mono hG) (by omega) (fun y hy => cloneCell_copier ih hn y (by have := zCells_mem hy; omega))) rfl ?_; clear H
      rintro v8 G8 a w hp8 hGm8 H
      refine wl_nil ⟨rfl, ?_⟩
      exact draw_val (by kernel_rfl) hprm1 rfl rfl HT Hb hG hv hGm8 (hp8) H
    · intro _ _ _ _ hB; exact absurd hB (by decide)
    · intro _ _ _ _ hB; exact absurd hB (by decide)
  · clear H; intro a w G hGm1 H hv
    obtain ⟨u5, hu5, hp5⟩ := hv 2 5 (by decide) rfl
    try dsimp only at hp5
    obtain ⟨p5, d5, l5, rfl, hh5⟩ := hp5
    obtain ⟨a1, a2, a3, rfl⟩ := hh5.props.form; obtain ⟨a4, a5, a6, rfl⟩ := hh5.dels.form; obtain ⟨a7, a8, a9, rfl⟩ := hh5.layers.form
    have H := H.addS hu5
    obtain ⟨u8, hu8, hp8⟩ := hv 5 8 (by decide) rfl
    try dsimp only at hp8
    obtain ⟨A8, n8, c8, rfl⟩ := hp8.form
    have H := H.addS hu8
    clear hv
    refine s_build sr107run [_, _, _, _, _, _] H wn rfl rfl rfl rfl ?_; clear H; intro a H
    refine s_store ty107run 0 (vs := [_, _, _, _, _, _]) _ H wn rfl rfl rfl rfl rfl rfl rfl rfl ?_; clear H; intro w H; dsimp only [List.set, setRow] at H
    refine wl_nil ⟨rfl, ?_⟩
    refine hK2 _ _ ?_; clear hK2
    refine c_ret ?_
    refine (leave1 H Try.results70 (.cons (rv_cella ty107run (cs := [_, _, _, _, _, _]) H rfl rfl (H.hp.ocells 0 rfl rfl)) .nil) ?_).1
    exact H.hp.ret ⟨_, rfl, RepRow.mkRow hh5 hp8⟩
theorem cloneRow_copier {n : Nat} (ih : CloneOk n) (hn : n ≤ 4294967296) {G : GH} {w0 : World} (x : RowD) (hz : szR x.dat < n + 1) : Copier (.func (.func 70) #[] #[]) w0 G x.dat := by
  intro G1 w1 cs hm1 hG1 hr
  have h := cloneRow_spec ih hn _ _ hG1 x cs hr hz
  have h2 := callV_func (P := Try.prog) (caps := []) (args := [.agg cs.toArray]) en70run h
  exact h2
theorem clone1_spec {n : Nat} (ih : CloneOk n) (hn : n ≤ 4294967296) (G : GH) (w0 : World) (hG : Hold G w0) (x : ItemD) (cs : List Value) (hv : RepRow G x.dat cs) (hz : szR x.dat < n + 1) :
    Calls Try.prog 67 #[.agg cs.toArray] w0 (Ret w0 G fun u G' => ∃ cs', u = .agg cs'.toArray ∧ RepRow G' x.dat cs') := by
  have he := zItem_eq x
  have hl := zRows_length x.rows
  obtain ⟨pA, pn, pc, dA, dn, dc, yA, yn, yc, fA, fn, fc, rA, rn, rc, rfl, hh, hf, hr⟩ := hv.item
  refine enter (N := 16) (T := [(0, _)]) (F := fun k => k < w0.heap.size) (L := []) Try.func67 rfl Try.ntmps67 rfl rfl hG (fun _ h => h) (fun _ h => by cases h) (fun _ h => by cases h) (fun _ h => by cases h) List.Pairwise.nil ?_
  intro a H
  refine c_seq (fun _ hK1 => ?_)
  refine c_region ?_
  refine s_box (cs := [_, _, _, _, _, _, _, _, _, _, _]) H wn rfl rfl rfl ?_; clear H; intro b1 a w hb1 H
  refine s_alloc ty47run H wn rfl ?_; clear H; intro b2 a w hb2 H
  refine wl_nil ?_
  refine hK1 _ _ ?_; clear hK1
  refine c_seq (fun _ hK2 => ?_)
  have hprm1 : ∀ (i : Nat) (v : Value) (G G' : GH), (∀ k o, G k = some o → G' k = some o) → (fun (i : Nat) (v : Value) (G : GH) => match i with | 0 => v = .pointer (some ⟨b1, 4, none⟩) | 1 => v = .agg #[.slice pA pn pc, vi x.head.marks.ins, vi x.head.marks.move, .slice dA dn dc, .slice yA yn yc] | 2 => ∃ p d l, v = .agg #[p, vi x.head.marks.ins, vi x.head.marks.move, d, l] ∧ HeadR G x.head p d l | 3 => v = .pointer (some ⟨b1, 9, none⟩) | 4 => v = .slice fA fn fc | 5 => RepV G (.sl 11 (x.flow.map ItemD.dat)) v | 6 => v = .pointer (some ⟨b1, 10, none⟩) | 7 => v = .slice rA rn rc | 8 => RepV G (.sl 6 (x.rows.map RowD.dat)) v | 9 => v = .pointer (some ⟨b1, 4, none⟩) | _ => True) i v G → (fun (i : Nat) (v : Value) (G : GH) => match i with | 0 => v = .pointer (some ⟨b1, 4, none⟩) | 1 => v = .agg #[.slice pA pn pc, vi x.head.marks.ins, vi x.head.marks.move, .slice dA dn dc, .slice yA yn yc] | 2 => ∃ p d l, v = .agg #[p, vi x.head.marks.ins, vi x.head.marks.move, d, l] ∧ HeadR G x.head p d l | 3 => v = .pointer (some ⟨b1, 9, none⟩) | 4 => v = .slice fA fn fc | 5 => RepV G (.sl 11 (x.flow.map ItemD.dat)) v | 6 => v = .pointer (some ⟨b1, 10, none⟩) | 7 => v = .slice rA rn rc | 8 => RepV G (.sl 6 (x.rows.map RowD.dat)) v | 9 => v = .pointer (some ⟨b1, 4, none⟩) | _ => True) i v G' := by
    intro i v G G' hm h
    match i, h with
    | 0, h => exact h
    | 1, h => exact h
    | 2, h => exact let ⟨p, d, l, h1, h2⟩ := h; ⟨p, d, l, h1, h2.mono hm⟩
    | 3, h => exact h
    | 4, h => exact h
    | 5, h => exact RepV.mono hm h
    | 6, h => exact h
    | 7, h => exact h
    | 8, h => exact RepV.mono hm h
    | 9, h => exact h
    | 10, h => exact trivial
    | 11, h => exact trivial
    | 12, h => exact trivial
    | 13, h => exact trivial
    | 14, h => exact trivial
    | _ + 15, h => exact trivial
  refine c_drawI (hmx) [[], [0], [0, 1], [], [3], [0, 1, 2, 3, 4], [], [6], [0, 1, 2, 3, 4, 5, 6, 7], [0, 1, 2, 3, 4, 6, 7], [0, 1, 2, 3, 4, 5, 6, 7, 8, 9], [0, 1, 2, 3, 4, 5, 6, 7, 8, 9, 10], [0, 1, 2, 3, 4, 5, 6, 7, 8, 9, 10, 11], [0, 1, 2, 3, 4, 5, 6, 7, 8, 9, 10, 11, 12], [0, 1, 2, 3, 4, 5, 6, 7, 8, 9, 10, 11, 12, 13]] [10, 11, 12, 13, 14] (by kernel_rfl) (by kernel_rfl) (fun (i : Nat) (v : Value) (G : GH) => match i with | 0 => v = .pointer (some ⟨b1, 4, none⟩) | 1 => v = .agg #[.slice pA pn pc, vi x.head.marks.ins, vi x.head.marks.move, .slice dA dn dc, .slice yA yn yc] | 2 => ∃ p d l, v = .agg #[p, vi x.head.marks.ins, vi x.head.marks.move, d, l] ∧ HeadR G x.head p d l | 3 => v = .pointer (some ⟨b1, 9, none⟩) | 4 => v = .slice fA fn fc | 5 => RepV G (.sl 11 (x.flow.map ItemD.dat)) v | 6 => v = .pointer (some ⟨b1, 10, none⟩) | 7 => v = .slice rA rn rc | 8 => RepV G (.sl 6 (x.rows.map RowD.dat)) v | 9 => v = .pointer (some ⟨b1, 4, none⟩) | _ => True) hprm1 H ?_ ?_
  · clear H; refine (allI_cons ?_ (allI_cons ?_ (allI_cons ?_ (allI_cons ?_ (allI_cons ?_ (allI_cons ?_ (allI_cons ?_ (allI_cons ?_ (allI_cons ?_ (allI_cons ?_ (allI_cons ?_ (allI_cons ?_ (allI_cons ?_ (allI_cons ?_ (allI_cons ?_ allI_nil)))))))))))))))
    · intro S a w G1 _ hSi hc hG HT hv; have H := HT; clear hSi
      have Hb := H.full; have H := Hb; clear hc
      refine s_field fd47_4run H wn rfl rfl ?_; clear H; intro a H
      refine wl_nil ⟨rfl, ?_⟩
      exact draw_val (by kernel_rfl) hprm1 rfl rfl HT Hb hG hv (fun _ _ h => h) (rfl) H
    · intro S a w G1 _ hSi hc hG HT hv; have H := HT; clear hSi
      obtain ⟨u3, hu3, hp3⟩ := hv 0 3 (hc 0 (by decide)) rfl
      obtain rfl : u3 = .pointer (some ⟨b1, 4, none⟩) := hp3
      have H := H.addS hu3
      have Hb := H.full; have H := Hb; clear hc
      refine s_loada ty44run (cs := [_, _, _, _, _]) H wn rfl rfl (H.hp.ocells 1 rfl rfl) rfl ?_; clear H; intro a H
      refine wl_nil ⟨rfl, ?_⟩
      exact draw_val (by kernel_rfl) hprm1 rfl rfl HT Hb hG hv (fun _ _ h => h) (rfl) H
    · intro S a w G1 _ hSi hc hG HT hv; have H := HT; clear hSi
      obtain ⟨u4, hu4, hp4⟩ := hv 1 4 (hc 1 (by decide)) rfl
      obtain rfl : u4 = .agg #[.slice pA pn pc, vi x.head.marks.ins, vi x.head.marks.move, .slice dA dn dc, .slice yA yn yc] := hp4
      have H := H.addS hu4
      have Hb := H.full; have H := Hb; clear hc
      refine s_call en68run H wn rfl (cloneHead_spec _ _ H.hp.ro x.head _ _ _ _ _ _ _ _ _ (hh.mono hG) (by omega)) rfl ?_; clear H
      rintro v5 G5 a w hp5 hGm5 H
      refine wl_nil ⟨rfl, ?_⟩
      exact draw_val (by kernel_rfl) hprm1 rfl rfl HT Hb hG hv hGm5 (hp5) H
    · intro S a w G1 _ hSi hc hG HT hv; have H := HT; clear hSi
      have Hb := H.full; have H := Hb; clear hc
      refine s_field fd47_5run H wn rfl rfl ?_; clear H; intro a H
      refine wl_nil ⟨rfl, ?_⟩
      exact draw_val (by kernel_rfl) hprm1 rfl rfl HT Hb hG hv (fun _ _ h => h) (rfl) H
    · intro S a w G1 _ hSi hc hG HT hv; have H := HT; clear hSi
      obtain ⟨u6, hu6, hp6⟩ := hv 3 6 (hc 3 (by decide)) rfl
      obtain rfl : u6 = .pointer (some ⟨b1, 9, none⟩) := hp6
      have H := H.addS hu6
      have Hb := H.full; have H := Hb; clear hc
      refine s_load ty28run H wn rfl (H.hp.ocell 1 rfl rfl) rfl ?_; clear H; intro a H
      refine wl_nil ⟨rfl, ?_⟩
      exact draw_val (by kernel_rfl) hprm1 rfl rfl HT Hb hG hv (fun _ _ h => h) (rfl) H
    · intro S a w G1 _ hSi hc hG HT hv; have H := HT; clear hSi
      obtain ⟨u7, hu7, hp7⟩ := hv 4 7 (hc 4 (by decide)) rfl
      obtain rfl : u7 = .slice fA fn fc := hp7
      have H := H.addS hu7
      have Hb := H.full; have H := Hb; clear hc
      refine s_call en52run H wn rfl (ih _ _ H.hp.ro x.flow _ (hf.mono hG) (by omega)) rfl ?_; clear H
      rintro v8 G8 a w hp8 hGm8 H
      refine wl_nil ⟨rfl, ?_⟩
      exact draw_val (by kernel_rfl) hprm1 rfl rfl HT Hb hG hv hGm8 (hp8) H
    · intro S a w G1 _ hSi hc hG HT hv; have H := HT; clear hSi
      have Hb := H.full; have H := Hb; clear hc
      refine s_field fd47_6run H wn rfl rfl ?_; clear H; intro a H
      refine wl_nil ⟨rfl, ?_⟩
      exact draw_val (by kernel_rfl) hprm1 rfl rfl HT Hb hG hv (fun _ _ h => h) (rfl) H
    · intro S a w G1 _ hSi hc hG HT hv; have H := HT; clear hSi
      obtain ⟨u9, hu9, hp9⟩ := hv 6 9 (hc 6 (by decide)) rfl
      obtain rfl : u9 = .pointer (some ⟨b1, 10, none⟩) := hp9
      have H := H.addS hu9
      have Hb := H.full; have H := Hb; clear hc
      refine s_load ty45run H wn rfl (H.hp.ocell 1 rfl rfl) rfl ?_; clear H; intro a H
      refine wl_nil ⟨rfl, ?_⟩
      exact draw_val (by kernel_rfl) hprm1 rfl rfl HT Hb hG hv (fun _ _ h => h) (rfl) H
    · intro S a w G1 _ hSi hc hG HT hv; have H := HT; clear hSi
      obtain ⟨u10, hu10, hp10⟩ := hv 7 10 (hc 7 (by decide)) rfl
      obtain rfl : u10 = .slice rA rn rc := hp10
      have H := H.addS hu10
      have Hb := H.full; have H := Hb; clear hc
      refine s_call en69run H wn rfl (eachRow_spec _ _ H.hp.ro x.rows _ _ (hr.mono hG) (by omega) (fun y hy => cloneRow_copier ih hn y (by have := zRows_mem hy; omega))) rfl ?_; clear H
      rintro v11 G11 a w hp11 hGm11 H
      refine wl_nil ⟨rfl, ?_⟩
      exact draw_val (by kernel_rfl) hprm1 rfl rfl HT Hb hG hv hGm11 (hp11) H
    · intro S a w G1 _ hSi hc hG HT hv; have H := HT; clear hSi
      have Hb := H.full; have H := Hb; clear hc
      refine s_field fd47_4run H wn rfl rfl ?_; clear H; intro a H
      refine wl_nil ⟨rfl, ?_⟩
      exact draw_val (by kernel_rfl) hprm1 rfl rfl HT Hb hG hv (fun _ _ h => h) (rfl) H
    · intro _ _ _ _ hB; exact absurd hB (by decide)
    · intro _ _ _ _ hB; exact absurd hB (by decide)
    · intro _ _ _ _ hB; exact absurd hB (by decide)
    · intro _ _ _ _ hB; exact absurd hB (by decide)
    · intro _ _ _ _ hB; exact absurd hB (by decide)
  · clear H; intro a w G hGm1 H hv
    obtain ⟨u5, hu5, hp5⟩ := hv 2 5 (by decide) rfl
    try dsimp only at hp5
    obtain ⟨p5, d5, l5, rfl, hh5⟩ := hp5
    obtain ⟨a1, a2, a3, rfl⟩ := hh5.props.form; obtain ⟨a4, a5, a6, rfl⟩ := hh5.dels.form; obtain ⟨a7, a8, a9, rfl⟩ := hh5.layers.form
    have H := H.addS hu5
    obtain ⟨u8, hu8, hp8⟩ := hv 5 8 (by decide) rfl
    try dsimp only at hp8
    obtain ⟨A8, n8, c8, rfl⟩ := hp8.form
    have H := H.addS hu8
    obtain ⟨u11, hu11, hp11⟩ := hv 8 11 (by decide) rfl
    try dsimp only at hp11
    obtain ⟨A11, n11, c11, rfl⟩ := hp11.form
    have H := H.addS hu11
    obtain ⟨u12, hu12, hp12⟩ := hv 9 12 (by decide) rfl
    obtain rfl : u12 = .pointer (some ⟨b1, 4, none⟩) := hp12
    have H := H.addS hu12
    clear hv
    refine s_store ty44run 1 (vs := [_, _, _, _, _]) _ H wn rfl rfl rfl rfl rfl rfl rfl rfl ?_; clear H; intro w H; dsimp only [List.set, setRow] at H
    refine s_field fd47_5run H wn rfl rfl ?_; clear H; intro a H
    refine s_store ty28run 1 (vs := [_]) _ H wn rfl rfl rfl rfl rfl rfl rfl rfl ?_; clear H; intro w H; dsimp only [List.set, setRow] at H
    refine s_field fd47_6run H wn rfl rfl ?_; clear H; intro a H
    refine s_store ty45run 1 (vs := [_]) _ H wn rfl rfl rfl rfl rfl rfl rfl rfl ?_; clear H; intro w H; dsimp only [List.set, setRow] at H
    refine wl_nil ⟨rfl, ?_⟩
    refine hK2 _ _ ?_; clear hK2
    refine c_seq (fun _ hK3 => ?_)
    refine c_region ?_
    refine s_loada ty47run (cs := [_, _, _, _, _, _, _, _, _, _, _]) H wn rfl rfl (H.hp.ocells 1 rfl rfl) rfl ?_; clear H; intro a H
    refine s_store ty47run 0 (vs := [_, _, _, _, _, _, _, _, _, _, _]) _ H wn rfl rfl rfl rfl rfl rfl rfl rfl ?_; clear H; intro w H; dsimp only [List.set, setRow] at H
    refine wl_nil ?_
    refine hK3 _ _ ?_; clear hK3
    refine c_ret ?_
    refine (leave1 H Try.results67 (.cons (rv_cella ty47run (cs := [_, _, _, _, _, _, _, _, _, _, _]) H rfl rfl (H.hp.ocells 0 rfl rfl)) .nil) ?_).1
    exact H.hp.ret ⟨_, rfl, RepRow.mkItem hh5 hp8 hp11⟩
theorem clone1_copier {n : Nat} (ih : CloneOk n) (hn : n ≤ 4294967296) {G : GH} {w0 : World} (x : ItemD) (hz : szR x.dat < n + 1) : Copier (.func (.func 67) #[] #[]) w0 G x.dat := by
  intro G1 w1 cs hm1 hG1 hr
  have h := clone1_spec ih hn _ _ hG1 x cs hr hz
  have h2 := callV_func (P := Try.prog) (caps := []) (args := [.agg cs.toArray]) en67run h
  exact h2
theorem clone_ok : ∀ n : Nat, n ≤ 4294967297 → CloneOk n
  | 0, _ => fun _ _ _ _ _ _ h => absurd h (by omega)
  | n + 1, hn => by
    intro G w0 hG l v hv hz
    have ih := clone_ok n (by omega)
    have hl := zItems_length l
    refine enter (N := 5) (T := [(0, _)]) (F := fun k => k < w0.heap.size) (L := []) Try.func52 rfl Try.ntmps52 rfl rfl hG (fun _ h => h) (fun _ h => by cases h) (fun _ h => by cases h) (fun _ h => by cases h) List.Pairwise.nil ?_
    intro a H
    refine c_seq (fun _ hK1 => ?_)
    refine c_region ?_
    refine s_assign H wn rfl rfl ?_; clear H; intro a H
    refine wl_nil ?_
    refine hK1 _ _ ?_; clear hK1
    refine c_seq (fun _ hK2 => ?_)
    refine c_region ?_
    refine s_move H wn rfl rfl ?_; clear H; intro a H
    refine s_call en66run H wn rfl (eachItem_spec _ _ H.hp.ro l _ _ hv (by omega) (fun y hy => clone1_copier ih (by omega) y (by have := zItems_mem hy; omega))) rfl ?_; clear H
    rintro v4 G4 a w hp4 hGm4 H
    refine s_assign H wn rfl rfl ?_; clear H; intro a H
    refine wl_nil ?_
    refine hK2 _ _ ?_; clear hK2
    refine c_ret ?_
    refine (leave1 H Try.results52 (.cons (rv_tmp H rfl) .nil) ?_).1
    exact H.hp.ret hp4
/-- A copy of a flow. -/
theorem clone_spec (G : GH) (w0 : World) (hG : Hold G w0) (l : List ItemD) (v : Value) (hv : RepV G (.sl 11 (l.map ItemD.dat)) v) (hz : zItems l ≤ 4294967296) :
    Calls Try.prog 52 #[v] w0 (Ret w0 G fun u G' => RepV G' (.sl 11 (l.map ItemD.dat)) u) := clone_ok 4294967297 (by omega) G w0 hG l v hv (by omega)
end Go.Proofs.Ytbfdhlakbdadhaa
